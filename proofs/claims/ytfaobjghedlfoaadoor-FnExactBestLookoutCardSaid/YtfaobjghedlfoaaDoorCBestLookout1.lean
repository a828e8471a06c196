/- Contracts of the functions that FnExactBestLookout reaches, by the abstract machine (part 1).
   Conditions: none. -/
import Derived.Test.YtfaobjghedlfoaaDoorCBestLookout0
set_option linter.unusedVariables false
set_option linter.unusedSimpArgs false
namespace Go.Proofs.YtfaobjghedlfoaaDoor.Ab
open Go Go.RowKit
attribute [local irreducible] Cnd Bnd Rw CallQ CallR Bts Isn Lc WLoop
set_option maxRecDepth 100000
set_option maxHeartbeats 1000000
theorem F_szIntS (l : List Int) (left : Int) (hl : l.length ≤ maxLen) (h0 : 0 ≤ left) (h1 : left ≤ 1048576) : Fun E0 62 [.one (roI l), vI left] [] (.v (vI (sub1 left l.length))) [] [] := by
  have hl : l.length ≤ 9223372036854775807 := hl
  refine Fun_of_xc k62 rfl rfl (fun k q h => by cases h) ?_
  ((conv=>whnf);repeat((first|refine Ct ‹_› ?_|refine Cf ‹_› ?_|refine Ct rfl ?_|refine Cf rfl ?_|refine Bi rfl ?_|refine Bz rfl ?_|refine Lr ?_);conv=>whnf))
  rw [wrapI (n := left - l.length) (by omega)]
  refine Cnd_i (fun g => ?_) (fun g => ?_)
  · have g := of_decide_eq_true g
    ((conv=>whnf);repeat((first|refine Ct ‹_› ?_|refine Cf ‹_› ?_|refine Ct rfl ?_|refine Cf rfl ?_|refine Bi rfl ?_|refine Bz rfl ?_|refine Lr ?_);conv=>whnf))
    refine ⟨?_, rfl, rfl⟩
    rw [sub1, if_pos g]; rfl
  · have g := of_decide_eq_false g
    ((conv=>whnf);repeat((first|refine Ct ‹_› ?_|refine Cf ‹_› ?_|refine Ct rfl ?_|refine Cf rfl ?_|refine Bi rfl ?_|refine Bz rfl ?_|refine Lr ?_);conv=>whnf))
    refine ⟨?_, rfl, rfl⟩
    rw [sub1, if_neg g]; rfl

theorem sub1_b {left n : Int} (h0 : 0 ≤ left) (h1 : left ≤ 1048576) (hn : 0 ≤ n) : (sub1 left n = -1 ∧ left < n) ∨ (sub1 left n = left - n ∧ n ≤ left) := by
  unfold sub1
  by_cases h : left - n < 0
  · rw [if_pos h]; exact .inl ⟨rfl, by omega⟩
  · rw [if_neg h]; exact .inr ⟨rfl, by omega⟩

def szT (t : Ter) (left : Int) : Int := if left - t.name.size < 0 then -1 else sub1 (left - t.name.size) t.cost.length

theorem F_szTerrain (t : Ter) (ht : t.Ok) (left : Int) (h0 : 0 ≤ left) (h1 : left ≤ 1048576) : Fun E0 93 [.agg t.cs, vI left] [] (.v (vI (szT t left))) [] [] := by
  have hs : t.name.size ≤ 9223372036854775807 := ht.name
  refine Fun_of_xc k93 rfl rfl (fun k q h => by cases h) ?_
  ((conv=>whnf);repeat((first|refine Ct ‹_› ?_|refine Cf ‹_› ?_|refine Ct rfl ?_|refine Cf rfl ?_|refine Bi rfl ?_|refine Bz rfl ?_|refine Lr ?_);conv=>whnf))
  rw [wrapI (n := left - t.name.size) (by omega)]
  refine Cnd_i (fun g => ?_) (fun g => ?_)
  · have g := of_decide_eq_true g
    ((conv=>whnf);repeat((first|refine Ct ‹_› ?_|refine Cf ‹_› ?_|refine Ct rfl ?_|refine Cf rfl ?_|refine Bi rfl ?_|refine Bz rfl ?_|refine Lr ?_);conv=>whnf))
    refine ⟨?_, rfl, rfl⟩
    rw [szT, if_pos g]; rfl
  have g := of_decide_eq_false g
  ((conv=>whnf);repeat((first|refine Ct ‹_› ?_|refine Cf ‹_› ?_|refine Ct rfl ?_|refine Cf rfl ?_|refine Bi rfl ?_|refine Bz rfl ?_|refine Lr ?_);conv=>whnf))
  refine CallQ_some (F_szIntS t.cost _ ht.cost.len (by omega) (by omega)) rfl rfl ?_
  ((conv=>whnf);repeat((first|refine Ct ‹_› ?_|refine Cf ‹_› ?_|refine Ct rfl ?_|refine Cf rfl ?_|refine Bi rfl ?_|refine Bz rfl ?_|refine Lr ?_);conv=>whnf))
  have hb := sub1_b (left := left - t.name.size) (n := t.cost.length) (by omega) (by omega) (by omega)
  refine Cnd_i (fun g2 => ?_) (fun g2 => ?_)
  · have g2 := of_decide_eq_true g2
    ((conv=>whnf);repeat((first|refine Ct ‹_› ?_|refine Cf ‹_› ?_|refine Ct rfl ?_|refine Cf rfl ?_|refine Bi rfl ?_|refine Bz rfl ?_|refine Lr ?_);conv=>whnf))
    refine ⟨?_, rfl, rfl⟩
    have : sub1 (left - t.name.size) t.cost.length = -1 := by omega
    rw [szT, if_neg g, this]; rfl
  · ((conv=>whnf);repeat((first|refine Ct ‹_› ?_|refine Cf ‹_› ?_|refine Ct rfl ?_|refine Cf rfl ?_|refine Bi rfl ?_|refine Bz rfl ?_|refine Lr ?_);conv=>whnf))
    refine ⟨?_, rfl, rfl⟩
    rw [szT, if_neg g]; rfl

def szK (t : Knd) (left : Int) : Int := sub1 left t.name.size

theorem F_szKind (t : Knd) (ht : t.Ok) (left : Int) (h0 : 0 ≤ left) (h1 : left ≤ 1048576) : Fun E0 94 [.agg t.cs, vI left] [] (.v (vI (szK t left))) [] [] := by
  have hs : t.name.size ≤ 9223372036854775807 := ht.name
  refine Fun_of_xc k94 rfl rfl (fun k q h => by cases h) ?_
  ((conv=>whnf);repeat((first|refine Ct ‹_› ?_|refine Cf ‹_› ?_|refine Ct rfl ?_|refine Cf rfl ?_|refine Bi rfl ?_|refine Bz rfl ?_|refine Lr ?_);conv=>whnf))
  rw [wrapI (n := left - t.name.size) (by omega)]
  refine Cnd_i (fun g => ?_) (fun g => ?_)
  · have g := of_decide_eq_true g
    ((conv=>whnf);repeat((first|refine Ct ‹_› ?_|refine Cf ‹_› ?_|refine Ct rfl ?_|refine Cf rfl ?_|refine Bi rfl ?_|refine Bz rfl ?_|refine Lr ?_);conv=>whnf))
    refine ⟨?_, rfl, rfl⟩
    rw [szK, sub1, if_pos g]; rfl
  · have g := of_decide_eq_false g
    ((conv=>whnf);repeat((first|refine Ct ‹_› ?_|refine Cf ‹_› ?_|refine Ct rfl ?_|refine Cf rfl ?_|refine Bi rfl ?_|refine Bz rfl ?_|refine Lr ?_);conv=>whnf))
    refine ⟨?_, rfl, rfl⟩
    rw [szK, sub1, if_neg g]; rfl

def szL {α : Type} (f : α → Int → Int) : List α → Int → Int
  | [], left => left
  | a :: l, left => if f a left < 0 then -1 else szL f l (f a left)

def szS {α : Type} (f : α → Int → Int) (l : List α) (left : Int) : Int := if left - l.length < 0 then -1 else szL f l (left - l.length)

theorem drop_get {α : Type} {l : List α} {d : α} {i : Int} (h0 : 0 ≤ i) (h1 : i < l.length) : l.drop i.toNat = l.getD i.toNat d :: l.drop (i + 1).toNat := by
  have hl : i.toNat < l.length := by omega
  rw [List.drop_eq_getElem_cons hl, show (i + 1).toNat = i.toNat + 1 by omega]
  simp [hl]

theorem szT_b {t : Ter} {left : Int} (h0 : 0 ≤ left) (h1 : left ≤ 1048576) : szT t left ≤ 1048576 ∧ (szT t left < 0 → szT t left = -1) := by
  unfold szT
  by_cases g : left - t.name.size < 0
  · rw [if_pos g]; exact ⟨by omega, fun _ => rfl⟩
  · rw [if_neg g]
    have := sub1_b (left := left - t.name.size) (n := t.cost.length) (by omega) (by omega) (by omega)
    omega

theorem szK_b {t : Knd} {left : Int} (h0 : 0 ≤ left) (h1 : left ≤ 1048576) : szK t left ≤ 1048576 ∧ (szK t left < 0 → szK t left = -1) := by
  unfold szK
  have := sub1_b (left := left) (n := t.name.size) h0 h1 (by omega)
  omega

theorem F_szTerrainS (l : List Ter) (hl : l.length ≤ maxLen) (ho : ∀ t ∈ l, t.Ok) (left : Int) (h0 : 0 ≤ left) (h1 : left ≤ 1048576) : Fun E0 60 [.one (roT l), vI left] [] (.v (vI (szS szT l left))) [] [] := by
  have hl : l.length ≤ 9223372036854775807 := hl
  refine Fun_of_xc k60 rfl rfl (fun k q h => by cases h) ?_
  ((conv=>whnf);repeat((first|refine Ct ‹_› ?_|refine Cf ‹_› ?_|refine Ct rfl ?_|refine Cf rfl ?_|refine Bi rfl ?_|refine Bz rfl ?_|refine Lr ?_);conv=>whnf))
  rw [wrapI (n := left - l.length) (by omega)]
  refine Cnd_i (fun g => ?_) (fun g => ?_)
  · have g := of_decide_eq_true g
    ((conv=>whnf);repeat((first|refine Ct ‹_› ?_|refine Cf ‹_› ?_|refine Ct rfl ?_|refine Cf rfl ?_|refine Bi rfl ?_|refine Bz rfl ?_|refine Lr ?_);conv=>whnf))
    refine ⟨?_, rfl, rfl⟩
    rw [szS, if_pos g]; rfl
  have g := of_decide_eq_false g
  rw [szS, if_neg g]
  ((conv=>whnf);repeat((first|refine Ct ‹_› ?_|refine Cf ‹_› ?_|refine Ct rfl ?_|refine Cf rfl ?_|refine Bi rfl ?_|refine Bz rfl ?_|refine Lr ?_);conv=>whnf))
  refine WLoop_v ⟨[0, 1, 5], [], []⟩ (fun p : Int × Int => hdS 27 [(0, .v (.one (roT l))), (1, .v (vI p.2)), (5, .v (vI p.1))] [] [])
    (fun k p => 0 ≤ p.1 ∧ p.1 + k = l.length ∧ (0 ≤ p.2 ∧ p.2 ≤ 1048576) ∧ szL szT l (left - l.length) = szL szT (l.drop p.1.toNat) p.2) l.length (0, left - l.length) rfl ⟨by omega, by omega, ⟨by omega, by omega⟩, rfl⟩ ?_
  rintro k ⟨i, x⟩ ⟨a1, a2, ⟨a3, a4⟩, a5⟩
  simp only at a1 a2 a3 a4 a5
  ((conv=>whnf);repeat((first|refine Ct ‹_› ?_|refine Cf ‹_› ?_|refine Ct rfl ?_|refine Cf rfl ?_|refine Bi rfl ?_|refine Bz rfl ?_|refine Lr ?_);conv=>whnf))
  refine Cnd_i (fun h => ?_) (fun h => ?_)
  · have hi' : i < l.length := of_decide_eq_true h
    have hb := szT_b (t := l.getD i.toNat Ter.d) a3 a4
    rw [drop_get (d := Ter.d) a1 hi'] at a5
    ((conv=>whnf);repeat((first|refine Ct ‹_› ?_|refine Cf ‹_› ?_|refine Ct rfl ?_|refine Cf rfl ?_|refine Bi rfl ?_|refine Bz rfl ?_|refine Lr ?_);conv=>whnf))
    refine Bnd_i ⟨a1, hi'⟩ ?_
    ((conv=>whnf);repeat((first|refine Ct ‹_› ?_|refine Cf ‹_› ?_|refine Ct rfl ?_|refine Cf rfl ?_|refine Bi rfl ?_|refine Bz rfl ?_|refine Lr ?_);conv=>whnf))
    refine CallQ_some (F_szTerrain (l.getD i.toNat Ter.d) (ho _ (getD_memT a1 hi')) x a3 a4) rfl rfl ?_
    ((conv=>whnf);repeat((first|refine Ct ‹_› ?_|refine Cf ‹_› ?_|refine Ct rfl ?_|refine Cf rfl ?_|refine Bi rfl ?_|refine Bz rfl ?_|refine Lr ?_);conv=>whnf))
    refine Cnd_i (fun g2 => ?_) (fun g2 => ?_)
    · have g2 := of_decide_eq_true g2
      ((conv=>whnf);repeat((first|refine Ct ‹_› ?_|refine Cf ‹_› ?_|refine Ct rfl ?_|refine Cf rfl ?_|refine Bi rfl ?_|refine Bz rfl ?_|refine Lr ?_);conv=>whnf))
      refine ⟨?_, rfl, rfl⟩
      rw [a5, szL, if_pos g2]; rfl
    · have g2 := of_decide_eq_false g2
      ((conv=>whnf);repeat((first|refine Ct ‹_› ?_|refine Cf ‹_› ?_|refine Ct rfl ?_|refine Cf rfl ?_|refine Bi rfl ?_|refine Bz rfl ?_|refine Lr ?_);conv=>whnf))
      refine ⟨k - 1, (IntKind.i64.wrap (i + 1), szT (l.getD i.toNat Ter.d) x), rfl, ?_, ?_, ?_, ⟨?_, hb.1⟩, ?_⟩
      · omega
      · simp only; rw [wrapI (by omega)]; omega
      · simp only; rw [wrapI (by omega)]; omega
      · simp only; omega
      · simp only; rw [wrapI (by omega), a5, szL, if_neg g2]
  · have hi' := of_decide_eq_false h
    ((conv=>whnf);repeat((first|refine Ct ‹_› ?_|refine Cf ‹_› ?_|refine Ct rfl ?_|refine Cf rfl ?_|refine Bi rfl ?_|refine Bz rfl ?_|refine Lr ?_);conv=>whnf))
    refine ⟨?_, rfl, rfl⟩
    have : l.drop i.toNat = [] := by rw [List.drop_eq_nil_iff]; omega
    rw [a5, this]; rfl

theorem F_szKindS (l : List Knd) (hl : l.length ≤ maxLen) (ho : ∀ t ∈ l, t.Ok) (left : Int) (h0 : 0 ≤ left) (h1 : left ≤ 1048576) : Fun E0 61 [.one (roK l), vI left] [] (.v (vI (szS szK l left))) [] [] := by
  have hl : l.length ≤ 9223372036854775807 := hl
  refine Fun_of_xc k61 rfl rfl (fun k q h => by cases h) ?_
  ((conv=>whnf);repeat((first|refine Ct ‹_› ?_|refine Cf ‹_› ?_|refine Ct rfl ?_|refine Cf rfl ?_|refine Bi rfl ?_|refine Bz rfl ?_|refine Lr ?_);conv=>whnf))
  rw [wrapI (n := left - l.length) (by omega)]
  refine Cnd_i (fun g => ?_) (fun g => ?_)
  · have g := of_decide_eq_true g
    ((conv=>whnf);repeat((first|refine Ct ‹_› ?_|refine Cf ‹_› ?_|refine Ct rfl ?_|refine Cf rfl ?_|refine Bi rfl ?_|refine Bz rfl ?_|refine Lr ?_);conv=>whnf))
    refine ⟨?_, rfl, rfl⟩
    rw [szS, if_pos g]; rfl
  have g := of_decide_eq_false g
  rw [szS, if_neg g]
  ((conv=>whnf);repeat((first|refine Ct ‹_› ?_|refine Cf ‹_› ?_|refine Ct rfl ?_|refine Cf rfl ?_|refine Bi rfl ?_|refine Bz rfl ?_|refine Lr ?_);conv=>whnf))
  refine WLoop_v ⟨[0, 1, 5], [], []⟩ (fun p : Int × Int => hdS 27 [(0, .v (.one (roK l))), (1, .v (vI p.2)), (5, .v (vI p.1))] [] [])
    (fun k p => 0 ≤ p.1 ∧ p.1 + k = l.length ∧ (0 ≤ p.2 ∧ p.2 ≤ 1048576) ∧ szL szK l (left - l.length) = szL szK (l.drop p.1.toNat) p.2) l.length (0, left - l.length) rfl ⟨by omega, by omega, ⟨by omega, by omega⟩, rfl⟩ ?_
  rintro k ⟨i, x⟩ ⟨a1, a2, ⟨a3, a4⟩, a5⟩
  simp only at a1 a2 a3 a4 a5
  ((conv=>whnf);repeat((first|refine Ct ‹_› ?_|refine Cf ‹_› ?_|refine Ct rfl ?_|refine Cf rfl ?_|refine Bi rfl ?_|refine Bz rfl ?_|refine Lr ?_);conv=>whnf))
  refine Cnd_i (fun h => ?_) (fun h => ?_)
  · have hi' : i < l.length := of_decide_eq_true h
    have hb := szK_b (t := l.getD i.toNat Knd.d) a3 a4
    rw [drop_get (d := Knd.d) a1 hi'] at a5
    ((conv=>whnf);repeat((first|refine Ct ‹_› ?_|refine Cf ‹_› ?_|refine Ct rfl ?_|refine Cf rfl ?_|refine Bi rfl ?_|refine Bz rfl ?_|refine Lr ?_);conv=>whnf))
    refine Bnd_i ⟨a1, hi'⟩ ?_
    ((conv=>whnf);repeat((first|refine Ct ‹_› ?_|refine Cf ‹_› ?_|refine Ct rfl ?_|refine Cf rfl ?_|refine Bi rfl ?_|refine Bz rfl ?_|refine Lr ?_);conv=>whnf))
    refine CallQ_some (F_szKind (l.getD i.toNat Knd.d) (ho _ (getD_memT a1 hi')) x a3 a4) rfl rfl ?_
    ((conv=>whnf);repeat((first|refine Ct ‹_› ?_|refine Cf ‹_› ?_|refine Ct rfl ?_|refine Cf rfl ?_|refine Bi rfl ?_|refine Bz rfl ?_|refine Lr ?_);conv=>whnf))
    refine Cnd_i (fun g2 => ?_) (fun g2 => ?_)
    · have g2 := of_decide_eq_true g2
      ((conv=>whnf);repeat((first|refine Ct ‹_› ?_|refine Cf ‹_› ?_|refine Ct rfl ?_|refine Cf rfl ?_|refine Bi rfl ?_|refine Bz rfl ?_|refine Lr ?_);conv=>whnf))
      refine ⟨?_, rfl, rfl⟩
      rw [a5, szL, if_pos g2]; rfl
    · have g2 := of_decide_eq_false g2
      ((conv=>whnf);repeat((first|refine Ct ‹_› ?_|refine Cf ‹_› ?_|refine Ct rfl ?_|refine Cf rfl ?_|refine Bi rfl ?_|refine Bz rfl ?_|refine Lr ?_);conv=>whnf))
      refine ⟨k - 1, (IntKind.i64.wrap (i + 1), szK (l.getD i.toNat Knd.d) x), rfl, ?_, ?_, ?_, ⟨?_, hb.1⟩, ?_⟩
      · omega
      · simp only; rw [wrapI (by omega)]; omega
      · simp only; rw [wrapI (by omega)]; omega
      · simp only; omega
      · simp only; rw [wrapI (by omega), a5, szL, if_neg g2]
  · have hi' := of_decide_eq_false h
    ((conv=>whnf);repeat((first|refine Ct ‹_› ?_|refine Cf ‹_› ?_|refine Ct rfl ?_|refine Cf rfl ?_|refine Bi rfl ?_|refine Bz rfl ?_|refine Lr ?_);conv=>whnf))
    refine ⟨?_, rfl, rfl⟩
    have : l.drop i.toNat = [] := by rw [List.drop_eq_nil_iff]; omega
    rw [a5, this]; rfl

theorem szL_b {α : Type} {f : α → Int → Int} (hf : ∀ a x, 0 ≤ x → x ≤ 1048576 → f a x ≤ 1048576) : ∀ (l : List α) (x : Int), 0 ≤ x → x ≤ 1048576 → szL f l x ≤ 1048576
  | [], _, _, h => h
  | a :: l, x, h0, h1 => by
    unfold szL
    by_cases g : f a x < 0
    · rw [if_pos g]; omega
    · rw [if_neg g]; exact szL_b hf l _ (by omega) (hf a x h0 h1)

theorem szS_b {α : Type} {f : α → Int → Int} (hf : ∀ a x, 0 ≤ x → x ≤ 1048576 → f a x ≤ 1048576) (l : List α) {x : Int} (h0 : 0 ≤ x) (h1 : x ≤ 1048576) : szS f l x ≤ 1048576 := by
  unfold szS
  by_cases g : x - l.length < 0
  · rw [if_pos g]; omega
  · rw [if_neg g]; exact szL_b hf l _ (by omega) (by omega)

def szR (r : Rul) (left : Int) : Int := if szS szT r.ter left < 0 then -1 else if szS szK r.knd (szS szT r.ter left) < 0 then -1 else szS szK r.knd (szS szT r.ter left)

theorem F_szRules (r : Rul) (ho : r.Ok) (left : Int) (h0 : 0 ≤ left) (h1 : left ≤ 1048576) : Fun E0 27 [.agg r.cs, vI left] [] (.v (vI (szR r left))) [] [] := by
  have b1 := szS_b (f := szT) (fun t x a b => (szT_b a b).1) r.ter h0 h1
  refine Fun_of_xc k27 rfl rfl (fun k q h => by cases h) ?_
  ((conv=>whnf);repeat((first|refine Ct ‹_› ?_|refine Cf ‹_› ?_|refine Ct rfl ?_|refine Cf rfl ?_|refine Bi rfl ?_|refine Bz rfl ?_|refine Lr ?_);conv=>whnf))
  refine CallQ_some (F_szTerrainS r.ter ho.lter ho.ter left h0 h1) rfl rfl ?_
  ((conv=>whnf);repeat((first|refine Ct ‹_› ?_|refine Cf ‹_› ?_|refine Ct rfl ?_|refine Cf rfl ?_|refine Bi rfl ?_|refine Bz rfl ?_|refine Lr ?_);conv=>whnf))
  refine Cnd_i (fun g => ?_) (fun g => ?_)
  · have g := of_decide_eq_true g
    ((conv=>whnf);repeat((first|refine Ct ‹_› ?_|refine Cf ‹_› ?_|refine Ct rfl ?_|refine Cf rfl ?_|refine Bi rfl ?_|refine Bz rfl ?_|refine Lr ?_);conv=>whnf))
    refine ⟨?_, rfl, rfl⟩
    rw [szR, if_pos g]; rfl
  have g := of_decide_eq_false g
  ((conv=>whnf);repeat((first|refine Ct ‹_› ?_|refine Cf ‹_› ?_|refine Ct rfl ?_|refine Cf rfl ?_|refine Bi rfl ?_|refine Bz rfl ?_|refine Lr ?_);conv=>whnf))
  refine CallQ_some (F_szKindS r.knd ho.lknd ho.knd _ (by omega) b1) rfl rfl ?_
  ((conv=>whnf);repeat((first|refine Ct ‹_› ?_|refine Cf ‹_› ?_|refine Ct rfl ?_|refine Cf rfl ?_|refine Bi rfl ?_|refine Bz rfl ?_|refine Lr ?_);conv=>whnf))
  refine Cnd_i (fun g2 => ?_) (fun g2 => ?_)
  · have g2 := of_decide_eq_true g2
    ((conv=>whnf);repeat((first|refine Ct ‹_› ?_|refine Cf ‹_› ?_|refine Ct rfl ?_|refine Cf rfl ?_|refine Bi rfl ?_|refine Bz rfl ?_|refine Lr ?_);conv=>whnf))
    refine ⟨?_, rfl, rfl⟩
    rw [szR, if_neg g, if_pos g2]; rfl
  · have g2 := of_decide_eq_false g2
    ((conv=>whnf);repeat((first|refine Ct ‹_› ?_|refine Cf ‹_› ?_|refine Ct rfl ?_|refine Cf rfl ?_|refine Bi rfl ?_|refine Bz rfl ?_|refine Lr ?_);conv=>whnf))
    refine ⟨?_, rfl, rfl⟩
    rw [szR, if_neg g, if_neg g2]; rfl

def szM (m : Map) (left : Int) : Int := if sub1 left m.ter.length < 0 then -1 else if sub1 (sub1 left m.ter.length) m.riv.length < 0 then -1 else sub1 (sub1 (sub1 left m.ter.length) m.riv.length) m.roa.length

theorem F_szMap (m : Map) (ho : m.Ok) (left : Int) (h0 : 0 ≤ left) (h1 : left ≤ 1048576) : Fun E0 28 [.agg m.cs, vI left] [] (.v (vI (szM m left))) [] [] := by
  have b1 := sub1_b (n := m.ter.length) h0 h1 (by omega)
  refine Fun_of_xc k28 rfl rfl (fun k q h => by cases h) ?_
  ((conv=>whnf);repeat((first|refine Ct ‹_› ?_|refine Cf ‹_› ?_|refine Ct rfl ?_|refine Cf rfl ?_|refine Bi rfl ?_|refine Bz rfl ?_|refine Lr ?_);conv=>whnf))
  refine CallQ_some (F_szIntS m.ter left ho.ter.len h0 h1) rfl rfl ?_
  ((conv=>whnf);repeat((first|refine Ct ‹_› ?_|refine Cf ‹_› ?_|refine Ct rfl ?_|refine Cf rfl ?_|refine Bi rfl ?_|refine Bz rfl ?_|refine Lr ?_);conv=>whnf))
  refine Cnd_i (fun g => ?_) (fun g => ?_)
  · have g := of_decide_eq_true g
    ((conv=>whnf);repeat((first|refine Ct ‹_› ?_|refine Cf ‹_› ?_|refine Ct rfl ?_|refine Cf rfl ?_|refine Bi rfl ?_|refine Bz rfl ?_|refine Lr ?_);conv=>whnf))
    refine ⟨?_, rfl, rfl⟩
    rw [szM, if_pos g]; rfl
  have g := of_decide_eq_false g
  have b2 := sub1_b (left := sub1 left m.ter.length) (n := m.riv.length) (by omega) (by omega) (by omega)
  ((conv=>whnf);repeat((first|refine Ct ‹_› ?_|refine Cf ‹_› ?_|refine Ct rfl ?_|refine Cf rfl ?_|refine Bi rfl ?_|refine Bz rfl ?_|refine Lr ?_);conv=>whnf))
  refine CallQ_some (F_szIntS m.riv _ ho.riv.len (by omega) (by omega)) rfl rfl ?_
  ((conv=>whnf);repeat((first|refine Ct ‹_› ?_|refine Cf ‹_› ?_|refine Ct rfl ?_|refine Cf rfl ?_|refine Bi rfl ?_|refine Bz rfl ?_|refine Lr ?_);conv=>whnf))
  refine Cnd_i (fun g2 => ?_) (fun g2 => ?_)
  · have g2 := of_decide_eq_true g2
    ((conv=>whnf);repeat((first|refine Ct ‹_› ?_|refine Cf ‹_› ?_|refine Ct rfl ?_|refine Cf rfl ?_|refine Bi rfl ?_|refine Bz rfl ?_|refine Lr ?_);conv=>whnf))
    refine ⟨?_, rfl, rfl⟩
    rw [szM, if_neg g, if_pos g2]; rfl
  have g2 := of_decide_eq_false g2
  have b3 := sub1_b (left := sub1 (sub1 left m.ter.length) m.riv.length) (n := m.roa.length) (by omega) (by omega) (by omega)
  ((conv=>whnf);repeat((first|refine Ct ‹_› ?_|refine Cf ‹_› ?_|refine Ct rfl ?_|refine Cf rfl ?_|refine Bi rfl ?_|refine Bz rfl ?_|refine Lr ?_);conv=>whnf))
  refine CallQ_some (F_szIntS m.roa _ ho.roa.len (by omega) (by omega)) rfl rfl ?_
  ((conv=>whnf);repeat((first|refine Ct ‹_› ?_|refine Cf ‹_› ?_|refine Ct rfl ?_|refine Cf rfl ?_|refine Bi rfl ?_|refine Bz rfl ?_|refine Lr ?_);conv=>whnf))
  refine Cnd_i (fun g3 => ?_) (fun g3 => ?_)
  · have g3 := of_decide_eq_true g3
    ((conv=>whnf);repeat((first|refine Ct ‹_› ?_|refine Cf ‹_› ?_|refine Ct rfl ?_|refine Cf rfl ?_|refine Bi rfl ?_|refine Bz rfl ?_|refine Lr ?_);conv=>whnf))
    refine ⟨?_, rfl, rfl⟩
    have : sub1 (sub1 (sub1 left m.ter.length) m.riv.length) m.roa.length = -1 := by omega
    rw [szM, if_neg g, if_neg g2, this]; rfl
  · ((conv=>whnf);repeat((first|refine Ct ‹_› ?_|refine Cf ‹_› ?_|refine Ct rfl ?_|refine Cf rfl ?_|refine Bi rfl ?_|refine Bz rfl ?_|refine Lr ?_);conv=>whnf))
    refine ⟨?_, rfl, rfl⟩
    rw [szM, if_neg g, if_neg g2]; rfl

theorem szR_b {r : Rul} {left : Int} (h0 : 0 ≤ left) (h1 : left ≤ 1048576) : szR r left ≤ 1048576 := by
  have b1 := szS_b (f := szT) (fun t x a b => (szT_b a b).1) r.ter h0 h1
  unfold szR
  by_cases g : szS szT r.ter left < 0
  · rw [if_pos g]; omega
  · rw [if_neg g]
    have b2 := szS_b (f := szK) (fun t x a b => (szK_b a b).1) r.knd (x := szS szT r.ter left) (by omega) b1
    by_cases g2 : szS szK r.knd (szS szT r.ter left) < 0
    · rw [if_pos g2]; omega
    · rw [if_neg g2]; exact b2

def szB (b : Brd) (left : Int) : Int := if szR b.r left < 0 then -1 else if szM b.m (szR b.r left) < 0 then -1 else szM b.m (szR b.r left)

theorem F_szBoard (b : Brd) (ho : b.Ok) (left : Int) (h0 : 0 ≤ left) (h1 : left ≤ 1048576) : Fun E0 7 [.agg b.cs, vI left] [] (.v (vI (szB b left))) [] [] := by
  have b1 := szR_b (r := b.r) h0 h1
  refine Fun_of_xc k7 rfl rfl (fun k q h => by cases h) ?_
  ((conv=>whnf);repeat((first|refine Ct ‹_› ?_|refine Cf ‹_› ?_|refine Ct rfl ?_|refine Cf rfl ?_|refine Bi rfl ?_|refine Bz rfl ?_|refine Lr ?_);conv=>whnf))
  refine CallQ_some (F_szRules b.r ho.r left h0 h1) rfl rfl ?_
  ((conv=>whnf);repeat((first|refine Ct ‹_› ?_|refine Cf ‹_› ?_|refine Ct rfl ?_|refine Cf rfl ?_|refine Bi rfl ?_|refine Bz rfl ?_|refine Lr ?_);conv=>whnf))
  refine Cnd_i (fun g => ?_) (fun g => ?_)
  · have g := of_decide_eq_true g
    ((conv=>whnf);repeat((first|refine Ct ‹_› ?_|refine Cf ‹_› ?_|refine Ct rfl ?_|refine Cf rfl ?_|refine Bi rfl ?_|refine Bz rfl ?_|refine Lr ?_);conv=>whnf))
    refine ⟨?_, rfl, rfl⟩
    rw [szB, if_pos g]; rfl
  have g := of_decide_eq_false g
  ((conv=>whnf);repeat((first|refine Ct ‹_› ?_|refine Cf ‹_› ?_|refine Ct rfl ?_|refine Cf rfl ?_|refine Bi rfl ?_|refine Bz rfl ?_|refine Lr ?_);conv=>whnf))
  refine CallQ_some (F_szMap b.m ho.m _ (by omega) b1) rfl rfl ?_
  ((conv=>whnf);repeat((first|refine Ct ‹_› ?_|refine Cf ‹_› ?_|refine Ct rfl ?_|refine Cf rfl ?_|refine Bi rfl ?_|refine Bz rfl ?_|refine Lr ?_);conv=>whnf))
  refine Cnd_i (fun g2 => ?_) (fun g2 => ?_)
  · have g2 := of_decide_eq_true g2
    ((conv=>whnf);repeat((first|refine Ct ‹_› ?_|refine Cf ‹_› ?_|refine Ct rfl ?_|refine Cf rfl ?_|refine Bi rfl ?_|refine Bz rfl ?_|refine Lr ?_);conv=>whnf))
    refine ⟨?_, rfl, rfl⟩
    rw [szB, if_neg g, if_pos g2]; rfl
  · have g2 := of_decide_eq_false g2
    ((conv=>whnf);repeat((first|refine Ct ‹_› ?_|refine Cf ‹_› ?_|refine Ct rfl ?_|refine Cf rfl ?_|refine Bi rfl ?_|refine Bz rfl ?_|refine Lr ?_);conv=>whnf))
    refine ⟨?_, rfl, rfl⟩
    rw [szB, if_neg g, if_neg g2]; rfl

/-- a row of numbers of one's own -/
abbrev rwI (l : List Int) : Row := ⟨false, 1, l.length, fun i _ => cI (l.getD i 0)⟩

/-- a row that is being filled -/
abbrev rwIu (l : List Int) (k : Int) : Row := ⟨false, 1, l.length, fun i _ => cI (if (i : Int) < k then l.getD i 0 else 0)⟩

theorem rwIu_full (l : List Int) : rwIu l (l.length : Int) = rwI l := by
  unfold rwIu rwI
  congr 1
  funext i j
  by_cases e : (i : Int) < l.length
  · rw [if_pos e]
  · rw [if_neg e]
    have : l.getD i 0 = 0 := by
      rw [List.getD_eq_getElem?_getD, List.getElem?_eq_none (by omega)]; rfl
    rw [this]

theorem noRo1 {k0 : Nat} {r : Row} (h : NoRo r) : ∀ k q, lk ([(k0, r)] ++ []) k = some q → NoRo q := by
  intro k q hk
  have hk : lk [(k0, r)] k = some q := by simpa using hk
  rw [lk_cons] at hk
  split at hk
  · cases hk; exact h
  · cases hk

theorem F_toIntS (l : List Int) (hl : l.length ≤ 1048576) : Fun E0 67 [.one (roI l)] [] (.v (.one (.own 0 l.length))) [(0, rwI l)] [] := by
  refine Fun_of_xc k67 rfl rfl (noRo1 (fun i j _ _ => rfl)) ?_
  ((conv=>whnf);repeat((first|refine Ct ‹_› ?_|refine Cf ‹_› ?_|refine Ct rfl ?_|refine Cf rfl ?_|refine Bi rfl ?_|refine Bz rfl ?_|refine Lr ?_);conv=>whnf))
  refine Rw_self ?_
  ((conv=>whnf);repeat((first|refine Ct ‹_› ?_|refine Cf ‹_› ?_|refine Ct rfl ?_|refine Cf rfl ?_|refine Bi rfl ?_|refine Bz rfl ?_|refine Lr ?_);conv=>whnf))
  refine Bnd_i (by omega) ?_
  ((conv=>whnf);repeat((first|refine Ct ‹_› ?_|refine Cf ‹_› ?_|refine Ct rfl ?_|refine Cf rfl ?_|refine Bi rfl ?_|refine Bz rfl ?_|refine Lr ?_);conv=>whnf))
  refine Rw_i (rwIu l 0) ⟨rfl, rfl, by simp [zeroRow], fun i j hi hj => ?_⟩ ?_
  · have hj : j < 1 := hj
    obtain rfl : j = 0 := by omega
    show cI 0 = cI (if (i : Int) < 0 then l.getD i 0 else 0)
    rw [if_neg (by omega)]
  ((conv=>whnf);repeat((first|refine Ct ‹_› ?_|refine Cf ‹_› ?_|refine Ct rfl ?_|refine Cf rfl ?_|refine Bi rfl ?_|refine Bz rfl ?_|refine Lr ?_);conv=>whnf))
  refine WLoop_v ⟨[0, 3, 4], [], []⟩ (fun i : Int => hdS 22 [(0, .v (.one (roI l))), (3, .v (.one (.own (vkey 3) l.length))), (4, .v (vI i))] [] [(vkey 3, rwIu l i)])
    (fun k i => 0 ≤ i ∧ i + k = l.length) l.length 0 rfl ⟨by omega, by omega⟩ ?_
  rintro k i ⟨h1, h2⟩
  ((conv=>whnf);repeat((first|refine Ct ‹_› ?_|refine Cf ‹_› ?_|refine Ct rfl ?_|refine Cf rfl ?_|refine Bi rfl ?_|refine Bz rfl ?_|refine Lr ?_);conv=>whnf))
  refine Cnd_i (fun h => ?_) (fun h => ?_)
  · have hi' : i < l.length := of_decide_eq_true h
    ((conv=>whnf);repeat((first|refine Ct ‹_› ?_|refine Cf ‹_› ?_|refine Ct rfl ?_|refine Cf rfl ?_|refine Bi rfl ?_|refine Bz rfl ?_|refine Lr ?_);conv=>whnf))
    refine Bnd_i ⟨h1, hi'⟩ ?_
    ((conv=>whnf);repeat((first|refine Ct ‹_› ?_|refine Cf ‹_› ?_|refine Ct rfl ?_|refine Cf rfl ?_|refine Bi rfl ?_|refine Bz rfl ?_|refine Lr ?_);conv=>whnf))
    refine Bnd_i ⟨h1, hi'⟩ ?_
    ((conv=>whnf);repeat((first|refine Ct ‹_› ?_|refine Cf ‹_› ?_|refine Ct rfl ?_|refine Cf rfl ?_|refine Bi rfl ?_|refine Bz rfl ?_|refine Lr ?_);conv=>whnf))
    refine Rw_i (rwIu l (i + 1)) ⟨rfl, rfl, rfl, fun i' j hi hj => ?_⟩ ?_
    · have hj : j < 1 := hj
      obtain rfl : j = 0 := by omega
      show wrG (rwIu l i).get i.toNat 0 [cI (l.getD i.toNat 0)] i' 0 = cI (if (i' : Int) < i + 1 then l.getD i' 0 else 0)
      by_cases e : i' = i.toNat
      · subst e
        rw [wrG_in (by simp), if_pos (by omega)]; rfl
      · rw [wrG_out (fun hh => e hh.1)]
        show cI (if (i' : Int) < i then l.getD i' 0 else 0) = _
        by_cases e2 : (i' : Int) < i
        · rw [if_pos e2, if_pos (by omega)]
        · rw [if_neg e2, if_neg (by omega)]
    ((conv=>whnf);repeat((first|refine Ct ‹_› ?_|refine Cf ‹_› ?_|refine Ct rfl ?_|refine Cf rfl ?_|refine Bi rfl ?_|refine Bz rfl ?_|refine Lr ?_);conv=>whnf))
    refine ⟨k - 1, i + 1, ?_, ?_, ?_, ?_⟩
    · rw [wrapI (by omega)]; rfl
    · omega
    · omega
    · omega
  · have hi' := of_decide_eq_false h
    ((conv=>whnf);repeat((first|refine Ct ‹_› ?_|refine Cf ‹_› ?_|refine Ct rfl ?_|refine Cf rfl ?_|refine Bi rfl ?_|refine Bz rfl ?_|refine Lr ?_);conv=>whnf))
    obtain rfl : i = (l.length : Int) := by omega
    rw [rwIu_full]
    exact ⟨rfl, rfl, rfl⟩

theorem nrN : ∀ k q, lk ([] : Ob) k = some q → NoRo q := fun _ _ h => by cases h

theorem nrC {k0 : Nat} {r : Row} {l : Ob} (h : NoRo r) (hl : ∀ k q, lk l k = some q → NoRo q) : ∀ k q, lk ((k0, r) :: l) k = some q → NoRo q := by
  intro k q hk
  rw [lk_cons] at hk
  split at hk
  · cases hk; exact h
  · exact hl k q hk

theorem rwI_no (l : List Int) : NoRo (rwI l) := fun _ _ _ _ => rfl

theorem F_toTerrain (t : Ter) (hc : t.cost.length ≤ 1048576) : Fun E0 95 [.agg t.cs] [] (.v (.agg [.str t.name, .own 1 t.cost.length, cI t.shift, cI t.height, .bool t.blocks])) [(1, rwI t.cost)] [] := by
  refine Fun_of_xc k95 rfl rfl (nrC (rwI_no _) nrN) ?_
  ((conv=>whnf);repeat((first|refine Ct ‹_› ?_|refine Cf ‹_› ?_|refine Ct rfl ?_|refine Cf rfl ?_|refine Bi rfl ?_|refine Bz rfl ?_|refine Lr ?_);conv=>whnf))
  refine CallQ_some (F_toIntS t.cost hc) rfl rfl ?_
  ((conv=>whnf);repeat((first|refine Ct ‹_› ?_|refine Cf ‹_› ?_|refine Ct rfl ?_|refine Cf rfl ?_|refine Bi rfl ?_|refine Bz rfl ?_|refine Lr ?_);conv=>whnf))
  exact ⟨rfl, rfl, rfl⟩

/-- a terrain in a row of one's own -/
abbrev Ter.cw (t : Ter) : List Cell := [.str t.name, .fr 1 t.cost.length fun i _ => cI (t.cost.getD i 0), cI t.shift, cI t.height, .bool t.blocks]

abbrev Ter.cz : List Cell := [.str ⟨#[]⟩, .ro 1 0 nog, cI 0, cI 0, .bool false]

abbrev rwT (l : List Ter) : Row := ⟨true, 5, l.length, fun i j => nth (l.getD i Ter.d).cw j⟩

abbrev rwTu (l : List Ter) (k : Int) : Row := ⟨true, 5, l.length, fun i j => if (i : Int) < k ∨ l.length ≤ i then nth (l.getD i Ter.d).cw j else nth Ter.cz j⟩

theorem rwT_no (l : List Ter) : NoRo (rwT l) := by
  intro i j _ hj
  have hj : j < 5 := hj
  match j, hj with
  | 0, _ => rfl
  | 1, _ => exact fun _ _ _ _ => rfl
  | 2, _ => rfl
  | 3, _ => rfl
  | 4, _ => rfl

theorem F_toTerrainS (l : List Ter) (hl : l.length ≤ 1048576) (hc : ∀ t ∈ l, t.cost.length ≤ 1048576) : Fun E0 65 [.one (roT l)] [] (.v (.one (.own 0 l.length))) [(0, rwT l)] [] := by
  refine Fun_of_xc k65 rfl rfl (nrC (rwT_no _) nrN) ?_
  ((conv=>whnf);repeat((first|refine Ct ‹_› ?_|refine Cf ‹_› ?_|refine Ct rfl ?_|refine Cf rfl ?_|refine Bi rfl ?_|refine Bz rfl ?_|refine Lr ?_);conv=>whnf))
  refine Rw_self ?_
  ((conv=>whnf);repeat((first|refine Ct ‹_› ?_|refine Cf ‹_› ?_|refine Ct rfl ?_|refine Cf rfl ?_|refine Bi rfl ?_|refine Bz rfl ?_|refine Lr ?_);conv=>whnf))
  refine Bnd_i (by omega) ?_
  ((conv=>whnf);repeat((first|refine Ct ‹_› ?_|refine Cf ‹_› ?_|refine Ct rfl ?_|refine Cf rfl ?_|refine Bi rfl ?_|refine Bz rfl ?_|refine Lr ?_);conv=>whnf))
  refine Rw_i (rwTu l 0) ⟨rfl, rfl, by simp [zeroRow], fun i j hi hj => ?_⟩ ?_
  · have hi : i < l.length := by simpa [zeroRow] using hi
    show nth Ter.cz j = if (i : Int) < 0 ∨ l.length ≤ i then nth (l.getD i Ter.d).cw j else nth Ter.cz j
    rw [if_neg (by omega)]
  ((conv=>whnf);repeat((first|refine Ct ‹_› ?_|refine Cf ‹_› ?_|refine Ct rfl ?_|refine Cf rfl ?_|refine Bi rfl ?_|refine Bz rfl ?_|refine Lr ?_);conv=>whnf))
  refine WLoop_v ⟨[0, 3, 4], [], []⟩ (fun i : Int => hdS 23 [(0, .v (.one (roT l))), (3, .v (.one (.own (vkey 3) l.length))), (4, .v (vI i))] [] [(vkey 3, rwTu l i)])
    (fun k i => 0 ≤ i ∧ i + k = l.length) l.length 0 rfl ⟨by omega, by omega⟩ ?_
  rintro k i ⟨h1, h2⟩
  ((conv=>whnf);repeat((first|refine Ct ‹_› ?_|refine Cf ‹_› ?_|refine Ct rfl ?_|refine Cf rfl ?_|refine Bi rfl ?_|refine Bz rfl ?_|refine Lr ?_);conv=>whnf))
  refine Cnd_i (fun h => ?_) (fun h => ?_)
  · have hi' : i < l.length := of_decide_eq_true h
    ((conv=>whnf);repeat((first|refine Ct ‹_› ?_|refine Cf ‹_› ?_|refine Ct rfl ?_|refine Cf rfl ?_|refine Bi rfl ?_|refine Bz rfl ?_|refine Lr ?_);conv=>whnf))
    refine Bnd_i ⟨h1, hi'⟩ ?_
    ((conv=>whnf);repeat((first|refine Ct ‹_› ?_|refine Cf ‹_› ?_|refine Ct rfl ?_|refine Cf rfl ?_|refine Bi rfl ?_|refine Bz rfl ?_|refine Lr ?_);conv=>whnf))
    refine CallQ_some (F_toTerrain (l.getD i.toNat Ter.d) (hc _ (getD_memT h1 hi'))) rfl rfl ?_
    ((conv=>whnf);repeat((first|refine Ct ‹_› ?_|refine Cf ‹_› ?_|refine Ct rfl ?_|refine Cf rfl ?_|refine Bi rfl ?_|refine Bz rfl ?_|refine Lr ?_);conv=>whnf))
    refine Bnd_i ⟨h1, hi'⟩ ?_
    ((conv=>whnf);repeat((first|refine Ct ‹_› ?_|refine Cf ‹_› ?_|refine Ct rfl ?_|refine Cf rfl ?_|refine Bi rfl ?_|refine Bz rfl ?_|refine Lr ?_);conv=>whnf))
    refine Rw_i (rwTu l (i + 1)) ⟨rfl, rfl, rfl, fun i' j hi hj => ?_⟩ ?_
    · have hj : j < 5 := hj
      have hi : i' < l.length := hi
      show wrG (rwTu l i).get i.toNat 0 (l.getD i.toNat Ter.d).cw i' j = if (i' : Int) < i + 1 ∨ l.length ≤ i' then nth (l.getD i' Ter.d).cw j else nth Ter.cz j
      by_cases e : i' = i.toNat
      · subst e
        rw [wrG_in (by simp; omega), if_pos (by omega)]; rfl
      · rw [wrG_out (fun hh => e hh.1)]
        show (if (i' : Int) < i ∨ l.length ≤ i' then nth (l.getD i' Ter.d).cw j else nth Ter.cz j) = _
        by_cases e2 : (i' : Int) < i
        · rw [if_pos (.inl e2), if_pos (.inl (by omega))]
        · rw [if_neg (by omega), if_neg (by omega)]
    ((conv=>whnf);repeat((first|refine Ct ‹_› ?_|refine Cf ‹_› ?_|refine Ct rfl ?_|refine Cf rfl ?_|refine Bi rfl ?_|refine Bz rfl ?_|refine Lr ?_);conv=>whnf))
    refine ⟨k - 1, i + 1, ?_, ?_, ?_, ?_⟩
    · rw [wrapI (by omega)]; rfl
    · omega
    · omega
    · omega
  · have hi' := of_decide_eq_false h
    ((conv=>whnf);repeat((first|refine Ct ‹_› ?_|refine Cf ‹_› ?_|refine Ct rfl ?_|refine Cf rfl ?_|refine Bi rfl ?_|refine Bz rfl ?_|refine Lr ?_);conv=>whnf))
    have e : rwTu l i = rwT l := by
      unfold rwTu rwT
      congr 1
      funext i' j
      rw [if_pos (by omega)]
    rw [e]
    exact ⟨rfl, rfl, rfl⟩

theorem F_toKind (t : Knd) : Fun E0 96 [.agg t.cs] [] (.v (.agg t.cs)) [] [] := by
  refine Fun_of_xc k96 rfl rfl (fun k q h => by cases h) ?_
  ((conv=>whnf);repeat((first|refine Ct ‹_› ?_|refine Cf ‹_› ?_|refine Ct rfl ?_|refine Cf rfl ?_|refine Bi rfl ?_|refine Bz rfl ?_|refine Lr ?_);conv=>whnf))
  exact ⟨rfl, rfl, rfl⟩

abbrev Knd.cz : List Cell := [.str ⟨#[]⟩, cI 0, cI 0, cI 0, .bool false, cI 0]

abbrev rwK (l : List Knd) : Row := ⟨false, 6, l.length, fun i j => nth (l.getD i Knd.d).cs j⟩

abbrev rwKu (l : List Knd) (k : Int) : Row := ⟨false, 6, l.length, fun i j => if (i : Int) < k ∨ l.length ≤ i then nth (l.getD i Knd.d).cs j else nth Knd.cz j⟩

theorem rwK_no (l : List Knd) : NoRo (rwK l) := by
  intro i j _ hj
  have hj : j < 6 := hj
  match j, hj with
  | 0, _ => rfl
  | 1, _ => rfl
  | 2, _ => rfl
  | 3, _ => rfl
  | 4, _ => rfl
  | 5, _ => rfl

theorem F_toKindS (l : List Knd) (hl : l.length ≤ 1048576) : Fun E0 66 [.one (roK l)] [] (.v (.one (.own 0 l.length))) [(0, rwK l)] [] := by
  refine Fun_of_xc k66 rfl rfl (nrC (rwK_no _) nrN) ?_
  ((conv=>whnf);repeat((first|refine Ct ‹_› ?_|refine Cf ‹_› ?_|refine Ct rfl ?_|refine Cf rfl ?_|refine Bi rfl ?_|refine Bz rfl ?_|refine Lr ?_);conv=>whnf))
  refine Rw_self ?_
  ((conv=>whnf);repeat((first|refine Ct ‹_› ?_|refine Cf ‹_› ?_|refine Ct rfl ?_|refine Cf rfl ?_|refine Bi rfl ?_|refine Bz rfl ?_|refine Lr ?_);conv=>whnf))
  refine Bnd_i (by omega) ?_
  ((conv=>whnf);repeat((first|refine Ct ‹_› ?_|refine Cf ‹_› ?_|refine Ct rfl ?_|refine Cf rfl ?_|refine Bi rfl ?_|refine Bz rfl ?_|refine Lr ?_);conv=>whnf))
  refine Rw_i (rwKu l 0) ⟨rfl, rfl, by simp [zeroRow], fun i j hi hj => ?_⟩ ?_
  · have hi : i < l.length := by simpa [zeroRow] using hi
    show nth Knd.cz j = if (i : Int) < 0 ∨ l.length ≤ i then nth (l.getD i Knd.d).cs j else nth Knd.cz j
    rw [if_neg (by omega)]
  ((conv=>whnf);repeat((first|refine Ct ‹_› ?_|refine Cf ‹_› ?_|refine Ct rfl ?_|refine Cf rfl ?_|refine Bi rfl ?_|refine Bz rfl ?_|refine Lr ?_);conv=>whnf))
  refine WLoop_v ⟨[0, 3, 4], [], []⟩ (fun i : Int => hdS 23 [(0, .v (.one (roK l))), (3, .v (.one (.own (vkey 3) l.length))), (4, .v (vI i))] [] [(vkey 3, rwKu l i)])
    (fun k i => 0 ≤ i ∧ i + k = l.length) l.length 0 rfl ⟨by omega, by omega⟩ ?_
  rintro k i ⟨h1, h2⟩
  ((conv=>whnf);repeat((first|refine Ct ‹_› ?_|refine Cf ‹_› ?_|refine Ct rfl ?_|refine Cf rfl ?_|refine Bi rfl ?_|refine Bz rfl ?_|refine Lr ?_);conv=>whnf))
  refine Cnd_i (fun h => ?_) (fun h => ?_)
  · have hi' : i < l.length := of_decide_eq_true h
    ((conv=>whnf);repeat((first|refine Ct ‹_› ?_|refine Cf ‹_› ?_|refine Ct rfl ?_|refine Cf rfl ?_|refine Bi rfl ?_|refine Bz rfl ?_|refine Lr ?_);conv=>whnf))
    refine Bnd_i ⟨h1, hi'⟩ ?_
    ((conv=>whnf);repeat((first|refine Ct ‹_› ?_|refine Cf ‹_› ?_|refine Ct rfl ?_|refine Cf rfl ?_|refine Bi rfl ?_|refine Bz rfl ?_|refine Lr ?_);conv=>whnf))
    refine CallQ_some (F_toKind (l.getD i.toNat Knd.d)) rfl rfl ?_
    ((conv=>whnf);repeat((first|refine Ct ‹_› ?_|refine Cf ‹_› ?_|refine Ct rfl ?_|refine Cf rfl ?_|refine Bi rfl ?_|refine Bz rfl ?_|refine Lr ?_);conv=>whnf))
    refine Bnd_i ⟨h1, hi'⟩ ?_
    ((conv=>whnf);repeat((first|refine Ct ‹_› ?_|refine Cf ‹_› ?_|refine Ct rfl ?_|refine Cf rfl ?_|refine Bi rfl ?_|refine Bz rfl ?_|refine Lr ?_);conv=>whnf))
    refine Rw_i (rwKu l (i + 1)) ⟨rfl, rfl, rfl, fun i' j hi hj => ?_⟩ ?_
    · have hj : j < 6 := hj
      have hi : i' < l.length := hi
      show wrG (rwKu l i).get i.toNat 0 (l.getD i.toNat Knd.d).cs i' j = if (i' : Int) < i + 1 ∨ l.length ≤ i' then nth (l.getD i' Knd.d).cs j else nth Knd.cz j
      by_cases e : i' = i.toNat
      · subst e
        rw [wrG_in (by simp; omega), if_pos (by omega)]; rfl
      · rw [wrG_out (fun hh => e hh.1)]
        show (if (i' : Int) < i ∨ l.length ≤ i' then nth (l.getD i' Knd.d).cs j else nth Knd.cz j) = _
        by_cases e2 : (i' : Int) < i
        · rw [if_pos (.inl e2), if_pos (.inl (by omega))]
        · rw [if_neg (by omega), if_neg (by omega)]
    ((conv=>whnf);repeat((first|refine Ct ‹_› ?_|refine Cf ‹_› ?_|refine Ct rfl ?_|refine Cf rfl ?_|refine Bi rfl ?_|refine Bz rfl ?_|refine Lr ?_);conv=>whnf))
    refine ⟨k - 1, i + 1, ?_, ?_, ?_, ?_⟩
    · rw [wrapI (by omega)]; rfl
    · omega
    · omega
    · omega
  · have hi' := of_decide_eq_false h
    ((conv=>whnf);repeat((first|refine Ct ‹_› ?_|refine Cf ‹_› ?_|refine Ct rfl ?_|refine Cf rfl ?_|refine Bi rfl ?_|refine Bz rfl ?_|refine Lr ?_);conv=>whnf))
    have e : rwKu l i = rwK l := by
      unfold rwKu rwK
      congr 1
      funext i' j
      rw [if_pos (by omega)]
    rw [e]
    exact ⟨rfl, rfl, rfl⟩

/-- what a copy asks: no list of more than 2^20 elements -/
structure Rul.Sm (r : Rul) : Prop where
  ter : r.ter.length ≤ 1048576
  cost : ∀ t ∈ r.ter, t.cost.length ≤ 1048576
  knd : r.knd.length ≤ 1048576

structure Map.Sm (m : Map) : Prop where
  ter : m.ter.length ≤ 1048576
  riv : m.riv.length ≤ 1048576
  roa : m.roa.length ≤ 1048576

structure Brd.Sm (b : Brd) : Prop where
  r : b.r.Sm
  m : b.m.Sm

theorem F_toRules (r : Rul) (h : r.Sm) : Fun E0 31 [.agg r.cs] [] (.v (.agg [.own 0 r.ter.length, .own 1 r.knd.length, cI r.stack, cI r.river, cI r.road, cI r.supply, cI r.turns])) [(0, rwT r.ter), (1, rwK r.knd)] [] := by
  refine Fun_of_xc k31 rfl rfl (nrC (rwT_no _) (nrC (rwK_no _) nrN)) ?_
  ((conv=>whnf);repeat((first|refine Ct ‹_› ?_|refine Cf ‹_› ?_|refine Ct rfl ?_|refine Cf rfl ?_|refine Bi rfl ?_|refine Bz rfl ?_|refine Lr ?_);conv=>whnf))
  refine CallQ_some (F_toTerrainS r.ter h.ter h.cost) rfl rfl ?_
  ((conv=>whnf);repeat((first|refine Ct ‹_› ?_|refine Cf ‹_› ?_|refine Ct rfl ?_|refine Cf rfl ?_|refine Bi rfl ?_|refine Bz rfl ?_|refine Lr ?_);conv=>whnf))
  refine CallQ_some (F_toKindS r.knd h.knd) rfl rfl ?_
  ((conv=>whnf);repeat((first|refine Ct ‹_› ?_|refine Cf ‹_› ?_|refine Ct rfl ?_|refine Cf rfl ?_|refine Bi rfl ?_|refine Bz rfl ?_|refine Lr ?_);conv=>whnf))
  exact ⟨rfl, rfl, rfl⟩

theorem F_toMap (m : Map) (h : m.Sm) : Fun E0 32 [.agg m.cs] [] (.v (.agg [cI m.w, cI m.h, .own 2 m.ter.length, .own 3 m.riv.length, .own 4 m.roa.length])) [(2, rwI m.ter), (3, rwI m.riv), (4, rwI m.roa)] [] := by
  refine Fun_of_xc k32 rfl rfl (nrC (rwI_no _) (nrC (rwI_no _) (nrC (rwI_no _) nrN))) ?_
  ((conv=>whnf);repeat((first|refine Ct ‹_› ?_|refine Cf ‹_› ?_|refine Ct rfl ?_|refine Cf rfl ?_|refine Bi rfl ?_|refine Bz rfl ?_|refine Lr ?_);conv=>whnf))
  refine CallQ_some (F_toIntS m.ter h.ter) rfl rfl ?_
  ((conv=>whnf);repeat((first|refine Ct ‹_› ?_|refine Cf ‹_› ?_|refine Ct rfl ?_|refine Cf rfl ?_|refine Bi rfl ?_|refine Bz rfl ?_|refine Lr ?_);conv=>whnf))
  refine CallQ_some (F_toIntS m.riv h.riv) rfl rfl ?_
  ((conv=>whnf);repeat((first|refine Ct ‹_› ?_|refine Cf ‹_› ?_|refine Ct rfl ?_|refine Cf rfl ?_|refine Bi rfl ?_|refine Bz rfl ?_|refine Lr ?_);conv=>whnf))
  refine CallQ_some (F_toIntS m.roa h.roa) rfl rfl ?_
  ((conv=>whnf);repeat((first|refine Ct ‹_› ?_|refine Cf ‹_› ?_|refine Ct rfl ?_|refine Cf rfl ?_|refine Bi rfl ?_|refine Bz rfl ?_|refine Lr ?_);conv=>whnf))
  exact ⟨rfl, rfl, rfl⟩

abbrev Brd.cw (b : Brd) : List Cell := [.own 0 b.r.ter.length, .own 1 b.r.knd.length, cI b.r.stack, cI b.r.river, cI b.r.road, cI b.r.supply, cI b.r.turns, cI b.m.w, cI b.m.h, .own 9 b.m.ter.length, .own 10 b.m.riv.length, .own 11 b.m.roa.length]

abbrev Brd.rows (b : Brd) : Ob := [(0, rwT b.r.ter), (1, rwK b.r.knd), (9, rwI b.m.ter), (10, rwI b.m.riv), (11, rwI b.m.roa)]

theorem F_toBoard (b : Brd) (h : b.Sm) : Fun E0 10 [.agg b.cs] [] (.v (.agg b.cw)) b.rows [] := by
  refine Fun_of_xc k10 rfl rfl (nrC (rwT_no _) (nrC (rwK_no _) (nrC (rwI_no _) (nrC (rwI_no _) (nrC (rwI_no _) nrN))))) ?_
  ((conv=>whnf);repeat((first|refine Ct ‹_› ?_|refine Cf ‹_› ?_|refine Ct rfl ?_|refine Cf rfl ?_|refine Bi rfl ?_|refine Bz rfl ?_|refine Lr ?_);conv=>whnf))
  refine CallQ_some (F_toRules b.r h.r) rfl rfl ?_
  ((conv=>whnf);repeat((first|refine Ct ‹_› ?_|refine Cf ‹_› ?_|refine Ct rfl ?_|refine Cf rfl ?_|refine Bi rfl ?_|refine Bz rfl ?_|refine Lr ?_);conv=>whnf))
  refine CallQ_some (F_toMap b.m h.m) rfl rfl ?_
  ((conv=>whnf);repeat((first|refine Ct ‹_› ?_|refine Cf ‹_› ?_|refine Ct rfl ?_|refine Cf rfl ?_|refine Bi rfl ?_|refine Bz rfl ?_|refine Lr ?_);conv=>whnf))
  exact ⟨rfl, rfl, rfl⟩

theorem F_eqIntS (l : List Int) (hl : l.length ≤ 1048576) : Fun E0 13 [.one (roI l), .one (roI l)] [] (.v (vB true)) [] [] := by
  refine Fun_of_xc k13 rfl rfl (fun k q h => by cases h) ?_
  ((conv=>whnf);repeat((first|refine Ct ‹_› ?_|refine Cf ‹_› ?_|refine Ct rfl ?_|refine Cf rfl ?_|refine Bi rfl ?_|refine Bz rfl ?_|refine Lr ?_);conv=>whnf))
  refine Cnd_f (by simp) ?_
  ((conv=>whnf);repeat((first|refine Ct ‹_› ?_|refine Cf ‹_› ?_|refine Ct rfl ?_|refine Cf rfl ?_|refine Bi rfl ?_|refine Bz rfl ?_|refine Lr ?_);conv=>whnf))
  refine WLoop_v ⟨[0, 1, 5], [], []⟩ (fun i : Int => hdS 26 [(0, .v (.one (roI l))), (1, .v (.one (roI l))), (5, .v (vI i))] [] [])
    (fun k i => 0 ≤ i ∧ i + k = l.length) l.length 0 rfl ⟨by omega, by omega⟩ ?_
  rintro k i ⟨h1, h2⟩
  ((conv=>whnf);repeat((first|refine Ct ‹_› ?_|refine Cf ‹_› ?_|refine Ct rfl ?_|refine Cf rfl ?_|refine Bi rfl ?_|refine Bz rfl ?_|refine Lr ?_);conv=>whnf))
  refine Cnd_i (fun h => ?_) (fun h => ?_)
  · have hi' : i < l.length := of_decide_eq_true h
    ((conv=>whnf);repeat((first|refine Ct ‹_› ?_|refine Cf ‹_› ?_|refine Ct rfl ?_|refine Cf rfl ?_|refine Bi rfl ?_|refine Bz rfl ?_|refine Lr ?_);conv=>whnf))
    refine Bnd_i ⟨h1, hi'⟩ ?_
    ((conv=>whnf);repeat((first|refine Ct ‹_› ?_|refine Cf ‹_› ?_|refine Ct rfl ?_|refine Cf rfl ?_|refine Bi rfl ?_|refine Bz rfl ?_|refine Lr ?_);conv=>whnf))
    refine Bnd_i ⟨h1, hi'⟩ ?_
    ((conv=>whnf);repeat((first|refine Ct ‹_› ?_|refine Cf ‹_› ?_|refine Ct rfl ?_|refine Cf rfl ?_|refine Bi rfl ?_|refine Bz rfl ?_|refine Lr ?_);conv=>whnf))
    refine Cnd_f (by simp) ?_
    ((conv=>whnf);repeat((first|refine Ct ‹_› ?_|refine Cf ‹_› ?_|refine Ct rfl ?_|refine Cf rfl ?_|refine Bi rfl ?_|refine Bz rfl ?_|refine Lr ?_);conv=>whnf))
    refine ⟨k - 1, i + 1, ?_, ?_, ?_, ?_⟩
    · rw [wrapI (by omega)]; rfl
    · omega
    · omega
    · omega
  · ((conv=>whnf);repeat((first|refine Ct ‹_› ?_|refine Cf ‹_› ?_|refine Ct rfl ?_|refine Cf rfl ?_|refine Bi rfl ?_|refine Bz rfl ?_|refine Lr ?_);conv=>whnf))
    exact ⟨rfl, rfl, rfl⟩

theorem F_eqTerrain (t : Ter) (hc : t.cost.length ≤ 1048576) : Fun E0 98 [.agg t.cs, .agg t.cs] [] (.v (vB true)) [] [] := by
  refine Fun_of_xc k98 rfl rfl (fun k q h => by cases h) ?_
  ((conv=>whnf);repeat((first|refine Ct ‹_› ?_|refine Cf ‹_› ?_|refine Ct rfl ?_|refine Cf rfl ?_|refine Bi rfl ?_|refine Bz rfl ?_|refine Lr ?_);conv=>whnf))
  refine Cnd_f (by simp) ?_
  ((conv=>whnf);repeat((first|refine Ct ‹_› ?_|refine Cf ‹_› ?_|refine Ct rfl ?_|refine Cf rfl ?_|refine Bi rfl ?_|refine Bz rfl ?_|refine Lr ?_);conv=>whnf))
  refine CallQ_some (F_eqIntS t.cost hc) rfl rfl ?_
  ((conv=>whnf);repeat((first|refine Ct ‹_› ?_|refine Cf ‹_› ?_|refine Ct rfl ?_|refine Cf rfl ?_|refine Bi rfl ?_|refine Bz rfl ?_|refine Lr ?_);conv=>whnf))
  refine Cnd_f (by simp) ?_
  ((conv=>whnf);repeat((first|refine Ct ‹_› ?_|refine Cf ‹_› ?_|refine Ct rfl ?_|refine Cf rfl ?_|refine Bi rfl ?_|refine Bz rfl ?_|refine Lr ?_);conv=>whnf))
  refine Cnd_f (by simp) ?_
  ((conv=>whnf);repeat((first|refine Ct ‹_› ?_|refine Cf ‹_› ?_|refine Ct rfl ?_|refine Cf rfl ?_|refine Bi rfl ?_|refine Bz rfl ?_|refine Lr ?_);conv=>whnf))
  refine Cnd_f (by simp) ?_
  ((conv=>whnf);repeat((first|refine Ct ‹_› ?_|refine Cf ‹_› ?_|refine Ct rfl ?_|refine Cf rfl ?_|refine Bi rfl ?_|refine Bz rfl ?_|refine Lr ?_);conv=>whnf))
  exact ⟨rfl, rfl, rfl⟩

theorem F_eqTerrainS (l : List Ter) (hl : l.length ≤ 1048576) (hc : ∀ t ∈ l, t.cost.length ≤ 1048576) : Fun E0 71 [.one (roT l), .one (roT l)] [] (.v (vB true)) [] [] := by
  refine Fun_of_xc k71 rfl rfl (fun k q h => by cases h) ?_
  ((conv=>whnf);repeat((first|refine Ct ‹_› ?_|refine Cf ‹_› ?_|refine Ct rfl ?_|refine Cf rfl ?_|refine Bi rfl ?_|refine Bz rfl ?_|refine Lr ?_);conv=>whnf))
  refine Cnd_f (by simp) ?_
  ((conv=>whnf);repeat((first|refine Ct ‹_› ?_|refine Cf ‹_› ?_|refine Ct rfl ?_|refine Cf rfl ?_|refine Bi rfl ?_|refine Bz rfl ?_|refine Lr ?_);conv=>whnf))
  refine WLoop_v ⟨[0, 1, 5], [], []⟩ (fun i : Int => hdS 27 [(0, .v (.one (roT l))), (1, .v (.one (roT l))), (5, .v (vI i))] [] [])
    (fun k i => 0 ≤ i ∧ i + k = l.length) l.length 0 rfl ⟨by omega, by omega⟩ ?_
  rintro k i ⟨h1, h2⟩
  ((conv=>whnf);repeat((first|refine Ct ‹_› ?_|refine Cf ‹_› ?_|refine Ct rfl ?_|refine Cf rfl ?_|refine Bi rfl ?_|refine Bz rfl ?_|refine Lr ?_);conv=>whnf))
  refine Cnd_i (fun h => ?_) (fun h => ?_)
  · have hi' : i < l.length := of_decide_eq_true h
    ((conv=>whnf);repeat((first|refine Ct ‹_› ?_|refine Cf ‹_› ?_|refine Ct rfl ?_|refine Cf rfl ?_|refine Bi rfl ?_|refine Bz rfl ?_|refine Lr ?_);conv=>whnf))
    refine Bnd_i ⟨h1, hi'⟩ ?_
    ((conv=>whnf);repeat((first|refine Ct ‹_› ?_|refine Cf ‹_› ?_|refine Ct rfl ?_|refine Cf rfl ?_|refine Bi rfl ?_|refine Bz rfl ?_|refine Lr ?_);conv=>whnf))
    refine Bnd_i ⟨h1, hi'⟩ ?_
    ((conv=>whnf);repeat((first|refine Ct ‹_› ?_|refine Cf ‹_› ?_|refine Ct rfl ?_|refine Cf rfl ?_|refine Bi rfl ?_|refine Bz rfl ?_|refine Lr ?_);conv=>whnf))
    refine CallQ_some (F_eqTerrain (l.getD i.toNat Ter.d) (hc _ (getD_memT h1 hi'))) rfl rfl ?_
    ((conv=>whnf);repeat((first|refine Ct ‹_› ?_|refine Cf ‹_› ?_|refine Ct rfl ?_|refine Cf rfl ?_|refine Bi rfl ?_|refine Bz rfl ?_|refine Lr ?_);conv=>whnf))
    refine ⟨k - 1, i + 1, ?_, ?_, ?_, ?_⟩
    · rw [wrapI (by omega)]; rfl
    · omega
    · omega
    · omega
  · ((conv=>whnf);repeat((first|refine Ct ‹_› ?_|refine Cf ‹_› ?_|refine Ct rfl ?_|refine Cf rfl ?_|refine Bi rfl ?_|refine Bz rfl ?_|refine Lr ?_);conv=>whnf))
    exact ⟨rfl, rfl, rfl⟩

theorem F_eqKind (t : Knd) : Fun E0 99 [.agg t.cs, .agg t.cs] [] (.v (vB true)) [] [] := by
  refine Fun_of_xc k99 rfl rfl (fun k q h => by cases h) ?_
  ((conv=>whnf);repeat((first|refine Ct ‹_› ?_|refine Cf ‹_› ?_|refine Ct rfl ?_|refine Cf rfl ?_|refine Bi rfl ?_|refine Bz rfl ?_|refine Lr ?_);conv=>whnf))
  refine Cnd_f (by simp) ?_
  ((conv=>whnf);repeat((first|refine Ct ‹_› ?_|refine Cf ‹_› ?_|refine Ct rfl ?_|refine Cf rfl ?_|refine Bi rfl ?_|refine Bz rfl ?_|refine Lr ?_);conv=>whnf))
  refine Cnd_f (by simp) ?_
  ((conv=>whnf);repeat((first|refine Ct ‹_› ?_|refine Cf ‹_› ?_|refine Ct rfl ?_|refine Cf rfl ?_|refine Bi rfl ?_|refine Bz rfl ?_|refine Lr ?_);conv=>whnf))
  refine Cnd_f (by simp) ?_
  ((conv=>whnf);repeat((first|refine Ct ‹_› ?_|refine Cf ‹_› ?_|refine Ct rfl ?_|refine Cf rfl ?_|refine Bi rfl ?_|refine Bz rfl ?_|refine Lr ?_);conv=>whnf))
  refine Cnd_f (by simp) ?_
  ((conv=>whnf);repeat((first|refine Ct ‹_› ?_|refine Cf ‹_› ?_|refine Ct rfl ?_|refine Cf rfl ?_|refine Bi rfl ?_|refine Bz rfl ?_|refine Lr ?_);conv=>whnf))
  refine Cnd_f (by simp) ?_
  ((conv=>whnf);repeat((first|refine Ct ‹_› ?_|refine Cf ‹_› ?_|refine Ct rfl ?_|refine Cf rfl ?_|refine Bi rfl ?_|refine Bz rfl ?_|refine Lr ?_);conv=>whnf))
  refine Cnd_f (by simp) ?_
  ((conv=>whnf);repeat((first|refine Ct ‹_› ?_|refine Cf ‹_› ?_|refine Ct rfl ?_|refine Cf rfl ?_|refine Bi rfl ?_|refine Bz rfl ?_|refine Lr ?_);conv=>whnf))
  exact ⟨rfl, rfl, rfl⟩

theorem F_eqKindS (l : List Knd) (hl : l.length ≤ 1048576) : Fun E0 72 [.one (roK l), .one (roK l)] [] (.v (vB true)) [] [] := by
  refine Fun_of_xc k72 rfl rfl (fun k q h => by cases h) ?_
  ((conv=>whnf);repeat((first|refine Ct ‹_› ?_|refine Cf ‹_› ?_|refine Ct rfl ?_|refine Cf rfl ?_|refine Bi rfl ?_|refine Bz rfl ?_|refine Lr ?_);conv=>whnf))
  refine Cnd_f (by simp) ?_
  ((conv=>whnf);repeat((first|refine Ct ‹_› ?_|refine Cf ‹_› ?_|refine Ct rfl ?_|refine Cf rfl ?_|refine Bi rfl ?_|refine Bz rfl ?_|refine Lr ?_);conv=>whnf))
  refine WLoop_v ⟨[0, 1, 5], [], []⟩ (fun i : Int => hdS 27 [(0, .v (.one (roK l))), (1, .v (.one (roK l))), (5, .v (vI i))] [] [])
    (fun k i => 0 ≤ i ∧ i + k = l.length) l.length 0 rfl ⟨by omega, by omega⟩ ?_
  rintro k i ⟨h1, h2⟩
  ((conv=>whnf);repeat((first|refine Ct ‹_› ?_|refine Cf ‹_› ?_|refine Ct rfl ?_|refine Cf rfl ?_|refine Bi rfl ?_|refine Bz rfl ?_|refine Lr ?_);conv=>whnf))
  refine Cnd_i (fun h => ?_) (fun h => ?_)
  · have hi' : i < l.length := of_decide_eq_true h
    ((conv=>whnf);repeat((first|refine Ct ‹_› ?_|refine Cf ‹_› ?_|refine Ct rfl ?_|refine Cf rfl ?_|refine Bi rfl ?_|refine Bz rfl ?_|refine Lr ?_);conv=>whnf))
    refine Bnd_i ⟨h1, hi'⟩ ?_
    ((conv=>whnf);repeat((first|refine Ct ‹_› ?_|refine Cf ‹_› ?_|refine Ct rfl ?_|refine Cf rfl ?_|refine Bi rfl ?_|refine Bz rfl ?_|refine Lr ?_);conv=>whnf))
    refine Bnd_i ⟨h1, hi'⟩ ?_
    ((conv=>whnf);repeat((first|refine Ct ‹_› ?_|refine Cf ‹_› ?_|refine Ct rfl ?_|refine Cf rfl ?_|refine Bi rfl ?_|refine Bz rfl ?_|refine Lr ?_);conv=>whnf))
    refine CallQ_some (F_eqKind (l.getD i.toNat Knd.d)) rfl rfl ?_
    ((conv=>whnf);repeat((first|refine Ct ‹_› ?_|refine Cf ‹_› ?_|refine Ct rfl ?_|refine Cf rfl ?_|refine Bi rfl ?_|refine Bz rfl ?_|refine Lr ?_);conv=>whnf))
    refine ⟨k - 1, i + 1, ?_, ?_, ?_, ?_⟩
    · rw [wrapI (by omega)]; rfl
    · omega
    · omega
    · omega
  · ((conv=>whnf);repeat((first|refine Ct ‹_› ?_|refine Cf ‹_› ?_|refine Ct rfl ?_|refine Cf rfl ?_|refine Bi rfl ?_|refine Bz rfl ?_|refine Lr ?_);conv=>whnf))
    exact ⟨rfl, rfl, rfl⟩

theorem F_eqRules (r : Rul) (h : r.Sm) : Fun E0 36 [.agg r.cs, .agg r.cs] [] (.v (vB true)) [] [] := by
  refine Fun_of_xc k36 rfl rfl (fun k q h => by cases h) ?_
  ((conv=>whnf);repeat((first|refine Ct ‹_› ?_|refine Cf ‹_› ?_|refine Ct rfl ?_|refine Cf rfl ?_|refine Bi rfl ?_|refine Bz rfl ?_|refine Lr ?_);conv=>whnf))
  refine CallQ_some (F_eqTerrainS r.ter h.ter h.cost) rfl rfl ?_
  ((conv=>whnf);repeat((first|refine Ct ‹_› ?_|refine Cf ‹_› ?_|refine Ct rfl ?_|refine Cf rfl ?_|refine Bi rfl ?_|refine Bz rfl ?_|refine Lr ?_);conv=>whnf))
  refine CallQ_some (F_eqKindS r.knd h.knd) rfl rfl ?_
  ((conv=>whnf);repeat((first|refine Ct ‹_› ?_|refine Cf ‹_› ?_|refine Ct rfl ?_|refine Cf rfl ?_|refine Bi rfl ?_|refine Bz rfl ?_|refine Lr ?_);conv=>whnf))
  refine Cnd_f (by simp) ?_
  ((conv=>whnf);repeat((first|refine Ct ‹_› ?_|refine Cf ‹_› ?_|refine Ct rfl ?_|refine Cf rfl ?_|refine Bi rfl ?_|refine Bz rfl ?_|refine Lr ?_);conv=>whnf))
  refine Cnd_f (by simp) ?_
  ((conv=>whnf);repeat((first|refine Ct ‹_› ?_|refine Cf ‹_› ?_|refine Ct rfl ?_|refine Cf rfl ?_|refine Bi rfl ?_|refine Bz rfl ?_|refine Lr ?_);conv=>whnf))
  refine Cnd_f (by simp) ?_
  ((conv=>whnf);repeat((first|refine Ct ‹_› ?_|refine Cf ‹_› ?_|refine Ct rfl ?_|refine Cf rfl ?_|refine Bi rfl ?_|refine Bz rfl ?_|refine Lr ?_);conv=>whnf))
  refine Cnd_f (by simp) ?_
  ((conv=>whnf);repeat((first|refine Ct ‹_› ?_|refine Cf ‹_› ?_|refine Ct rfl ?_|refine Cf rfl ?_|refine Bi rfl ?_|refine Bz rfl ?_|refine Lr ?_);conv=>whnf))
  refine Cnd_f (by simp) ?_
  ((conv=>whnf);repeat((first|refine Ct ‹_› ?_|refine Cf ‹_› ?_|refine Ct rfl ?_|refine Cf rfl ?_|refine Bi rfl ?_|refine Bz rfl ?_|refine Lr ?_);conv=>whnf))
  exact ⟨rfl, rfl, rfl⟩

theorem F_eqMap (m : Map) (h : m.Sm) : Fun E0 37 [.agg m.cs, .agg m.cs] [] (.v (vB true)) [] [] := by
  refine Fun_of_xc k37 rfl rfl (fun k q h => by cases h) ?_
  ((conv=>whnf);repeat((first|refine Ct ‹_› ?_|refine Cf ‹_› ?_|refine Ct rfl ?_|refine Cf rfl ?_|refine Bi rfl ?_|refine Bz rfl ?_|refine Lr ?_);conv=>whnf))
  refine Cnd_f (by simp) ?_
  ((conv=>whnf);repeat((first|refine Ct ‹_› ?_|refine Cf ‹_› ?_|refine Ct rfl ?_|refine Cf rfl ?_|refine Bi rfl ?_|refine Bz rfl ?_|refine Lr ?_);conv=>whnf))
  refine Cnd_f (by simp) ?_
  ((conv=>whnf);repeat((first|refine Ct ‹_› ?_|refine Cf ‹_› ?_|refine Ct rfl ?_|refine Cf rfl ?_|refine Bi rfl ?_|refine Bz rfl ?_|refine Lr ?_);conv=>whnf))
  refine CallQ_some (F_eqIntS m.ter h.ter) rfl rfl ?_
  ((conv=>whnf);repeat((first|refine Ct ‹_› ?_|refine Cf ‹_› ?_|refine Ct rfl ?_|refine Cf rfl ?_|refine Bi rfl ?_|refine Bz rfl ?_|refine Lr ?_);conv=>whnf))
  refine CallQ_some (F_eqIntS m.riv h.riv) rfl rfl ?_
  ((conv=>whnf);repeat((first|refine Ct ‹_› ?_|refine Cf ‹_› ?_|refine Ct rfl ?_|refine Cf rfl ?_|refine Bi rfl ?_|refine Bz rfl ?_|refine Lr ?_);conv=>whnf))
  refine CallQ_some (F_eqIntS m.roa h.roa) rfl rfl ?_
  ((conv=>whnf);repeat((first|refine Ct ‹_› ?_|refine Cf ‹_› ?_|refine Ct rfl ?_|refine Cf rfl ?_|refine Bi rfl ?_|refine Bz rfl ?_|refine Lr ?_);conv=>whnf))
  exact ⟨rfl, rfl, rfl⟩

theorem F_eqBoard (b : Brd) (h : b.Sm) : Fun E0 14 [.agg b.cs, .agg b.cs] [] (.v (vB true)) [] [] := by
  refine Fun_of_xc k14 rfl rfl (fun k q h => by cases h) ?_
  ((conv=>whnf);repeat((first|refine Ct ‹_› ?_|refine Cf ‹_› ?_|refine Ct rfl ?_|refine Cf rfl ?_|refine Bi rfl ?_|refine Bz rfl ?_|refine Lr ?_);conv=>whnf))
  refine CallQ_some (F_eqRules b.r h.r) rfl rfl ?_
  ((conv=>whnf);repeat((first|refine Ct ‹_› ?_|refine Cf ‹_› ?_|refine Ct rfl ?_|refine Cf rfl ?_|refine Bi rfl ?_|refine Bz rfl ?_|refine Lr ?_);conv=>whnf))
  refine CallQ_some (F_eqMap b.m h.m) rfl rfl ?_
  ((conv=>whnf);repeat((first|refine Ct ‹_› ?_|refine Cf ‹_› ?_|refine Ct rfl ?_|refine Cf rfl ?_|refine Bi rfl ?_|refine Bz rfl ?_|refine Lr ?_);conv=>whnf))
  exact ⟨rfl, rfl, rfl⟩

theorem CallQ_eq {E : Env} {f : Nat} {av av' : List V} {hot : Bool} {d : Option Nat} {ob : Ob} {K : T → Ob → Prop} (e : av = av') (h : CallQ E f av' hot d ob K) : CallQ E f av hot d ob K := e ▸ h

theorem nth_map {g : Cell → Cell} (hg : g .u = .u) : ∀ (l : List Cell) (j : Nat), g (nth l j) = nth (l.map g) j
  | [], _ => hg
  | _ :: _, 0 => rfl
  | _ :: l, j + 1 => nth_map hg l j

theorem toRo_nth (l : List Cell) (j : Nat) : toRo (nth l j) = nth (l.map toRo) j := nth_map rfl l j

theorem snapT (l : List Ter) : Cell.ro 5 l.length (fun i j => toRo (nth (l.getD i Ter.d).cw j)) = roT l := by
  unfold roT
  congr 1
  funext i j
  rw [toRo_nth]; rfl

theorem snapK (l : List Knd) : Cell.ro 6 l.length (fun i j => toRo (nth (l.getD i Knd.d).cs j)) = roK l := by
  unfold roK
  congr 1
  funext i j
  rw [toRo_nth]; rfl

theorem snapB (b : Brd) (L : List V) :
    V.agg [.ro 5 b.r.ter.length fun i j => toRo (nth (b.r.ter.getD i Ter.d).cw j), .ro 6 b.r.knd.length fun i j => toRo (nth (b.r.knd.getD i Knd.d).cs j), cI b.r.stack, cI b.r.river, cI b.r.road, cI b.r.supply, cI b.r.turns,
      cI b.m.w, cI b.m.h, roI b.m.ter, roI b.m.riv, roI b.m.roa] :: L = V.agg b.cs :: L := by rw [snapT, snapK]

theorem snapBB (b : Brd) :
    [V.agg [.ro 5 b.r.ter.length fun i j => toRo (nth (b.r.ter.getD i Ter.d).cw j), .ro 6 b.r.knd.length fun i j => toRo (nth (b.r.knd.getD i Knd.d).cs j), cI b.r.stack, cI b.r.river, cI b.r.road, cI b.r.supply, cI b.r.turns,
      cI b.m.w, cI b.m.h, roI b.m.ter, roI b.m.riv, roI b.m.roa],
     V.agg [.ro 5 b.r.ter.length fun i j => toRo (nth (b.r.ter.getD i Ter.d).cw j), .ro 6 b.r.knd.length fun i j => toRo (nth (b.r.knd.getD i Knd.d).cs j), cI b.r.stack, cI b.r.river, cI b.r.road, cI b.r.supply, cI b.r.turns,
      cI b.m.w, cI b.m.h, roI b.m.ter, roI b.m.riv, roI b.m.roa]] = [V.agg b.cs, V.agg b.cs] := by rw [snapT, snapK]

theorem sub1_sm {left n : Int} (h : ¬ sub1 left n < 0) : n ≤ left ∧ sub1 left n = left - n := by
  unfold sub1 at h ⊢
  by_cases g : left - n < 0
  · rw [if_pos g] at h; omega
  · rw [if_neg g]; omega

theorem szL_sm {α : Type} {f : α → Int → Int} {p : α → Prop} (hf : ∀ a x, 0 ≤ x → x ≤ 1048576 → ¬ f a x < 0 → p a ∧ f a x ≤ 1048576) : ∀ (l : List α) (x : Int), 0 ≤ x → x ≤ 1048576 → ¬ szL f l x < 0 → ∀ a ∈ l, p a
  | [], _, _, _, _, _, h => by cases h
  | a :: l, x, h0, h1, h, b, hb => by
    unfold szL at h
    by_cases g : f a x < 0
    · rw [if_pos g] at h; omega
    · rw [if_neg g] at h
      obtain ⟨c1, c2⟩ := hf a x h0 h1 g
      rcases List.mem_cons.1 hb with rfl | hb
      · exact c1
      · exact szL_sm hf l _ (by omega) c2 h b hb

theorem szS_sm {α : Type} {f : α → Int → Int} {p : α → Prop} (hf : ∀ a x, 0 ≤ x → x ≤ 1048576 → ¬ f a x < 0 → p a ∧ f a x ≤ 1048576) (l : List α) (x : Int) (h0 : 0 ≤ x) (h1 : x ≤ 1048576) (h : ¬ szS f l x < 0) : l.length ≤ 1048576 ∧ ∀ a ∈ l, p a := by
  unfold szS at h
  by_cases g : x - l.length < 0
  · rw [if_pos g] at h; omega
  · rw [if_neg g] at h
    exact ⟨by omega, szL_sm hf l _ (by omega) (by omega) h⟩

theorem szT_sm {t : Ter} {x : Int} (h0 : 0 ≤ x) (h1 : x ≤ 1048576) (h : ¬ szT t x < 0) : t.cost.length ≤ 1048576 ∧ szT t x ≤ 1048576 := by
  refine ⟨?_, (szT_b h0 h1).1⟩
  unfold szT at h
  by_cases g : x - t.name.size < 0
  · rw [if_pos g] at h; omega
  · rw [if_neg g] at h
    have := (sub1_sm h).1
    omega

theorem szB_sm {b : Brd} {x : Int} (h0 : 0 ≤ x) (h1 : x ≤ 1048576) (h : ¬ szB b x < 0) : b.Sm ∧ szB b x ≤ 1048576 := by
  unfold szB at h ⊢
  by_cases g : szR b.r x < 0
  · rw [if_pos g] at h; omega
  rw [if_neg g] at h ⊢
  by_cases g2 : szM b.m (szR b.r x) < 0
  · rw [if_pos g2] at h; omega
  rw [if_neg g2]
  clear h
  have gb := szR_b (r := b.r) h0 h1
  unfold szR at g
  by_cases e1 : szS szT b.r.ter x < 0
  · rw [if_pos e1] at g; omega
  rw [if_neg e1] at g
  by_cases e2 : szS szK b.r.knd (szS szT b.r.ter x) < 0
  · rw [if_pos e2] at g; omega
  have b1 := szS_b (f := szT) (fun t x a b => (szT_b a b).1) b.r.ter h0 h1
  have k1 := szS_sm (p := fun t : Ter => t.cost.length ≤ 1048576) (fun a x h0 h1 h => szT_sm h0 h1 h) b.r.ter x h0 h1 e1
  have k2 := szS_sm (f := szK) (p := fun _ => True) (fun a x h0 h1 h => ⟨trivial, (szK_b h0 h1).1⟩) b.r.knd _ (by omega) b1 e2
  unfold szM at g2 ⊢
  generalize szR b.r x = y at *
  by_cases e3 : sub1 y b.m.ter.length < 0
  · rw [if_pos e3] at g2; omega
  rw [if_neg e3] at g2 ⊢
  by_cases e4 : sub1 (sub1 y b.m.ter.length) b.m.riv.length < 0
  · rw [if_pos e4] at g2; omega
  rw [if_neg e4] at g2 ⊢
  have m1 := sub1_sm e3
  have m2 := sub1_sm e4
  have m3 := sub1_sm g2
  exact ⟨⟨⟨k1.1, k1.2, k2.1⟩, ⟨by omega, by omega, by omega⟩⟩, by omega⟩

/-- a board that is as it should be, with a hex of that number -/
def okPl (b : Brd) (i : Int) : Bool := okBrd b && In i 0 (b.m.w * b.m.h - 1)

structure PlOk (b : Brd) (i : Int) : Prop where
  gb : GB b
  i0 : 0 ≤ i
  i1 : i < b.m.ter.length

theorem PlOk.of {b : Brd} (ho : b.Ok) {i : Int} (h : okPl b i = true) : PlOk b i := by
  simp only [okPl, Bool.and_eq_true] at h
  have g := GB.of ho h.1
  have a := of_decide_eq_true h.2
  have := g.n
  exact ⟨g, by omega, by omega⟩

theorem GB.high {b : Brd} (h : GB b) {i : Int} (h0 : 0 ≤ i) (h1 : i < b.m.ter.length) : 0 ≤ (Ab.terAt b i).height ∧ (Ab.terAt b i).height ≤ 3 := by
  have ho := h.ter _ (h.terAt h0 h1)
  simp only [okTer, Bool.and_eq_true] at ho
  exact of_decide_eq_true ho.1.2

/-- the height that a hex has as an obstacle -/
def vhg (b : Brd) (x : Int) : Int := if (terAt b x).blocks then (terAt b x).height + 1 else (terAt b x).height

def blk (b : Brd) (i k x : Int) : Bool := decide (vhg b x > max (terAt b i).height (terAt b k).height)

theorem F_vHeight (b : Brd) (h : GB b) (x : Int) (h0 : 0 ≤ x) (h1 : x < b.m.ter.length) : Fun E0 160 [.agg b.cs, vI x] [] (.v (vI (vhg b x))) [] [] := by
  have hh := h.high h0 h1
  refine Fun_of_xc k160 rfl rfl (fun k q h => by cases h) ?_
  ((conv=>whnf);repeat((first|refine Ct ‹_› ?_|refine Cf ‹_› ?_|refine Ct rfl ?_|refine Cf rfl ?_|refine Bi rfl ?_|refine Bz rfl ?_|refine Lr ?_);conv=>whnf))
  (refine CallQ_some (F_bTerrain b h x h0 h1) ?_ ?_ ?_; rfl; rfl); ((conv=>whnf);repeat((first|refine Ct ‹_› ?_|refine Cf ‹_› ?_|refine Ct rfl ?_|refine Cf rfl ?_|refine Bi rfl ?_|refine Bz rfl ?_|refine Lr ?_);conv=>whnf))
  refine Cnd_i (fun g => ?_) (fun g => ?_)
  · ((conv=>whnf);repeat((first|refine Ct ‹_› ?_|refine Cf ‹_› ?_|refine Ct rfl ?_|refine Cf rfl ?_|refine Bi rfl ?_|refine Bz rfl ?_|refine Lr ?_);conv=>whnf))
    refine ⟨?_, rfl, rfl⟩
    rw [vhg, if_pos g, wrapI (by omega)]; rfl
  · ((conv=>whnf);repeat((first|refine Ct ‹_› ?_|refine Cf ‹_› ?_|refine Ct rfl ?_|refine Cf rfl ?_|refine Bi rfl ?_|refine Bz rfl ?_|refine Lr ?_);conv=>whnf))
    refine ⟨?_, rfl, rfl⟩
    rw [vhg, g]; rfl

theorem F_l1Most (a c : Int) : Fun E0 158 [vI a, vI c] [] (.v (vI (max a c))) [] [] := by
  refine Fun_of_xc k158 rfl rfl (fun k q h => by cases h) ?_
  ((conv=>whnf);repeat((first|refine Ct ‹_› ?_|refine Cf ‹_› ?_|refine Ct rfl ?_|refine Cf rfl ?_|refine Bi rfl ?_|refine Bz rfl ?_|refine Lr ?_);conv=>whnf))
  refine Cnd_i (fun g => ?_) (fun g => ?_)
  · have g := of_decide_eq_true g
    ((conv=>whnf);repeat((first|refine Ct ‹_› ?_|refine Cf ‹_› ?_|refine Ct rfl ?_|refine Cf rfl ?_|refine Bi rfl ?_|refine Bz rfl ?_|refine Lr ?_);conv=>whnf))
    refine ⟨?_, rfl, rfl⟩
    rw [show max a c = a by omega]; rfl
  · have g := of_decide_eq_false g
    ((conv=>whnf);repeat((first|refine Ct ‹_› ?_|refine Cf ‹_› ?_|refine Ct rfl ?_|refine Cf rfl ?_|refine Bi rfl ?_|refine Bz rfl ?_|refine Lr ?_);conv=>whnf))
    refine ⟨?_, rfl, rfl⟩
    rw [show max a c = c by omega]; rfl

theorem F_vBlocks (b : Brd) (h : GB b) (i k x : Int) (hi : 0 ≤ i ∧ i < b.m.ter.length) (hk : 0 ≤ k ∧ k < b.m.ter.length) (hx : 0 ≤ x ∧ x < b.m.ter.length) : Fun E0 150 [.agg b.cs, vI i, vI k, vI x] [] (.v (vB (blk b i k x))) [] [] := by
  refine Fun_of_xc k150 rfl rfl (fun k q h => by cases h) ?_
  ((conv=>whnf);repeat((first|refine Ct ‹_› ?_|refine Cf ‹_› ?_|refine Ct rfl ?_|refine Cf rfl ?_|refine Bi rfl ?_|refine Bz rfl ?_|refine Lr ?_);conv=>whnf))
  (refine CallQ_some (F_vHeight b h x hx.1 hx.2) ?_ ?_ ?_; rfl; rfl); ((conv=>whnf);repeat((first|refine Ct ‹_› ?_|refine Cf ‹_› ?_|refine Ct rfl ?_|refine Cf rfl ?_|refine Bi rfl ?_|refine Bz rfl ?_|refine Lr ?_);conv=>whnf))
  (refine CallQ_some (F_bTerrain b h i hi.1 hi.2) ?_ ?_ ?_; rfl; rfl); ((conv=>whnf);repeat((first|refine Ct ‹_› ?_|refine Cf ‹_› ?_|refine Ct rfl ?_|refine Cf rfl ?_|refine Bi rfl ?_|refine Bz rfl ?_|refine Lr ?_);conv=>whnf))
  (refine CallQ_some (F_bTerrain b h k hk.1 hk.2) ?_ ?_ ?_; rfl; rfl); ((conv=>whnf);repeat((first|refine Ct ‹_› ?_|refine Cf ‹_› ?_|refine Ct rfl ?_|refine Cf rfl ?_|refine Bi rfl ?_|refine Bz rfl ?_|refine Lr ?_);conv=>whnf))
  (refine CallQ_some (F_l1Most _ _) ?_ ?_ ?_; rfl; rfl); ((conv=>whnf);repeat((first|refine Ct ‹_› ?_|refine Cf ‹_› ?_|refine Ct rfl ?_|refine Cf rfl ?_|refine Bi rfl ?_|refine Bz rfl ?_|refine Lr ?_);conv=>whnf))
  exact ⟨rfl, rfl, rfl⟩

theorem mx_eq (a b : Int) : (if b > a then b else a) = max a b := by omega

theorem F_blocksBetween (b : Brd) (h : GB b) (i k x : Int) (hi : 0 ≤ i ∧ i < b.m.ter.length) (hk : 0 ≤ k ∧ k < b.m.ter.length) (hx : 0 ≤ x ∧ x < b.m.ter.length) : Fun E0 144 [.agg b.cs, vI i, vI k, vI x] [] (.v (vB (blk b i k x))) [] [] := by
  have hh := h.high hx.1 hx.2
  refine Fun_of_xc k144 rfl rfl (fun k q h => by cases h) ?_
  ((conv=>whnf);repeat((first|refine Ct ‹_› ?_|refine Cf ‹_› ?_|refine Ct rfl ?_|refine Cf rfl ?_|refine Bi rfl ?_|refine Bz rfl ?_|refine Lr ?_);conv=>whnf))
  (refine CallQ_some (F_terrainAt b h x hx.1 hx.2) ?_ ?_ ?_; rfl; rfl); ((conv=>whnf);repeat((first|refine Ct ‹_› ?_|refine Cf ‹_› ?_|refine Ct rfl ?_|refine Cf rfl ?_|refine Bi rfl ?_|refine Bz rfl ?_|refine Lr ?_);conv=>whnf))
  refine Cnd_i (fun g => ?_) (fun g => ?_)
  · ((conv=>whnf);repeat((first|refine Ct ‹_› ?_|refine Cf ‹_› ?_|refine Ct rfl ?_|refine Cf rfl ?_|refine Bi rfl ?_|refine Bz rfl ?_|refine Lr ?_);conv=>whnf))
    (refine CallQ_some (F_terrainAt b h i hi.1 hi.2) ?_ ?_ ?_; rfl; rfl); ((conv=>whnf);repeat((first|refine Ct ‹_› ?_|refine Cf ‹_› ?_|refine Ct rfl ?_|refine Cf rfl ?_|refine Bi rfl ?_|refine Bz rfl ?_|refine Lr ?_);conv=>whnf))
    (refine CallQ_some (F_terrainAt b h k hk.1 hk.2) ?_ ?_ ?_; rfl; rfl); ((conv=>whnf);repeat((first|refine Ct ‹_› ?_|refine Cf ‹_› ?_|refine Ct rfl ?_|refine Cf rfl ?_|refine Bi rfl ?_|refine Bz rfl ?_|refine Lr ?_);conv=>whnf))
    refine ⟨?_, rfl, rfl⟩
    rw [blk, vhg, if_pos g, wrapI (by omega), mx_eq]; rfl
  · ((conv=>whnf);repeat((first|refine Ct ‹_› ?_|refine Cf ‹_› ?_|refine Ct rfl ?_|refine Cf rfl ?_|refine Bi rfl ?_|refine Bz rfl ?_|refine Lr ?_);conv=>whnf))
    (refine CallQ_some (F_terrainAt b h i hi.1 hi.2) ?_ ?_ ?_; rfl; rfl); ((conv=>whnf);repeat((first|refine Ct ‹_› ?_|refine Cf ‹_› ?_|refine Ct rfl ?_|refine Cf rfl ?_|refine Bi rfl ?_|refine Bz rfl ?_|refine Lr ?_);conv=>whnf))
    (refine CallQ_some (F_terrainAt b h k hk.1 hk.2) ?_ ?_ ?_; rfl; rfl); ((conv=>whnf);repeat((first|refine Ct ‹_› ?_|refine Cf ‹_› ?_|refine Ct rfl ?_|refine Cf rfl ?_|refine Bi rfl ?_|refine Bz rfl ?_|refine Lr ?_);conv=>whnf))
    refine ⟨?_, rfl, rfl⟩
    rw [blk, vhg, g, mx_eq]; rfl

/-- a row of numbers to which one is appended -/
theorem rwI_app (l : List Int) (x : Int) (g : Nat → Nat → Cell) (h : g 0 0 = cI x) : RowEq (appRow (rwI l) 1 g) (rwI (l ++ [x])) := by
  refine ⟨rfl, rfl, by simp [appRow], fun i j hi hj => ?_⟩
  have hj : j < 1 := hj
  obtain rfl : j = 0 := by omega
  have hi : i < l.length + 1 := hi
  show (bif Nat.blt i l.length then cI (l.getD i 0) else g (i - l.length) 0) = cI ((l ++ [x]).getD i 0)
  by_cases e : i < l.length
  · have : Nat.blt i l.length = true := by simpa [Nat.blt_eq] using e
    rw [this]
    simp [List.getElem?_append, e]
  · have : Nat.blt i l.length = false := by
      rw [Bool.eq_false_iff]; intro h; exact e (by simpa [Nat.blt_eq] using h)
    rw [this, show i = l.length by omega]
    simp [h]

theorem rwI_nil (g : Nat → Nat → Cell) : RowEq ⟨false, 1, 0, g⟩ (rwI []) := ⟨rfl, rfl, rfl, fun i j hi _ => by simp at hi⟩

theorem drop_cons {α : Type} {l : List α} {d : α} {i : Int} (h0 : 0 ≤ i) (h1 : i < l.length) : l.drop i.toNat = l.getD i.toNat d :: l.drop (i + 1).toNat := drop_get h0 h1

theorem take_app {l : List Int} {t : Int} (h0 : 0 ≤ t) (h1 : t < l.length) : l.take (t + 1).toNat = l.take t.toNat ++ [l.getD t.toNat 0] := by
  have hl : t.toNat < l.length := by omega
  rw [show (t + 1).toNat = t.toNat + 1 by omega, List.take_succ_eq_append_getElem hl]
  simp [hl]

structure Stt.Sm (s : Stt) : Prop where
  un : s.un.length ≤ 1048576

def okUnt (b : Brd) (u : Unt) : Bool := In u.side 0 1 && In u.kind 0 (b.r.knd.length - 1) && In u.ste 0 (b.r.knd.getD u.kind.toNat Knd.d).ste &&
  (u.at' == -1 || (decide (u.ste > 0) && In u.at' 0 (b.m.w * b.m.h - 1) && decide (costAt b u.kind u.at' > 0)))

structure UnOk (b : Brd) (u : Unt) : Prop where
  side : u.side = 0 ∨ u.side = 1
  kind : 0 ≤ u.kind ∧ u.kind < b.r.knd.length
  ste : 0 ≤ u.ste ∧ u.ste ≤ (b.r.knd.getD u.kind.toNat Knd.d).ste
  at' : u.at' = -1 ∨ (0 ≤ u.at' ∧ u.at' < b.m.ter.length ∧ 0 < u.ste ∧ 0 < costAt b u.kind u.at')

theorem UnOk.of {b : Brd} (h : GB b) {u : Unt} (hu : okUnt b u = true) : UnOk b u := by
  simp only [okUnt, Bool.and_eq_true, Bool.or_eq_true, beq_iff_eq] at hu
  obtain ⟨⟨⟨h1, h2⟩, h3⟩, h4⟩ := hu
  have a1 := of_decide_eq_true h1
  have a2 := of_decide_eq_true h2
  have a3 := of_decide_eq_true h3
  refine ⟨by omega, by omega, a3, ?_⟩
  rcases h4 with h4 | ⟨⟨h4, h5⟩, h6⟩
  · exact .inl h4
  · have a4 := of_decide_eq_true h4
    have a5 := of_decide_eq_true h5
    have a6 := of_decide_eq_true h6
    have := h.n
    exact .inr ⟨a5.1, by omega, a4, a6⟩

/-- the places of the first n units that are so -/
def selU (q : Unt → Bool) (us : List Unt) : Nat → List Int
  | 0 => []
  | n + 1 => if q (us.getD n Unt.d) = true then selU q us n ++ [(n : Int)] else selU q us n

def atQ (i side : Int) (u : Unt) : Bool := u.at' == i && u.side == side

/-- whose the first unit at a place is, -1 if there is none -/
def ownR (i : Int) : List Unt → Int
  | [] => -1
  | u :: l => if (u.at' == i) = true then u.side else ownR i l

/-! ### how many of a side stand at a place -/
def cnt (us : List Unt) (n : Nat) (i s : Int) : Int := (selU (atQ i s) us n).length

def stk (st : Int) (us : List Unt) : Prop := ∀ k, k < us.length → 0 ≤ (us.getD k Unt.d).at' → cnt us us.length (us.getD k Unt.d).at' (1 - (us.getD k Unt.d).side) = 0 ∧ cnt us us.length (us.getD k Unt.d).at' (us.getD k Unt.d).side ≤ st

noncomputable instance instStk (st : Int) (us : List Unt) : Decidable (stk st us) := Classical.propDecidable _

noncomputable def okSt (b : Brd) (s : Stt) : Bool := In s.turn 0 b.r.turns && In s.wea 0 2 && decide (s.un.length ≤ 12) && s.un.all (okUnt b) && @decide (stk b.r.stack s.un) (instStk b.r.stack s.un)

structure StOk (b : Brd) (s : Stt) : Prop where
  gb : GB b
  turn : 0 ≤ s.turn ∧ s.turn ≤ b.r.turns
  wea : 0 ≤ s.wea ∧ s.wea ≤ 2
  len : s.un.length ≤ 12
  un : ∀ u ∈ s.un, UnOk b u
  stk : stk b.r.stack s.un

theorem StOk.of {b : Brd} {s : Stt} (ho : b.Ok) (h : (okBrd b && okSt b s) = true) : StOk b s := by
  simp only [okSt, Bool.and_eq_true] at h
  obtain ⟨h0, ⟨⟨⟨h1, h2⟩, h3⟩, h4⟩, h5⟩ := h
  have g := GB.of ho h0
  exact ⟨g, of_decide_eq_true h1, of_decide_eq_true h2, of_decide_eq_true h3, fun u hu => UnOk.of g (List.all_eq_true.1 h4 u hu), of_decide_eq_true h5⟩

theorem StOk.side {b : Brd} {s : Stt} (h : StOk b s) {k : Nat} (hk : k < s.un.length) : (s.un.getD k Unt.d).side = 0 ∨ (s.un.getD k Unt.d).side = 1 := by
  refine (h.un _ ?_).side
  have := getD_memT (l := s.un) (d := Unt.d) (i := (k : Int)) (by omega) (by omega)
  rwa [Int.toNat_natCast] at this

theorem ownR_spec (i : Int) (us : List Unt) : ((∀ k, k < us.length → (us.getD k Unt.d).at' ≠ i) ∧ ownR i us = -1) ∨ ∃ k, k < us.length ∧ (us.getD k Unt.d).at' = i ∧ (us.getD k Unt.d).side = ownR i us := by
  induction us with
  | nil => exact .inl ⟨fun k hk => by simp at hk, rfl⟩
  | cons u l ih =>
    by_cases e : u.at' = i
    · exact .inr ⟨0, by simp, by simpa using e, by rw [ownR, if_pos (by simpa using e)]; simp⟩
    · rw [ownR, if_neg (by simpa using e)]
      rcases ih with ⟨h1, h2⟩ | ⟨k, h1, h2, h3⟩
      · refine .inl ⟨fun k hk => ?_, h2⟩
        cases k with
        | zero => simpa using e
        | succ k => simpa using h1 k (by simpa using hk)
      · exact .inr ⟨k + 1, by simpa using h1, by simpa using h2, by simpa using h3⟩

theorem StOk.own {b : Brd} {s : Stt} (h : StOk b s) (i : Int) : ownR i s.un = -1 ∨ ownR i s.un = 0 ∨ ownR i s.un = 1 := by
  rcases ownR_spec i s.un with ⟨_, e⟩ | ⟨k, h1, _, h3⟩
  · exact .inl e
  · have := h.side h1
    omega

/-- the numbers below n that are so -/
def selN (p : Int → Bool) : Nat → List Int
  | 0 => []
  | n + 1 => if p (n : Int) = true then selN p n ++ [(n : Int)] else selN p n

theorem selN_le (p : Int → Bool) (n : Nat) : (selN p n).length ≤ n := by
  induction n with
  | zero => simp [selN]
  | succ n ih =>
    unfold selN
    split
    · rw [List.length_append]; simp; omega
    · omega

/-- y is the best of the first t places: none if -1 -/
def bestI (L : List Int) (D : List Bool) (y t : Int) : Prop :=
  (y = -1 ∧ ∀ j : Nat, (j : Int) < t → D.getD j false = false → L.getD j 0 < 0) ∨
  (0 ≤ y ∧ y < t ∧ D.getD y.toNat false = false ∧ 0 ≤ L.getD y.toNat 0 ∧ ∀ j : Nat, (j : Int) < t → D.getD j false = false → 0 ≤ L.getD j 0 → L.getD y.toNat 0 ≤ L.getD j 0)

theorem bestI.take {L : List Int} {D : List Bool} {y t : Int} (h : bestI L D y t) (h0 : 0 ≤ t) (h1 : D.getD t.toNat false = false) (h2 : L.getD t.toNat 0 ≥ 0) (h3 : y < 0 ∨ L.getD t.toNat 0 < L.getD y.toNat 0) : bestI L D t (t + 1) := by
  refine .inr ⟨h0, by omega, h1, h2, fun j hj hD hp => ?_⟩
  by_cases e : (j : Int) = t
  · rw [show t.toNat = j by omega]; exact Int.le_refl _
  · rcases h with h | ⟨a, _, _, _, c⟩
    · have := h.2 j (by omega) hD; omega
    · have := c j (by omega) hD hp
      omega

theorem Cnd_e {c c' : Bool} {A B : Prop} (e : c = c') (h : Cnd c' A B) : Cnd c A B := e ▸ h

theorem F_mSizeB (b : Brd) (h : GB b) : Fun E0 64 [.agg b.m.cs] [] (.v (vI b.m.ter.length)) [] [] := by
  rw [h.n]; exact F_mSize b.m h.wh

abbrev Hx : Type := Int × Int

abbrev hxC (p : Hx) : List Cell := [cI p.1, cI p.2]

abbrev rwH (l : List Hx) : Row := ⟨false, 2, l.length, fun i j => nth (hxC (l.getD i (0, 0))) j⟩

abbrev rwHH (l : List (List Hx)) : Row := ⟨true, 1, l.length, fun i _ => .fr 2 (l.getD i []).length fun a c => nth (hxC ((l.getD i []).getD a (0, 0))) c⟩

abbrev rwLL (l : List (List Int)) : Row := ⟨true, 1, l.length, fun i _ => .fr 1 (l.getD i []).length fun a _ => cI ((l.getD i []).getD a 0)⟩

theorem lt2 {p : Nat → Prop} (h0 : p 0) (h1 : p 1) : ∀ j, j < 2 → p j := by
  intro j hj
  match j, hj with
  | 0, _ => exact h0
  | 1, _ => exact h1

theorem rwH_no (l : List Hx) : NoRo (rwH l) := fun i j _ hj => lt2 (p := fun j => match nth (hxC (l.getD i (0, 0))) j with
  | .fr sz n g => ∀ i' j', i' < n → j' < sz → (g i' j').noRo = true
  | c => c.noRo = true) rfl rfl j hj

theorem rwHH_no (l : List (List Hx)) : NoRo (rwHH l) := fun i _ _ _ i' j' _ hj => lt2 (p := fun j => (nth (hxC ((l.getD i []).getD i' (0, 0))) j).noRo = true) rfl rfl j' hj

theorem rwLL_no (l : List (List Int)) : NoRo (rwLL l) := fun _ _ _ _ _ _ _ _ => rfl

theorem rwH_nil (g : Nat → Nat → Cell) : RowEq ⟨false, 2, 0, g⟩ (rwH []) := ⟨rfl, rfl, rfl, fun i j hi _ => by simp at hi⟩

theorem rwHH_nil (g : Nat → Nat → Cell) : RowEq ⟨true, 1, 0, g⟩ (rwHH []) := ⟨rfl, rfl, rfl, fun i j hi _ => by simp at hi⟩

theorem rwLL_nil (g : Nat → Nat → Cell) : RowEq ⟨true, 1, 0, g⟩ (rwLL []) := ⟨rfl, rfl, rfl, fun i j hi _ => by simp at hi⟩

theorem getD_app {α : Type} (l : List α) (x d : α) (i : Nat) (hi : i < l.length + 1) : (l ++ [x]).getD i d = if i < l.length then l.getD i d else x := by
  rw [List.getD_eq_getElem?_getD, List.getD_eq_getElem?_getD]
  split
  · rename_i h; rw [List.getElem?_append_left h]
  · rename_i h
    rw [List.getElem?_append_right (by omega), show i - l.length = 0 by omega]; rfl

theorem app_get (l i : Nat) (f g : Nat → Nat → Cell) (j : Nat) : (bif Nat.blt i l then f i j else g (i - l) j) = if i < l then f i j else g (i - l) j := by
  by_cases e : i < l
  · have : Nat.blt i l = true := by simpa [Nat.blt_eq] using e
    rw [this, if_pos e]; rfl
  · have : Nat.blt i l = false := by
      rw [Bool.eq_false_iff]; intro h; exact e (by simpa [Nat.blt_eq] using h)
    rw [this, if_neg e]; rfl

theorem rwH_app (l : List Hx) (p : Hx) (g : Nat → Nat → Cell) (h : ∀ j, j < 2 → g 0 j = nth (hxC p) j) : RowEq (appRow (rwH l) 1 g) (rwH (l ++ [p])) := by
  refine ⟨rfl, rfl, by simp [appRow], fun i j hi hj => ?_⟩
  have hi : i < l.length + 1 := hi
  show (bif Nat.blt i l.length then nth (hxC (l.getD i (0, 0))) j else g (i - l.length) j) = nth (hxC ((l ++ [p]).getD i (0, 0))) j
  rw [app_get l.length i (fun i j => nth (hxC (l.getD i (0, 0))) j) g j, getD_app l p (0, 0) i hi]
  split
  · rfl
  · rw [show i - l.length = 0 by omega]; exact h j hj

theorem rwHH_app (L : List (List Hx)) (l : List Hx) (g : Nat → Nat → Cell) (h : g 0 0 = .fr 2 l.length fun a c => nth (hxC (l.getD a (0, 0))) c) : RowEq (appRow (rwHH L) 1 g) (rwHH (L ++ [l])) := by
  refine ⟨rfl, rfl, by simp [appRow], fun i j hi hj => ?_⟩
  have hj : j < 1 := hj
  obtain rfl : j = 0 := by omega
  have hi : i < L.length + 1 := hi
  show (bif Nat.blt i L.length then Cell.fr 2 (L.getD i []).length (fun a c => nth (hxC ((L.getD i []).getD a (0, 0))) c) else g (i - L.length) 0) = Cell.fr 2 ((L ++ [l]).getD i []).length (fun a c => nth (hxC (((L ++ [l]).getD i []).getD a (0, 0))) c)
  rw [app_get L.length i (fun i _ => Cell.fr 2 (L.getD i []).length fun a c => nth (hxC ((L.getD i []).getD a (0, 0))) c) g 0, getD_app L l [] i hi]
  split
  · rfl
  · rw [show i - L.length = 0 by omega]; exact h

theorem rwLL_app (L : List (List Int)) (l : List Int) (g : Nat → Nat → Cell) (h : g 0 0 = .fr 1 l.length fun a _ => cI (l.getD a 0)) : RowEq (appRow (rwLL L) 1 g) (rwLL (L ++ [l])) := by
  refine ⟨rfl, rfl, by simp [appRow], fun i j hi hj => ?_⟩
  have hj : j < 1 := hj
  obtain rfl : j = 0 := by omega
  have hi : i < L.length + 1 := hi
  show (bif Nat.blt i L.length then Cell.fr 1 (L.getD i []).length (fun a _ => cI ((L.getD i []).getD a 0)) else g (i - L.length) 0) = Cell.fr 1 ((L ++ [l]).getD i []).length (fun a _ => cI (((L ++ [l]).getD i []).getD a 0))
  rw [app_get L.length i (fun i _ => Cell.fr 1 (L.getD i []).length fun a _ => cI ((L.getD i []).getD a 0)) g 0, getD_app L l [] i hi]
  split
  · rfl
  · rw [show i - L.length = 0 by omega]; exact h

/-! ### distances -/
def abz (n : Int) : Int := if n < 0 then -n else n

theorem F_l1Abs (n : Int) (hn : -1000000 ≤ n ∧ n ≤ 1000000) : Fun E0 148 [vI n] [] (.v (vI (abz n))) [] [] := by
  refine Fun_of_xc k148 rfl rfl (fun k q h => by cases h) ?_
  ((conv=>whnf);repeat((first|refine Ct ‹_› ?_|refine Cf ‹_› ?_|refine Ct rfl ?_|refine Cf rfl ?_|refine Bi rfl ?_|refine Bz rfl ?_|refine Lr ?_);conv=>whnf))
  refine CallQ_eq (show _ = [vI n, vI (-n)] by rw [wrapI (by omega), show (0 : Int) - n = -n by omega]) ?_
  (refine CallQ_some (F_l1Most n (-n)) ?_ ?_ ?_; rfl; rfl); ((conv=>whnf);repeat((first|refine Ct ‹_› ?_|refine Cf ‹_› ?_|refine Ct rfl ?_|refine Cf rfl ?_|refine Bi rfl ?_|refine Bz rfl ?_|refine Lr ?_);conv=>whnf))
  refine ⟨?_, rfl, rfl⟩
  have : max n (-n) = abz n := by unfold abz; split <;> omega
  rw [this]; rfl

theorem F_absOf (n : Int) (hn : -1000000 ≤ n ∧ n ≤ 1000000) : Fun E0 142 [vI n] [] (.v (vI (abz n))) [] [] := by
  refine Fun_of_xc k142 rfl rfl (fun k q h => by cases h) ?_
  ((conv=>whnf);repeat((first|refine Ct ‹_› ?_|refine Cf ‹_› ?_|refine Ct rfl ?_|refine Cf rfl ?_|refine Bi rfl ?_|refine Bz rfl ?_|refine Lr ?_);conv=>whnf))
  refine Cnd_i (fun g => ?_) (fun g => ?_)
  · have g := of_decide_eq_true g
    ((conv=>whnf);repeat((first|refine Ct ‹_› ?_|refine Cf ‹_› ?_|refine Ct rfl ?_|refine Cf rfl ?_|refine Bi rfl ?_|refine Bz rfl ?_|refine Lr ?_);conv=>whnf))
    refine ⟨?_, rfl, rfl⟩
    rw [wrapI (by omega), abz, if_pos g, show (0 : Int) - n = -n by omega]; rfl
  · have g := of_decide_eq_false g
    ((conv=>whnf);repeat((first|refine Ct ‹_› ?_|refine Cf ‹_› ?_|refine Ct rfl ?_|refine Cf rfl ?_|refine Bi rfl ?_|refine Bz rfl ?_|refine Lr ?_);conv=>whnf))
    rw [abz, if_neg g]
    exact ⟨rfl, rfl, rfl⟩

structure HxB (q r : Int) : Prop where
  q : 0 ≤ q ∧ q ≤ 9
  r : 0 ≤ r ∧ r ≤ 9

theorem dsH_b {aq ar bq br : Int} (ha : HxB aq ar) (hb : HxB bq br) : 0 ≤ dsH aq ar bq br ∧ dsH aq ar bq br ≤ 18 := by
  have h1 := ha.q; have h2 := ha.r; have h3 := hb.q; have h4 := hb.r
  unfold dsH
  rw [Int.tdiv_eq_ediv_of_nonneg (by split <;> split <;> split <;> omega)]
  split <;> split <;> split <;> omega

theorem tdiv2 {x : Int} : x.tdiv 2 = if x < 0 then -((-x) / 2) else x / 2 := by
  split
  · rw [show x = -(-x) by omega, Int.neg_tdiv, Int.tdiv_eq_ediv_of_nonneg (by omega)]; simp
  · rw [Int.tdiv_eq_ediv_of_nonneg (by omega)]

theorem F_hDistance (aq ar bq br : Int) (ha : HxB aq ar) (hb : HxB bq br) : Fun E0 131 [.agg [cI aq, cI ar], .agg [cI bq, cI br]] [] (.v (vI (dsH aq ar bq br))) [] [] := by
  have h1 := ha.q; have h2 := ha.r; have h3 := hb.q; have h4 := hb.r
  have a1 : -9 ≤ abz (bq - aq) ∧ abz (bq - aq) ≤ 9 := by unfold abz; split <;> omega
  have a2 : -9 ≤ abz (br - ar) ∧ abz (br - ar) ≤ 9 := by unfold abz; split <;> omega
  have a3 : -18 ≤ abz (bq - aq + (br - ar)) ∧ abz (bq - aq + (br - ar)) ≤ 18 := by unfold abz; split <;> omega
  refine Fun_of_xc k131 rfl rfl (fun k q h => by cases h) ?_
  ((conv=>whnf);repeat((first|refine Ct ‹_› ?_|refine Cf ‹_› ?_|refine Ct rfl ?_|refine Cf rfl ?_|refine Bi rfl ?_|refine Bz rfl ?_|refine Lr ?_);conv=>whnf))
  refine CallQ_eq (show _ = [vI (bq - aq)] by rw [wrapI (by omega)]) ?_
  (refine CallQ_some (F_l1Abs (bq - aq) (by omega)) ?_ ?_ ?_; rfl; rfl); ((conv=>whnf);repeat((first|refine Ct ‹_› ?_|refine Cf ‹_› ?_|refine Ct rfl ?_|refine Cf rfl ?_|refine Bi rfl ?_|refine Bz rfl ?_|refine Lr ?_);conv=>whnf))
  refine CallQ_eq (show _ = [vI (br - ar)] by rw [wrapI (by omega)]) ?_
  (refine CallQ_some (F_l1Abs (br - ar) (by omega)) ?_ ?_ ?_; rfl; rfl); ((conv=>whnf);repeat((first|refine Ct ‹_› ?_|refine Cf ‹_› ?_|refine Ct rfl ?_|refine Cf rfl ?_|refine Bi rfl ?_|refine Bz rfl ?_|refine Lr ?_);conv=>whnf))
  refine CallQ_eq (show _ = [vI (bq - aq + (br - ar))] by rw [wrapI (n := bq - aq) (by omega), wrapI (n := br - ar) (by omega), wrapI (by omega)]) ?_
  (refine CallQ_some (F_l1Abs (bq - aq + (br - ar)) (by omega)) ?_ ?_ ?_; rfl; rfl); ((conv=>whnf);repeat((first|refine Ct ‹_› ?_|refine Cf ‹_› ?_|refine Ct rfl ?_|refine Cf rfl ?_|refine Bi rfl ?_|refine Bz rfl ?_|refine Lr ?_);conv=>whnf))
  refine ⟨?_, rfl, rfl⟩
  rw [wrapI (n := abz (bq - aq) + abz (br - ar)) (by omega), wrapI (n := abz (bq - aq) + abz (br - ar) + abz (bq - aq + (br - ar))) (by omega), wrapI (by rw [tdiv2]; omega)]
  rfl

theorem F_distance (aq ar bq br : Int) (ha : HxB aq ar) (hb : HxB bq br) : Fun E0 112 [.agg [cI aq, cI ar], .agg [cI bq, cI br]] [] (.v (vI (dsH aq ar bq br))) [] [] := by
  have h1 := ha.q; have h2 := ha.r; have h3 := hb.q; have h4 := hb.r
  have a1 : -9 ≤ abz (bq - aq) ∧ abz (bq - aq) ≤ 9 := by unfold abz; split <;> omega
  have a2 : -9 ≤ abz (br - ar) ∧ abz (br - ar) ≤ 9 := by unfold abz; split <;> omega
  have a3 : -18 ≤ abz (bq - aq + (br - ar)) ∧ abz (bq - aq + (br - ar)) ≤ 18 := by unfold abz; split <;> omega
  refine Fun_of_xc k112 rfl rfl (fun k q h => by cases h) ?_
  ((conv=>whnf);repeat((first|refine Ct ‹_› ?_|refine Cf ‹_› ?_|refine Ct rfl ?_|refine Cf rfl ?_|refine Bi rfl ?_|refine Bz rfl ?_|refine Lr ?_);conv=>whnf))
  refine CallQ_eq (show _ = [vI (bq - aq)] by rw [wrapI (by omega)]) ?_
  (refine CallQ_some (F_absOf (bq - aq) (by omega)) ?_ ?_ ?_; rfl; rfl); ((conv=>whnf);repeat((first|refine Ct ‹_› ?_|refine Cf ‹_› ?_|refine Ct rfl ?_|refine Cf rfl ?_|refine Bi rfl ?_|refine Bz rfl ?_|refine Lr ?_);conv=>whnf))
  refine CallQ_eq (show _ = [vI (br - ar)] by rw [wrapI (by omega)]) ?_
  (refine CallQ_some (F_absOf (br - ar) (by omega)) ?_ ?_ ?_; rfl; rfl); ((conv=>whnf);repeat((first|refine Ct ‹_› ?_|refine Cf ‹_› ?_|refine Ct rfl ?_|refine Cf rfl ?_|refine Bi rfl ?_|refine Bz rfl ?_|refine Lr ?_);conv=>whnf))
  refine CallQ_eq (show _ = [vI (bq - aq + (br - ar))] by rw [wrapI (n := bq - aq) (by omega), wrapI (n := br - ar) (by omega), wrapI (by omega)]) ?_
  (refine CallQ_some (F_absOf (bq - aq + (br - ar)) (by omega)) ?_ ?_ ?_; rfl; rfl); ((conv=>whnf);repeat((first|refine Ct ‹_› ?_|refine Cf ‹_› ?_|refine Ct rfl ?_|refine Cf rfl ?_|refine Bi rfl ?_|refine Bz rfl ?_|refine Lr ?_);conv=>whnf))
  refine ⟨?_, rfl, rfl⟩
  rw [wrapI (n := abz (bq - aq) + abz (br - ar)) (by omega), wrapI (n := abz (bq - aq) + abz (br - ar) + abz (bq - aq + (br - ar))) (by omega), wrapI (by rw [tdiv2]; omega)]
  rfl

/-! ### points of a line -/
theorem mul_b {a c A C : Int} (ha : -A ≤ a ∧ a ≤ A) (hc : -C ≤ c ∧ c ≤ C) : -(A * C) ≤ a * c ∧ a * c ≤ A * C := by
  have hA : 0 ≤ A := by omega
  have hC : 0 ≤ C := by omega
  rcases Int.le_total 0 a with h | h <;> rcases Int.le_total 0 c with h' | h'
  · have := Int.mul_le_mul ha.2 hc.2 h' hA
    have := Int.mul_nonneg h h'
    omega
  · have := Int.mul_le_mul ha.2 (show -c ≤ C by omega) (by omega) hA
    have := Int.mul_nonneg h (show 0 ≤ -c by omega)
    rw [Int.mul_neg] at *
    omega
  · have := Int.mul_le_mul (show -a ≤ A by omega) hc.2 h' hA
    have := Int.mul_nonneg (show 0 ≤ -a by omega) h'
    rw [Int.neg_mul] at *
    omega
  · have := Int.mul_le_mul (show -a ≤ A by omega) (show -c ≤ C by omega) (by omega) hA
    have := Int.mul_nonneg (show 0 ≤ -a by omega) (show 0 ≤ -c by omega)
    rw [Int.neg_mul_neg] at *
    omega

structure PtB (q r n : Int) : Prop where
  n : 1 ≤ n ∧ n ≤ 18
  q : 0 ≤ q ∧ q ≤ 1000
  r : 0 ≤ r ∧ r ≤ 1000

theorem dm {q n : Int} (hq : 0 ≤ q ∧ q ≤ 1000) (hn : 1 ≤ n) : n * q.tdiv n + q.tmod n = q ∧ (0 ≤ q.tdiv n ∧ q.tdiv n ≤ 1000) ∧ 0 ≤ q.tmod n ∧ q.tmod n < n := by
  have h := tdiv_b (i := q) (w := n) hq.1 (by omega) hn
  exact ⟨Int.mul_tdiv_add_tmod q n, by omega, h.2.2.1, h.2.2.2⟩

/-- the nearest places -/
def sh (q r n : Int) (p : Hx) : Hx := (q.tdiv n + p.1, r.tdiv n + p.2)

def ptL (q r n : Int) : List Hx := (spOff n (q.tmod n) (r.tmod n)).map (sh q r n)

theorem F_floorDiv (q n : Int) (hq : 0 ≤ q ∧ q ≤ 1000) (hn : 1 ≤ n) : Fun E0 163 [vI q, vI n] [] (.v (vI (q.tdiv n))) [] [] := by
  obtain ⟨_, h2, h3, _⟩ := dm hq hn
  refine Fun_of_xc k163 rfl rfl (fun k q h => by cases h) ?_
  ((conv=>whnf);repeat((first|refine Ct ‹_› ?_|refine Cf ‹_› ?_|refine Ct rfl ?_|refine Cf rfl ?_|refine Bi rfl ?_|refine Bz rfl ?_|refine Lr ?_);conv=>whnf))
  refine Bnd_i (by omega) ?_
  ((conv=>whnf);repeat((first|refine Ct ‹_› ?_|refine Cf ‹_› ?_|refine Ct rfl ?_|refine Cf rfl ?_|refine Bi rfl ?_|refine Bz rfl ?_|refine Lr ?_);conv=>whnf))
  refine Bnd_i (by omega) ?_
  ((conv=>whnf);repeat((first|refine Ct ‹_› ?_|refine Cf ‹_› ?_|refine Ct rfl ?_|refine Cf rfl ?_|refine Bi rfl ?_|refine Bz rfl ?_|refine Lr ?_);conv=>whnf))
  refine Cnd_f (decide_eq_false (by omega)) ?_
  ((conv=>whnf);repeat((first|refine Ct ‹_› ?_|refine Cf ‹_› ?_|refine Ct rfl ?_|refine Cf rfl ?_|refine Bi rfl ?_|refine Bz rfl ?_|refine Lr ?_);conv=>whnf))
  refine ⟨?_, rfl, rfl⟩
  rw [wrapI (by omega)]; rfl

theorem F_hNear (q n : Int) (hq : 0 ≤ q ∧ q ≤ 1000) (hn : 1 ≤ n ∧ n ≤ 18) : Fun E0 162 [vI q, vI n] [] (.v (.one (.own 0 ((hnOff n (q.tmod n)).map (q.tdiv n + ·)).length))) [(0, rwI ((hnOff n (q.tmod n)).map (q.tdiv n + ·)))] [] := by
  obtain ⟨h1, h2, h3, h4⟩ := dm hq hn.1
  have hmul : q.tdiv n * n = q - q.tmod n := by rw [Int.mul_comm]; omega
  have e0 : IntKind.i64.wrap (2 * IntKind.i64.wrap (q - IntKind.i64.wrap (IntKind.i64.wrap (q.tdiv n) * n))) = 2 * q.tmod n := by
    rw [wrapI (n := q.tdiv n) (by omega), hmul, wrapI (n := q - q.tmod n) (by omega), show q - (q - q.tmod n) = q.tmod n by omega, wrapI (n := q.tmod n) (by omega), wrapI (by omega)]
  refine Fun_of_xc k162 rfl rfl (nrC (rwI_no _) nrN) ?_
  ((conv=>whnf);repeat((first|refine Ct ‹_› ?_|refine Cf ‹_› ?_|refine Ct rfl ?_|refine Cf rfl ?_|refine Bi rfl ?_|refine Bz rfl ?_|refine Lr ?_);conv=>whnf))
  refine Rw_i (rwI []) (rwI_nil _) ?_
  ((conv=>whnf);repeat((first|refine Ct ‹_› ?_|refine Cf ‹_› ?_|refine Ct rfl ?_|refine Cf rfl ?_|refine Bi rfl ?_|refine Bz rfl ?_|refine Lr ?_);conv=>whnf))
  refine Bnd_i (by omega) ?_
  ((conv=>whnf);repeat((first|refine Ct ‹_› ?_|refine Cf ‹_› ?_|refine Ct rfl ?_|refine Cf rfl ?_|refine Bi rfl ?_|refine Bz rfl ?_|refine Lr ?_);conv=>whnf))
  refine Bnd_i (by omega) ?_
  ((conv=>whnf);repeat((first|refine Ct ‹_› ?_|refine Cf ‹_› ?_|refine Ct rfl ?_|refine Cf rfl ?_|refine Bi rfl ?_|refine Bz rfl ?_|refine Lr ?_);conv=>whnf))
  refine Cnd_f (decide_eq_false (by omega)) ?_
  ((conv=>whnf);repeat((first|refine Ct ‹_› ?_|refine Cf ‹_› ?_|refine Ct rfl ?_|refine Cf rfl ?_|refine Bi rfl ?_|refine Bz rfl ?_|refine Lr ?_);conv=>whnf))
  refine Cnd_e (c' := decide (2 * q.tmod n < n)) (by rw [e0]) ?_
  refine Cnd_i (fun g => ?_) (fun g => ?_)
  · have g := of_decide_eq_true g
    ((conv=>whnf);repeat((first|refine Ct ‹_› ?_|refine Cf ‹_› ?_|refine Ct rfl ?_|refine Cf rfl ?_|refine Bi rfl ?_|refine Bz rfl ?_|refine Lr ?_);conv=>whnf))
    refine Rw_i (rwI [q.tdiv n]) ⟨rfl, rfl, rfl, fun i j hi hj => ?_⟩ ?_
    · have hi : i < 1 := hi
      have hj : j < 1 := hj
      obtain rfl : i = 0 := by omega
      obtain rfl : j = 0 := by omega
      show cI (IntKind.i64.wrap (q.tdiv n)) = cI (q.tdiv n)
      rw [wrapI (by omega)]
    ((conv=>whnf);repeat((first|refine Ct ‹_› ?_|refine Cf ‹_› ?_|refine Ct rfl ?_|refine Cf rfl ?_|refine Bi rfl ?_|refine Bz rfl ?_|refine Lr ?_);conv=>whnf))
    rw [hnOff, if_pos g]
    show _ ∧ _
    rw [show ([0] : List Int).map (q.tdiv n + ·) = [q.tdiv n] by simp]
    exact ⟨rfl, rfl, rfl⟩
  have g := of_decide_eq_false g
  ((conv=>whnf);repeat((first|refine Ct ‹_› ?_|refine Cf ‹_› ?_|refine Ct rfl ?_|refine Cf rfl ?_|refine Bi rfl ?_|refine Bz rfl ?_|refine Lr ?_);conv=>whnf))
  refine Cnd_e (c' := decide (2 * q.tmod n > n)) (by rw [e0]) ?_
  refine Cnd_i (fun g2 => ?_) (fun g2 => ?_)
  · have g2 := of_decide_eq_true g2
    ((conv=>whnf);repeat((first|refine Ct ‹_› ?_|refine Cf ‹_› ?_|refine Ct rfl ?_|refine Cf rfl ?_|refine Bi rfl ?_|refine Bz rfl ?_|refine Lr ?_);conv=>whnf))
    refine Rw_i (rwI [q.tdiv n + 1]) ⟨rfl, rfl, rfl, fun i j hi hj => ?_⟩ ?_
    · have hi : i < 1 := hi
      have hj : j < 1 := hj
      obtain rfl : i = 0 := by omega
      obtain rfl : j = 0 := by omega
      show cI (IntKind.i64.wrap (IntKind.i64.wrap (q.tdiv n) + 1)) = cI (q.tdiv n + 1)
      rw [wrapI (n := q.tdiv n) (by omega), wrapI (by omega)]
    ((conv=>whnf);repeat((first|refine Ct ‹_› ?_|refine Cf ‹_› ?_|refine Ct rfl ?_|refine Cf rfl ?_|refine Bi rfl ?_|refine Bz rfl ?_|refine Lr ?_);conv=>whnf))
    rw [hnOff, if_neg g, if_pos g2]
    show _ ∧ _
    rw [show ([1] : List Int).map (q.tdiv n + ·) = [q.tdiv n + 1] by simp]
    exact ⟨rfl, rfl, rfl⟩
  · have g2 := of_decide_eq_false g2
    ((conv=>whnf);repeat((first|refine Ct ‹_› ?_|refine Cf ‹_› ?_|refine Ct rfl ?_|refine Cf rfl ?_|refine Bi rfl ?_|refine Bz rfl ?_|refine Lr ?_);conv=>whnf))
    refine Rw_i (rwI [q.tdiv n, q.tdiv n + 1]) ⟨rfl, rfl, rfl, fun i j hi hj => ?_⟩ ?_
    · have hi : i < 2 := hi
      have hj : j < 1 := hj
      obtain rfl : j = 0 := by omega
      revert i
      refine lt2 ?_ ?_
      · intro _
        show cI (IntKind.i64.wrap (q.tdiv n)) = cI (q.tdiv n)
        rw [wrapI (by omega)]
      · intro _
        show cI (IntKind.i64.wrap (IntKind.i64.wrap (q.tdiv n) + 1)) = cI (q.tdiv n + 1)
        rw [wrapI (n := q.tdiv n) (by omega), wrapI (by omega)]
    ((conv=>whnf);repeat((first|refine Ct ‹_› ?_|refine Cf ‹_› ?_|refine Ct rfl ?_|refine Cf rfl ?_|refine Bi rfl ?_|refine Bz rfl ?_|refine Lr ?_);conv=>whnf))
    rw [hnOff, if_neg g, if_neg g2]
    show _ ∧ _
    rw [show ([0, 1] : List Int).map (q.tdiv n + ·) = [q.tdiv n, q.tdiv n + 1] by simp]
    exact ⟨rfl, rfl, rfl⟩

theorem hnOff_len (n f : Int) : (hnOff n f).length ≤ 2 := by unfold hnOff; split <;> (try split) <;> simp

theorem hnOff_b {n f x : Int} (h : x ∈ hnOff n f) : 0 ≤ x ∧ x ≤ 1 := by
  unfold hnOff at h
  split at h
  · simp at h; omega
  · split at h <;> simp at h <;> omega

theorem take_appI {l : List Int} {t : Int} (h0 : 0 ≤ t) (h1 : t < l.length) : l.take (t + 1).toNat = l.take t.toNat ++ [l.getD t.toNat 0] := take_app h0 h1

/-- a map told element by element -/
theorem map_take {α β : Type} (f : α → β) (l : List α) (d : α) {t : Int} (h0 : 0 ≤ t) (h1 : t < l.length) : (l.take (t + 1).toNat).map f = (l.take t.toNat).map f ++ [f (l.getD t.toNat d)] := by
  have : t.toNat < l.length := by omega
  rw [show (t + 1).toNat = t.toNat + 1 by omega, List.take_add_one, List.map_append]
  congr 1
  rw [List.getD_eq_getElem?_getD, List.getElem?_eq_getElem this]; rfl

/-- the point i of n of the line from a to b -/
def lnQ (a b i n : Int) : Int := a * n + (b - a) * i

theorem lnQ_b {a b i n : Int} (ha : 0 ≤ a ∧ a ≤ 9) (hb : 0 ≤ b ∧ b ≤ 9) (hi : 0 ≤ i ∧ i ≤ n) (hn : n ≤ 18) : 0 ≤ lnQ a b i n ∧ lnQ a b i n ≤ 162 := by
  have e : lnQ a b i n = a * (n - i) + b * i := by
    unfold lnQ
    rw [Int.mul_sub, Int.sub_mul]; omega
  rw [e]
  have h1 := Int.mul_nonneg ha.1 (show 0 ≤ n - i by omega)
  have h2 := Int.mul_nonneg hb.1 hi.1
  have h3 := Int.mul_le_mul_of_nonneg_right ha.2 (show 0 ≤ n - i by omega)
  have h4 := Int.mul_le_mul_of_nonneg_right hb.2 hi.1
  omega

theorem tmod_mul {n x : Int} : (n * x).tmod n = 0 := Int.mul_tmod_right n x

/-- one of three coordinates of a point of a line is whole -/
theorem ln_whole {aq ar bq br i : Int} (ha : HxB aq ar) (hb : HxB bq br) (hi : 0 ≤ i ∧ i ≤ dsH aq ar bq br) (h1 : 1 ≤ dsH aq ar bq br) :
    (lnQ aq bq i (dsH aq ar bq br)).tmod (dsH aq ar bq br) = 0 ∨ (lnQ ar br i (dsH aq ar bq br)).tmod (dsH aq ar bq br) = 0 ∨ (lnQ aq bq i (dsH aq ar bq br)).tmod (dsH aq ar bq br) + (lnQ ar br i (dsH aq ar bq br)).tmod (dsH aq ar bq br) = dsH aq ar bq br := by
  have hb18 := dsH_b ha hb
  obtain ⟨⟨s, hs, hm⟩, _⟩ := dsH_max aq ar bq br
  have q1 := lnQ_b ha.q hb.q hi (by omega)
  have r1 := lnQ_b ha.r hb.r hi (by omega)
  generalize hn : dsH aq ar bq br = n at *
  obtain ⟨e1, _, c1, c2⟩ := dm (q := lnQ aq bq i n) (n := n) (by omega) h1
  obtain ⟨e2, _, d1, d2⟩ := dm (q := lnQ ar br i n) (n := n) (by omega) h1
  rcases hm with hm | hm | hm
  · left
    have : lnQ aq bq i n = n * (aq + s * i) := by unfold lnQ; rw [hm, Int.mul_add, Int.mul_comm aq n, Int.mul_comm s n, Int.mul_assoc]
    rw [this]; exact tmod_mul
  · right; left
    have : lnQ ar br i n = n * (ar + s * i) := by unfold lnQ; rw [hm, Int.mul_add, Int.mul_comm ar n, Int.mul_comm s n, Int.mul_assoc]
    rw [this]; exact tmod_mul
  · have e3 : lnQ aq bq i n + lnQ ar br i n = n * (aq + ar + s * i) := by
      have : (bq - aq) * i + (br - ar) * i = n * (s * i) := by rw [← Int.add_mul, hm, Int.mul_comm s n, Int.mul_assoc]
      unfold lnQ
      rw [Int.mul_add, Int.mul_add, Int.mul_comm n aq, Int.mul_comm n ar]; omega
    have e4 : (lnQ aq bq i n).tmod n + (lnQ ar br i n).tmod n = n * (aq + ar + s * i - (lnQ aq bq i n).tdiv n - (lnQ ar br i n).tdiv n) := by
      rw [Int.mul_sub, Int.mul_sub]; omega
    generalize aq + ar + s * i - (lnQ aq bq i n).tdiv n - (lnQ ar br i n).tdiv n = z at e4
    rcases Int.lt_trichotomy z 0 with h | h | h
    · have : n * z ≤ n * (-1) := Int.mul_le_mul_of_nonneg_left (by omega) (by omega)
      omega
    · subst h; omega
    · by_cases h2 : z = 1
      · subst h2; right; right; omega
      · have : n * 2 ≤ n * z := Int.mul_le_mul_of_nonneg_left (by omega) (by omega)
        omega

def lcL (aq ar bq br i : Int) : List Hx := ptL (lnQ aq bq i (dsH aq ar bq br)) (lnQ ar br i (dsH aq ar bq br)) (dsH aq ar bq br)

theorem ptL_len (q r n : Int) : (ptL q r n).length ≤ 2 := by
  unfold ptL spOff
  rw [List.length_map]
  split <;> rw [List.length_map] <;> exact hnOff_len _ _

theorem ptL_q0 {q r n : Int} (h : q.tmod n = 0) : ptL q r n = ((hnOff n (r.tmod n)).map (r.tdiv n + ·)).map fun y => (q.tdiv n, y) := by
  unfold ptL spOff
  rw [if_pos h, List.map_map, List.map_map]
  congr 1
  funext y
  show (q.tdiv n + 0, r.tdiv n + y) = (q.tdiv n, r.tdiv n + y)
  rw [Int.add_zero]

def spY (q r n x : Int) : Int := if r.tmod n = 0 then r.tdiv n else (q + r).tdiv n - x

theorem ptL_q1 {q r n : Int} (hq : 0 ≤ q ∧ q ≤ 1000) (hr : 0 ≤ r ∧ r ≤ 1000) (hn : 1 ≤ n) (h : q.tmod n ≠ 0) (h2 : r.tmod n = 0 ∨ q.tmod n + r.tmod n = n) : ptL q r n = ((hnOff n (q.tmod n)).map (q.tdiv n + ·)).map fun x => (x, spY q r n x) := by
  unfold ptL spOff
  rw [if_neg h, List.map_map, List.map_map]
  congr 1
  funext x
  show sh q r n (if r.tmod n = 0 then (x, 0) else (x, 1 - x)) = (q.tdiv n + x, spY q r n (q.tdiv n + x))
  unfold spY sh
  by_cases h3 : r.tmod n = 0
  · rw [if_pos h3, if_pos h3, Int.add_zero]
  · rw [if_neg h3, if_neg h3]
    obtain ⟨e1, e1b, e1c, e1d⟩ := dm hq hn
    obtain ⟨e2, e2b, e2c, e2d⟩ := dm hr hn
    have e3 : q + r = (q.tdiv n + r.tdiv n + 1) * n := by
      rw [Int.add_mul, Int.add_mul, Int.mul_comm _ n, Int.mul_comm (r.tdiv n) n]; omega
    have e4 : (q + r).tdiv n = q.tdiv n + r.tdiv n + 1 := by rw [e3, Int.mul_tdiv_cancel _ (by omega)]
    show (q.tdiv n + x, r.tdiv n + (1 - x)) = (q.tdiv n + x, (q + r).tdiv n - (q.tdiv n + x))
    rw [e4]
    congr 1
    omega

theorem lnQ_w {a b i n : Int} (ha : 0 ≤ a ∧ a ≤ 9) (hb : 0 ≤ b ∧ b ≤ 9) (hi : 0 ≤ i ∧ i ≤ n) (hn : n ≤ 18) : IntKind.i64.wrap (IntKind.i64.wrap (a * n) + IntKind.i64.wrap (IntKind.i64.wrap (b - a) * i)) = lnQ a b i n := by
  have h1 := mul_b (a := a) (c := n) (A := 9) (C := 18) (by omega) (by omega)
  have h2 := mul_b (a := b - a) (c := i) (A := 9) (C := 18) (by omega) (by omega)
  rw [wrapI (n := b - a) (by omega), wrapI (n := a * n) (by omega), wrapI (n := (b - a) * i) (by omega), wrapI (by omega)]
  rfl

theorem lnQ_w2 {a b i n : Int} (ha : 0 ≤ a ∧ a ≤ 9) (hb : 0 ≤ b ∧ b ≤ 9) (hi : 0 ≤ i ∧ i ≤ n) (hn : n ≤ 18) : IntKind.i64.wrap (IntKind.i64.wrap (a * n) + IntKind.i64.wrap (i * IntKind.i64.wrap (b - a))) = lnQ a b i n := by
  have h2 := lnQ_w ha hb hi hn
  rw [Int.mul_comm (IntKind.i64.wrap (b - a)) i] at h2
  exact h2

theorem F_hCells (aq ar bq br i n : Int) (ha : HxB aq ar) (hb : HxB bq br) (hn : n = dsH aq ar bq br) (h1 : 1 ≤ n) (hi : 0 ≤ i ∧ i ≤ n) :
    Fun E0 159 [.agg [cI aq, cI ar], .agg [cI bq, cI br], vI i, vI n] [] (.v (.one (.own 0 (lcL aq ar bq br i).length))) [(0, rwH (lcL aq ar bq br i))] [] := by
  have hb18 := dsH_b ha hb
  have hw := ln_whole ha hb (i := i) (by omega) (by omega)
  have q1 := lnQ_b ha.q hb.q hi (by omega)
  have r1 := lnQ_b ha.r hb.r hi (by omega)
  have wq := lnQ_w ha.q hb.q hi (by omega)
  have wr := lnQ_w ha.r hb.r hi (by omega)
  unfold lcL
  rw [← hn] at hw hb18 ⊢
  clear hn
  refine Fun_of_xc k159 rfl rfl (nrC (rwH_no _) nrN) ?_
  ((conv=>whnf);repeat((first|refine Ct ‹_› ?_|refine Cf ‹_› ?_|refine Ct rfl ?_|refine Cf rfl ?_|refine Bi rfl ?_|refine Bz rfl ?_|refine Lr ?_);conv=>whnf))
  refine Rw_i (rwH []) (rwH_nil _) ?_
  ((conv=>whnf);repeat((first|refine Ct ‹_› ?_|refine Cf ‹_› ?_|refine Ct rfl ?_|refine Cf rfl ?_|refine Bi rfl ?_|refine Bz rfl ?_|refine Lr ?_);conv=>whnf))
  refine Rw_i (rwH []) (rwH_nil _) ?_
  ((conv=>whnf);repeat((first|refine Ct ‹_› ?_|refine Cf ‹_› ?_|refine Ct rfl ?_|refine Cf rfl ?_|refine Bi rfl ?_|refine Bz rfl ?_|refine Lr ?_);conv=>whnf))
  rw [wq, wr]
  generalize lnQ aq bq i n = q at *
  generalize lnQ ar br i n = r at *
  clear wq wr
  have dq := dm (q := q) (n := n) (by omega) h1
  have dr := dm (q := r) (n := n) (by omega) h1
  ((conv=>whnf);repeat((first|refine Ct ‹_› ?_|refine Cf ‹_› ?_|refine Ct rfl ?_|refine Cf rfl ?_|refine Bi rfl ?_|refine Bz rfl ?_|refine Lr ?_);conv=>whnf))
  refine Bnd_i (by omega) ?_
  ((conv=>whnf);repeat((first|refine Ct ‹_› ?_|refine Cf ‹_› ?_|refine Ct rfl ?_|refine Cf rfl ?_|refine Bi rfl ?_|refine Bz rfl ?_|refine Lr ?_);conv=>whnf))
  refine Cnd_i (fun g => ?_) (fun g => ?_)
  · have g : q.tmod n = 0 := by
      simpa using g
    ((conv=>whnf);repeat((first|refine Ct ‹_› ?_|refine Cf ‹_› ?_|refine Ct rfl ?_|refine Cf rfl ?_|refine Bi rfl ?_|refine Bz rfl ?_|refine Lr ?_);conv=>whnf))
    (refine CallQ_some (F_hNear r n (by omega) (by omega)) ?_ ?_ ?_; rfl; rfl); ((conv=>whnf);repeat((first|refine Ct ‹_› ?_|refine Cf ‹_› ?_|refine Ct rfl ?_|refine Cf rfl ?_|refine Bi rfl ?_|refine Bz rfl ?_|refine Lr ?_);conv=>whnf))
    rw [ptL_q0 g]
    have hl := hnOff_len n (r.tmod n)
    generalize hnOff n (r.tmod n) = O at hl ⊢
    generalize hL : O.map (r.tdiv n + ·) = L at hl ⊢
    have hL : L.length ≤ 2 := by rw [← hL]; simpa using hl
    refine WLoop_v2 ⟨[3, 9, 11, 46, 47, 48], [], []⟩ (fun (t : Int) (out : List Hx) => hdS 96 [(3, .v (vI n)), (9, .v (vI q)), (11, .v (.one (.own (vkey 11) out.length))), (46, .v (.one (.own (vkey 46) L.length))), (47, .v (vI L.length)), (48, .v (vI t))] [] [(vkey 11, rwH out), (vkey 46, rwI L)])
      (fun m t out => 0 ≤ t ∧ t + m = L.length ∧ out = (L.take t.toNat).map fun y => (q.tdiv n, y)) L.length 0 [] rfl ⟨by omega, by omega, rfl⟩ ?_
    rintro m t out ⟨t1, t2, t3⟩
    have hol : out.length ≤ 2 := by rw [t3, List.length_map, List.length_take]; omega
    ((conv=>whnf);repeat((first|refine Ct ‹_› ?_|refine Cf ‹_› ?_|refine Ct rfl ?_|refine Cf rfl ?_|refine Bi rfl ?_|refine Bz rfl ?_|refine Lr ?_);conv=>whnf))
    refine Cnd_i (fun g => ?_) (fun g => ?_)
    · have ht := of_decide_eq_true g
      ((conv=>whnf);repeat((first|refine Ct ‹_› ?_|refine Cf ‹_› ?_|refine Ct rfl ?_|refine Cf rfl ?_|refine Bi rfl ?_|refine Bz rfl ?_|refine Lr ?_);conv=>whnf))
      refine Bnd_i (⟨t1, ht⟩) ?_; ((conv=>whnf);repeat((first|refine Ct ‹_› ?_|refine Cf ‹_› ?_|refine Ct rfl ?_|refine Cf rfl ?_|refine Bi rfl ?_|refine Bz rfl ?_|refine Lr ?_);conv=>whnf))
      refine Bnd_i (by omega) ?_
      ((conv=>whnf);repeat((first|refine Ct ‹_› ?_|refine Cf ‹_› ?_|refine Ct rfl ?_|refine Cf rfl ?_|refine Bi rfl ?_|refine Bz rfl ?_|refine Lr ?_);conv=>whnf))
      refine Rw_self ?_
      ((conv=>whnf);repeat((first|refine Ct ‹_› ?_|refine Cf ‹_› ?_|refine Ct rfl ?_|refine Cf rfl ?_|refine Bi rfl ?_|refine Bz rfl ?_|refine Lr ?_);conv=>whnf))
      refine Bnd_i ?_ ?_
      · show out.length + 1 < _
        omega
      ((conv=>whnf);repeat((first|refine Ct ‹_› ?_|refine Cf ‹_› ?_|refine Ct rfl ?_|refine Cf rfl ?_|refine Bi rfl ?_|refine Bz rfl ?_|refine Lr ?_);conv=>whnf))
      refine Rw_i (rwH (out ++ [(q.tdiv n, L.getD t.toNat 0)])) (rwH_app _ (q.tdiv n, L.getD t.toNat 0) _ (lt2 (by show cI _ = cI _; rw [wrapI (by omega)]) (by show cI _ = cI _; rfl))) ?_
      ((conv=>whnf);repeat((first|refine Ct ‹_› ?_|refine Cf ‹_› ?_|refine Ct rfl ?_|refine Cf rfl ?_|refine Bi rfl ?_|refine Bz rfl ?_|refine Lr ?_);conv=>whnf))
      refine ⟨m - 1, t + 1, out ++ [(q.tdiv n, L.getD t.toNat 0)], ?_, by omega, by omega, by omega, ?_⟩
      · rw [wrapI (by omega)]; rfl
      · rw [map_take _ L 0 t1 ht, ← t3]
    · have ht := of_decide_eq_false g
      ((conv=>whnf);repeat((first|refine Ct ‹_› ?_|refine Cf ‹_› ?_|refine Ct rfl ?_|refine Cf rfl ?_|refine Bi rfl ?_|refine Bz rfl ?_|refine Lr ?_);conv=>whnf))
      rw [t3, show t.toNat = L.length by omega, List.take_length]
      exact ⟨rfl, rfl, rfl⟩
  have g : q.tmod n ≠ 0 := by
    simpa using g
  ((conv=>whnf);repeat((first|refine Ct ‹_› ?_|refine Cf ‹_› ?_|refine Ct rfl ?_|refine Cf rfl ?_|refine Bi rfl ?_|refine Bz rfl ?_|refine Lr ?_);conv=>whnf))
  (refine CallQ_some (F_hNear q n (by omega) (by omega)) ?_ ?_ ?_; rfl; rfl); ((conv=>whnf);repeat((first|refine Ct ‹_› ?_|refine Cf ‹_› ?_|refine Ct rfl ?_|refine Cf rfl ?_|refine Bi rfl ?_|refine Bz rfl ?_|refine Lr ?_);conv=>whnf))
  rw [ptL_q1 (by omega) (by omega) h1 g (by omega)]
  have hl := hnOff_len n (q.tmod n)
  have hLb : ∀ x ∈ (hnOff n (q.tmod n)).map (q.tdiv n + ·), 0 ≤ x ∧ x ≤ 1001 := by
    intro x hx
    obtain ⟨y, hy, rfl⟩ := List.mem_map.1 hx
    have := hnOff_b hy
    omega
  generalize hnOff n (q.tmod n) = O at hl hLb ⊢
  generalize hL : O.map (q.tdiv n + ·) = L at hl hLb ⊢
  have hL : L.length ≤ 2 := by rw [← hL]; simpa using hl
  have dqr := dm (q := q + r) (n := n) (by omega) h1
  refine WLoop_v2 ⟨[3, 9, 10, 11, 64, 65, 66], [], []⟩ (fun (t : Int) (out : List Hx) => hdS 96 [(3, .v (vI n)), (9, .v (vI q)), (10, .v (vI r)), (11, .v (.one (.own (vkey 11) out.length))), (64, .v (.one (.own (vkey 64) L.length))), (65, .v (vI L.length)), (66, .v (vI t))] [] [(vkey 11, rwH out), (vkey 64, rwI L)])
    (fun m t out => 0 ≤ t ∧ t + m = L.length ∧ out = (L.take t.toNat).map fun x => (x, spY q r n x)) L.length 0 [] rfl ⟨by omega, by omega, rfl⟩ ?_
  rintro m t out ⟨t1, t2, t3⟩
  have hol : out.length ≤ 2 := by rw [t3, List.length_map, List.length_take]; omega
  ((conv=>whnf);repeat((first|refine Ct ‹_› ?_|refine Cf ‹_› ?_|refine Ct rfl ?_|refine Cf rfl ?_|refine Bi rfl ?_|refine Bz rfl ?_|refine Lr ?_);conv=>whnf))
  refine Cnd_i (fun g => ?_) (fun g => ?_)
  · have ht := of_decide_eq_true g
    have hx := hLb _ (getD_mem t1 ht)
    ((conv=>whnf);repeat((first|refine Ct ‹_› ?_|refine Cf ‹_› ?_|refine Ct rfl ?_|refine Cf rfl ?_|refine Bi rfl ?_|refine Bz rfl ?_|refine Lr ?_);conv=>whnf))
    refine Bnd_i (⟨t1, ht⟩) ?_; ((conv=>whnf);repeat((first|refine Ct ‹_› ?_|refine Cf ‹_› ?_|refine Ct rfl ?_|refine Cf rfl ?_|refine Bi rfl ?_|refine Bz rfl ?_|refine Lr ?_);conv=>whnf))
    refine Bnd_i (by omega) ?_
    ((conv=>whnf);repeat((first|refine Ct ‹_› ?_|refine Cf ‹_› ?_|refine Ct rfl ?_|refine Cf rfl ?_|refine Bi rfl ?_|refine Bz rfl ?_|refine Lr ?_);conv=>whnf))
    refine Cnd_i (fun g3 => ?_) (fun g3 => ?_)
    · have d3 : r.tmod n = 0 := by
        simpa using g3
      ((conv=>whnf);repeat((first|refine Ct ‹_› ?_|refine Cf ‹_› ?_|refine Ct rfl ?_|refine Cf rfl ?_|refine Bi rfl ?_|refine Bz rfl ?_|refine Lr ?_);conv=>whnf))
      refine Bnd_i (by omega) ?_
      ((conv=>whnf);repeat((first|refine Ct ‹_› ?_|refine Cf ‹_› ?_|refine Ct rfl ?_|refine Cf rfl ?_|refine Bi rfl ?_|refine Bz rfl ?_|refine Lr ?_);conv=>whnf))
      refine Rw_self ?_
      ((conv=>whnf);repeat((first|refine Ct ‹_› ?_|refine Cf ‹_› ?_|refine Ct rfl ?_|refine Cf rfl ?_|refine Bi rfl ?_|refine Bz rfl ?_|refine Lr ?_);conv=>whnf))
      refine Bnd_i ?_ ?_
      · show out.length + 1 < _
        omega
      ((conv=>whnf);repeat((first|refine Ct ‹_› ?_|refine Cf ‹_› ?_|refine Ct rfl ?_|refine Cf rfl ?_|refine Bi rfl ?_|refine Bz rfl ?_|refine Lr ?_);conv=>whnf))
      refine Rw_i (rwH (out ++ [(L.getD t.toNat 0, spY q r n (L.getD t.toNat 0))])) (rwH_app _ (L.getD t.toNat 0, spY q r n (L.getD t.toNat 0)) _ (lt2 (by show cI _ = cI _; rfl) (by show cI _ = cI _; rw [spY, if_pos d3, wrapI (by omega)]))) ?_
      ((conv=>whnf);repeat((first|refine Ct ‹_› ?_|refine Cf ‹_› ?_|refine Ct rfl ?_|refine Cf rfl ?_|refine Bi rfl ?_|refine Bz rfl ?_|refine Lr ?_);conv=>whnf))
      refine ⟨m - 1, t + 1, out ++ [(L.getD t.toNat 0, spY q r n (L.getD t.toNat 0))], ?_, by omega, by omega, by omega, ?_⟩
      · rw [wrapI (by omega)]; rfl
      · rw [map_take _ L 0 t1 ht, ← t3]
    · have d3 : r.tmod n ≠ 0 := by
        simpa using g3
      ((conv=>whnf);repeat((first|refine Ct ‹_› ?_|refine Cf ‹_› ?_|refine Ct rfl ?_|refine Cf rfl ?_|refine Bi rfl ?_|refine Bz rfl ?_|refine Lr ?_);conv=>whnf))
      refine Bnd_i (by omega) ?_
      ((conv=>whnf);repeat((first|refine Ct ‹_› ?_|refine Cf ‹_› ?_|refine Ct rfl ?_|refine Cf rfl ?_|refine Bi rfl ?_|refine Bz rfl ?_|refine Lr ?_);conv=>whnf))
      refine Rw_self ?_
      ((conv=>whnf);repeat((first|refine Ct ‹_› ?_|refine Cf ‹_› ?_|refine Ct rfl ?_|refine Cf rfl ?_|refine Bi rfl ?_|refine Bz rfl ?_|refine Lr ?_);conv=>whnf))
      refine Bnd_i ?_ ?_
      · show out.length + 1 < _
        omega
      ((conv=>whnf);repeat((first|refine Ct ‹_› ?_|refine Cf ‹_› ?_|refine Ct rfl ?_|refine Cf rfl ?_|refine Bi rfl ?_|refine Bz rfl ?_|refine Lr ?_);conv=>whnf))
      refine Rw_i (rwH (out ++ [(L.getD t.toNat 0, spY q r n (L.getD t.toNat 0))])) (rwH_app _ (L.getD t.toNat 0, spY q r n (L.getD t.toNat 0)) _ (lt2 (by show cI _ = cI _; rfl) (by show cI _ = cI _; rw [spY, if_neg d3, wrapI (n := q + r) (by omega), wrapI (n := (q + r).tdiv n) (by omega), wrapI (by omega)]))) ?_
      ((conv=>whnf);repeat((first|refine Ct ‹_› ?_|refine Cf ‹_› ?_|refine Ct rfl ?_|refine Cf rfl ?_|refine Bi rfl ?_|refine Bz rfl ?_|refine Lr ?_);conv=>whnf))
      refine ⟨m - 1, t + 1, out ++ [(L.getD t.toNat 0, spY q r n (L.getD t.toNat 0))], ?_, by omega, by omega, by omega, ?_⟩
      · rw [wrapI (by omega)]; rfl
      · rw [map_take _ L 0 t1 ht, ← t3]
  · have ht := of_decide_eq_false g
    ((conv=>whnf);repeat((first|refine Ct ‹_› ?_|refine Cf ‹_› ?_|refine Ct rfl ?_|refine Cf rfl ?_|refine Bi rfl ?_|refine Bz rfl ?_|refine Lr ?_);conv=>whnf))
    rw [t3, show t.toNat = L.length by omega, List.take_length]
    exact ⟨rfl, rfl, rfl⟩

theorem far_w {q r n x y a c : Int} (hn : 1 ≤ n ∧ n ≤ 18) (hq : 0 ≤ q ∧ q ≤ 1000) (hr : 0 ≤ r ∧ r ≤ 1000) (ha : -1 ≤ a ∧ a ≤ 2) (hc : -1 ≤ c ∧ c ≤ 2) (hx : x = q.tdiv n + a) (hy : y = r.tdiv n + c) :
    IntKind.i64.wrap (IntKind.i64.wrap (IntKind.i64.wrap (IntKind.i64.wrap (IntKind.i64.wrap (n * x) - q) * IntKind.i64.wrap (IntKind.i64.wrap (n * x) - q)) + IntKind.i64.wrap (IntKind.i64.wrap (IntKind.i64.wrap (n * x) - q) * IntKind.i64.wrap (IntKind.i64.wrap (n * y) - r))) + IntKind.i64.wrap (IntKind.i64.wrap (IntKind.i64.wrap (n * y) - r) * IntKind.i64.wrap (IntKind.i64.wrap (n * y) - r))) = farO n (q.tmod n) (r.tmod n) a c := by
  obtain ⟨e1, e1b, e1c, e1d⟩ := dm hq hn.1
  obtain ⟨e2, e2b, e2c, e2d⟩ := dm hr hn.1
  have m1 := mul_b (a := n) (c := a) (A := 18) (C := 2) (by omega) (by omega)
  have m2 := mul_b (a := n) (c := c) (A := 18) (C := 2) (by omega) (by omega)
  have k1 : n * x = n * q.tdiv n + n * a := by rw [hx, Int.mul_add]
  have k2 : n * y = n * r.tdiv n + n * c := by rw [hy, Int.mul_add]
  have d1 : IntKind.i64.wrap (IntKind.i64.wrap (n * x) - q) = n * a - q.tmod n := by rw [wrapI (n := n * x) (by omega), wrapI (by omega)]; omega
  have d2 : IntKind.i64.wrap (IntKind.i64.wrap (n * y) - r) = n * c - r.tmod n := by rw [wrapI (n := n * y) (by omega), wrapI (by omega)]; omega
  rw [d1, d2]
  have p1 := mul_b (a := n * a - q.tmod n) (c := n * a - q.tmod n) (A := 54) (C := 54) (by omega) (by omega)
  have p2 := mul_b (a := n * a - q.tmod n) (c := n * c - r.tmod n) (A := 54) (C := 54) (by omega) (by omega)
  have p3 := mul_b (a := n * c - r.tmod n) (c := n * c - r.tmod n) (A := 54) (C := 54) (by omega) (by omega)
  unfold farO
  rw [wrapI (n := (n * a - q.tmod n) * (n * a - q.tmod n)) (by omega), wrapI (n := (n * a - q.tmod n) * (n * c - r.tmod n)) (by omega), wrapI (n := (n * c - r.tmod n) * (n * c - r.tmod n)) (by omega)]
  rw [wrapI (n := (n * a - q.tmod n) * (n * a - q.tmod n) + (n * a - q.tmod n) * (n * c - r.tmod n)) (by omega), wrapI (by omega)]

theorem F_nearestTo (q r n : Int) (hn : 1 ≤ n ∧ n ≤ 18) (hq : 0 ≤ q ∧ q ≤ 1000) (hr : 0 ≤ r ∧ r ≤ 1000) (hw : q.tmod n = 0 ∨ r.tmod n = 0 ∨ q.tmod n + r.tmod n = n) :
    Fun E0 161 [vI q, vI r, vI n] [] (.v (.one (.own 0 (ptL q r n).length))) [(0, rwH (ptL q r n))] [] := by
  obtain ⟨e1, e1b, e1c, e1d⟩ := dm hq hn.1
  obtain ⟨e2, e2b, e2c, e2d⟩ := dm hr hn.1
  refine Fun_of_xc k161 rfl rfl (nrC (rwH_no _) nrN) ?_
  ((conv=>whnf);repeat((first|refine Ct ‹_› ?_|refine Cf ‹_› ?_|refine Ct rfl ?_|refine Cf rfl ?_|refine Bi rfl ?_|refine Bz rfl ?_|refine Lr ?_);conv=>whnf))
  refine Rw_i (rwH []) (rwH_nil _) ?_
  ((conv=>whnf);repeat((first|refine Ct ‹_› ?_|refine Cf ‹_› ?_|refine Ct rfl ?_|refine Cf rfl ?_|refine Bi rfl ?_|refine Bz rfl ?_|refine Lr ?_);conv=>whnf))
  refine Rw_i (rwH []) (rwH_nil _) ?_
  ((conv=>whnf);repeat((first|refine Ct ‹_› ?_|refine Cf ‹_› ?_|refine Ct rfl ?_|refine Cf rfl ?_|refine Bi rfl ?_|refine Bz rfl ?_|refine Lr ?_);conv=>whnf))
  (refine CallQ_some (F_floorDiv q n hq hn.1) ?_ ?_ ?_; rfl; rfl); ((conv=>whnf);repeat((first|refine Ct ‹_› ?_|refine Cf ‹_› ?_|refine Ct rfl ?_|refine Cf rfl ?_|refine Bi rfl ?_|refine Bz rfl ?_|refine Lr ?_);conv=>whnf))
  refine WLoop_v3 ⟨[0, 1, 2, 7, 8, 9], [], []⟩ (fun (x y : Int) (out : List Hx) => hdS 80 [(0, .v (vI q)), (1, .v (vI r)), (2, .v (vI n)), (7, .v (.one (.own (vkey 7) out.length))), (8, .v (vI y)), (9, .v (vI x))] [] [(vkey 7, rwH out)])
    (fun m x y out => m ≤ 4 ∧ x = q.tdiv n - 1 + (4 - m : Int) ∧ out = (ngN n (q.tmod n) (r.tmod n) (4 * (4 - m))).1.map (sh q r n) ∧ y = (ngN n (q.tmod n) (r.tmod n) (4 * (4 - m))).2) 4 (q.tdiv n - 1) (-1) [] (by rw [wrapI (by omega)]; rfl) ⟨Nat.le_refl _, by omega, rfl, rfl⟩ ?_
  rintro m x y out ⟨m1, m2, m3, m4⟩
  have hol : out.length ≤ 16 := by have := ngN_le n (q.tmod n) (r.tmod n) (4 * (4 - m)); rw [m3, List.length_map]; omega
  ((conv=>whnf);repeat((first|refine Ct ‹_› ?_|refine Cf ‹_› ?_|refine Ct rfl ?_|refine Cf rfl ?_|refine Bi rfl ?_|refine Bz rfl ?_|refine Lr ?_);conv=>whnf))
  (refine CallQ_some (F_floorDiv q n hq hn.1) ?_ ?_ ?_; rfl; rfl); ((conv=>whnf);repeat((first|refine Ct ‹_› ?_|refine Cf ‹_› ?_|refine Ct rfl ?_|refine Cf rfl ?_|refine Bi rfl ?_|refine Bz rfl ?_|refine Lr ?_);conv=>whnf))
  refine Cnd_e (c' := decide (x ≤ q.tdiv n + 2)) (by rw [wrapI (by omega)]) ?_
  refine Cnd_i (fun g => ?_) (fun g => ?_)
  rotate_left
  · have g := of_decide_eq_false g
    obtain rfl : m = 0 := by omega
    ((conv=>whnf);repeat((first|refine Ct ‹_› ?_|refine Cf ‹_› ?_|refine Ct rfl ?_|refine Cf rfl ?_|refine Bi rfl ?_|refine Bz rfl ?_|refine Lr ?_);conv=>whnf))
    have e0 : out = ptL q r n := by rw [m3]; show List.map _ (ngN n (q.tmod n) (r.tmod n) 16).1 = _; rw [near_ok n _ _ hn ⟨e1c, e1d⟩ ⟨e2c, e2d⟩ hw]; rfl
    rw [e0]
    exact ⟨rfl, rfl, rfl⟩
  have hx := of_decide_eq_true g
  obtain ⟨m, rfl⟩ : ∃ m', m = m' + 1 := ⟨m - 1, by omega⟩
  ((conv=>whnf);repeat((first|refine Ct ‹_› ?_|refine Cf ‹_› ?_|refine Ct rfl ?_|refine Cf rfl ?_|refine Bi rfl ?_|refine Bz rfl ?_|refine Lr ?_);conv=>whnf))
  (refine CallQ_some (F_floorDiv r n hr hn.1) ?_ ?_ ?_; rfl; rfl); ((conv=>whnf);repeat((first|refine Ct ‹_› ?_|refine Cf ‹_› ?_|refine Ct rfl ?_|refine Cf rfl ?_|refine Bi rfl ?_|refine Bz rfl ?_|refine Lr ?_);conv=>whnf))
  refine WLoop_v3 ⟨[0, 1, 2, 7, 8, 9, 10], [], []⟩ (fun (z y : Int) (out : List Hx) => hdS 80 [(0, .v (vI q)), (1, .v (vI r)), (2, .v (vI n)), (7, .v (.one (.own (vkey 7) out.length))), (8, .v (vI y)), (9, .v (vI x)), (10, .v (vI z))] [] [(vkey 7, rwH out)])
    (fun l z y out => l ≤ 4 ∧ z = r.tdiv n - 1 + (4 - l : Int) ∧ out = (ngN n (q.tmod n) (r.tmod n) (4 * (3 - m) + (4 - l))).1.map (sh q r n) ∧ y = (ngN n (q.tmod n) (r.tmod n) (4 * (3 - m) + (4 - l))).2) 4 (r.tdiv n - 1) y out (by rw [wrapI (by omega)]; rfl) ⟨Nat.le_refl _, by omega, by rw [m3, show 4 * (4 - (m + 1)) = 4 * (3 - m) + (4 - 4) by omega], by rw [m4, show 4 * (4 - (m + 1)) = 4 * (3 - m) + (4 - 4) by omega]⟩ ?_
  clear m3 m4 hol y out
  rintro l z y out ⟨l1, l2, l3, l4⟩
  have hol : out.length ≤ 16 := by have := ngN_le n (q.tmod n) (r.tmod n) (4 * (3 - m) + (4 - l)); rw [l3, List.length_map]; omega
  ((conv=>whnf);repeat((first|refine Ct ‹_› ?_|refine Cf ‹_› ?_|refine Ct rfl ?_|refine Cf rfl ?_|refine Bi rfl ?_|refine Bz rfl ?_|refine Lr ?_);conv=>whnf))
  (refine CallQ_some (F_floorDiv r n hr hn.1) ?_ ?_ ?_; rfl; rfl); ((conv=>whnf);repeat((first|refine Ct ‹_› ?_|refine Cf ‹_› ?_|refine Ct rfl ?_|refine Cf rfl ?_|refine Bi rfl ?_|refine Bz rfl ?_|refine Lr ?_);conv=>whnf))
  refine Cnd_e (c' := decide (z ≤ r.tdiv n + 2)) (by rw [wrapI (by omega)]) ?_
  refine Cnd_i (fun g => ?_) (fun g => ?_)
  rotate_left
  · have g := of_decide_eq_false g
    obtain rfl : l = 0 := by omega
    ((conv=>whnf);repeat((first|refine Ct ‹_› ?_|refine Cf ‹_› ?_|refine Ct rfl ?_|refine Cf rfl ?_|refine Bi rfl ?_|refine Bz rfl ?_|refine Lr ?_);conv=>whnf))
    refine ⟨m, x + 1, y, out, ?_, by omega, by omega, by omega, by rw [l3, show 4 * (3 - m) + (4 - 0) = 4 * (4 - m) by omega], by rw [l4, show 4 * (3 - m) + (4 - 0) = 4 * (4 - m) by omega]⟩
    rw [wrapI (by omega)]; rfl
  have hz := of_decide_eq_true g
  obtain ⟨l, rfl⟩ : ∃ l', l = l' + 1 := ⟨l - 1, by omega⟩
  have hfar := far_w (x := x) (y := z) (a := 2 - m) (c := 2 - l) hn hq hr (by omega) (by omega) (by omega) (by omega)
  have hst : ngN n (q.tmod n) (r.tmod n) (4 * (3 - m) + (4 - l)) = ngStep n (q.tmod n) (r.tmod n) (ngN n (q.tmod n) (r.tmod n) (4 * (3 - m) + (4 - (l + 1)))) (2 - m) (2 - l) := by
    rw [show 4 * (3 - m) + (4 - l) = 4 * (3 - m) + (4 - (l + 1)) + 1 by omega, ngN]
    congr 1 <;> omega
  have hsh : sh q r n (2 - (m : Int), 2 - (l : Int)) = (x, z) := by
    show (q.tdiv n + (2 - (m : Int)), r.tdiv n + (2 - (l : Int))) = (x, z)
    rw [show q.tdiv n + (2 - (m : Int)) = x by omega, show r.tdiv n + (2 - (l : Int)) = z by omega]
  generalize ngN n (q.tmod n) (r.tmod n) (4 * (3 - m) + (4 - (l + 1))) = s at *
  obtain ⟨so, sl⟩ := s
  have l4 : y = sl := l4
  have l3 : out = so.map (sh q r n) := l3
  subst l4
  unfold ngStep at hst
  dsimp only at hst
  have hnxt : ∀ (out' : List Hx) (y' : Int), out' = (ngN n (q.tmod n) (r.tmod n) (4 * (3 - m) + (4 - l))).1.map (sh q r n) → y' = (ngN n (q.tmod n) (r.tmod n) (4 * (3 - m) + (4 - l))).2 → l < l + 1 ∧ l ≤ 4 ∧ z + 1 = r.tdiv n - 1 + (4 - l : Int) ∧ out' = (ngN n (q.tmod n) (r.tmod n) (4 * (3 - m) + (4 - l))).1.map (sh q r n) ∧ y' = (ngN n (q.tmod n) (r.tmod n) (4 * (3 - m) + (4 - l))).2 :=
    fun out' y' h1 h2 => ⟨by omega, by omega, by omega, h1, h2⟩
  generalize farO n (q.tmod n) (r.tmod n) (2 - m) (2 - l) = far at hfar hst
  ((conv=>whnf);repeat((first|refine Ct ‹_› ?_|refine Cf ‹_› ?_|refine Ct rfl ?_|refine Cf rfl ?_|refine Bi rfl ?_|refine Bz rfl ?_|refine Lr ?_);conv=>whnf))
  have hput : y < 0 ∨ far < y → True := fun _ => trivial
  refine Cnd_i (fun g5 => ?_) (fun g5 => ?_)
  · have d5 := of_decide_eq_true g5
    rw [if_pos (.inl d5)] at hst
    ((conv=>whnf);repeat((first|refine Ct ‹_› ?_|refine Cf ‹_› ?_|refine Ct rfl ?_|refine Cf rfl ?_|refine Bi rfl ?_|refine Bz rfl ?_|refine Lr ?_);conv=>whnf))
    refine Bnd_i (⟨by omega, by omega, by omega⟩) ?_; ((conv=>whnf);repeat((first|refine Ct ‹_› ?_|refine Cf ‹_› ?_|refine Ct rfl ?_|refine Cf rfl ?_|refine Bi rfl ?_|refine Bz rfl ?_|refine Lr ?_);conv=>whnf))
    refine Rw_i (rwH []) ⟨rfl, rfl, rfl, fun i j hi _ => absurd hi (Nat.not_lt_zero _)⟩ ?_
    ((conv=>whnf);repeat((first|refine Ct ‹_› ?_|refine Cf ‹_› ?_|refine Ct rfl ?_|refine Cf rfl ?_|refine Bi rfl ?_|refine Bz rfl ?_|refine Lr ?_);conv=>whnf))
    refine Cnd_t (by simp) ?_
    ((conv=>whnf);repeat((first|refine Ct ‹_› ?_|refine Cf ‹_› ?_|refine Ct rfl ?_|refine Cf rfl ?_|refine Bi rfl ?_|refine Bz rfl ?_|refine Lr ?_);conv=>whnf))
    refine Rw_self ?_
    ((conv=>whnf);repeat((first|refine Ct ‹_› ?_|refine Cf ‹_› ?_|refine Ct rfl ?_|refine Cf rfl ?_|refine Bi rfl ?_|refine Bz rfl ?_|refine Lr ?_);conv=>whnf))
    refine Bnd_i (by show 0 + 1 < _; omega) ?_
    ((conv=>whnf);repeat((first|refine Ct ‹_› ?_|refine Cf ‹_› ?_|refine Ct rfl ?_|refine Cf rfl ?_|refine Bi rfl ?_|refine Bz rfl ?_|refine Lr ?_);conv=>whnf))
    refine Rw_i (rwH [(x, z)]) (rwH_app [] (x, z) _ (lt2 rfl rfl)) ?_
    ((conv=>whnf);repeat((first|refine Ct ‹_› ?_|refine Cf ‹_› ?_|refine Ct rfl ?_|refine Cf rfl ?_|refine Bi rfl ?_|refine Bz rfl ?_|refine Lr ?_);conv=>whnf))
    refine ⟨l, z + 1, far, [(x, z)], ?_, hnxt _ _ (by rw [hst, List.map_singleton, hsh]) (by rw [hst])⟩
    rw [hfar, wrapI (n := z + 1) (by omega)]; rfl
  · have d5 := of_decide_eq_false g5
    ((conv=>whnf);repeat((first|refine Ct ‹_› ?_|refine Cf ‹_› ?_|refine Ct rfl ?_|refine Cf rfl ?_|refine Bi rfl ?_|refine Bz rfl ?_|refine Lr ?_);conv=>whnf))
    refine Cnd_e (c' := decide (far < y)) (by rw [hfar]) ?_
    refine Cnd_i (fun g6 => ?_) (fun g6 => ?_)
    · have d6 := of_decide_eq_true g6
      rw [if_pos (.inr d6)] at hst
      ((conv=>whnf);repeat((first|refine Ct ‹_› ?_|refine Cf ‹_› ?_|refine Ct rfl ?_|refine Cf rfl ?_|refine Bi rfl ?_|refine Bz rfl ?_|refine Lr ?_);conv=>whnf))
      refine Bnd_i (⟨by omega, by omega, by omega⟩) ?_; ((conv=>whnf);repeat((first|refine Ct ‹_› ?_|refine Cf ‹_› ?_|refine Ct rfl ?_|refine Cf rfl ?_|refine Bi rfl ?_|refine Bz rfl ?_|refine Lr ?_);conv=>whnf))
      refine Rw_i (rwH []) ⟨rfl, rfl, rfl, fun i j hi _ => absurd hi (Nat.not_lt_zero _)⟩ ?_
      ((conv=>whnf);repeat((first|refine Ct ‹_› ?_|refine Cf ‹_› ?_|refine Ct rfl ?_|refine Cf rfl ?_|refine Bi rfl ?_|refine Bz rfl ?_|refine Lr ?_);conv=>whnf))
      refine Cnd_t (by simp) ?_
      ((conv=>whnf);repeat((first|refine Ct ‹_› ?_|refine Cf ‹_› ?_|refine Ct rfl ?_|refine Cf rfl ?_|refine Bi rfl ?_|refine Bz rfl ?_|refine Lr ?_);conv=>whnf))
      refine Rw_self ?_
      ((conv=>whnf);repeat((first|refine Ct ‹_› ?_|refine Cf ‹_› ?_|refine Ct rfl ?_|refine Cf rfl ?_|refine Bi rfl ?_|refine Bz rfl ?_|refine Lr ?_);conv=>whnf))
      refine Bnd_i (by show 0 + 1 < _; omega) ?_
      ((conv=>whnf);repeat((first|refine Ct ‹_› ?_|refine Cf ‹_› ?_|refine Ct rfl ?_|refine Cf rfl ?_|refine Bi rfl ?_|refine Bz rfl ?_|refine Lr ?_);conv=>whnf))
      refine Rw_i (rwH [(x, z)]) (rwH_app [] (x, z) _ (lt2 rfl rfl)) ?_
      ((conv=>whnf);repeat((first|refine Ct ‹_› ?_|refine Cf ‹_› ?_|refine Ct rfl ?_|refine Cf rfl ?_|refine Bi rfl ?_|refine Bz rfl ?_|refine Lr ?_);conv=>whnf))
      refine ⟨l, z + 1, far, [(x, z)], ?_, hnxt _ _ (by rw [hst, List.map_singleton, hsh]) (by rw [hst])⟩
      rw [hfar, wrapI (n := z + 1) (by omega)]; rfl
    · have d6 := of_decide_eq_false g6
      rw [if_neg (by omega)] at hst
      ((conv=>whnf);repeat((first|refine Ct ‹_› ?_|refine Cf ‹_› ?_|refine Ct rfl ?_|refine Cf rfl ?_|refine Bi rfl ?_|refine Bz rfl ?_|refine Lr ?_);conv=>whnf))
      refine Cnd_e (c' := far == y) (by rw [hfar]) ?_
      refine Cnd_i (fun g7 => ?_) (fun g7 => ?_)
      · have d7 : far = y := by simpa using g7
        rw [if_pos d7] at hst
        ((conv=>whnf);repeat((first|refine Ct ‹_› ?_|refine Cf ‹_› ?_|refine Ct rfl ?_|refine Cf rfl ?_|refine Bi rfl ?_|refine Bz rfl ?_|refine Lr ?_);conv=>whnf))
        refine Rw_self ?_
        ((conv=>whnf);repeat((first|refine Ct ‹_› ?_|refine Cf ‹_› ?_|refine Ct rfl ?_|refine Cf rfl ?_|refine Bi rfl ?_|refine Bz rfl ?_|refine Lr ?_);conv=>whnf))
        refine Bnd_i ?_ ?_
        · show out.length + 1 < _
          omega
        ((conv=>whnf);repeat((first|refine Ct ‹_› ?_|refine Cf ‹_› ?_|refine Ct rfl ?_|refine Cf rfl ?_|refine Bi rfl ?_|refine Bz rfl ?_|refine Lr ?_);conv=>whnf))
        refine Rw_i (rwH (out ++ [(x, z)])) (rwH_app _ (x, z) _ (lt2 (by show cI _ = cI _; rfl) (by show cI _ = cI _; rfl))) ?_
        ((conv=>whnf);repeat((first|refine Ct ‹_› ?_|refine Cf ‹_› ?_|refine Ct rfl ?_|refine Cf rfl ?_|refine Bi rfl ?_|refine Bz rfl ?_|refine Lr ?_);conv=>whnf))
        refine ⟨l, z + 1, y, out ++ [(x, z)], ?_, hnxt _ _ (by rw [hst, l3, List.map_append, List.map_singleton, hsh]) (by rw [hst])⟩
        rw [wrapI (by omega)]; rfl
      · have d7 : ¬ far = y := by simpa using g7
        rw [if_neg d7] at hst
        ((conv=>whnf);repeat((first|refine Ct ‹_› ?_|refine Cf ‹_› ?_|refine Ct rfl ?_|refine Cf rfl ?_|refine Bi rfl ?_|refine Bz rfl ?_|refine Lr ?_);conv=>whnf))
        refine ⟨l, z + 1, y, out, ?_, hnxt _ _ (by rw [hst, l3]) (by rw [hst])⟩
        rw [wrapI (by omega)]; rfl

/-- the line from a to b -/
def lnL (aq ar bq br : Int) : List (List Hx) := if dsH aq ar bq br = 0 then [[(aq, ar)]] else (List.range ((dsH aq ar bq br).toNat + 1)).map fun i : Nat => lcL aq ar bq br i

theorem lnL_len {aq ar bq br : Int} (ha : HxB aq ar) (hb : HxB bq br) : (lnL aq ar bq br).length = (dsH aq ar bq br).toNat + 1 ∧ (lnL aq ar bq br).length ≤ 19 := by
  have h := dsH_b ha hb
  unfold lnL
  split
  · rename_i h0; rw [h0]; simp
  · simp; omega

theorem range_succ' {α : Type} (f : Nat → α) (t : Int) (h0 : 0 ≤ t) : (List.range (t + 1).toNat).map f = (List.range t.toNat).map f ++ [f t.toNat] := by
  rw [show (t + 1).toNat = t.toNat + 1 by omega, List.range_succ, List.map_append]; rfl

theorem one_hex (a c : Int) : RowEq (litRow false 2 [[cI a, cI c]]) (rwH [(a, c)]) := by
  refine ⟨rfl, rfl, rfl, fun i j hi hj => ?_⟩
  have hi : i < 1 := hi
  obtain rfl : i = 0 := by omega
  rfl

theorem one_row (l : List Hx) : RowEq ⟨true, 1, 1, fun _ _ => .fr 2 l.length fun i j => nth (hxC (l.getD i (0, 0))) j⟩ (rwHH [l]) := by
  refine ⟨rfl, rfl, rfl, fun i j hi hj => ?_⟩
  have hi : i < 1 := hi
  obtain rfl : i = 0 := by omega
  rfl

theorem F_hLine (aq ar bq br : Int) (ha : HxB aq ar) (hb : HxB bq br) :
    Fun E0 149 [.agg [cI aq, cI ar], .agg [cI bq, cI br]] [] (.v (.one (.own 0 (lnL aq ar bq br).length))) [(0, rwHH (lnL aq ar bq br))] [] := by
  have h18 := dsH_b ha hb
  refine Fun_of_xc k149 rfl rfl (nrC (rwHH_no _) nrN) ?_
  ((conv=>whnf);repeat((first|refine Ct ‹_› ?_|refine Cf ‹_› ?_|refine Ct rfl ?_|refine Cf rfl ?_|refine Bi rfl ?_|refine Bz rfl ?_|refine Lr ?_);conv=>whnf))
  refine Rw_i (rwHH []) (rwHH_nil _) ?_
  ((conv=>whnf);repeat((first|refine Ct ‹_› ?_|refine Cf ‹_› ?_|refine Ct rfl ?_|refine Cf rfl ?_|refine Bi rfl ?_|refine Bz rfl ?_|refine Lr ?_);conv=>whnf))
  (refine CallQ_some (F_hDistance aq ar bq br ha hb) ?_ ?_ ?_; rfl; rfl); ((conv=>whnf);repeat((first|refine Ct ‹_› ?_|refine Cf ‹_› ?_|refine Ct rfl ?_|refine Cf rfl ?_|refine Bi rfl ?_|refine Bz rfl ?_|refine Lr ?_);conv=>whnf))
  refine Cnd_i (fun g => ?_) (fun g => ?_)
  · have h0 : dsH aq ar bq br = 0 := by simpa using g
    ((conv=>whnf);repeat((first|refine Ct ‹_› ?_|refine Cf ‹_› ?_|refine Ct rfl ?_|refine Cf rfl ?_|refine Bi rfl ?_|refine Bz rfl ?_|refine Lr ?_);conv=>whnf))
    refine Rw_i (rwH [(aq, ar)]) (one_hex _ _) ?_
    ((conv=>whnf);repeat((first|refine Ct ‹_› ?_|refine Cf ‹_› ?_|refine Ct rfl ?_|refine Cf rfl ?_|refine Bi rfl ?_|refine Bz rfl ?_|refine Lr ?_);conv=>whnf))
    refine Rw_i (rwHH [[(aq, ar)]]) (one_row _) ?_
    ((conv=>whnf);repeat((first|refine Ct ‹_› ?_|refine Cf ‹_› ?_|refine Ct rfl ?_|refine Cf rfl ?_|refine Bi rfl ?_|refine Bz rfl ?_|refine Lr ?_);conv=>whnf))
    rw [lnL, if_pos h0]
    exact ⟨rfl, rfl, rfl⟩
  have h0 : dsH aq ar bq br ≠ 0 := by simpa using g
  have hn : 1 ≤ dsH aq ar bq br := by omega
  ((conv=>whnf);repeat((first|refine Ct ‹_› ?_|refine Cf ‹_› ?_|refine Ct rfl ?_|refine Cf rfl ?_|refine Bi rfl ?_|refine Bz rfl ?_|refine Lr ?_);conv=>whnf))
  refine Rw_i (rwHH []) (rwHH_nil _) ?_
  ((conv=>whnf);repeat((first|refine Ct ‹_› ?_|refine Cf ‹_› ?_|refine Ct rfl ?_|refine Cf rfl ?_|refine Bi rfl ?_|refine Bz rfl ?_|refine Lr ?_);conv=>whnf))
  refine WLoop_v2 ⟨[2, 3, 5, 6, 7], [2, 3], []⟩ (fun (t : Int) (out : List (List Hx)) => hdS 30 [(2, .v (.one (.box 2 0))), (3, .v (.one (.box 3 0))), (5, .v (vI (dsH aq ar bq br))), (6, .v (.one (.own (vkey 6) out.length))), (7, .v (vI t))] [(2, [cI aq, cI ar]), (3, [cI bq, cI br])] [(vkey 6, rwHH out)])
    (fun n t out => 0 ≤ t ∧ t + n = dsH aq ar bq br + 1 ∧ out = (List.range t.toNat).map fun i : Nat => lcL aq ar bq br i) ((dsH aq ar bq br).toNat + 1) 0 [] rfl ⟨by omega, by omega, rfl⟩ ?_
  rintro n t out ⟨t1, t2, t3⟩
  have hol : out.length ≤ 19 := by rw [t3, List.length_map, List.length_range]; omega
  ((conv=>whnf);repeat((first|refine Ct ‹_› ?_|refine Cf ‹_› ?_|refine Ct rfl ?_|refine Cf rfl ?_|refine Bi rfl ?_|refine Bz rfl ?_|refine Lr ?_);conv=>whnf))
  refine Cnd_i (fun g => ?_) (fun g => ?_)
  · have ht := of_decide_eq_true g
    ((conv=>whnf);repeat((first|refine Ct ‹_› ?_|refine Cf ‹_› ?_|refine Ct rfl ?_|refine Cf rfl ?_|refine Bi rfl ?_|refine Bz rfl ?_|refine Lr ?_);conv=>whnf))
    (refine CallQ_some (F_hCells aq ar bq br t _ ha hb rfl hn (by omega)) ?_ ?_ ?_; rfl; rfl); ((conv=>whnf);repeat((first|refine Ct ‹_› ?_|refine Cf ‹_› ?_|refine Ct rfl ?_|refine Cf rfl ?_|refine Bi rfl ?_|refine Bz rfl ?_|refine Lr ?_);conv=>whnf))
    refine Rw_self ?_
    ((conv=>whnf);repeat((first|refine Ct ‹_› ?_|refine Cf ‹_› ?_|refine Ct rfl ?_|refine Cf rfl ?_|refine Bi rfl ?_|refine Bz rfl ?_|refine Lr ?_);conv=>whnf))
    refine Bnd_i ?_ ?_
    · show out.length + 1 < _
      omega
    ((conv=>whnf);repeat((first|refine Ct ‹_› ?_|refine Cf ‹_› ?_|refine Ct rfl ?_|refine Cf rfl ?_|refine Bi rfl ?_|refine Bz rfl ?_|refine Lr ?_);conv=>whnf))
    refine Rw_i (rwHH (out ++ [lcL aq ar bq br t])) (rwHH_app _ _ _ rfl) ?_
    ((conv=>whnf);repeat((first|refine Ct ‹_› ?_|refine Cf ‹_› ?_|refine Ct rfl ?_|refine Cf rfl ?_|refine Bi rfl ?_|refine Bz rfl ?_|refine Lr ?_);conv=>whnf))
    refine ⟨n - 1, t + 1, out ++ [lcL aq ar bq br t], ?_, by omega, by omega, by omega, ?_⟩
    · rw [wrapI (by omega)]; rfl
    · rw [range_succ' _ t t1, ← t3, show ((t.toNat : Nat) : Int) = t by omega]
  · have ht := of_decide_eq_false g
    ((conv=>whnf);repeat((first|refine Ct ‹_› ?_|refine Cf ‹_› ?_|refine Ct rfl ?_|refine Cf rfl ?_|refine Bi rfl ?_|refine Bz rfl ?_|refine Lr ?_);conv=>whnf))
    rw [lnL, if_neg h0, t3, show t.toNat = (dsH aq ar bq br).toNat + 1 by omega]
    exact ⟨rfl, rfl, rfl⟩

theorem F_lineOf (aq ar bq br : Int) (ha : HxB aq ar) (hb : HxB bq br) :
    Fun E0 157 [.agg [cI aq, cI ar], .agg [cI bq, cI br]] [] (.v (.one (.own 0 (lnL aq ar bq br).length))) [(0, rwHH (lnL aq ar bq br))] [] := by
  have h18 := dsH_b ha hb
  refine Fun_of_xc k157 rfl rfl (nrC (rwHH_no _) nrN) ?_
  ((conv=>whnf);repeat((first|refine Ct ‹_› ?_|refine Cf ‹_› ?_|refine Ct rfl ?_|refine Cf rfl ?_|refine Bi rfl ?_|refine Bz rfl ?_|refine Lr ?_);conv=>whnf))
  refine Rw_i (rwHH []) (rwHH_nil _) ?_
  ((conv=>whnf);repeat((first|refine Ct ‹_› ?_|refine Cf ‹_› ?_|refine Ct rfl ?_|refine Cf rfl ?_|refine Bi rfl ?_|refine Bz rfl ?_|refine Lr ?_);conv=>whnf))
  (refine CallQ_some (F_distance aq ar bq br ha hb) ?_ ?_ ?_; rfl; rfl); ((conv=>whnf);repeat((first|refine Ct ‹_› ?_|refine Cf ‹_› ?_|refine Ct rfl ?_|refine Cf rfl ?_|refine Bi rfl ?_|refine Bz rfl ?_|refine Lr ?_);conv=>whnf))
  refine Cnd_i (fun g => ?_) (fun g => ?_)
  · have h0 : dsH aq ar bq br = 0 := by simpa using g
    ((conv=>whnf);repeat((first|refine Ct ‹_› ?_|refine Cf ‹_› ?_|refine Ct rfl ?_|refine Cf rfl ?_|refine Bi rfl ?_|refine Bz rfl ?_|refine Lr ?_);conv=>whnf))
    refine Rw_i (rwH [(aq, ar)]) (one_hex _ _) ?_
    ((conv=>whnf);repeat((first|refine Ct ‹_› ?_|refine Cf ‹_› ?_|refine Ct rfl ?_|refine Cf rfl ?_|refine Bi rfl ?_|refine Bz rfl ?_|refine Lr ?_);conv=>whnf))
    refine Rw_i (rwHH [[(aq, ar)]]) (one_row _) ?_
    ((conv=>whnf);repeat((first|refine Ct ‹_› ?_|refine Cf ‹_› ?_|refine Ct rfl ?_|refine Cf rfl ?_|refine Bi rfl ?_|refine Bz rfl ?_|refine Lr ?_);conv=>whnf))
    rw [lnL, if_pos h0]
    exact ⟨rfl, rfl, rfl⟩
  have h0 : dsH aq ar bq br ≠ 0 := by simpa using g
  have hn : 1 ≤ dsH aq ar bq br := by omega
  ((conv=>whnf);repeat((first|refine Ct ‹_› ?_|refine Cf ‹_› ?_|refine Ct rfl ?_|refine Cf rfl ?_|refine Bi rfl ?_|refine Bz rfl ?_|refine Lr ?_);conv=>whnf))
  refine Rw_i (rwHH []) (rwHH_nil _) ?_
  ((conv=>whnf);repeat((first|refine Ct ‹_› ?_|refine Cf ‹_› ?_|refine Ct rfl ?_|refine Cf rfl ?_|refine Bi rfl ?_|refine Bz rfl ?_|refine Lr ?_);conv=>whnf))
  refine WLoop_v2 ⟨[2, 3, 5, 6, 7], [2, 3], []⟩ (fun (t : Int) (out : List (List Hx)) => hdS 52 [(2, .v (.one (.box 2 0))), (3, .v (.one (.box 3 0))), (5, .v (vI (dsH aq ar bq br))), (6, .v (.one (.own (vkey 6) out.length))), (7, .v (vI t))] [(2, [cI aq, cI ar]), (3, [cI bq, cI br])] [(vkey 6, rwHH out)])
    (fun n t out => 0 ≤ t ∧ t + n = dsH aq ar bq br + 1 ∧ out = (List.range t.toNat).map fun i : Nat => lcL aq ar bq br i) ((dsH aq ar bq br).toNat + 1) 0 [] rfl ⟨by omega, by omega, rfl⟩ ?_
  rintro n t out ⟨t1, t2, t3⟩
  have hol : out.length ≤ 19 := by rw [t3, List.length_map, List.length_range]; omega
  ((conv=>whnf);repeat((first|refine Ct ‹_› ?_|refine Cf ‹_› ?_|refine Ct rfl ?_|refine Cf rfl ?_|refine Bi rfl ?_|refine Bz rfl ?_|refine Lr ?_);conv=>whnf))
  refine Cnd_i (fun g => ?_) (fun g => ?_)
  · have ht := of_decide_eq_true g
    ((conv=>whnf);repeat((first|refine Ct ‹_› ?_|refine Cf ‹_› ?_|refine Ct rfl ?_|refine Cf rfl ?_|refine Bi rfl ?_|refine Bz rfl ?_|refine Lr ?_);conv=>whnf))
    have q1 := lnQ_b ha.q hb.q (i := t) (n := dsH aq ar bq br) (by omega) (by omega)
    have r1 := lnQ_b ha.r hb.r (i := t) (n := dsH aq ar bq br) (by omega) (by omega)
    refine CallQ_eq (show _ = [vI (lnQ aq bq t (dsH aq ar bq br)), vI (lnQ ar br t (dsH aq ar bq br)), vI (dsH aq ar bq br)] by rw [lnQ_w2 ha.q hb.q (by omega) (by omega), lnQ_w2 ha.r hb.r (by omega) (by omega)]) ?_
    (refine CallQ_some (F_nearestTo _ _ _ (by omega) (by omega) (by omega) (ln_whole ha hb (by omega) hn)) ?_ ?_ ?_; rfl; rfl); ((conv=>whnf);repeat((first|refine Ct ‹_› ?_|refine Cf ‹_› ?_|refine Ct rfl ?_|refine Cf rfl ?_|refine Bi rfl ?_|refine Bz rfl ?_|refine Lr ?_);conv=>whnf))
    rw [← show lcL aq ar bq br t = ptL (lnQ aq bq t (dsH aq ar bq br)) (lnQ ar br t (dsH aq ar bq br)) (dsH aq ar bq br) from rfl]
    refine Rw_self ?_
    ((conv=>whnf);repeat((first|refine Ct ‹_› ?_|refine Cf ‹_› ?_|refine Ct rfl ?_|refine Cf rfl ?_|refine Bi rfl ?_|refine Bz rfl ?_|refine Lr ?_);conv=>whnf))
    refine Bnd_i ?_ ?_
    · show out.length + 1 < _
      omega
    ((conv=>whnf);repeat((first|refine Ct ‹_› ?_|refine Cf ‹_› ?_|refine Ct rfl ?_|refine Cf rfl ?_|refine Bi rfl ?_|refine Bz rfl ?_|refine Lr ?_);conv=>whnf))
    refine Rw_i (rwHH (out ++ [lcL aq ar bq br t])) (rwHH_app _ _ _ rfl) ?_
    ((conv=>whnf);repeat((first|refine Ct ‹_› ?_|refine Cf ‹_› ?_|refine Ct rfl ?_|refine Cf rfl ?_|refine Bi rfl ?_|refine Bz rfl ?_|refine Lr ?_);conv=>whnf))
    refine ⟨n - 1, t + 1, out ++ [lcL aq ar bq br t], ?_, by omega, by omega, by omega, ?_⟩
    · rw [wrapI (by omega)]; rfl
    · rw [range_succ' _ t t1, ← t3, show ((t.toNat : Nat) : Int) = t by omega]
  · have ht := of_decide_eq_false g
    ((conv=>whnf);repeat((first|refine Ct ‹_› ?_|refine Cf ‹_› ?_|refine Ct rfl ?_|refine Cf rfl ?_|refine Bi rfl ?_|refine Bz rfl ?_|refine Lr ?_);conv=>whnf))
    rw [lnL, if_neg h0, t3, show t.toNat = (dsH aq ar bq br).toNat + 1 by omega]
    exact ⟨rfl, rfl, rfl⟩

/-- a place of a map, as its indices -/
theorem hx_b {m : Map} (h : WH m) {i : Int} (h0 : 0 ≤ i) (h1 : i < m.w * m.h) : HxB (i.tmod m.w) (i.tdiv m.w) := by
  have hw := h.w1; have hw2 := h.w2; have hh2 := h.h2; have hm := h.mul
  have h3 := tdiv_b (i := i) (w := m.w) h0 (by omega) hw
  refine ⟨⟨h3.2.2.1, by omega⟩, h3.1, ?_⟩
  have h4 := Int.mul_tdiv_add_tmod i m.w
  by_cases e : i.tdiv m.w ≤ 9
  · exact e
  · have h5 : m.w * 10 ≤ m.w * i.tdiv m.w := Int.mul_le_mul_of_nonneg_left (by omega) (by omega)
    have h6 : m.w * m.h ≤ m.w * 10 := Int.mul_le_mul_of_nonneg_left hh2 (by omega)
    omega

def lnM (m : Map) (i k : Int) : List (List Hx) := lnL (i.tmod m.w) (i.tdiv m.w) (k.tmod m.w) (k.tdiv m.w)

/-- the places between two places of a map -/
def ceL (m : Map) (i k : Int) : List (List Int) := (List.range ((lnM m i k).length - 2)).map fun t : Nat => ((lnM m i k).getD (t + 1) []).map fun p => ix m p.1 p.2

theorem lnM_sub {m : Map} (h : WH m) {i k : Int} (hi : 0 ≤ i ∧ i < m.w * m.h) (hk : 0 ≤ k ∧ k < m.w * m.h) : 1 ≤ (lnM m i k).length ∧ (lnM m i k).length ≤ 19 ∧ ∀ l ∈ lnM m i k, l.length ≤ 2 := by
  have h1 := lnL_len (hx_b h hi.1 hi.2) (hx_b h hk.1 hk.2)
  refine ⟨by show 1 ≤ (lnL _ _ _ _).length; omega, h1.2, fun l hl => ?_⟩
  unfold lnM lnL at hl
  split at hl
  · simp at hl; rw [hl]; simp
  · obtain ⟨_, _, he⟩ := List.mem_map.1 hl
    rw [← he]; exact ptL_len _ _ _

theorem ceL_len {m : Map} (h : WH m) {i k : Int} (hi : 0 ≤ i ∧ i < m.w * m.h) (hk : 0 ≤ k ∧ k < m.w * m.h) : (ceL m i k).length ≤ 17 ∧ ∀ l ∈ ceL m i k, l.length ≤ 2 := by
  have h1 := lnM_sub h hi hk
  constructor
  · unfold ceL
    rw [List.length_map, List.length_range]
    omega
  · intro l hl
    obtain ⟨t, ht, rfl⟩ := List.mem_map.1 hl
    rw [List.length_map]
    have ht := List.mem_range.1 ht
    exact h1.2.2 _ (by have := getD_memT (l := lnM m i k) (d := []) (i := ((t + 1 : Nat) : Int)) (by omega) (by omega); exact this)

theorem F_vCells (b : Brd) (h : GB b) (i k : Int) (hi : 0 ≤ i ∧ i < b.m.ter.length) (hk : 0 ≤ k ∧ k < b.m.ter.length) :
    Fun E0 133 [.agg b.cs, vI i, vI k] [] (.v (.one (.own 0 (ceL b.m i k).length))) [(0, rwLL (ceL b.m i k))] [] := by
  have hm := h.wh.mul
  have hn := h.n
  have hs := lnM_sub h.wh (i := i) (k := k) (by omega) (by omega)
  have bi := hx_b h.wh (i := i) hi.1 (by omega)
  have bk := hx_b h.wh (i := k) hk.1 (by omega)
  have hc := ceL_len h.wh (i := i) (k := k) (by omega) (by omega)
  refine Fun_of_xc k133 rfl rfl (nrC (rwLL_no _) nrN) ?_
  ((conv=>whnf);repeat((first|refine Ct ‹_› ?_|refine Cf ‹_› ?_|refine Ct rfl ?_|refine Cf rfl ?_|refine Bi rfl ?_|refine Bz rfl ?_|refine Lr ?_);conv=>whnf))
  refine Rw_i (rwLL []) (rwLL_nil _) ?_
  ((conv=>whnf);repeat((first|refine Ct ‹_› ?_|refine Cf ‹_› ?_|refine Ct rfl ?_|refine Cf rfl ?_|refine Bi rfl ?_|refine Bz rfl ?_|refine Lr ?_);conv=>whnf))
  (refine CallQ_some (F_mHex b.m h.wh i hi.1 (by omega)) ?_ ?_ ?_; rfl; rfl); ((conv=>whnf);repeat((first|refine Ct ‹_› ?_|refine Cf ‹_› ?_|refine Ct rfl ?_|refine Cf rfl ?_|refine Bi rfl ?_|refine Bz rfl ?_|refine Lr ?_);conv=>whnf))
  (refine CallQ_some (F_mHex b.m h.wh k hk.1 (by omega)) ?_ ?_ ?_; rfl; rfl); ((conv=>whnf);repeat((first|refine Ct ‹_› ?_|refine Cf ‹_› ?_|refine Ct rfl ?_|refine Cf rfl ?_|refine Bi rfl ?_|refine Bz rfl ?_|refine Lr ?_);conv=>whnf))
  (refine CallQ_some (F_hLine _ _ _ _ bi bk) ?_ ?_ ?_; rfl; rfl); ((conv=>whnf);repeat((first|refine Ct ‹_› ?_|refine Cf ‹_› ?_|refine Ct rfl ?_|refine Cf rfl ?_|refine Bi rfl ?_|refine Bz rfl ?_|refine Lr ?_);conv=>whnf))
  refine Rw_i (rwLL []) (rwLL_nil _) ?_
  ((conv=>whnf);repeat((first|refine Ct ‹_› ?_|refine Cf ‹_› ?_|refine Ct rfl ?_|refine Cf rfl ?_|refine Bi rfl ?_|refine Bz rfl ?_|refine Lr ?_);conv=>whnf))
  have hce : ceL b.m i k = (List.range ((lnM b.m i k).length - 2)).map fun t : Nat => ((lnM b.m i k).getD (t + 1) []).map fun p => ix b.m p.1 p.2 := rfl
  rw [hce]
  rw [← show lnM b.m i k = lnL (i.tmod b.m.w) (i.tdiv b.m.w) (k.tmod b.m.w) (k.tdiv b.m.w) from rfl]
  generalize lnM b.m i k = L at hs ⊢
  clear hce hc
  obtain ⟨s1, s2, s3⟩ := hs
  refine WLoop_v2 ⟨[3, 7, 8, 9], [3], []⟩ (fun (t : Int) (out : List (List Int)) => hdS 51 [(3, .v (.one (.box 3 0))), (7, .v (.one (.own (vkey 7) L.length))), (8, .v (.one (.own (vkey 8) out.length))), (9, .v (vI t))] [(3, b.cs)] [(vkey 7, rwHH L), (vkey 8, rwLL out)])
    (fun n t out => 1 ≤ t ∧ t - 1 + n = ((L.length - 2 : Nat) : Int) ∧ out = (List.range (t - 1).toNat).map fun t : Nat => (L.getD (t + 1) []).map fun p => ix b.m p.1 p.2) (L.length - 2) 1 [] rfl ⟨by omega, by omega, rfl⟩ ?_
  rintro n t out ⟨t1, t2, t3⟩
  have hol : out.length ≤ 19 := by rw [t3, List.length_map, List.length_range]; omega
  ((conv=>whnf);repeat((first|refine Ct ‹_› ?_|refine Cf ‹_› ?_|refine Ct rfl ?_|refine Cf rfl ?_|refine Bi rfl ?_|refine Bz rfl ?_|refine Lr ?_);conv=>whnf))
  refine Cnd_e (c' := decide (t < (L.length : Int) - 1)) (by rw [wrapI (by omega)]) ?_
  refine Cnd_i (fun g => ?_) (fun g => ?_)
  rotate_left
  · have ht := of_decide_eq_false g
    ((conv=>whnf);repeat((first|refine Ct ‹_› ?_|refine Cf ‹_› ?_|refine Ct rfl ?_|refine Cf rfl ?_|refine Bi rfl ?_|refine Bz rfl ?_|refine Lr ?_);conv=>whnf))
    rw [t3, show (t - 1).toNat = L.length - 2 by omega]
    exact ⟨rfl, rfl, rfl⟩
  have ht := of_decide_eq_true g
  have hl2 : (L.getD t.toNat []).length ≤ 2 := s3 _ (getD_memT (d := []) (by omega) (by omega))
  ((conv=>whnf);repeat((first|refine Ct ‹_› ?_|refine Cf ‹_› ?_|refine Ct rfl ?_|refine Cf rfl ?_|refine Bi rfl ?_|refine Bz rfl ?_|refine Lr ?_);conv=>whnf))
  refine Rw_i (rwI []) (rwI_nil _) ?_
  ((conv=>whnf);repeat((first|refine Ct ‹_› ?_|refine Cf ‹_› ?_|refine Ct rfl ?_|refine Cf rfl ?_|refine Bi rfl ?_|refine Bz rfl ?_|refine Lr ?_);conv=>whnf))
  refine Bnd_i (⟨by omega, by omega⟩) ?_; ((conv=>whnf);repeat((first|refine Ct ‹_› ?_|refine Cf ‹_› ?_|refine Ct rfl ?_|refine Cf rfl ?_|refine Bi rfl ?_|refine Bz rfl ?_|refine Lr ?_);conv=>whnf))
  refine WLoop_v2 ⟨[3, 7, 8, 9, 10, 33, 34], [3], [(32, 7)]⟩ (fun (j : Int) (cell : List Int) => hdS 51 [(3, .v (.one (.box 3 0))), (7, .v (.one (.own (vkey 7) L.length))), (8, .v (.one (.own (vkey 8) out.length))), (9, .v (vI t)), (10, .v (.one (.own (vkey 10) cell.length))), (32, .v (.one (.own1 (vkey 7) t.toNat 0 (L.getD t.toNat []).length))), (33, .v (vI (L.getD t.toNat []).length)), (34, .v (vI j))] [(3, b.cs)] [(vkey 7, rwHH L), (vkey 8, rwLL out), (vkey 10, rwI cell)])
    (fun n j cell => 0 ≤ j ∧ j + n = (L.getD t.toNat []).length ∧ cell = ((L.getD t.toNat []).take j.toNat).map fun p => ix b.m p.1 p.2) (L.getD t.toNat []).length 0 [] rfl ⟨by omega, by omega, rfl⟩ ?_
  rintro l j cell ⟨j1, j2, j3⟩
  have hcl : cell.length ≤ 2 := by rw [j3, List.length_map, List.length_take]; omega
  ((conv=>whnf);repeat((first|refine Ct ‹_› ?_|refine Cf ‹_› ?_|refine Ct rfl ?_|refine Cf rfl ?_|refine Bi rfl ?_|refine Bz rfl ?_|refine Lr ?_);conv=>whnf))
  refine Cnd_i (fun g2 => ?_) (fun g2 => ?_)
  · have hj := of_decide_eq_true g2
    ((conv=>whnf);repeat((first|refine Ct ‹_› ?_|refine Cf ‹_› ?_|refine Ct rfl ?_|refine Cf rfl ?_|refine Bi rfl ?_|refine Bz rfl ?_|refine Lr ?_);conv=>whnf))
    refine Bnd_i (⟨j1, hj⟩) ?_; ((conv=>whnf);repeat((first|refine Ct ‹_› ?_|refine Cf ‹_› ?_|refine Ct rfl ?_|refine Cf rfl ?_|refine Bi rfl ?_|refine Bz rfl ?_|refine Lr ?_);conv=>whnf))
    (refine CallQ_some (F_mIndex b.m h.wh _ _) ?_ ?_ ?_; rfl; rfl); ((conv=>whnf);repeat((first|refine Ct ‹_› ?_|refine Cf ‹_› ?_|refine Ct rfl ?_|refine Cf rfl ?_|refine Bi rfl ?_|refine Bz rfl ?_|refine Lr ?_);conv=>whnf))
    refine Rw_self ?_
    ((conv=>whnf);repeat((first|refine Ct ‹_› ?_|refine Cf ‹_› ?_|refine Ct rfl ?_|refine Cf rfl ?_|refine Bi rfl ?_|refine Bz rfl ?_|refine Lr ?_);conv=>whnf))
    refine Bnd_i ?_ ?_
    · show cell.length + 1 < _
      omega
    ((conv=>whnf);repeat((first|refine Ct ‹_› ?_|refine Cf ‹_› ?_|refine Ct rfl ?_|refine Cf rfl ?_|refine Bi rfl ?_|refine Bz rfl ?_|refine Lr ?_);conv=>whnf))
    refine Rw_i (rwI (cell ++ [ix b.m ((L.getD t.toNat []).getD j.toNat (0, 0)).1 ((L.getD t.toNat []).getD j.toNat (0, 0)).2])) (rwI_app _ _ _ rfl) ?_
    ((conv=>whnf);repeat((first|refine Ct ‹_› ?_|refine Cf ‹_› ?_|refine Ct rfl ?_|refine Cf rfl ?_|refine Bi rfl ?_|refine Bz rfl ?_|refine Lr ?_);conv=>whnf))
    refine ⟨l - 1, j + 1, cell ++ [ix b.m ((L.getD t.toNat []).getD j.toNat (0, 0)).1 ((L.getD t.toNat []).getD j.toNat (0, 0)).2], ?_, by omega, by omega, by omega, ?_⟩
    · rw [wrapI (by omega)]; rfl
    · rw [map_take _ _ (0, 0) j1 hj, ← j3]
  · have hj := of_decide_eq_false g2
    ((conv=>whnf);repeat((first|refine Ct ‹_› ?_|refine Cf ‹_› ?_|refine Ct rfl ?_|refine Cf rfl ?_|refine Bi rfl ?_|refine Bz rfl ?_|refine Lr ?_);conv=>whnf))
    rw [show j.toNat = (L.getD t.toNat []).length by omega, List.take_length] at j3
    subst j3
    refine Rw_self ?_
    ((conv=>whnf);repeat((first|refine Ct ‹_› ?_|refine Cf ‹_› ?_|refine Ct rfl ?_|refine Cf rfl ?_|refine Bi rfl ?_|refine Bz rfl ?_|refine Lr ?_);conv=>whnf))
    refine Bnd_i ?_ ?_
    · show out.length + 1 < _
      omega
    ((conv=>whnf);repeat((first|refine Ct ‹_› ?_|refine Cf ‹_› ?_|refine Ct rfl ?_|refine Cf rfl ?_|refine Bi rfl ?_|refine Bz rfl ?_|refine Lr ?_);conv=>whnf))
    refine Rw_i (rwLL (out ++ [(L.getD t.toNat []).map fun p => ix b.m p.1 p.2])) (rwLL_app _ _ _ rfl) ?_
    ((conv=>whnf);repeat((first|refine Ct ‹_› ?_|refine Cf ‹_› ?_|refine Ct rfl ?_|refine Cf rfl ?_|refine Bi rfl ?_|refine Bz rfl ?_|refine Lr ?_);conv=>whnf))
    refine ⟨n - 1, t + 1, out ++ [(L.getD t.toNat []).map fun p => ix b.m p.1 p.2], ?_, by omega, by omega, by omega, ?_⟩
    · rw [wrapI (by omega)]; rfl
    · rw [show (t + 1 - 1).toNat = (t - 1 + 1).toNat by omega, range_succ' _ (t - 1) (by omega), ← t3, show (t - 1).toNat + 1 = t.toNat by omega]
end Go.Proofs.YtfaobjghedlfoaaDoor.Ab
