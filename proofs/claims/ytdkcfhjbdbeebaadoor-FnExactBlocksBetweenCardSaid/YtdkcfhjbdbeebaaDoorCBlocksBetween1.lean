/- Contracts of the functions that FnExactBlocksBetween reaches, by the abstract machine (part 1).
   Conditions: none. -/
import Derived.Test.YtdkcfhjbdbeebaaDoorCBlocksBetween0
set_option linter.unusedVariables false
set_option linter.unusedSimpArgs false
namespace Go.Proofs.YtdkcfhjbdbeebaaDoor.Ab
open Go Go.RowKit
attribute [local irreducible] Cnd Bnd Rw CallQ CallR Bts WLoop
set_option maxRecDepth 100000
theorem F_szMap (m : Map) (ho : m.Ok) (left : Int) (h0 : 0 ≤ left) (h1 : left ≤ 1048576) : Fun E0 13 [.agg m.cs, vI left] [] (.v (vI (szM m left))) [] [] := by
  have b1 := sub1_b (n := m.ter.length) h0 h1 (by omega)
  refine Fun_of_xc k13 rfl rfl (fun k q h => by cases h) ?_
  ((conv=>whnf);repeat((first|refine Ct ‹_› ?_|refine Cf ‹_› ?_|refine Ct rfl ?_|refine Cf rfl ?_|refine Bi rfl ?_);conv=>whnf))
  refine CallQ_some (F_szIntS m.ter left ho.ter.len h0 h1) rfl rfl ?_
  ((conv=>whnf);repeat((first|refine Ct ‹_› ?_|refine Cf ‹_› ?_|refine Ct rfl ?_|refine Cf rfl ?_|refine Bi rfl ?_);conv=>whnf))
  refine Cnd_i (fun g => ?_) (fun g => ?_)
  · have g := of_decide_eq_true g
    ((conv=>whnf);repeat((first|refine Ct ‹_› ?_|refine Cf ‹_› ?_|refine Ct rfl ?_|refine Cf rfl ?_|refine Bi rfl ?_);conv=>whnf))
    refine ⟨?_, rfl, rfl⟩
    rw [szM, if_pos g]; rfl
  have g := of_decide_eq_false g
  have b2 := sub1_b (left := sub1 left m.ter.length) (n := m.riv.length) (by omega) (by omega) (by omega)
  ((conv=>whnf);repeat((first|refine Ct ‹_› ?_|refine Cf ‹_› ?_|refine Ct rfl ?_|refine Cf rfl ?_|refine Bi rfl ?_);conv=>whnf))
  refine CallQ_some (F_szIntS m.riv _ ho.riv.len (by omega) (by omega)) rfl rfl ?_
  ((conv=>whnf);repeat((first|refine Ct ‹_› ?_|refine Cf ‹_› ?_|refine Ct rfl ?_|refine Cf rfl ?_|refine Bi rfl ?_);conv=>whnf))
  refine Cnd_i (fun g2 => ?_) (fun g2 => ?_)
  · have g2 := of_decide_eq_true g2
    ((conv=>whnf);repeat((first|refine Ct ‹_› ?_|refine Cf ‹_› ?_|refine Ct rfl ?_|refine Cf rfl ?_|refine Bi rfl ?_);conv=>whnf))
    refine ⟨?_, rfl, rfl⟩
    rw [szM, if_neg g, if_pos g2]; rfl
  have g2 := of_decide_eq_false g2
  have b3 := sub1_b (left := sub1 (sub1 left m.ter.length) m.riv.length) (n := m.roa.length) (by omega) (by omega) (by omega)
  ((conv=>whnf);repeat((first|refine Ct ‹_› ?_|refine Cf ‹_› ?_|refine Ct rfl ?_|refine Cf rfl ?_|refine Bi rfl ?_);conv=>whnf))
  refine CallQ_some (F_szIntS m.roa _ ho.roa.len (by omega) (by omega)) rfl rfl ?_
  ((conv=>whnf);repeat((first|refine Ct ‹_› ?_|refine Cf ‹_› ?_|refine Ct rfl ?_|refine Cf rfl ?_|refine Bi rfl ?_);conv=>whnf))
  refine Cnd_i (fun g3 => ?_) (fun g3 => ?_)
  · have g3 := of_decide_eq_true g3
    ((conv=>whnf);repeat((first|refine Ct ‹_› ?_|refine Cf ‹_› ?_|refine Ct rfl ?_|refine Cf rfl ?_|refine Bi rfl ?_);conv=>whnf))
    refine ⟨?_, rfl, rfl⟩
    have : sub1 (sub1 (sub1 left m.ter.length) m.riv.length) m.roa.length = -1 := by omega
    rw [szM, if_neg g, if_neg g2, this]; rfl
  · ((conv=>whnf);repeat((first|refine Ct ‹_› ?_|refine Cf ‹_› ?_|refine Ct rfl ?_|refine Cf rfl ?_|refine Bi rfl ?_);conv=>whnf))
    refine ⟨?_, rfl, rfl⟩
    rw [szM, if_neg g, if_neg g2]; rfl

theorem szR_b {r : Rul} {left : Int} (h0 : 0 ≤ left) (h1 : left ≤ 1048576) : szR r left ≤ 1048576 := by
  have b1 := szS_b (f := szT) (fun t x a b => (szT_b a b).1) r.ter h0 h1
  unfold szR
  by_cases g : szS szT r.ter left < 0
  · rw [if_pos g]; omega
  · rw [if_neg g]
    have b2 := szS_b (f := szK) (fun t x a b => (szK_b a b).1) r.knd (x := szS szT r.ter left) (by omega) b1
    by_cases g2 : szS szK r.knd (szS szT r.ter left) < 0
    · rw [if_pos g2]; omega
    · rw [if_neg g2]; exact b2

def szB (b : Brd) (left : Int) : Int := if szR b.r left < 0 then -1 else if szM b.m (szR b.r left) < 0 then -1 else szM b.m (szR b.r left)

theorem F_szBoard (b : Brd) (ho : b.Ok) (left : Int) (h0 : 0 ≤ left) (h1 : left ≤ 1048576) : Fun E0 5 [.agg b.cs, vI left] [] (.v (vI (szB b left))) [] [] := by
  have b1 := szR_b (r := b.r) h0 h1
  refine Fun_of_xc k5 rfl rfl (fun k q h => by cases h) ?_
  ((conv=>whnf);repeat((first|refine Ct ‹_› ?_|refine Cf ‹_› ?_|refine Ct rfl ?_|refine Cf rfl ?_|refine Bi rfl ?_);conv=>whnf))
  refine CallQ_some (F_szRules b.r ho.r left h0 h1) rfl rfl ?_
  ((conv=>whnf);repeat((first|refine Ct ‹_› ?_|refine Cf ‹_› ?_|refine Ct rfl ?_|refine Cf rfl ?_|refine Bi rfl ?_);conv=>whnf))
  refine Cnd_i (fun g => ?_) (fun g => ?_)
  · have g := of_decide_eq_true g
    ((conv=>whnf);repeat((first|refine Ct ‹_› ?_|refine Cf ‹_› ?_|refine Ct rfl ?_|refine Cf rfl ?_|refine Bi rfl ?_);conv=>whnf))
    refine ⟨?_, rfl, rfl⟩
    rw [szB, if_pos g]; rfl
  have g := of_decide_eq_false g
  ((conv=>whnf);repeat((first|refine Ct ‹_› ?_|refine Cf ‹_› ?_|refine Ct rfl ?_|refine Cf rfl ?_|refine Bi rfl ?_);conv=>whnf))
  refine CallQ_some (F_szMap b.m ho.m _ (by omega) b1) rfl rfl ?_
  ((conv=>whnf);repeat((first|refine Ct ‹_› ?_|refine Cf ‹_› ?_|refine Ct rfl ?_|refine Cf rfl ?_|refine Bi rfl ?_);conv=>whnf))
  refine Cnd_i (fun g2 => ?_) (fun g2 => ?_)
  · have g2 := of_decide_eq_true g2
    ((conv=>whnf);repeat((first|refine Ct ‹_› ?_|refine Cf ‹_› ?_|refine Ct rfl ?_|refine Cf rfl ?_|refine Bi rfl ?_);conv=>whnf))
    refine ⟨?_, rfl, rfl⟩
    rw [szB, if_neg g, if_pos g2]; rfl
  · have g2 := of_decide_eq_false g2
    ((conv=>whnf);repeat((first|refine Ct ‹_› ?_|refine Cf ‹_› ?_|refine Ct rfl ?_|refine Cf rfl ?_|refine Bi rfl ?_);conv=>whnf))
    refine ⟨?_, rfl, rfl⟩
    rw [szB, if_neg g, if_neg g2]; rfl

/-- a row of numbers of one's own -/
abbrev rwI (l : List Int) : Row := ⟨false, 1, l.length, fun i _ => cI (l.getD i 0)⟩

/-- a row that is being filled -/
abbrev rwIu (l : List Int) (k : Int) : Row := ⟨false, 1, l.length, fun i _ => cI (if (i : Int) < k then l.getD i 0 else 0)⟩

theorem rwIu_full (l : List Int) : rwIu l (l.length : Int) = rwI l := by
  unfold rwIu rwI
  congr 1
  funext i j
  by_cases e : (i : Int) < l.length
  · rw [if_pos e]
  · rw [if_neg e]
    have : l.getD i 0 = 0 := by
      rw [List.getD_eq_getElem?_getD, List.getElem?_eq_none (by omega)]; rfl
    rw [this]

theorem noRo1 {k0 : Nat} {r : Row} (h : NoRo r) : ∀ k q, lk ([(k0, r)] ++ []) k = some q → NoRo q := by
  intro k q hk
  have hk : lk [(k0, r)] k = some q := by simpa using hk
  rw [lk_cons] at hk
  split at hk
  · cases hk; exact h
  · cases hk

theorem F_toIntS (l : List Int) (hl : l.length ≤ 1048576) : Fun E0 41 [.one (roI l)] [] (.v (.one (.own 0 l.length))) [(0, rwI l)] [] := by
  refine Fun_of_xc k41 rfl rfl (noRo1 (fun i j _ _ => rfl)) ?_
  ((conv=>whnf);repeat((first|refine Ct ‹_› ?_|refine Cf ‹_› ?_|refine Ct rfl ?_|refine Cf rfl ?_|refine Bi rfl ?_);conv=>whnf))
  refine Rw_self ?_
  ((conv=>whnf);repeat((first|refine Ct ‹_› ?_|refine Cf ‹_› ?_|refine Ct rfl ?_|refine Cf rfl ?_|refine Bi rfl ?_);conv=>whnf))
  refine Bnd_i (by omega) ?_
  ((conv=>whnf);repeat((first|refine Ct ‹_› ?_|refine Cf ‹_› ?_|refine Ct rfl ?_|refine Cf rfl ?_|refine Bi rfl ?_);conv=>whnf))
  refine Rw_i (rwIu l 0) ⟨rfl, rfl, by simp [zeroRow], fun i j hi hj => ?_⟩ ?_
  · have hj : j < 1 := hj
    obtain rfl : j = 0 := by omega
    show cI 0 = cI (if (i : Int) < 0 then l.getD i 0 else 0)
    rw [if_neg (by omega)]
  ((conv=>whnf);repeat((first|refine Ct ‹_› ?_|refine Cf ‹_› ?_|refine Ct rfl ?_|refine Cf rfl ?_|refine Bi rfl ?_);conv=>whnf))
  refine WLoop_v ⟨[0, 3, 4], []⟩ (fun i : Int => hdS 22 [(0, .v (.one (roI l))), (3, .v (.one (.own (vkey 3) l.length))), (4, .v (vI i))] [] [(vkey 3, rwIu l i)])
    (fun k i => 0 ≤ i ∧ i + k = l.length) l.length 0 rfl ⟨by omega, by omega⟩ ?_
  rintro k i ⟨h1, h2⟩
  ((conv=>whnf);repeat((first|refine Ct ‹_› ?_|refine Cf ‹_› ?_|refine Ct rfl ?_|refine Cf rfl ?_|refine Bi rfl ?_);conv=>whnf))
  refine Cnd_i (fun h => ?_) (fun h => ?_)
  · have hi' : i < l.length := of_decide_eq_true h
    ((conv=>whnf);repeat((first|refine Ct ‹_› ?_|refine Cf ‹_› ?_|refine Ct rfl ?_|refine Cf rfl ?_|refine Bi rfl ?_);conv=>whnf))
    refine Bnd_i ⟨h1, hi'⟩ ?_
    ((conv=>whnf);repeat((first|refine Ct ‹_› ?_|refine Cf ‹_› ?_|refine Ct rfl ?_|refine Cf rfl ?_|refine Bi rfl ?_);conv=>whnf))
    refine Bnd_i ⟨h1, hi'⟩ ?_
    ((conv=>whnf);repeat((first|refine Ct ‹_› ?_|refine Cf ‹_› ?_|refine Ct rfl ?_|refine Cf rfl ?_|refine Bi rfl ?_);conv=>whnf))
    refine Rw_i (rwIu l (i + 1)) ⟨rfl, rfl, rfl, fun i' j hi hj => ?_⟩ ?_
    · have hj : j < 1 := hj
      obtain rfl : j = 0 := by omega
      show wrG (rwIu l i).get i.toNat 0 [cI (l.getD i.toNat 0)] i' 0 = cI (if (i' : Int) < i + 1 then l.getD i' 0 else 0)
      by_cases e : i' = i.toNat
      · subst e
        rw [wrG_in (by simp), if_pos (by omega)]; rfl
      · rw [wrG_out (fun hh => e hh.1)]
        show cI (if (i' : Int) < i then l.getD i' 0 else 0) = _
        by_cases e2 : (i' : Int) < i
        · rw [if_pos e2, if_pos (by omega)]
        · rw [if_neg e2, if_neg (by omega)]
    ((conv=>whnf);repeat((first|refine Ct ‹_› ?_|refine Cf ‹_› ?_|refine Ct rfl ?_|refine Cf rfl ?_|refine Bi rfl ?_);conv=>whnf))
    refine ⟨k - 1, i + 1, ?_, ?_, ?_, ?_⟩
    · rw [wrapI (by omega)]; rfl
    · omega
    · omega
    · omega
  · have hi' := of_decide_eq_false h
    ((conv=>whnf);repeat((first|refine Ct ‹_› ?_|refine Cf ‹_› ?_|refine Ct rfl ?_|refine Cf rfl ?_|refine Bi rfl ?_);conv=>whnf))
    obtain rfl : i = (l.length : Int) := by omega
    rw [rwIu_full]
    exact ⟨rfl, rfl, rfl⟩

theorem nrN : ∀ k q, lk ([] : Ob) k = some q → NoRo q := fun _ _ h => by cases h

theorem nrC {k0 : Nat} {r : Row} {l : Ob} (h : NoRo r) (hl : ∀ k q, lk l k = some q → NoRo q) : ∀ k q, lk ((k0, r) :: l) k = some q → NoRo q := by
  intro k q hk
  rw [lk_cons] at hk
  split at hk
  · cases hk; exact h
  · exact hl k q hk

theorem rwI_no (l : List Int) : NoRo (rwI l) := fun _ _ _ _ => rfl

theorem F_toTerrain (t : Ter) (hc : t.cost.length ≤ 1048576) : Fun E0 65 [.agg t.cs] [] (.v (.agg [.str t.name, .own 1 t.cost.length, cI t.shift, cI t.height, .bool t.blocks])) [(1, rwI t.cost)] [] := by
  refine Fun_of_xc k65 rfl rfl (nrC (rwI_no _) nrN) ?_
  ((conv=>whnf);repeat((first|refine Ct ‹_› ?_|refine Cf ‹_› ?_|refine Ct rfl ?_|refine Cf rfl ?_|refine Bi rfl ?_);conv=>whnf))
  refine CallQ_some (F_toIntS t.cost hc) rfl rfl ?_
  ((conv=>whnf);repeat((first|refine Ct ‹_› ?_|refine Cf ‹_› ?_|refine Ct rfl ?_|refine Cf rfl ?_|refine Bi rfl ?_);conv=>whnf))
  exact ⟨rfl, rfl, rfl⟩

/-- a terrain in a row of one's own -/
abbrev Ter.cw (t : Ter) : List Cell := [.str t.name, .fr 1 t.cost.length fun i _ => cI (t.cost.getD i 0), cI t.shift, cI t.height, .bool t.blocks]

abbrev Ter.cz : List Cell := [.str ⟨#[]⟩, .ro 1 0 nog, cI 0, cI 0, .bool false]

abbrev rwT (l : List Ter) : Row := ⟨true, 5, l.length, fun i j => nth (l.getD i Ter.d).cw j⟩

abbrev rwTu (l : List Ter) (k : Int) : Row := ⟨true, 5, l.length, fun i j => if (i : Int) < k ∨ l.length ≤ i then nth (l.getD i Ter.d).cw j else nth Ter.cz j⟩

theorem rwT_no (l : List Ter) : NoRo (rwT l) := by
  intro i j _ hj
  have hj : j < 5 := hj
  match j, hj with
  | 0, _ => rfl
  | 1, _ => exact fun _ _ _ _ => rfl
  | 2, _ => rfl
  | 3, _ => rfl
  | 4, _ => rfl

theorem F_toTerrainS (l : List Ter) (hl : l.length ≤ 1048576) (hc : ∀ t ∈ l, t.cost.length ≤ 1048576) : Fun E0 39 [.one (roT l)] [] (.v (.one (.own 0 l.length))) [(0, rwT l)] [] := by
  refine Fun_of_xc k39 rfl rfl (nrC (rwT_no _) nrN) ?_
  ((conv=>whnf);repeat((first|refine Ct ‹_› ?_|refine Cf ‹_› ?_|refine Ct rfl ?_|refine Cf rfl ?_|refine Bi rfl ?_);conv=>whnf))
  refine Rw_self ?_
  ((conv=>whnf);repeat((first|refine Ct ‹_› ?_|refine Cf ‹_› ?_|refine Ct rfl ?_|refine Cf rfl ?_|refine Bi rfl ?_);conv=>whnf))
  refine Bnd_i (by omega) ?_
  ((conv=>whnf);repeat((first|refine Ct ‹_› ?_|refine Cf ‹_› ?_|refine Ct rfl ?_|refine Cf rfl ?_|refine Bi rfl ?_);conv=>whnf))
  refine Rw_i (rwTu l 0) ⟨rfl, rfl, by simp [zeroRow], fun i j hi hj => ?_⟩ ?_
  · have hi : i < l.length := by simpa [zeroRow] using hi
    show nth Ter.cz j = if (i : Int) < 0 ∨ l.length ≤ i then nth (l.getD i Ter.d).cw j else nth Ter.cz j
    rw [if_neg (by omega)]
  ((conv=>whnf);repeat((first|refine Ct ‹_› ?_|refine Cf ‹_› ?_|refine Ct rfl ?_|refine Cf rfl ?_|refine Bi rfl ?_);conv=>whnf))
  refine WLoop_v ⟨[0, 3, 4], []⟩ (fun i : Int => hdS 23 [(0, .v (.one (roT l))), (3, .v (.one (.own (vkey 3) l.length))), (4, .v (vI i))] [] [(vkey 3, rwTu l i)])
    (fun k i => 0 ≤ i ∧ i + k = l.length) l.length 0 rfl ⟨by omega, by omega⟩ ?_
  rintro k i ⟨h1, h2⟩
  ((conv=>whnf);repeat((first|refine Ct ‹_› ?_|refine Cf ‹_› ?_|refine Ct rfl ?_|refine Cf rfl ?_|refine Bi rfl ?_);conv=>whnf))
  refine Cnd_i (fun h => ?_) (fun h => ?_)
  · have hi' : i < l.length := of_decide_eq_true h
    ((conv=>whnf);repeat((first|refine Ct ‹_› ?_|refine Cf ‹_› ?_|refine Ct rfl ?_|refine Cf rfl ?_|refine Bi rfl ?_);conv=>whnf))
    refine Bnd_i ⟨h1, hi'⟩ ?_
    ((conv=>whnf);repeat((first|refine Ct ‹_› ?_|refine Cf ‹_› ?_|refine Ct rfl ?_|refine Cf rfl ?_|refine Bi rfl ?_);conv=>whnf))
    refine CallQ_some (F_toTerrain (l.getD i.toNat Ter.d) (hc _ (getD_memT h1 hi'))) rfl rfl ?_
    ((conv=>whnf);repeat((first|refine Ct ‹_› ?_|refine Cf ‹_› ?_|refine Ct rfl ?_|refine Cf rfl ?_|refine Bi rfl ?_);conv=>whnf))
    refine Bnd_i ⟨h1, hi'⟩ ?_
    ((conv=>whnf);repeat((first|refine Ct ‹_› ?_|refine Cf ‹_› ?_|refine Ct rfl ?_|refine Cf rfl ?_|refine Bi rfl ?_);conv=>whnf))
    refine Rw_i (rwTu l (i + 1)) ⟨rfl, rfl, rfl, fun i' j hi hj => ?_⟩ ?_
    · have hj : j < 5 := hj
      have hi : i' < l.length := hi
      show wrG (rwTu l i).get i.toNat 0 (l.getD i.toNat Ter.d).cw i' j = if (i' : Int) < i + 1 ∨ l.length ≤ i' then nth (l.getD i' Ter.d).cw j else nth Ter.cz j
      by_cases e : i' = i.toNat
      · subst e
        rw [wrG_in (by simp; omega), if_pos (by omega)]; rfl
      · rw [wrG_out (fun hh => e hh.1)]
        show (if (i' : Int) < i ∨ l.length ≤ i' then nth (l.getD i' Ter.d).cw j else nth Ter.cz j) = _
        by_cases e2 : (i' : Int) < i
        · rw [if_pos (.inl e2), if_pos (.inl (by omega))]
        · rw [if_neg (by omega), if_neg (by omega)]
    ((conv=>whnf);repeat((first|refine Ct ‹_› ?_|refine Cf ‹_› ?_|refine Ct rfl ?_|refine Cf rfl ?_|refine Bi rfl ?_);conv=>whnf))
    refine ⟨k - 1, i + 1, ?_, ?_, ?_, ?_⟩
    · rw [wrapI (by omega)]; rfl
    · omega
    · omega
    · omega
  · have hi' := of_decide_eq_false h
    ((conv=>whnf);repeat((first|refine Ct ‹_› ?_|refine Cf ‹_› ?_|refine Ct rfl ?_|refine Cf rfl ?_|refine Bi rfl ?_);conv=>whnf))
    have e : rwTu l i = rwT l := by
      unfold rwTu rwT
      congr 1
      funext i' j
      rw [if_pos (by omega)]
    rw [e]
    exact ⟨rfl, rfl, rfl⟩

theorem F_toKind (t : Knd) : Fun E0 66 [.agg t.cs] [] (.v (.agg t.cs)) [] [] := by
  refine Fun_of_xc k66 rfl rfl (fun k q h => by cases h) ?_
  ((conv=>whnf);repeat((first|refine Ct ‹_› ?_|refine Cf ‹_› ?_|refine Ct rfl ?_|refine Cf rfl ?_|refine Bi rfl ?_);conv=>whnf))
  exact ⟨rfl, rfl, rfl⟩

abbrev Knd.cz : List Cell := [.str ⟨#[]⟩, cI 0, cI 0, cI 0, .bool false, cI 0]

abbrev rwK (l : List Knd) : Row := ⟨false, 6, l.length, fun i j => nth (l.getD i Knd.d).cs j⟩

abbrev rwKu (l : List Knd) (k : Int) : Row := ⟨false, 6, l.length, fun i j => if (i : Int) < k ∨ l.length ≤ i then nth (l.getD i Knd.d).cs j else nth Knd.cz j⟩

theorem rwK_no (l : List Knd) : NoRo (rwK l) := by
  intro i j _ hj
  have hj : j < 6 := hj
  match j, hj with
  | 0, _ => rfl
  | 1, _ => rfl
  | 2, _ => rfl
  | 3, _ => rfl
  | 4, _ => rfl
  | 5, _ => rfl

theorem F_toKindS (l : List Knd) (hl : l.length ≤ 1048576) : Fun E0 40 [.one (roK l)] [] (.v (.one (.own 0 l.length))) [(0, rwK l)] [] := by
  refine Fun_of_xc k40 rfl rfl (nrC (rwK_no _) nrN) ?_
  ((conv=>whnf);repeat((first|refine Ct ‹_› ?_|refine Cf ‹_› ?_|refine Ct rfl ?_|refine Cf rfl ?_|refine Bi rfl ?_);conv=>whnf))
  refine Rw_self ?_
  ((conv=>whnf);repeat((first|refine Ct ‹_› ?_|refine Cf ‹_› ?_|refine Ct rfl ?_|refine Cf rfl ?_|refine Bi rfl ?_);conv=>whnf))
  refine Bnd_i (by omega) ?_
  ((conv=>whnf);repeat((first|refine Ct ‹_› ?_|refine Cf ‹_› ?_|refine Ct rfl ?_|refine Cf rfl ?_|refine Bi rfl ?_);conv=>whnf))
  refine Rw_i (rwKu l 0) ⟨rfl, rfl, by simp [zeroRow], fun i j hi hj => ?_⟩ ?_
  · have hi : i < l.length := by simpa [zeroRow] using hi
    show nth Knd.cz j = if (i : Int) < 0 ∨ l.length ≤ i then nth (l.getD i Knd.d).cs j else nth Knd.cz j
    rw [if_neg (by omega)]
  ((conv=>whnf);repeat((first|refine Ct ‹_› ?_|refine Cf ‹_› ?_|refine Ct rfl ?_|refine Cf rfl ?_|refine Bi rfl ?_);conv=>whnf))
  refine WLoop_v ⟨[0, 3, 4], []⟩ (fun i : Int => hdS 23 [(0, .v (.one (roK l))), (3, .v (.one (.own (vkey 3) l.length))), (4, .v (vI i))] [] [(vkey 3, rwKu l i)])
    (fun k i => 0 ≤ i ∧ i + k = l.length) l.length 0 rfl ⟨by omega, by omega⟩ ?_
  rintro k i ⟨h1, h2⟩
  ((conv=>whnf);repeat((first|refine Ct ‹_› ?_|refine Cf ‹_› ?_|refine Ct rfl ?_|refine Cf rfl ?_|refine Bi rfl ?_);conv=>whnf))
  refine Cnd_i (fun h => ?_) (fun h => ?_)
  · have hi' : i < l.length := of_decide_eq_true h
    ((conv=>whnf);repeat((first|refine Ct ‹_› ?_|refine Cf ‹_› ?_|refine Ct rfl ?_|refine Cf rfl ?_|refine Bi rfl ?_);conv=>whnf))
    refine Bnd_i ⟨h1, hi'⟩ ?_
    ((conv=>whnf);repeat((first|refine Ct ‹_› ?_|refine Cf ‹_› ?_|refine Ct rfl ?_|refine Cf rfl ?_|refine Bi rfl ?_);conv=>whnf))
    refine CallQ_some (F_toKind (l.getD i.toNat Knd.d)) rfl rfl ?_
    ((conv=>whnf);repeat((first|refine Ct ‹_› ?_|refine Cf ‹_› ?_|refine Ct rfl ?_|refine Cf rfl ?_|refine Bi rfl ?_);conv=>whnf))
    refine Bnd_i ⟨h1, hi'⟩ ?_
    ((conv=>whnf);repeat((first|refine Ct ‹_› ?_|refine Cf ‹_› ?_|refine Ct rfl ?_|refine Cf rfl ?_|refine Bi rfl ?_);conv=>whnf))
    refine Rw_i (rwKu l (i + 1)) ⟨rfl, rfl, rfl, fun i' j hi hj => ?_⟩ ?_
    · have hj : j < 6 := hj
      have hi : i' < l.length := hi
      show wrG (rwKu l i).get i.toNat 0 (l.getD i.toNat Knd.d).cs i' j = if (i' : Int) < i + 1 ∨ l.length ≤ i' then nth (l.getD i' Knd.d).cs j else nth Knd.cz j
      by_cases e : i' = i.toNat
      · subst e
        rw [wrG_in (by simp; omega), if_pos (by omega)]; rfl
      · rw [wrG_out (fun hh => e hh.1)]
        show (if (i' : Int) < i ∨ l.length ≤ i' then nth (l.getD i' Knd.d).cs j else nth Knd.cz j) = _
        by_cases e2 : (i' : Int) < i
        · rw [if_pos (.inl e2), if_pos (.inl (by omega))]
        · rw [if_neg (by omega), if_neg (by omega)]
    ((conv=>whnf);repeat((first|refine Ct ‹_› ?_|refine Cf ‹_› ?_|refine Ct rfl ?_|refine Cf rfl ?_|refine Bi rfl ?_);conv=>whnf))
    refine ⟨k - 1, i + 1, ?_, ?_, ?_, ?_⟩
    · rw [wrapI (by omega)]; rfl
    · omega
    · omega
    · omega
  · have hi' := of_decide_eq_false h
    ((conv=>whnf);repeat((first|refine Ct ‹_› ?_|refine Cf ‹_› ?_|refine Ct rfl ?_|refine Cf rfl ?_|refine Bi rfl ?_);conv=>whnf))
    have e : rwKu l i = rwK l := by
      unfold rwKu rwK
      congr 1
      funext i' j
      rw [if_pos (by omega)]
    rw [e]
    exact ⟨rfl, rfl, rfl⟩

/-- what a copy asks: no list of more than 2^20 elements -/
structure Rul.Sm (r : Rul) : Prop where
  ter : r.ter.length ≤ 1048576
  cost : ∀ t ∈ r.ter, t.cost.length ≤ 1048576
  knd : r.knd.length ≤ 1048576

structure Map.Sm (m : Map) : Prop where
  ter : m.ter.length ≤ 1048576
  riv : m.riv.length ≤ 1048576
  roa : m.roa.length ≤ 1048576

structure Brd.Sm (b : Brd) : Prop where
  r : b.r.Sm
  m : b.m.Sm

theorem F_toRules (r : Rul) (h : r.Sm) : Fun E0 17 [.agg r.cs] [] (.v (.agg [.own 0 r.ter.length, .own 1 r.knd.length, cI r.stack, cI r.river, cI r.road, cI r.supply, cI r.turns])) [(0, rwT r.ter), (1, rwK r.knd)] [] := by
  refine Fun_of_xc k17 rfl rfl (nrC (rwT_no _) (nrC (rwK_no _) nrN)) ?_
  ((conv=>whnf);repeat((first|refine Ct ‹_› ?_|refine Cf ‹_› ?_|refine Ct rfl ?_|refine Cf rfl ?_|refine Bi rfl ?_);conv=>whnf))
  refine CallQ_some (F_toTerrainS r.ter h.ter h.cost) rfl rfl ?_
  ((conv=>whnf);repeat((first|refine Ct ‹_› ?_|refine Cf ‹_› ?_|refine Ct rfl ?_|refine Cf rfl ?_|refine Bi rfl ?_);conv=>whnf))
  refine CallQ_some (F_toKindS r.knd h.knd) rfl rfl ?_
  ((conv=>whnf);repeat((first|refine Ct ‹_› ?_|refine Cf ‹_› ?_|refine Ct rfl ?_|refine Cf rfl ?_|refine Bi rfl ?_);conv=>whnf))
  exact ⟨rfl, rfl, rfl⟩

theorem F_toMap (m : Map) (h : m.Sm) : Fun E0 18 [.agg m.cs] [] (.v (.agg [cI m.w, cI m.h, .own 2 m.ter.length, .own 3 m.riv.length, .own 4 m.roa.length])) [(2, rwI m.ter), (3, rwI m.riv), (4, rwI m.roa)] [] := by
  refine Fun_of_xc k18 rfl rfl (nrC (rwI_no _) (nrC (rwI_no _) (nrC (rwI_no _) nrN))) ?_
  ((conv=>whnf);repeat((first|refine Ct ‹_› ?_|refine Cf ‹_› ?_|refine Ct rfl ?_|refine Cf rfl ?_|refine Bi rfl ?_);conv=>whnf))
  refine CallQ_some (F_toIntS m.ter h.ter) rfl rfl ?_
  ((conv=>whnf);repeat((first|refine Ct ‹_› ?_|refine Cf ‹_› ?_|refine Ct rfl ?_|refine Cf rfl ?_|refine Bi rfl ?_);conv=>whnf))
  refine CallQ_some (F_toIntS m.riv h.riv) rfl rfl ?_
  ((conv=>whnf);repeat((first|refine Ct ‹_› ?_|refine Cf ‹_› ?_|refine Ct rfl ?_|refine Cf rfl ?_|refine Bi rfl ?_);conv=>whnf))
  refine CallQ_some (F_toIntS m.roa h.roa) rfl rfl ?_
  ((conv=>whnf);repeat((first|refine Ct ‹_› ?_|refine Cf ‹_› ?_|refine Ct rfl ?_|refine Cf rfl ?_|refine Bi rfl ?_);conv=>whnf))
  exact ⟨rfl, rfl, rfl⟩

abbrev Brd.cw (b : Brd) : List Cell := [.own 0 b.r.ter.length, .own 1 b.r.knd.length, cI b.r.stack, cI b.r.river, cI b.r.road, cI b.r.supply, cI b.r.turns, cI b.m.w, cI b.m.h, .own 9 b.m.ter.length, .own 10 b.m.riv.length, .own 11 b.m.roa.length]

abbrev Brd.rows (b : Brd) : Ob := [(0, rwT b.r.ter), (1, rwK b.r.knd), (9, rwI b.m.ter), (10, rwI b.m.riv), (11, rwI b.m.roa)]

theorem F_toBoard (b : Brd) (h : b.Sm) : Fun E0 7 [.agg b.cs] [] (.v (.agg b.cw)) b.rows [] := by
  refine Fun_of_xc k7 rfl rfl (nrC (rwT_no _) (nrC (rwK_no _) (nrC (rwI_no _) (nrC (rwI_no _) (nrC (rwI_no _) nrN))))) ?_
  ((conv=>whnf);repeat((first|refine Ct ‹_› ?_|refine Cf ‹_› ?_|refine Ct rfl ?_|refine Cf rfl ?_|refine Bi rfl ?_);conv=>whnf))
  refine CallQ_some (F_toRules b.r h.r) rfl rfl ?_
  ((conv=>whnf);repeat((first|refine Ct ‹_› ?_|refine Cf ‹_› ?_|refine Ct rfl ?_|refine Cf rfl ?_|refine Bi rfl ?_);conv=>whnf))
  refine CallQ_some (F_toMap b.m h.m) rfl rfl ?_
  ((conv=>whnf);repeat((first|refine Ct ‹_› ?_|refine Cf ‹_› ?_|refine Ct rfl ?_|refine Cf rfl ?_|refine Bi rfl ?_);conv=>whnf))
  exact ⟨rfl, rfl, rfl⟩

theorem F_eqIntS (l : List Int) (hl : l.length ≤ 1048576) : Fun E0 47 [.one (roI l), .one (roI l)] [] (.v (vB true)) [] [] := by
  refine Fun_of_xc k47 rfl rfl (fun k q h => by cases h) ?_
  ((conv=>whnf);repeat((first|refine Ct ‹_› ?_|refine Cf ‹_› ?_|refine Ct rfl ?_|refine Cf rfl ?_|refine Bi rfl ?_);conv=>whnf))
  refine Cnd_f (by simp) ?_
  ((conv=>whnf);repeat((first|refine Ct ‹_› ?_|refine Cf ‹_› ?_|refine Ct rfl ?_|refine Cf rfl ?_|refine Bi rfl ?_);conv=>whnf))
  refine WLoop_v ⟨[0, 1, 5], []⟩ (fun i : Int => hdS 26 [(0, .v (.one (roI l))), (1, .v (.one (roI l))), (5, .v (vI i))] [] [])
    (fun k i => 0 ≤ i ∧ i + k = l.length) l.length 0 rfl ⟨by omega, by omega⟩ ?_
  rintro k i ⟨h1, h2⟩
  ((conv=>whnf);repeat((first|refine Ct ‹_› ?_|refine Cf ‹_› ?_|refine Ct rfl ?_|refine Cf rfl ?_|refine Bi rfl ?_);conv=>whnf))
  refine Cnd_i (fun h => ?_) (fun h => ?_)
  · have hi' : i < l.length := of_decide_eq_true h
    ((conv=>whnf);repeat((first|refine Ct ‹_› ?_|refine Cf ‹_› ?_|refine Ct rfl ?_|refine Cf rfl ?_|refine Bi rfl ?_);conv=>whnf))
    refine Bnd_i ⟨h1, hi'⟩ ?_
    ((conv=>whnf);repeat((first|refine Ct ‹_› ?_|refine Cf ‹_› ?_|refine Ct rfl ?_|refine Cf rfl ?_|refine Bi rfl ?_);conv=>whnf))
    refine Bnd_i ⟨h1, hi'⟩ ?_
    ((conv=>whnf);repeat((first|refine Ct ‹_› ?_|refine Cf ‹_› ?_|refine Ct rfl ?_|refine Cf rfl ?_|refine Bi rfl ?_);conv=>whnf))
    refine Cnd_f (by simp) ?_
    ((conv=>whnf);repeat((first|refine Ct ‹_› ?_|refine Cf ‹_› ?_|refine Ct rfl ?_|refine Cf rfl ?_|refine Bi rfl ?_);conv=>whnf))
    refine ⟨k - 1, i + 1, ?_, ?_, ?_, ?_⟩
    · rw [wrapI (by omega)]; rfl
    · omega
    · omega
    · omega
  · ((conv=>whnf);repeat((first|refine Ct ‹_› ?_|refine Cf ‹_› ?_|refine Ct rfl ?_|refine Cf rfl ?_|refine Bi rfl ?_);conv=>whnf))
    exact ⟨rfl, rfl, rfl⟩

theorem F_eqTerrain (t : Ter) (hc : t.cost.length ≤ 1048576) : Fun E0 71 [.agg t.cs, .agg t.cs] [] (.v (vB true)) [] [] := by
  refine Fun_of_xc k71 rfl rfl (fun k q h => by cases h) ?_
  ((conv=>whnf);repeat((first|refine Ct ‹_› ?_|refine Cf ‹_› ?_|refine Ct rfl ?_|refine Cf rfl ?_|refine Bi rfl ?_);conv=>whnf))
  refine Cnd_f (by simp) ?_
  ((conv=>whnf);repeat((first|refine Ct ‹_› ?_|refine Cf ‹_› ?_|refine Ct rfl ?_|refine Cf rfl ?_|refine Bi rfl ?_);conv=>whnf))
  refine CallQ_some (F_eqIntS t.cost hc) rfl rfl ?_
  ((conv=>whnf);repeat((first|refine Ct ‹_› ?_|refine Cf ‹_› ?_|refine Ct rfl ?_|refine Cf rfl ?_|refine Bi rfl ?_);conv=>whnf))
  refine Cnd_f (by simp) ?_
  ((conv=>whnf);repeat((first|refine Ct ‹_› ?_|refine Cf ‹_› ?_|refine Ct rfl ?_|refine Cf rfl ?_|refine Bi rfl ?_);conv=>whnf))
  refine Cnd_f (by simp) ?_
  ((conv=>whnf);repeat((first|refine Ct ‹_› ?_|refine Cf ‹_› ?_|refine Ct rfl ?_|refine Cf rfl ?_|refine Bi rfl ?_);conv=>whnf))
  refine Cnd_f (by simp) ?_
  ((conv=>whnf);repeat((first|refine Ct ‹_› ?_|refine Cf ‹_› ?_|refine Ct rfl ?_|refine Cf rfl ?_|refine Bi rfl ?_);conv=>whnf))
  exact ⟨rfl, rfl, rfl⟩

theorem F_eqTerrainS (l : List Ter) (hl : l.length ≤ 1048576) (hc : ∀ t ∈ l, t.cost.length ≤ 1048576) : Fun E0 45 [.one (roT l), .one (roT l)] [] (.v (vB true)) [] [] := by
  refine Fun_of_xc k45 rfl rfl (fun k q h => by cases h) ?_
  ((conv=>whnf);repeat((first|refine Ct ‹_› ?_|refine Cf ‹_› ?_|refine Ct rfl ?_|refine Cf rfl ?_|refine Bi rfl ?_);conv=>whnf))
  refine Cnd_f (by simp) ?_
  ((conv=>whnf);repeat((first|refine Ct ‹_› ?_|refine Cf ‹_› ?_|refine Ct rfl ?_|refine Cf rfl ?_|refine Bi rfl ?_);conv=>whnf))
  refine WLoop_v ⟨[0, 1, 5], []⟩ (fun i : Int => hdS 27 [(0, .v (.one (roT l))), (1, .v (.one (roT l))), (5, .v (vI i))] [] [])
    (fun k i => 0 ≤ i ∧ i + k = l.length) l.length 0 rfl ⟨by omega, by omega⟩ ?_
  rintro k i ⟨h1, h2⟩
  ((conv=>whnf);repeat((first|refine Ct ‹_› ?_|refine Cf ‹_› ?_|refine Ct rfl ?_|refine Cf rfl ?_|refine Bi rfl ?_);conv=>whnf))
  refine Cnd_i (fun h => ?_) (fun h => ?_)
  · have hi' : i < l.length := of_decide_eq_true h
    ((conv=>whnf);repeat((first|refine Ct ‹_› ?_|refine Cf ‹_› ?_|refine Ct rfl ?_|refine Cf rfl ?_|refine Bi rfl ?_);conv=>whnf))
    refine Bnd_i ⟨h1, hi'⟩ ?_
    ((conv=>whnf);repeat((first|refine Ct ‹_› ?_|refine Cf ‹_› ?_|refine Ct rfl ?_|refine Cf rfl ?_|refine Bi rfl ?_);conv=>whnf))
    refine Bnd_i ⟨h1, hi'⟩ ?_
    ((conv=>whnf);repeat((first|refine Ct ‹_› ?_|refine Cf ‹_› ?_|refine Ct rfl ?_|refine Cf rfl ?_|refine Bi rfl ?_);conv=>whnf))
    refine CallQ_some (F_eqTerrain (l.getD i.toNat Ter.d) (hc _ (getD_memT h1 hi'))) rfl rfl ?_
    ((conv=>whnf);repeat((first|refine Ct ‹_› ?_|refine Cf ‹_› ?_|refine Ct rfl ?_|refine Cf rfl ?_|refine Bi rfl ?_);conv=>whnf))
    refine ⟨k - 1, i + 1, ?_, ?_, ?_, ?_⟩
    · rw [wrapI (by omega)]; rfl
    · omega
    · omega
    · omega
  · ((conv=>whnf);repeat((first|refine Ct ‹_› ?_|refine Cf ‹_› ?_|refine Ct rfl ?_|refine Cf rfl ?_|refine Bi rfl ?_);conv=>whnf))
    exact ⟨rfl, rfl, rfl⟩

theorem F_eqKind (t : Knd) : Fun E0 72 [.agg t.cs, .agg t.cs] [] (.v (vB true)) [] [] := by
  refine Fun_of_xc k72 rfl rfl (fun k q h => by cases h) ?_
  ((conv=>whnf);repeat((first|refine Ct ‹_› ?_|refine Cf ‹_› ?_|refine Ct rfl ?_|refine Cf rfl ?_|refine Bi rfl ?_);conv=>whnf))
  refine Cnd_f (by simp) ?_
  ((conv=>whnf);repeat((first|refine Ct ‹_› ?_|refine Cf ‹_› ?_|refine Ct rfl ?_|refine Cf rfl ?_|refine Bi rfl ?_);conv=>whnf))
  refine Cnd_f (by simp) ?_
  ((conv=>whnf);repeat((first|refine Ct ‹_› ?_|refine Cf ‹_› ?_|refine Ct rfl ?_|refine Cf rfl ?_|refine Bi rfl ?_);conv=>whnf))
  refine Cnd_f (by simp) ?_
  ((conv=>whnf);repeat((first|refine Ct ‹_› ?_|refine Cf ‹_› ?_|refine Ct rfl ?_|refine Cf rfl ?_|refine Bi rfl ?_);conv=>whnf))
  refine Cnd_f (by simp) ?_
  ((conv=>whnf);repeat((first|refine Ct ‹_› ?_|refine Cf ‹_› ?_|refine Ct rfl ?_|refine Cf rfl ?_|refine Bi rfl ?_);conv=>whnf))
  refine Cnd_f (by simp) ?_
  ((conv=>whnf);repeat((first|refine Ct ‹_› ?_|refine Cf ‹_› ?_|refine Ct rfl ?_|refine Cf rfl ?_|refine Bi rfl ?_);conv=>whnf))
  refine Cnd_f (by simp) ?_
  ((conv=>whnf);repeat((first|refine Ct ‹_› ?_|refine Cf ‹_› ?_|refine Ct rfl ?_|refine Cf rfl ?_|refine Bi rfl ?_);conv=>whnf))
  exact ⟨rfl, rfl, rfl⟩

theorem F_eqKindS (l : List Knd) (hl : l.length ≤ 1048576) : Fun E0 46 [.one (roK l), .one (roK l)] [] (.v (vB true)) [] [] := by
  refine Fun_of_xc k46 rfl rfl (fun k q h => by cases h) ?_
  ((conv=>whnf);repeat((first|refine Ct ‹_› ?_|refine Cf ‹_› ?_|refine Ct rfl ?_|refine Cf rfl ?_|refine Bi rfl ?_);conv=>whnf))
  refine Cnd_f (by simp) ?_
  ((conv=>whnf);repeat((first|refine Ct ‹_› ?_|refine Cf ‹_› ?_|refine Ct rfl ?_|refine Cf rfl ?_|refine Bi rfl ?_);conv=>whnf))
  refine WLoop_v ⟨[0, 1, 5], []⟩ (fun i : Int => hdS 27 [(0, .v (.one (roK l))), (1, .v (.one (roK l))), (5, .v (vI i))] [] [])
    (fun k i => 0 ≤ i ∧ i + k = l.length) l.length 0 rfl ⟨by omega, by omega⟩ ?_
  rintro k i ⟨h1, h2⟩
  ((conv=>whnf);repeat((first|refine Ct ‹_› ?_|refine Cf ‹_› ?_|refine Ct rfl ?_|refine Cf rfl ?_|refine Bi rfl ?_);conv=>whnf))
  refine Cnd_i (fun h => ?_) (fun h => ?_)
  · have hi' : i < l.length := of_decide_eq_true h
    ((conv=>whnf);repeat((first|refine Ct ‹_› ?_|refine Cf ‹_› ?_|refine Ct rfl ?_|refine Cf rfl ?_|refine Bi rfl ?_);conv=>whnf))
    refine Bnd_i ⟨h1, hi'⟩ ?_
    ((conv=>whnf);repeat((first|refine Ct ‹_› ?_|refine Cf ‹_› ?_|refine Ct rfl ?_|refine Cf rfl ?_|refine Bi rfl ?_);conv=>whnf))
    refine Bnd_i ⟨h1, hi'⟩ ?_
    ((conv=>whnf);repeat((first|refine Ct ‹_› ?_|refine Cf ‹_› ?_|refine Ct rfl ?_|refine Cf rfl ?_|refine Bi rfl ?_);conv=>whnf))
    refine CallQ_some (F_eqKind (l.getD i.toNat Knd.d)) rfl rfl ?_
    ((conv=>whnf);repeat((first|refine Ct ‹_› ?_|refine Cf ‹_› ?_|refine Ct rfl ?_|refine Cf rfl ?_|refine Bi rfl ?_);conv=>whnf))
    refine ⟨k - 1, i + 1, ?_, ?_, ?_, ?_⟩
    · rw [wrapI (by omega)]; rfl
    · omega
    · omega
    · omega
  · ((conv=>whnf);repeat((first|refine Ct ‹_› ?_|refine Cf ‹_› ?_|refine Ct rfl ?_|refine Cf rfl ?_|refine Bi rfl ?_);conv=>whnf))
    exact ⟨rfl, rfl, rfl⟩

theorem F_eqRules (r : Rul) (h : r.Sm) : Fun E0 23 [.agg r.cs, .agg r.cs] [] (.v (vB true)) [] [] := by
  refine Fun_of_xc k23 rfl rfl (fun k q h => by cases h) ?_
  ((conv=>whnf);repeat((first|refine Ct ‹_› ?_|refine Cf ‹_› ?_|refine Ct rfl ?_|refine Cf rfl ?_|refine Bi rfl ?_);conv=>whnf))
  refine CallQ_some (F_eqTerrainS r.ter h.ter h.cost) rfl rfl ?_
  ((conv=>whnf);repeat((first|refine Ct ‹_› ?_|refine Cf ‹_› ?_|refine Ct rfl ?_|refine Cf rfl ?_|refine Bi rfl ?_);conv=>whnf))
  refine CallQ_some (F_eqKindS r.knd h.knd) rfl rfl ?_
  ((conv=>whnf);repeat((first|refine Ct ‹_› ?_|refine Cf ‹_› ?_|refine Ct rfl ?_|refine Cf rfl ?_|refine Bi rfl ?_);conv=>whnf))
  refine Cnd_f (by simp) ?_
  ((conv=>whnf);repeat((first|refine Ct ‹_› ?_|refine Cf ‹_› ?_|refine Ct rfl ?_|refine Cf rfl ?_|refine Bi rfl ?_);conv=>whnf))
  refine Cnd_f (by simp) ?_
  ((conv=>whnf);repeat((first|refine Ct ‹_› ?_|refine Cf ‹_› ?_|refine Ct rfl ?_|refine Cf rfl ?_|refine Bi rfl ?_);conv=>whnf))
  refine Cnd_f (by simp) ?_
  ((conv=>whnf);repeat((first|refine Ct ‹_› ?_|refine Cf ‹_› ?_|refine Ct rfl ?_|refine Cf rfl ?_|refine Bi rfl ?_);conv=>whnf))
  refine Cnd_f (by simp) ?_
  ((conv=>whnf);repeat((first|refine Ct ‹_› ?_|refine Cf ‹_› ?_|refine Ct rfl ?_|refine Cf rfl ?_|refine Bi rfl ?_);conv=>whnf))
  refine Cnd_f (by simp) ?_
  ((conv=>whnf);repeat((first|refine Ct ‹_› ?_|refine Cf ‹_› ?_|refine Ct rfl ?_|refine Cf rfl ?_|refine Bi rfl ?_);conv=>whnf))
  exact ⟨rfl, rfl, rfl⟩

theorem F_eqMap (m : Map) (h : m.Sm) : Fun E0 24 [.agg m.cs, .agg m.cs] [] (.v (vB true)) [] [] := by
  refine Fun_of_xc k24 rfl rfl (fun k q h => by cases h) ?_
  ((conv=>whnf);repeat((first|refine Ct ‹_› ?_|refine Cf ‹_› ?_|refine Ct rfl ?_|refine Cf rfl ?_|refine Bi rfl ?_);conv=>whnf))
  refine Cnd_f (by simp) ?_
  ((conv=>whnf);repeat((first|refine Ct ‹_› ?_|refine Cf ‹_› ?_|refine Ct rfl ?_|refine Cf rfl ?_|refine Bi rfl ?_);conv=>whnf))
  refine Cnd_f (by simp) ?_
  ((conv=>whnf);repeat((first|refine Ct ‹_› ?_|refine Cf ‹_› ?_|refine Ct rfl ?_|refine Cf rfl ?_|refine Bi rfl ?_);conv=>whnf))
  refine CallQ_some (F_eqIntS m.ter h.ter) rfl rfl ?_
  ((conv=>whnf);repeat((first|refine Ct ‹_› ?_|refine Cf ‹_› ?_|refine Ct rfl ?_|refine Cf rfl ?_|refine Bi rfl ?_);conv=>whnf))
  refine CallQ_some (F_eqIntS m.riv h.riv) rfl rfl ?_
  ((conv=>whnf);repeat((first|refine Ct ‹_› ?_|refine Cf ‹_› ?_|refine Ct rfl ?_|refine Cf rfl ?_|refine Bi rfl ?_);conv=>whnf))
  refine CallQ_some (F_eqIntS m.roa h.roa) rfl rfl ?_
  ((conv=>whnf);repeat((first|refine Ct ‹_› ?_|refine Cf ‹_› ?_|refine Ct rfl ?_|refine Cf rfl ?_|refine Bi rfl ?_);conv=>whnf))
  exact ⟨rfl, rfl, rfl⟩

theorem F_eqBoard (b : Brd) (h : b.Sm) : Fun E0 9 [.agg b.cs, .agg b.cs] [] (.v (vB true)) [] [] := by
  refine Fun_of_xc k9 rfl rfl (fun k q h => by cases h) ?_
  ((conv=>whnf);repeat((first|refine Ct ‹_› ?_|refine Cf ‹_› ?_|refine Ct rfl ?_|refine Cf rfl ?_|refine Bi rfl ?_);conv=>whnf))
  refine CallQ_some (F_eqRules b.r h.r) rfl rfl ?_
  ((conv=>whnf);repeat((first|refine Ct ‹_› ?_|refine Cf ‹_› ?_|refine Ct rfl ?_|refine Cf rfl ?_|refine Bi rfl ?_);conv=>whnf))
  refine CallQ_some (F_eqMap b.m h.m) rfl rfl ?_
  ((conv=>whnf);repeat((first|refine Ct ‹_› ?_|refine Cf ‹_› ?_|refine Ct rfl ?_|refine Cf rfl ?_|refine Bi rfl ?_);conv=>whnf))
  exact ⟨rfl, rfl, rfl⟩

theorem CallQ_eq {E : Env} {f : Nat} {av av' : List V} {hot : Bool} {d : Option Nat} {ob : Ob} {K : T → Ob → Prop} (e : av = av') (h : CallQ E f av' hot d ob K) : CallQ E f av hot d ob K := e ▸ h

theorem nth_map {g : Cell → Cell} (hg : g .u = .u) : ∀ (l : List Cell) (j : Nat), g (nth l j) = nth (l.map g) j
  | [], _ => hg
  | _ :: _, 0 => rfl
  | _ :: l, j + 1 => nth_map hg l j

theorem toRo_nth (l : List Cell) (j : Nat) : toRo (nth l j) = nth (l.map toRo) j := nth_map rfl l j

theorem snapT (l : List Ter) : Cell.ro 5 l.length (fun i j => toRo (nth (l.getD i Ter.d).cw j)) = roT l := by
  unfold roT
  congr 1
  funext i j
  rw [toRo_nth]; rfl

theorem snapK (l : List Knd) : Cell.ro 6 l.length (fun i j => toRo (nth (l.getD i Knd.d).cs j)) = roK l := by
  unfold roK
  congr 1
  funext i j
  rw [toRo_nth]; rfl

theorem snapB (b : Brd) (L : List V) :
    V.agg [.ro 5 b.r.ter.length fun i j => toRo (nth (b.r.ter.getD i Ter.d).cw j), .ro 6 b.r.knd.length fun i j => toRo (nth (b.r.knd.getD i Knd.d).cs j), cI b.r.stack, cI b.r.river, cI b.r.road, cI b.r.supply, cI b.r.turns,
      cI b.m.w, cI b.m.h, roI b.m.ter, roI b.m.riv, roI b.m.roa] :: L = V.agg b.cs :: L := by rw [snapT, snapK]

theorem snapBB (b : Brd) :
    [V.agg [.ro 5 b.r.ter.length fun i j => toRo (nth (b.r.ter.getD i Ter.d).cw j), .ro 6 b.r.knd.length fun i j => toRo (nth (b.r.knd.getD i Knd.d).cs j), cI b.r.stack, cI b.r.river, cI b.r.road, cI b.r.supply, cI b.r.turns,
      cI b.m.w, cI b.m.h, roI b.m.ter, roI b.m.riv, roI b.m.roa],
     V.agg [.ro 5 b.r.ter.length fun i j => toRo (nth (b.r.ter.getD i Ter.d).cw j), .ro 6 b.r.knd.length fun i j => toRo (nth (b.r.knd.getD i Knd.d).cs j), cI b.r.stack, cI b.r.river, cI b.r.road, cI b.r.supply, cI b.r.turns,
      cI b.m.w, cI b.m.h, roI b.m.ter, roI b.m.riv, roI b.m.roa]] = [V.agg b.cs, V.agg b.cs] := by rw [snapT, snapK]

theorem sub1_sm {left n : Int} (h : ¬ sub1 left n < 0) : n ≤ left ∧ sub1 left n = left - n := by
  unfold sub1 at h ⊢
  by_cases g : left - n < 0
  · rw [if_pos g] at h; omega
  · rw [if_neg g]; omega

theorem szL_sm {α : Type} {f : α → Int → Int} {p : α → Prop} (hf : ∀ a x, 0 ≤ x → x ≤ 1048576 → ¬ f a x < 0 → p a ∧ f a x ≤ 1048576) : ∀ (l : List α) (x : Int), 0 ≤ x → x ≤ 1048576 → ¬ szL f l x < 0 → ∀ a ∈ l, p a
  | [], _, _, _, _, _, h => by cases h
  | a :: l, x, h0, h1, h, b, hb => by
    unfold szL at h
    by_cases g : f a x < 0
    · rw [if_pos g] at h; omega
    · rw [if_neg g] at h
      obtain ⟨c1, c2⟩ := hf a x h0 h1 g
      rcases List.mem_cons.1 hb with rfl | hb
      · exact c1
      · exact szL_sm hf l _ (by omega) c2 h b hb

theorem szS_sm {α : Type} {f : α → Int → Int} {p : α → Prop} (hf : ∀ a x, 0 ≤ x → x ≤ 1048576 → ¬ f a x < 0 → p a ∧ f a x ≤ 1048576) (l : List α) (x : Int) (h0 : 0 ≤ x) (h1 : x ≤ 1048576) (h : ¬ szS f l x < 0) : l.length ≤ 1048576 ∧ ∀ a ∈ l, p a := by
  unfold szS at h
  by_cases g : x - l.length < 0
  · rw [if_pos g] at h; omega
  · rw [if_neg g] at h
    exact ⟨by omega, szL_sm hf l _ (by omega) (by omega) h⟩

theorem szT_sm {t : Ter} {x : Int} (h0 : 0 ≤ x) (h1 : x ≤ 1048576) (h : ¬ szT t x < 0) : t.cost.length ≤ 1048576 ∧ szT t x ≤ 1048576 := by
  refine ⟨?_, (szT_b h0 h1).1⟩
  unfold szT at h
  by_cases g : x - t.name.size < 0
  · rw [if_pos g] at h; omega
  · rw [if_neg g] at h
    have := (sub1_sm h).1
    omega

theorem szB_sm {b : Brd} {x : Int} (h0 : 0 ≤ x) (h1 : x ≤ 1048576) (h : ¬ szB b x < 0) : b.Sm ∧ szB b x ≤ 1048576 := by
  unfold szB at h ⊢
  by_cases g : szR b.r x < 0
  · rw [if_pos g] at h; omega
  rw [if_neg g] at h ⊢
  by_cases g2 : szM b.m (szR b.r x) < 0
  · rw [if_pos g2] at h; omega
  rw [if_neg g2]
  clear h
  have gb := szR_b (r := b.r) h0 h1
  unfold szR at g
  by_cases e1 : szS szT b.r.ter x < 0
  · rw [if_pos e1] at g; omega
  rw [if_neg e1] at g
  by_cases e2 : szS szK b.r.knd (szS szT b.r.ter x) < 0
  · rw [if_pos e2] at g; omega
  have b1 := szS_b (f := szT) (fun t x a b => (szT_b a b).1) b.r.ter h0 h1
  have k1 := szS_sm (p := fun t : Ter => t.cost.length ≤ 1048576) (fun a x h0 h1 h => szT_sm h0 h1 h) b.r.ter x h0 h1 e1
  have k2 := szS_sm (f := szK) (p := fun _ => True) (fun a x h0 h1 h => ⟨trivial, (szK_b h0 h1).1⟩) b.r.knd _ (by omega) b1 e2
  unfold szM at g2 ⊢
  generalize szR b.r x = y at *
  by_cases e3 : sub1 y b.m.ter.length < 0
  · rw [if_pos e3] at g2; omega
  rw [if_neg e3] at g2 ⊢
  by_cases e4 : sub1 (sub1 y b.m.ter.length) b.m.riv.length < 0
  · rw [if_pos e4] at g2; omega
  rw [if_neg e4] at g2 ⊢
  have m1 := sub1_sm e3
  have m2 := sub1_sm e4
  have m3 := sub1_sm g2
  exact ⟨⟨⟨k1.1, k1.2, k2.1⟩, ⟨by omega, by omega, by omega⟩⟩, by omega⟩

/-- a board that is as it should be, with a hex of that number -/
def okPl (b : Brd) (i : Int) : Bool := okBrd b && In i 0 (b.m.w * b.m.h - 1)

theorem bAt0_eq {b : Brd} (ho : b.Ok) (i : Int) : (okBrd b && In 0 0 (b.r.knd.length - 1) && In i 0 (b.m.w * b.m.h - 1)) = okPl b i := by
  unfold okPl
  cases e : okBrd b with
  | false => rfl
  | true =>
    have g := GB.of ho e
    have h1 := g.k1
    have : In 0 0 (b.r.knd.length - 1) = true := decide_eq_true (by omega)
    rw [this]; rfl

theorem F_bAt0 (b : Brd) (ho : b.Ok) (i : Int) : Fun E0 15 [.agg b.cs, vI 0, vI i] [] (.v (vB (okPl b i))) [] [] := bAt0_eq ho i ▸ F_bAt b ho 0 i

structure PlOk (b : Brd) (i : Int) : Prop where
  gb : GB b
  i0 : 0 ≤ i
  i1 : i < b.m.ter.length

theorem PlOk.of {b : Brd} (ho : b.Ok) {i : Int} (h : okPl b i = true) : PlOk b i := by
  simp only [okPl, Bool.and_eq_true] at h
  have g := GB.of ho h.1
  have a := of_decide_eq_true h.2
  have := g.n
  exact ⟨g, by omega, by omega⟩

def okPr (b : Brd) (i k : Int) : Bool := okPl b i && okPl b k

theorem F_vPair (b : Brd) (ho : b.Ok) (i k : Int) : Fun E0 14 [.agg b.cs, vI i, vI k] [] (.v (vB (okPr b i k))) [] [] := by
  refine Fun_of_xc k14 rfl rfl (fun k q h => by cases h) ?_
  ((conv=>whnf);repeat((first|refine Ct ‹_› ?_|refine Cf ‹_› ?_|refine Ct rfl ?_|refine Cf rfl ?_|refine Bi rfl ?_);conv=>whnf))
  (refine CallQ_some (F_bAt0 b ho i) ?_ ?_ ?_; rfl; rfl); ((conv=>whnf);repeat((first|refine Ct ‹_› ?_|refine Cf ‹_› ?_|refine Ct rfl ?_|refine Cf rfl ?_|refine Bi rfl ?_);conv=>whnf))
  refine Cnd_i (fun g => ?_) (fun g => ?_)
  · ((conv=>whnf);repeat((first|refine Ct ‹_› ?_|refine Cf ‹_› ?_|refine Ct rfl ?_|refine Cf rfl ?_|refine Bi rfl ?_);conv=>whnf))
    (refine CallQ_some (F_bAt0 b ho k) ?_ ?_ ?_; rfl; rfl); ((conv=>whnf);repeat((first|refine Ct ‹_› ?_|refine Cf ‹_› ?_|refine Ct rfl ?_|refine Cf rfl ?_|refine Bi rfl ?_);conv=>whnf))
    refine ⟨?_, rfl, rfl⟩
    rw [okPr, g]; rfl
  · ((conv=>whnf);repeat((first|refine Ct ‹_› ?_|refine Cf ‹_› ?_|refine Ct rfl ?_|refine Cf rfl ?_|refine Bi rfl ?_);conv=>whnf))
    refine ⟨?_, rfl, rfl⟩
    rw [okPr, g]; rfl

theorem F_isPair (b : Brd) (ho : b.Ok) (i k : Int) : Fun E0 19 [.agg b.cs, vI i, vI k] [] (.v (vB (okPr b i k))) [] [] := by
  have hlt : b.m.ter.length ≤ 9223372036854775807 := ho.m.ter.len
  refine Fun_of_xc k19 rfl rfl (fun k q h => by cases h) ?_
  ((conv=>whnf);repeat((first|refine Ct ‹_› ?_|refine Cf ‹_› ?_|refine Ct rfl ?_|refine Cf rfl ?_|refine Bi rfl ?_);conv=>whnf))
  (refine CallQ_some (F_IsBoard b ho) ?_ ?_ ?_; rfl; rfl); ((conv=>whnf);repeat((first|refine Ct ‹_› ?_|refine Cf ‹_› ?_|refine Ct rfl ?_|refine Cf rfl ?_|refine Bi rfl ?_);conv=>whnf))
  refine Cnd_i (fun g => ?_) (fun g => ?_)
  · have hn := (GB.of ho g).n
    ((conv=>whnf);repeat((first|refine Ct ‹_› ?_|refine Cf ‹_› ?_|refine Ct rfl ?_|refine Cf rfl ?_|refine Bi rfl ?_);conv=>whnf))
    (refine CallQ_some (F_sizeOf b) ?_ ?_ ?_; rfl; rfl); ((conv=>whnf);repeat((first|refine Ct ‹_› ?_|refine Cf ‹_› ?_|refine Ct rfl ?_|refine Cf rfl ?_|refine Bi rfl ?_);conv=>whnf))
    (refine CallQ_some (F_isIndex _ _ (by unfold i64; omega)) ?_ ?_ ?_; rfl; rfl); ((conv=>whnf);repeat((first|refine Ct ‹_› ?_|refine Cf ‹_› ?_|refine Ct rfl ?_|refine Cf rfl ?_|refine Bi rfl ?_);conv=>whnf))
    refine Cnd_i (fun g2 => ?_) (fun g2 => ?_)
    · ((conv=>whnf);repeat((first|refine Ct ‹_› ?_|refine Cf ‹_› ?_|refine Ct rfl ?_|refine Cf rfl ?_|refine Bi rfl ?_);conv=>whnf))
      (refine CallQ_some (F_sizeOf b) ?_ ?_ ?_; rfl; rfl); ((conv=>whnf);repeat((first|refine Ct ‹_› ?_|refine Cf ‹_› ?_|refine Ct rfl ?_|refine Cf rfl ?_|refine Bi rfl ?_);conv=>whnf))
      (refine CallQ_some (F_isIndex _ _ (by unfold i64; omega)) ?_ ?_ ?_; rfl; rfl); ((conv=>whnf);repeat((first|refine Ct ‹_› ?_|refine Cf ‹_› ?_|refine Ct rfl ?_|refine Cf rfl ?_|refine Bi rfl ?_);conv=>whnf))
      refine ⟨?_, rfl, rfl⟩
      rw [hn] at g2 ⊢
      rw [okPr, okPl, okPl, g, g2]; rfl
    · ((conv=>whnf);repeat((first|refine Ct ‹_› ?_|refine Cf ‹_› ?_|refine Ct rfl ?_|refine Cf rfl ?_|refine Bi rfl ?_);conv=>whnf))
      refine ⟨?_, rfl, rfl⟩
      rw [hn] at g2
      rw [okPr, okPl, okPl, g, g2]; rfl
  · ((conv=>whnf);repeat((first|refine Ct ‹_› ?_|refine Cf ‹_› ?_|refine Ct rfl ?_|refine Cf rfl ?_|refine Bi rfl ?_);conv=>whnf))
    refine ⟨?_, rfl, rfl⟩
    rw [okPr, okPl, g]; rfl

theorem GB.high {b : Brd} (h : GB b) {i : Int} (h0 : 0 ≤ i) (h1 : i < b.m.ter.length) : 0 ≤ (Ab.terAt b i).height ∧ (Ab.terAt b i).height ≤ 3 := by
  have ho := h.ter _ (h.terAt h0 h1)
  simp only [okTer, Bool.and_eq_true] at ho
  exact of_decide_eq_true ho.1.2

/-- the height that a hex has as an obstacle -/
def vhg (b : Brd) (x : Int) : Int := if (terAt b x).blocks then (terAt b x).height + 1 else (terAt b x).height

def blk (b : Brd) (i k x : Int) : Bool := decide (vhg b x > max (terAt b i).height (terAt b k).height)

theorem F_vHeight (b : Brd) (h : GB b) (x : Int) (h0 : 0 ≤ x) (h1 : x < b.m.ter.length) : Fun E0 36 [.agg b.cs, vI x] [] (.v (vI (vhg b x))) [] [] := by
  have hh := h.high h0 h1
  refine Fun_of_xc k36 rfl rfl (fun k q h => by cases h) ?_
  ((conv=>whnf);repeat((first|refine Ct ‹_› ?_|refine Cf ‹_› ?_|refine Ct rfl ?_|refine Cf rfl ?_|refine Bi rfl ?_);conv=>whnf))
  (refine CallQ_some (F_bTerrain b h x h0 h1) ?_ ?_ ?_; rfl; rfl); ((conv=>whnf);repeat((first|refine Ct ‹_› ?_|refine Cf ‹_› ?_|refine Ct rfl ?_|refine Cf rfl ?_|refine Bi rfl ?_);conv=>whnf))
  refine Cnd_i (fun g => ?_) (fun g => ?_)
  · ((conv=>whnf);repeat((first|refine Ct ‹_› ?_|refine Cf ‹_› ?_|refine Ct rfl ?_|refine Cf rfl ?_|refine Bi rfl ?_);conv=>whnf))
    refine ⟨?_, rfl, rfl⟩
    rw [vhg, if_pos g, wrapI (by omega)]; rfl
  · ((conv=>whnf);repeat((first|refine Ct ‹_› ?_|refine Cf ‹_› ?_|refine Ct rfl ?_|refine Cf rfl ?_|refine Bi rfl ?_);conv=>whnf))
    refine ⟨?_, rfl, rfl⟩
    rw [vhg, g]; rfl

theorem F_l1Most (a c : Int) : Fun E0 37 [vI a, vI c] [] (.v (vI (max a c))) [] [] := by
  refine Fun_of_xc k37 rfl rfl (fun k q h => by cases h) ?_
  ((conv=>whnf);repeat((first|refine Ct ‹_› ?_|refine Cf ‹_› ?_|refine Ct rfl ?_|refine Cf rfl ?_|refine Bi rfl ?_);conv=>whnf))
  refine Cnd_i (fun g => ?_) (fun g => ?_)
  · have g := of_decide_eq_true g
    ((conv=>whnf);repeat((first|refine Ct ‹_› ?_|refine Cf ‹_› ?_|refine Ct rfl ?_|refine Cf rfl ?_|refine Bi rfl ?_);conv=>whnf))
    refine ⟨?_, rfl, rfl⟩
    rw [show max a c = a by omega]; rfl
  · have g := of_decide_eq_false g
    ((conv=>whnf);repeat((first|refine Ct ‹_› ?_|refine Cf ‹_› ?_|refine Ct rfl ?_|refine Cf rfl ?_|refine Bi rfl ?_);conv=>whnf))
    refine ⟨?_, rfl, rfl⟩
    rw [show max a c = c by omega]; rfl

theorem F_vBlocks (b : Brd) (h : GB b) (i k x : Int) (hi : 0 ≤ i ∧ i < b.m.ter.length) (hk : 0 ≤ k ∧ k < b.m.ter.length) (hx : 0 ≤ x ∧ x < b.m.ter.length) : Fun E0 16 [.agg b.cs, vI i, vI k, vI x] [] (.v (vB (blk b i k x))) [] [] := by
  refine Fun_of_xc k16 rfl rfl (fun k q h => by cases h) ?_
  ((conv=>whnf);repeat((first|refine Ct ‹_› ?_|refine Cf ‹_› ?_|refine Ct rfl ?_|refine Cf rfl ?_|refine Bi rfl ?_);conv=>whnf))
  (refine CallQ_some (F_vHeight b h x hx.1 hx.2) ?_ ?_ ?_; rfl; rfl); ((conv=>whnf);repeat((first|refine Ct ‹_› ?_|refine Cf ‹_› ?_|refine Ct rfl ?_|refine Cf rfl ?_|refine Bi rfl ?_);conv=>whnf))
  (refine CallQ_some (F_bTerrain b h i hi.1 hi.2) ?_ ?_ ?_; rfl; rfl); ((conv=>whnf);repeat((first|refine Ct ‹_› ?_|refine Cf ‹_› ?_|refine Ct rfl ?_|refine Cf rfl ?_|refine Bi rfl ?_);conv=>whnf))
  (refine CallQ_some (F_bTerrain b h k hk.1 hk.2) ?_ ?_ ?_; rfl; rfl); ((conv=>whnf);repeat((first|refine Ct ‹_› ?_|refine Cf ‹_› ?_|refine Ct rfl ?_|refine Cf rfl ?_|refine Bi rfl ?_);conv=>whnf))
  (refine CallQ_some (F_l1Most _ _) ?_ ?_ ?_; rfl; rfl); ((conv=>whnf);repeat((first|refine Ct ‹_› ?_|refine Cf ‹_› ?_|refine Ct rfl ?_|refine Cf rfl ?_|refine Bi rfl ?_);conv=>whnf))
  exact ⟨rfl, rfl, rfl⟩

theorem mx_eq (a b : Int) : (if b > a then b else a) = max a b := by omega

theorem F_blocksBetween (b : Brd) (h : GB b) (i k x : Int) (hi : 0 ≤ i ∧ i < b.m.ter.length) (hk : 0 ≤ k ∧ k < b.m.ter.length) (hx : 0 ≤ x ∧ x < b.m.ter.length) : Fun E0 22 [.agg b.cs, vI i, vI k, vI x] [] (.v (vB (blk b i k x))) [] [] := by
  have hh := h.high hx.1 hx.2
  refine Fun_of_xc k22 rfl rfl (fun k q h => by cases h) ?_
  ((conv=>whnf);repeat((first|refine Ct ‹_› ?_|refine Cf ‹_› ?_|refine Ct rfl ?_|refine Cf rfl ?_|refine Bi rfl ?_);conv=>whnf))
  (refine CallQ_some (F_terrainAt b h x hx.1 hx.2) ?_ ?_ ?_; rfl; rfl); ((conv=>whnf);repeat((first|refine Ct ‹_› ?_|refine Cf ‹_› ?_|refine Ct rfl ?_|refine Cf rfl ?_|refine Bi rfl ?_);conv=>whnf))
  refine Cnd_i (fun g => ?_) (fun g => ?_)
  · ((conv=>whnf);repeat((first|refine Ct ‹_› ?_|refine Cf ‹_› ?_|refine Ct rfl ?_|refine Cf rfl ?_|refine Bi rfl ?_);conv=>whnf))
    (refine CallQ_some (F_terrainAt b h i hi.1 hi.2) ?_ ?_ ?_; rfl; rfl); ((conv=>whnf);repeat((first|refine Ct ‹_› ?_|refine Cf ‹_› ?_|refine Ct rfl ?_|refine Cf rfl ?_|refine Bi rfl ?_);conv=>whnf))
    (refine CallQ_some (F_terrainAt b h k hk.1 hk.2) ?_ ?_ ?_; rfl; rfl); ((conv=>whnf);repeat((first|refine Ct ‹_› ?_|refine Cf ‹_› ?_|refine Ct rfl ?_|refine Cf rfl ?_|refine Bi rfl ?_);conv=>whnf))
    refine ⟨?_, rfl, rfl⟩
    rw [blk, vhg, if_pos g, wrapI (by omega), mx_eq]; rfl
  · ((conv=>whnf);repeat((first|refine Ct ‹_› ?_|refine Cf ‹_› ?_|refine Ct rfl ?_|refine Cf rfl ?_|refine Bi rfl ?_);conv=>whnf))
    (refine CallQ_some (F_terrainAt b h i hi.1 hi.2) ?_ ?_ ?_; rfl; rfl); ((conv=>whnf);repeat((first|refine Ct ‹_› ?_|refine Cf ‹_› ?_|refine Ct rfl ?_|refine Cf rfl ?_|refine Bi rfl ?_);conv=>whnf))
    (refine CallQ_some (F_terrainAt b h k hk.1 hk.2) ?_ ?_ ?_; rfl; rfl); ((conv=>whnf);repeat((first|refine Ct ‹_› ?_|refine Cf ‹_› ?_|refine Ct rfl ?_|refine Cf rfl ?_|refine Bi rfl ?_);conv=>whnf))
    refine ⟨?_, rfl, rfl⟩
    rw [blk, vhg, g, mx_eq]; rfl

def blkR (b : Brd) (i k x : Int) : T := if okPr b i k && okPl b x then .tup [vB (blk b i k x), vB true] else .tup [vB false, vB false]

theorem F_BlocksBetween (b : Brd) (ho : b.Ok) (i k x : Int) : Fun E0 6 [.agg b.cs, vI i, vI k, vI x] [] (blkR b i k x) [] [] := by
  refine Fun_of_xc k6 rfl rfl (fun k q h => by cases h) ?_
  ((conv=>whnf);repeat((first|refine Ct ‹_› ?_|refine Cf ‹_› ?_|refine Ct rfl ?_|refine Cf rfl ?_|refine Bi rfl ?_);conv=>whnf))
  (refine CallQ_some (F_vPair b ho i k) ?_ ?_ ?_; rfl; rfl); ((conv=>whnf);repeat((first|refine Ct ‹_› ?_|refine Cf ‹_› ?_|refine Ct rfl ?_|refine Cf rfl ?_|refine Bi rfl ?_);conv=>whnf))
  refine Cnd_i (fun g => ?_) (fun g => ?_)
  · have g : okPr b i k = false := by simpa using g
    ((conv=>whnf);repeat((first|refine Ct ‹_› ?_|refine Cf ‹_› ?_|refine Ct rfl ?_|refine Cf rfl ?_|refine Bi rfl ?_);conv=>whnf))
    refine ⟨?_, rfl, rfl⟩
    rw [blkR, g]; rfl
  have g : okPr b i k = true := by simpa using g
  ((conv=>whnf);repeat((first|refine Ct ‹_› ?_|refine Cf ‹_› ?_|refine Ct rfl ?_|refine Cf rfl ?_|refine Bi rfl ?_);conv=>whnf))
  (refine CallQ_some (F_bAt0 b ho x) ?_ ?_ ?_; rfl; rfl); ((conv=>whnf);repeat((first|refine Ct ‹_› ?_|refine Cf ‹_› ?_|refine Ct rfl ?_|refine Cf rfl ?_|refine Bi rfl ?_);conv=>whnf))
  refine Cnd_i (fun g2 => ?_) (fun g2 => ?_)
  · have g2 : okPl b x = false := by simpa using g2
    ((conv=>whnf);repeat((first|refine Ct ‹_› ?_|refine Cf ‹_› ?_|refine Ct rfl ?_|refine Cf rfl ?_|refine Bi rfl ?_);conv=>whnf))
    refine ⟨?_, rfl, rfl⟩
    rw [blkR, g, g2]; rfl
  have g2 : okPl b x = true := by simpa using g2
  have p1 := PlOk.of ho (i := i) (by simp only [okPr, Bool.and_eq_true] at g; exact g.1)
  have p2 := PlOk.of ho (i := k) (by simp only [okPr, Bool.and_eq_true] at g; exact g.2)
  have p3 := PlOk.of ho g2
  ((conv=>whnf);repeat((first|refine Ct ‹_› ?_|refine Cf ‹_› ?_|refine Ct rfl ?_|refine Cf rfl ?_|refine Bi rfl ?_);conv=>whnf))
  (refine CallQ_some (F_vBlocks b p1.gb i k x ⟨p1.i0, p1.i1⟩ ⟨p2.i0, p2.i1⟩ ⟨p3.i0, p3.i1⟩) ?_ ?_ ?_; rfl; rfl); ((conv=>whnf);repeat((first|refine Ct ‹_› ?_|refine Cf ‹_› ?_|refine Ct rfl ?_|refine Cf rfl ?_|refine Bi rfl ?_);conv=>whnf))
  refine ⟨?_, rfl, rfl⟩
  rw [blkR, g, g2]; rfl

theorem F_BlocksBetweenI (b : Brd) (ho : b.Ok) (i k x : Int) : Fun E0 8 [.agg b.cs, vI i, vI k, vI x] [] (blkR b i k x) [] [] := by
  have hlt : b.m.ter.length ≤ 9223372036854775807 := ho.m.ter.len
  refine Fun_of_xc k8 rfl rfl (fun k q h => by cases h) ?_
  ((conv=>whnf);repeat((first|refine Ct ‹_› ?_|refine Cf ‹_› ?_|refine Ct rfl ?_|refine Cf rfl ?_|refine Bi rfl ?_);conv=>whnf))
  (refine CallQ_some (F_isPair b ho i k) ?_ ?_ ?_; rfl; rfl); ((conv=>whnf);repeat((first|refine Ct ‹_› ?_|refine Cf ‹_› ?_|refine Ct rfl ?_|refine Cf rfl ?_|refine Bi rfl ?_);conv=>whnf))
  refine Cnd_i (fun g => ?_) (fun g => ?_)
  · have g : okPr b i k = false := by simpa using g
    ((conv=>whnf);repeat((first|refine Ct ‹_› ?_|refine Cf ‹_› ?_|refine Ct rfl ?_|refine Cf rfl ?_|refine Bi rfl ?_);conv=>whnf))
    refine ⟨?_, rfl, rfl⟩
    rw [blkR, g]; rfl
  have g : okPr b i k = true := by simpa using g
  have p1 := PlOk.of ho (i := i) (by simp only [okPr, Bool.and_eq_true] at g; exact g.1)
  have p2 := PlOk.of ho (i := k) (by simp only [okPr, Bool.and_eq_true] at g; exact g.2)
  have hx : In x 0 (b.m.ter.length - 1) = okPl b x := by
    have : okBrd b = true := by simp only [okPr, okPl, Bool.and_eq_true] at g; exact g.1.1
    rw [okPl, this, p1.gb.n]; rfl
  ((conv=>whnf);repeat((first|refine Ct ‹_› ?_|refine Cf ‹_› ?_|refine Ct rfl ?_|refine Cf rfl ?_|refine Bi rfl ?_);conv=>whnf))
  (refine CallQ_some (F_sizeOf b) ?_ ?_ ?_; rfl; rfl); ((conv=>whnf);repeat((first|refine Ct ‹_› ?_|refine Cf ‹_› ?_|refine Ct rfl ?_|refine Cf rfl ?_|refine Bi rfl ?_);conv=>whnf))
  (refine CallQ_some (F_isIndex _ _ (by unfold i64; omega)) ?_ ?_ ?_; rfl; rfl); ((conv=>whnf);repeat((first|refine Ct ‹_› ?_|refine Cf ‹_› ?_|refine Ct rfl ?_|refine Cf rfl ?_|refine Bi rfl ?_);conv=>whnf))
  rw [hx]
  refine Cnd_i (fun g2 => ?_) (fun g2 => ?_)
  · have g2 : okPl b x = false := by simpa using g2
    ((conv=>whnf);repeat((first|refine Ct ‹_› ?_|refine Cf ‹_› ?_|refine Ct rfl ?_|refine Cf rfl ?_|refine Bi rfl ?_);conv=>whnf))
    refine ⟨?_, rfl, rfl⟩
    rw [blkR, g, g2]; rfl
  have g2 : okPl b x = true := by simpa using g2
  have p3 := PlOk.of ho g2
  ((conv=>whnf);repeat((first|refine Ct ‹_› ?_|refine Cf ‹_› ?_|refine Ct rfl ?_|refine Cf rfl ?_|refine Bi rfl ?_);conv=>whnf))
  (refine CallQ_some (F_blocksBetween b p1.gb i k x ⟨p1.i0, p1.i1⟩ ⟨p2.i0, p2.i1⟩ ⟨p3.i0, p3.i1⟩) ?_ ?_ ?_; rfl; rfl); ((conv=>whnf);repeat((first|refine Ct ‹_› ?_|refine Cf ‹_› ?_|refine Ct rfl ?_|refine Cf rfl ?_|refine Bi rfl ?_);conv=>whnf))
  refine ⟨?_, rfl, rfl⟩
  rw [blkR, g, g2]; rfl

theorem F_FnExactBlocksBetween (b : Brd) (a1 a2 a3 : Int) (hb : b.Ok) (h1 : i64 a1) (h2 : i64 a2) (h3 : i64 a3) : Fun E0 3 [.agg b.cs, vI a1, vI a2, vI a3] [] (.v (vB true)) [] [] := by
  obtain ⟨n, ok, e⟩ : ∃ n ok, blkR b a1 a2 a3 = .tup [vB n, vB ok] := by
    unfold blkR
    split <;> exact ⟨_, _, rfl⟩
  have hS := F_BlocksBetween b hb a1 a2 a3
  have hI := F_BlocksBetweenI b hb a1 a2 a3
  rw [e] at hS hI
  refine Fun_of_xc k3 rfl rfl (fun k q h => by cases h) ?_
  ((conv=>whnf);repeat((first|refine Ct ‹_› ?_|refine Cf ‹_› ?_|refine Ct rfl ?_|refine Cf rfl ?_|refine Bi rfl ?_);conv=>whnf))
  (refine CallQ_some (F_szBoard b hb 1048576 (by omega) (by omega)) ?_ ?_ ?_; rfl; rfl); ((conv=>whnf);repeat((first|refine Ct ‹_› ?_|refine Cf ‹_› ?_|refine Ct rfl ?_|refine Cf rfl ?_|refine Bi rfl ?_);conv=>whnf))
  refine Cnd_i (fun g => ?_) (fun g => ?_)
  · ((conv=>whnf);repeat((first|refine Ct ‹_› ?_|refine Cf ‹_› ?_|refine Ct rfl ?_|refine Cf rfl ?_|refine Bi rfl ?_);conv=>whnf))
    exact ⟨rfl, rfl, rfl⟩
  have hs := (szB_sm (b := b) (x := 1048576) (by omega) (by omega) (of_decide_eq_false g)).1
  ((conv=>whnf);repeat((first|refine Ct ‹_› ?_|refine Cf ‹_› ?_|refine Ct rfl ?_|refine Cf rfl ?_|refine Bi rfl ?_);conv=>whnf))
  (refine CallQ_some (F_toBoard b hs) ?_ ?_ ?_; rfl; rfl); ((conv=>whnf);repeat((first|refine Ct ‹_› ?_|refine Cf ‹_› ?_|refine Ct rfl ?_|refine Cf rfl ?_|refine Bi rfl ?_);conv=>whnf))
  refine CallQ_eq (snapB b _) ?_
  (refine CallQ_some (hS) ?_ ?_ ?_; rfl; rfl); ((conv=>whnf);repeat((first|refine Ct ‹_› ?_|refine Cf ‹_› ?_|refine Ct rfl ?_|refine Cf rfl ?_|refine Bi rfl ?_);conv=>whnf))
  (refine CallQ_some (F_toBoard b hs) ?_ ?_ ?_; rfl; rfl); ((conv=>whnf);repeat((first|refine Ct ‹_› ?_|refine Cf ‹_› ?_|refine Ct rfl ?_|refine Cf rfl ?_|refine Bi rfl ?_);conv=>whnf))
  refine CallQ_eq (snapB b _) ?_
  (refine CallQ_some (hI) ?_ ?_ ?_; rfl; rfl); ((conv=>whnf);repeat((first|refine Ct ‹_› ?_|refine Cf ‹_› ?_|refine Ct rfl ?_|refine Cf rfl ?_|refine Bi rfl ?_);conv=>whnf))
  repeat (refine Cnd_f (by simp) ?_; ((conv=>whnf);repeat((first|refine Ct ‹_› ?_|refine Cf ‹_› ?_|refine Ct rfl ?_|refine Cf rfl ?_|refine Bi rfl ?_);conv=>whnf)))
  (refine CallQ_some (F_toBoard b hs) ?_ ?_ ?_; rfl; rfl); ((conv=>whnf);repeat((first|refine Ct ‹_› ?_|refine Cf ‹_› ?_|refine Ct rfl ?_|refine Cf rfl ?_|refine Bi rfl ?_);conv=>whnf))
  refine CallQ_eq (snapBB b) ?_
  (refine CallQ_some (F_eqBoard b hs) ?_ ?_ ?_; rfl; rfl); ((conv=>whnf);repeat((first|refine Ct ‹_› ?_|refine Cf ‹_› ?_|refine Ct rfl ?_|refine Cf rfl ?_|refine Bi rfl ?_);conv=>whnf))
  exact ⟨rfl, rfl, rfl⟩
end Go.Proofs.YtdkcfhjbdbeebaaDoor.Ab
