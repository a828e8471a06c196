/- Contracts of the functions that FnExactFirstBlock reaches, by the abstract machine (part 2).
   Conditions: none. -/
import Derived.Test.YteemoapfkgkngaaDoorCFirstBlock1
set_option linter.unusedVariables false
set_option linter.unusedSimpArgs false
namespace Go.Proofs.YteemoapfkgkngaaDoor.Ab
open Go Go.RowKit
attribute [local irreducible] Cnd Bnd Rw CallQ CallR Bts Isn Lc WLoop
set_option maxRecDepth 100000
set_option maxHeartbeats 1000000
theorem F_sightCells (b : Brd) (h : GB b) (i k : Int) (hi : 0 ≤ i ∧ i < b.m.ter.length) (hk : 0 ≤ k ∧ k < b.m.ter.length) :
    Fun E0 69 [.agg b.cs, vI i, vI k] [] (.v (.one (.own 0 (ceL b.m i k).length))) [(0, rwLL (ceL b.m i k))] [] := by
  have hm := h.wh.mul
  have hn := h.n
  have hs := lnM_sub h.wh (i := i) (k := k) (by omega) (by omega)
  have bi := hx_b h.wh (i := i) hi.1 (by omega)
  have bk := hx_b h.wh (i := k) hk.1 (by omega)
  have hc := ceL_len h.wh (i := i) (k := k) (by omega) (by omega)
  refine Fun_of_xc k69 rfl rfl (nrC (rwLL_no _) nrN) ?_
  ((conv=>whnf);repeat((first|refine Ct ‹_› ?_|refine Cf ‹_› ?_|refine Ct rfl ?_|refine Cf rfl ?_|refine Bi rfl ?_|refine Bz rfl ?_|refine Lr ?_);conv=>whnf))
  refine Rw_i (rwLL []) (rwLL_nil _) ?_
  ((conv=>whnf);repeat((first|refine Ct ‹_› ?_|refine Cf ‹_› ?_|refine Ct rfl ?_|refine Cf rfl ?_|refine Bi rfl ?_|refine Bz rfl ?_|refine Lr ?_);conv=>whnf))
  refine Rw_i (rwLL []) (rwLL_nil _) ?_
  ((conv=>whnf);repeat((first|refine Ct ‹_› ?_|refine Cf ‹_› ?_|refine Ct rfl ?_|refine Cf rfl ?_|refine Bi rfl ?_|refine Bz rfl ?_|refine Lr ?_);conv=>whnf))
  (refine CallQ_some (F_hexOf b.m h.wh i hi.1 (by omega)) ?_ ?_ ?_; rfl; rfl); ((conv=>whnf);repeat((first|refine Ct ‹_› ?_|refine Cf ‹_› ?_|refine Ct rfl ?_|refine Cf rfl ?_|refine Bi rfl ?_|refine Bz rfl ?_|refine Lr ?_);conv=>whnf))
  (refine CallQ_some (F_hexOf b.m h.wh k hk.1 (by omega)) ?_ ?_ ?_; rfl; rfl); ((conv=>whnf);repeat((first|refine Ct ‹_› ?_|refine Cf ‹_› ?_|refine Ct rfl ?_|refine Cf rfl ?_|refine Bi rfl ?_|refine Bz rfl ?_|refine Lr ?_);conv=>whnf))
  (refine CallQ_some (F_lineOf _ _ _ _ bi bk) ?_ ?_ ?_; rfl; rfl); ((conv=>whnf);repeat((first|refine Ct ‹_› ?_|refine Cf ‹_› ?_|refine Ct rfl ?_|refine Cf rfl ?_|refine Bi rfl ?_|refine Bz rfl ?_|refine Lr ?_);conv=>whnf))
  have hce : ceL b.m i k = (List.range ((lnM b.m i k).length - 2)).map fun t : Nat => ((lnM b.m i k).getD (t + 1) []).map fun p => ix b.m p.1 p.2 := rfl
  rw [hce]
  rw [← show lnM b.m i k = lnL (i.tmod b.m.w) (i.tdiv b.m.w) (k.tmod b.m.w) (k.tdiv b.m.w) from rfl]
  generalize lnM b.m i k = L at hs ⊢
  clear hce hc
  obtain ⟨s1, s2, s3⟩ := hs
  refine WLoop_v2 ⟨[3, 7, 8, 9], [3], []⟩ (fun (t : Int) (out : List (List Int)) => hdS 53 [(3, .v (.one (.box 3 0))), (7, .v (.one (.own (vkey 7) out.length))), (8, .v (.one (.own (vkey 8) L.length))), (9, .v (vI t))] [(3, b.cs)] [(vkey 7, rwLL out), (vkey 8, rwHH L)])
    (fun n t out => 1 ≤ t ∧ t - 1 + n = ((L.length - 2 : Nat) : Int) ∧ out = (List.range (t - 1).toNat).map fun t : Nat => (L.getD (t + 1) []).map fun p => ix b.m p.1 p.2) (L.length - 2) 1 [] rfl ⟨by omega, by omega, rfl⟩ ?_
  rintro n t out ⟨t1, t2, t3⟩
  have hol : out.length ≤ 19 := by rw [t3, List.length_map, List.length_range]; omega
  ((conv=>whnf);repeat((first|refine Ct ‹_› ?_|refine Cf ‹_› ?_|refine Ct rfl ?_|refine Cf rfl ?_|refine Bi rfl ?_|refine Bz rfl ?_|refine Lr ?_);conv=>whnf))
  refine Cnd_e (c' := decide (t + 1 < (L.length : Int))) (by rw [wrapI (by omega)]) ?_
  refine Cnd_i (fun g => ?_) (fun g => ?_)
  rotate_left
  · have ht := of_decide_eq_false g
    ((conv=>whnf);repeat((first|refine Ct ‹_› ?_|refine Cf ‹_› ?_|refine Ct rfl ?_|refine Cf rfl ?_|refine Bi rfl ?_|refine Bz rfl ?_|refine Lr ?_);conv=>whnf))
    rw [t3, show (t - 1).toNat = L.length - 2 by omega]
    exact ⟨rfl, rfl, rfl⟩
  have ht := of_decide_eq_true g
  have hl2 : (L.getD t.toNat []).length ≤ 2 := s3 _ (getD_memT (d := []) (by omega) (by omega))
  ((conv=>whnf);repeat((first|refine Ct ‹_› ?_|refine Cf ‹_› ?_|refine Ct rfl ?_|refine Cf rfl ?_|refine Bi rfl ?_|refine Bz rfl ?_|refine Lr ?_);conv=>whnf))
  refine Rw_i (rwI []) (rwI_nil _) ?_
  ((conv=>whnf);repeat((first|refine Ct ‹_› ?_|refine Cf ‹_› ?_|refine Ct rfl ?_|refine Cf rfl ?_|refine Bi rfl ?_|refine Bz rfl ?_|refine Lr ?_);conv=>whnf))
  refine Bnd_i (⟨by omega, by omega⟩) ?_; ((conv=>whnf);repeat((first|refine Ct ‹_› ?_|refine Cf ‹_› ?_|refine Ct rfl ?_|refine Cf rfl ?_|refine Bi rfl ?_|refine Bz rfl ?_|refine Lr ?_);conv=>whnf))
  refine WLoop_v2 ⟨[3, 7, 8, 9, 10, 35, 36], [3], [(34, 8)]⟩ (fun (j : Int) (cell : List Int) => hdS 53 [(3, .v (.one (.box 3 0))), (7, .v (.one (.own (vkey 7) out.length))), (8, .v (.one (.own (vkey 8) L.length))), (9, .v (vI t)), (10, .v (.one (.own (vkey 10) cell.length))), (34, .v (.one (.own1 (vkey 8) t.toNat 0 (L.getD t.toNat []).length))), (35, .v (vI (L.getD t.toNat []).length)), (36, .v (vI j))] [(3, b.cs)] [(vkey 7, rwLL out), (vkey 8, rwHH L), (vkey 10, rwI cell)])
    (fun n j cell => 0 ≤ j ∧ j + n = (L.getD t.toNat []).length ∧ cell = ((L.getD t.toNat []).take j.toNat).map fun p => ix b.m p.1 p.2) (L.getD t.toNat []).length 0 [] rfl ⟨by omega, by omega, rfl⟩ ?_
  rintro l j cell ⟨j1, j2, j3⟩
  have hcl : cell.length ≤ 2 := by rw [j3, List.length_map, List.length_take]; omega
  ((conv=>whnf);repeat((first|refine Ct ‹_› ?_|refine Cf ‹_› ?_|refine Ct rfl ?_|refine Cf rfl ?_|refine Bi rfl ?_|refine Bz rfl ?_|refine Lr ?_);conv=>whnf))
  refine Cnd_i (fun g2 => ?_) (fun g2 => ?_)
  · have hj := of_decide_eq_true g2
    ((conv=>whnf);repeat((first|refine Ct ‹_› ?_|refine Cf ‹_› ?_|refine Ct rfl ?_|refine Cf rfl ?_|refine Bi rfl ?_|refine Bz rfl ?_|refine Lr ?_);conv=>whnf))
    refine Bnd_i (⟨j1, hj⟩) ?_; ((conv=>whnf);repeat((first|refine Ct ‹_› ?_|refine Cf ‹_› ?_|refine Ct rfl ?_|refine Cf rfl ?_|refine Bi rfl ?_|refine Bz rfl ?_|refine Lr ?_);conv=>whnf))
    (refine CallQ_some (F_indexOf b.m h.wh _ _) ?_ ?_ ?_; rfl; rfl); ((conv=>whnf);repeat((first|refine Ct ‹_› ?_|refine Cf ‹_› ?_|refine Ct rfl ?_|refine Cf rfl ?_|refine Bi rfl ?_|refine Bz rfl ?_|refine Lr ?_);conv=>whnf))
    refine Rw_self ?_
    ((conv=>whnf);repeat((first|refine Ct ‹_› ?_|refine Cf ‹_› ?_|refine Ct rfl ?_|refine Cf rfl ?_|refine Bi rfl ?_|refine Bz rfl ?_|refine Lr ?_);conv=>whnf))
    refine Bnd_i ?_ ?_
    · show cell.length + 1 < _
      omega
    ((conv=>whnf);repeat((first|refine Ct ‹_› ?_|refine Cf ‹_› ?_|refine Ct rfl ?_|refine Cf rfl ?_|refine Bi rfl ?_|refine Bz rfl ?_|refine Lr ?_);conv=>whnf))
    refine Rw_i (rwI (cell ++ [ix b.m ((L.getD t.toNat []).getD j.toNat (0, 0)).1 ((L.getD t.toNat []).getD j.toNat (0, 0)).2])) (rwI_app _ _ _ rfl) ?_
    ((conv=>whnf);repeat((first|refine Ct ‹_› ?_|refine Cf ‹_› ?_|refine Ct rfl ?_|refine Cf rfl ?_|refine Bi rfl ?_|refine Bz rfl ?_|refine Lr ?_);conv=>whnf))
    refine ⟨l - 1, j + 1, cell ++ [ix b.m ((L.getD t.toNat []).getD j.toNat (0, 0)).1 ((L.getD t.toNat []).getD j.toNat (0, 0)).2], ?_, by omega, by omega, by omega, ?_⟩
    · rw [wrapI (by omega)]; rfl
    · rw [map_take _ _ (0, 0) j1 hj, ← j3]
  · have hj := of_decide_eq_false g2
    ((conv=>whnf);repeat((first|refine Ct ‹_› ?_|refine Cf ‹_› ?_|refine Ct rfl ?_|refine Cf rfl ?_|refine Bi rfl ?_|refine Bz rfl ?_|refine Lr ?_);conv=>whnf))
    rw [show j.toNat = (L.getD t.toNat []).length by omega, List.take_length] at j3
    subst j3
    refine Rw_self ?_
    ((conv=>whnf);repeat((first|refine Ct ‹_› ?_|refine Cf ‹_› ?_|refine Ct rfl ?_|refine Cf rfl ?_|refine Bi rfl ?_|refine Bz rfl ?_|refine Lr ?_);conv=>whnf))
    refine Bnd_i ?_ ?_
    · show out.length + 1 < _
      omega
    ((conv=>whnf);repeat((first|refine Ct ‹_› ?_|refine Cf ‹_› ?_|refine Ct rfl ?_|refine Cf rfl ?_|refine Bi rfl ?_|refine Bz rfl ?_|refine Lr ?_);conv=>whnf))
    refine Rw_i (rwLL (out ++ [(L.getD t.toNat []).map fun p => ix b.m p.1 p.2])) (rwLL_app _ _ _ rfl) ?_
    ((conv=>whnf);repeat((first|refine Ct ‹_› ?_|refine Cf ‹_› ?_|refine Ct rfl ?_|refine Cf rfl ?_|refine Bi rfl ?_|refine Bz rfl ?_|refine Lr ?_);conv=>whnf))
    refine ⟨n - 1, t + 1, out ++ [(L.getD t.toNat []).map fun p => ix b.m p.1 p.2], ?_, by omega, by omega, by omega, ?_⟩
    · rw [wrapI (by omega)]; rfl
    · rw [show (t + 1 - 1).toNat = (t - 1 + 1).toNat by omega, range_succ' _ (t - 1) (by omega), ← t3, show (t - 1).toNat + 1 = t.toNat by omega]

theorem hnOff_ceil {n f x : Int} (hf : 0 ≤ f) (hn : 1 ≤ n) (h : x ∈ hnOff n f) : x = 0 ∨ (x = 1 ∧ 0 < f) := by
  unfold hnOff at h
  split at h
  · simp at h; omega
  · split at h <;> simp at h <;> omega

theorem fl_le {q n X : Int} (hq : 0 ≤ q ∧ q ≤ 1000) (hn : 1 ≤ n) (h : q ≤ X * n) : q.tdiv n ≤ X ∧ (0 < q.tmod n → q.tdiv n + 1 ≤ X) := by
  obtain ⟨e1, e1b, e1c, e1d⟩ := dm hq hn
  constructor
  · by_cases e : q.tdiv n ≤ X
    · exact e
    · have : n * (X + 1) ≤ n * q.tdiv n := Int.mul_le_mul_of_nonneg_left (by omega) (by omega)
      rw [Int.mul_add, Int.mul_comm n X] at this
      omega
  · intro hp
    by_cases e : q.tdiv n + 1 ≤ X
    · exact e
    · have : n * X ≤ n * q.tdiv n := Int.mul_le_mul_of_nonneg_left (by omega) (by omega)
      rw [Int.mul_comm n X] at this
      omega

theorem ptL_in {q r n X Y : Int} (hn : 1 ≤ n) (hq : 0 ≤ q ∧ q ≤ 1000) (hr : 0 ≤ r ∧ r ≤ 1000) (hX : q ≤ X * n) (hY : r ≤ Y * n) (hw : q.tmod n = 0 ∨ r.tmod n = 0 ∨ q.tmod n + r.tmod n = n) {p : Hx} (hp : p ∈ ptL q r n) : (0 ≤ p.1 ∧ p.1 ≤ X) ∧ 0 ≤ p.2 ∧ p.2 ≤ Y := by
  obtain ⟨e1, e1b, e1c, e1d⟩ := dm hq hn
  obtain ⟨e2, e2b, e2c, e2d⟩ := dm hr hn
  have a1 := fl_le hq hn hX
  have a2 := fl_le hr hn hY
  unfold ptL at hp
  obtain ⟨o, ho, rfl⟩ := List.mem_map.1 hp
  unfold spOff at ho
  show (0 ≤ q.tdiv n + o.1 ∧ q.tdiv n + o.1 ≤ X) ∧ 0 ≤ r.tdiv n + o.2 ∧ r.tdiv n + o.2 ≤ Y
  split at ho
  · obtain ⟨y, hy, rfl⟩ := List.mem_map.1 ho
    have := hnOff_ceil e2c hn hy
    show (0 ≤ q.tdiv n + 0 ∧ q.tdiv n + 0 ≤ X) ∧ 0 ≤ r.tdiv n + y ∧ r.tdiv n + y ≤ Y
    omega
  · obtain ⟨x, hx, rfl⟩ := List.mem_map.1 ho
    have := hnOff_ceil e1c hn hx
    split
    · show (0 ≤ q.tdiv n + x ∧ q.tdiv n + x ≤ X) ∧ 0 ≤ r.tdiv n + 0 ∧ r.tdiv n + 0 ≤ Y
      omega
    · show (0 ≤ q.tdiv n + x ∧ q.tdiv n + x ≤ X) ∧ 0 ≤ r.tdiv n + (1 - x) ∧ r.tdiv n + (1 - x) ≤ Y
      omega

theorem lnQ_X {a b i n X : Int} (ha : a ≤ X) (hb : b ≤ X) (hi : 0 ≤ i ∧ i ≤ n) : lnQ a b i n ≤ X * n := by
  have e : lnQ a b i n = a * (n - i) + b * i := by
    unfold lnQ
    rw [Int.mul_sub, Int.sub_mul]; omega
  rw [e]
  have h3 := Int.mul_le_mul_of_nonneg_right ha (show 0 ≤ n - i by omega)
  have h4 := Int.mul_le_mul_of_nonneg_right hb hi.1
  rw [Int.mul_sub X] at h3
  omega

theorem hx_w {m : Map} (h : WH m) {i : Int} (h0 : 0 ≤ i) (h1 : i < m.w * m.h) : i.tmod m.w ≤ m.w - 1 ∧ i.tdiv m.w ≤ m.h - 1 := by
  have hw := h.w1; have hm := h.mul
  have h3 := tdiv_b (i := i) (w := m.w) h0 (by omega) hw
  refine ⟨by omega, ?_⟩
  have h4 := Int.mul_tdiv_add_tmod i m.w
  by_cases e : i.tdiv m.w ≤ m.h - 1
  · exact e
  · have h5 : m.w * m.h ≤ m.w * i.tdiv m.w := Int.mul_le_mul_of_nonneg_left (by omega) (by omega)
    omega

theorem ceL_in {m : Map} (h : WH m) {i k : Int} (hi : 0 ≤ i ∧ i < m.w * m.h) (hk : 0 ≤ k ∧ k < m.w * m.h) : ∀ l ∈ ceL m i k, ∀ x ∈ l, 0 ≤ x ∧ x < m.w * m.h := by
  intro l hl x hx
  obtain ⟨t, ht, rfl⟩ := List.mem_map.1 hl
  have ht := List.mem_range.1 ht
  obtain ⟨p, hp, rfl⟩ := List.mem_map.1 hx
  have bi := hx_b h hi.1 hi.2
  have bk := hx_b h hk.1 hk.2
  have wi := hx_w h hi.1 hi.2
  have wk := hx_w h hk.1 hk.2
  have h18 := dsH_b bi bk
  have hln := (lnL_len bi bk).1
  have ht : t < (lnL (i.tmod m.w) (i.tdiv m.w) (k.tmod m.w) (k.tdiv m.w)).length - 2 := ht
  have h1 : 1 ≤ dsH (i.tmod m.w) (i.tdiv m.w) (k.tmod m.w) (k.tdiv m.w) := by omega
  have hp2 : p ∈ lcL (i.tmod m.w) (i.tdiv m.w) (k.tmod m.w) (k.tdiv m.w) ((t + 1 : Nat) : Int) := by
    have : (lnM m i k).getD (t + 1) [] = lcL (i.tmod m.w) (i.tdiv m.w) (k.tmod m.w) (k.tdiv m.w) ((t + 1 : Nat) : Int) := by
      unfold lnM lnL
      rw [if_neg (by omega), List.getD_eq_getElem?_getD, List.getElem?_map, List.getElem?_range (by omega)]; rfl
    rwa [this] at hp
  have hi2 : (0 : Int) ≤ ((t + 1 : Nat) : Int) ∧ ((t + 1 : Nat) : Int) ≤ dsH (i.tmod m.w) (i.tdiv m.w) (k.tmod m.w) (k.tdiv m.w) := by omega
  have q1 := lnQ_b bi.q bk.q hi2 (by omega)
  have r1 := lnQ_b bi.r bk.r hi2 (by omega)
  have r := ptL_in h1 (by omega) (by omega) (lnQ_X wi.1 wk.1 hi2) (lnQ_X wi.2 wk.2 hi2) (ln_whole bi bk hi2 h1) hp2
  have hw := ix_wrap h (q := p.1) (r := p.2) r.1 r.2
  rw [ix, if_pos ⟨r.1, r.2⟩]
  omega

/-- how many of the first n are so -/
def cnN (p : Int → Bool) (l : List Int) : Nat → Int
  | 0 => 0
  | n + 1 => if p (l.getD n 0) = true then cnN p l n + 1 else cnN p l n

theorem cnN_b (p : Int → Bool) (l : List Int) (n : Nat) : 0 ≤ cnN p l n ∧ cnN p l n ≤ n := by
  induction n with
  | zero => simp [cnN]
  | succ n ih => unfold cnN; split <;> omega

theorem cnN_succ (p : Int → Bool) (l : List Int) {t : Int} (h0 : 0 ≤ t) : cnN p l (t + 1).toNat = if p (l.getD t.toNat 0) = true then cnN p l t.toNat + 1 else cnN p l t.toNat := by
  rw [show (t + 1).toNat = t.toNat + 1 by omega, cnN]

abbrev cnA (b : Brd) (i k : Int) (l : List Int) : Int := cnN (blk b i k) l l.length

theorem F_vCount (b : Brd) (h : GB b) (i k : Int) (hi : 0 ≤ i ∧ i < b.m.ter.length) (hk : 0 ≤ k ∧ k < b.m.ter.length) (l : List Int) (hl : l.length ≤ 1000) (hin : ∀ x ∈ l, 0 ≤ x ∧ x < b.m.ter.length) :
    Fun E0 67 [.agg b.cs, vI i, vI k, .one (roI l)] [] (.v (vI (cnA b i k l))) [] [] := by
  refine Fun_of_xc k67 rfl rfl (fun k q h => by cases h) ?_
  ((conv=>whnf);repeat((first|refine Ct ‹_› ?_|refine Cf ‹_› ?_|refine Ct rfl ?_|refine Cf rfl ?_|refine Bi rfl ?_|refine Bz rfl ?_|refine Lr ?_);conv=>whnf))
  refine WLoop_v2 ⟨[1, 2, 4, 9, 12, 13, 14], [4], []⟩ (fun (t y : Int) => hdS 27 [(1, .v (vI i)), (2, .v (vI k)), (4, .v (.one (.box 4 0))), (9, .v (vI y)), (12, .v (.one (roI l))), (13, .v (vI l.length)), (14, .v (vI t))] [(4, b.cs)] [])
    (fun n t y => 0 ≤ t ∧ t + n = l.length ∧ y = cnN (blk b i k) l t.toNat) l.length 0 0 rfl ⟨by omega, by omega, rfl⟩ ?_
  rintro n t y ⟨h1, h2, h3⟩
  have hb := cnN_b (blk b i k) l t.toNat
  have hs := cnN_succ (blk b i k) l h1
  rw [← h3] at hb hs
  ((conv=>whnf);repeat((first|refine Ct ‹_› ?_|refine Cf ‹_› ?_|refine Ct rfl ?_|refine Cf rfl ?_|refine Bi rfl ?_|refine Bz rfl ?_|refine Lr ?_);conv=>whnf))
  refine Cnd_i (fun g => ?_) (fun g => ?_)
  · have ht := of_decide_eq_true g
    have hx := hin _ (getD_mem h1 ht)
    ((conv=>whnf);repeat((first|refine Ct ‹_› ?_|refine Cf ‹_› ?_|refine Ct rfl ?_|refine Cf rfl ?_|refine Bi rfl ?_|refine Bz rfl ?_|refine Lr ?_);conv=>whnf))
    refine Bnd_i (⟨h1, ht⟩) ?_; ((conv=>whnf);repeat((first|refine Ct ‹_› ?_|refine Cf ‹_› ?_|refine Ct rfl ?_|refine Cf rfl ?_|refine Bi rfl ?_|refine Bz rfl ?_|refine Lr ?_);conv=>whnf))
    (refine CallQ_some (F_vBlocks b h i k (l.getD t.toNat 0) hi hk hx) ?_ ?_ ?_; rfl; rfl); ((conv=>whnf);repeat((first|refine Ct ‹_› ?_|refine Cf ‹_› ?_|refine Ct rfl ?_|refine Cf rfl ?_|refine Bi rfl ?_|refine Bz rfl ?_|refine Lr ?_);conv=>whnf))
    refine Cnd_i (fun g2 => ?_) (fun g2 => ?_)
    · rw [if_pos g2] at hs
      ((conv=>whnf);repeat((first|refine Ct ‹_› ?_|refine Cf ‹_› ?_|refine Ct rfl ?_|refine Cf rfl ?_|refine Bi rfl ?_|refine Bz rfl ?_|refine Lr ?_);conv=>whnf))
      refine ⟨n - 1, t + 1, y + 1, ?_, by omega, by omega, by omega, hs.symm⟩
      rw [wrapI (n := t + 1) (by omega), wrapI (by omega)]; rfl
    · rw [if_neg (by rw [g2]; simp)] at hs
      ((conv=>whnf);repeat((first|refine Ct ‹_› ?_|refine Cf ‹_› ?_|refine Ct rfl ?_|refine Cf rfl ?_|refine Bi rfl ?_|refine Bz rfl ?_|refine Lr ?_);conv=>whnf))
      refine ⟨n - 1, t + 1, y, ?_, by omega, by omega, by omega, hs.symm⟩
      rw [wrapI (by omega)]; rfl
  · have ht := of_decide_eq_false g
    ((conv=>whnf);repeat((first|refine Ct ‹_› ?_|refine Cf ‹_› ?_|refine Ct rfl ?_|refine Cf rfl ?_|refine Bi rfl ?_|refine Bz rfl ?_|refine Lr ?_);conv=>whnf))
    rw [h3, show t.toNat = l.length by omega]
    exact ⟨rfl, rfl, rfl⟩

def fullC (b : Brd) (i k : Int) (c : List Int) : Bool := cnA b i k c == (c.length : Int)

def someC (b : Brd) (i k : Int) (c : List Int) : Bool := decide (cnA b i k c > 0)

/-- the first element that blocks; the code of the sight -/
def vFc (b : Brd) (i k : Int) : Int := fi (fullC b i k) (ceL b.m i k)

def vCd (b : Brd) (i k : Int) : Int := if vFc b i k ≥ 0 then 2 else if (ceL b.m i k).any (someC b i k) = true then 1 else 0

theorem vFc_b {b : Brd} (h : GB b) {i k : Int} (hi : 0 ≤ i ∧ i < b.m.ter.length) (hk : 0 ≤ k ∧ k < b.m.ter.length) : (∀ l ∈ ceL b.m i k, l.length ≤ 2 ∧ ∀ x ∈ l, 0 ≤ x ∧ x < b.m.ter.length) ∧ (ceL b.m i k).length ≤ 17 := by
  have hn := h.n
  have h1 := ceL_len h.wh (i := i) (k := k) (by omega) (by omega)
  have h2 := ceL_in h.wh (i := i) (k := k) (by omega) (by omega)
  exact ⟨fun l hl => ⟨h1.2 l hl, fun x hx => by have := h2 l hl x hx; omega⟩, h1.1⟩

theorem F_vFirst (b : Brd) (h : GB b) (i k : Int) (hi : 0 ≤ i ∧ i < b.m.ter.length) (hk : 0 ≤ k ∧ k < b.m.ter.length) :
    Fun E0 35 [.agg b.cs, vI i, vI k] [] (.v (vI (vFc b i k))) [] [] := by
  have hc := vFc_b h hi hk
  unfold vFc
  refine Fun_of_xc k35 rfl rfl (fun k q h => by cases h) ?_
  ((conv=>whnf);repeat((first|refine Ct ‹_› ?_|refine Cf ‹_› ?_|refine Ct rfl ?_|refine Cf rfl ?_|refine Bi rfl ?_|refine Bz rfl ?_|refine Lr ?_);conv=>whnf))
  (refine CallQ_some (F_vCells b h i k hi hk) ?_ ?_ ?_; rfl; rfl); ((conv=>whnf);repeat((first|refine Ct ‹_› ?_|refine Cf ‹_› ?_|refine Ct rfl ?_|refine Cf rfl ?_|refine Bi rfl ?_|refine Bz rfl ?_|refine Lr ?_);conv=>whnf))
  generalize ceL b.m i k = C at hc ⊢
  obtain ⟨c1, c2⟩ := hc
  refine WLoop_v ⟨[1, 2, 3, 12, 13, 14], [3], []⟩ (fun (t : Int) => hdS 29 [(1, .v (vI i)), (2, .v (vI k)), (3, .v (.one (.box 3 0))), (12, .v (.one (.own (vkey 12) C.length))), (13, .v (vI C.length)), (14, .v (vI t))] [(3, b.cs)] [(vkey 12, rwLL C)])
    (fun n t => 0 ≤ t ∧ t + n = C.length ∧ ∀ j : Nat, (j : Int) < t → fullC b i k (C.getD j []) = false) C.length 0 rfl ⟨by omega, by omega, fun j hj => by omega⟩ ?_
  rintro n t ⟨h1, h2, h3⟩
  ((conv=>whnf);repeat((first|refine Ct ‹_› ?_|refine Cf ‹_› ?_|refine Ct rfl ?_|refine Cf rfl ?_|refine Bi rfl ?_|refine Bz rfl ?_|refine Lr ?_);conv=>whnf))
  refine Cnd_i (fun g => ?_) (fun g => ?_)
  · have ht := of_decide_eq_true g
    have hx := c1 _ (getD_memT (d := []) h1 ht)
    ((conv=>whnf);repeat((first|refine Ct ‹_› ?_|refine Cf ‹_› ?_|refine Ct rfl ?_|refine Cf rfl ?_|refine Bi rfl ?_|refine Bz rfl ?_|refine Lr ?_);conv=>whnf))
    refine Bnd_i (⟨h1, ht⟩) ?_; ((conv=>whnf);repeat((first|refine Ct ‹_› ?_|refine Cf ‹_› ?_|refine Ct rfl ?_|refine Cf rfl ?_|refine Bi rfl ?_|refine Bz rfl ?_|refine Lr ?_);conv=>whnf))
    (refine CallQ_some (F_vCount b h i k hi hk (C.getD t.toNat []) (by omega) hx.2) ?_ ?_ ?_; rfl; rfl); ((conv=>whnf);repeat((first|refine Ct ‹_› ?_|refine Cf ‹_› ?_|refine Ct rfl ?_|refine Cf rfl ?_|refine Bi rfl ?_|refine Bz rfl ?_|refine Lr ?_);conv=>whnf))
    refine Cnd_i (fun g2 => ?_) (fun g2 => ?_)
    · ((conv=>whnf);repeat((first|refine Ct ‹_› ?_|refine Cf ‹_› ?_|refine Ct rfl ?_|refine Cf rfl ?_|refine Bi rfl ?_|refine Bz rfl ?_|refine Lr ?_);conv=>whnf))
      rw [fi_at (d := []) h1 ht h3 g2]
      exact ⟨rfl, rfl, rfl⟩
    · ((conv=>whnf);repeat((first|refine Ct ‹_› ?_|refine Cf ‹_› ?_|refine Ct rfl ?_|refine Cf rfl ?_|refine Bi rfl ?_|refine Bz rfl ?_|refine Lr ?_);conv=>whnf))
      refine ⟨n - 1, t + 1, ?_, by omega, by omega, by omega, fun j hj => ?_⟩
      · rw [wrapI (by omega)]; rfl
      · by_cases e : (j : Int) = t
        · rw [show j = t.toNat by omega]; exact g2
        · exact h3 j (by omega)
  · have ht := of_decide_eq_false g
    ((conv=>whnf);repeat((first|refine Ct ‹_› ?_|refine Cf ‹_› ?_|refine Ct rfl ?_|refine Cf rfl ?_|refine Bi rfl ?_|refine Bz rfl ?_|refine Lr ?_);conv=>whnf))
    rw [fi_no (d := []) (fun j hj => h3 j (by omega))]
    exact ⟨rfl, rfl, rfl⟩

theorem F_sightOf (b : Brd) (h : GB b) (i k : Int) (hi : 0 ≤ i ∧ i < b.m.ter.length) (hk : 0 ≤ k ∧ k < b.m.ter.length) :
    Fun E0 37 [.agg b.cs, vI i, vI k] [] (.tup [vI (vCd b i k), vI (vFc b i k)]) [] [] := by
  have hc := vFc_b h hi hk
  unfold vCd vFc
  refine Fun_of_xc k37 rfl rfl (fun k q h => by cases h) ?_
  ((conv=>whnf);repeat((first|refine Ct ‹_› ?_|refine Cf ‹_› ?_|refine Ct rfl ?_|refine Cf rfl ?_|refine Bi rfl ?_|refine Bz rfl ?_|refine Lr ?_);conv=>whnf))
  (refine CallQ_some (F_sightCells b h i k hi hk) ?_ ?_ ?_; rfl; rfl); ((conv=>whnf);repeat((first|refine Ct ‹_› ?_|refine Cf ‹_› ?_|refine Ct rfl ?_|refine Cf rfl ?_|refine Bi rfl ?_|refine Bz rfl ?_|refine Lr ?_);conv=>whnf))
  generalize ceL b.m i k = C at hc ⊢
  obtain ⟨c1, c2⟩ := hc
  refine WLoop_v2 ⟨[1, 2, 3, 8, 17, 18, 19], [3], []⟩ (fun (c t : Int) => hdS 47 [(1, .v (vI i)), (2, .v (vI k)), (3, .v (.one (.box 3 0))), (8, .v (vI c)), (17, .v (.one (.own (vkey 17) C.length))), (18, .v (vI C.length)), (19, .v (vI t))] [(3, b.cs)] [(vkey 17, rwLL C)])
    (fun n c t => 0 ≤ t ∧ t + n = C.length ∧ (∀ j : Nat, (j : Int) < t → fullC b i k (C.getD j []) = false) ∧ (if (C.drop t.toNat).any (someC b i k) = true then 1 else c) = (if C.any (someC b i k) = true then 1 else (0 : Int))) C.length 0 0 rfl ⟨by omega, by omega, fun j hj => by omega, rfl⟩ ?_
  rintro n c t ⟨h1, h2, h3, h4⟩
  ((conv=>whnf);repeat((first|refine Ct ‹_› ?_|refine Cf ‹_› ?_|refine Ct rfl ?_|refine Cf rfl ?_|refine Bi rfl ?_|refine Bz rfl ?_|refine Lr ?_);conv=>whnf))
  refine Cnd_i (fun g => ?_) (fun g => ?_)
  rotate_left
  · have ht := of_decide_eq_false g
    rw [show t.toNat = C.length by omega, List.drop_length, List.any_nil, if_neg (by simp)] at h4
    ((conv=>whnf);repeat((first|refine Ct ‹_› ?_|refine Cf ‹_› ?_|refine Ct rfl ?_|refine Cf rfl ?_|refine Bi rfl ?_|refine Bz rfl ?_|refine Lr ?_);conv=>whnf))
    rw [fi_no (d := []) (fun j hj => h3 j (by omega)), if_neg (by omega), h4]
    exact ⟨rfl, rfl, rfl⟩
  have ht := of_decide_eq_true g
  have hx := c1 _ (getD_memT (d := []) h1 ht)
  rw [drop_cons (d := []) h1 ht, List.any_cons] at h4
  ((conv=>whnf);repeat((first|refine Ct ‹_› ?_|refine Cf ‹_› ?_|refine Ct rfl ?_|refine Cf rfl ?_|refine Bi rfl ?_|refine Bz rfl ?_|refine Lr ?_);conv=>whnf))
  refine Bnd_i (⟨h1, ht⟩) ?_; ((conv=>whnf);repeat((first|refine Ct ‹_› ?_|refine Cf ‹_› ?_|refine Ct rfl ?_|refine Cf rfl ?_|refine Bi rfl ?_|refine Bz rfl ?_|refine Lr ?_);conv=>whnf))
  refine WLoop_v2 ⟨[1, 2, 3, 8, 9, 11, 17, 18, 19, 25, 26], [3], [(10, 17), (24, 17)]⟩ (fun (y j : Int) => hdS 47 [(1, .v (vI i)), (2, .v (vI k)), (3, .v (.one (.box 3 0))), (8, .v (vI c)), (9, .v (vI t)), (10, .v (.one (.own1 (vkey 17) t.toNat 0 (C.getD t.toNat []).length))), (11, .v (vI y)), (17, .v (.one (.own (vkey 17) C.length))), (18, .v (vI C.length)), (19, .v (vI t)), (24, .v (.one (.own1 (vkey 17) t.toNat 0 (C.getD t.toNat []).length))), (25, .v (vI (C.getD t.toNat []).length)), (26, .v (vI j))] [(3, b.cs)] [(vkey 17, rwLL C)])
    (fun m y j => 0 ≤ j ∧ j + m = (C.getD t.toNat []).length ∧ y = cnN (blk b i k) (C.getD t.toNat []) j.toNat) (C.getD t.toNat []).length 0 0 rfl ⟨by omega, by omega, rfl⟩ ?_
  rintro m y j ⟨j1, j2, j3⟩
  have hb := cnN_b (blk b i k) (C.getD t.toNat []) j.toNat
  have hs := cnN_succ (blk b i k) (C.getD t.toNat []) j1
  rw [← j3] at hb hs
  ((conv=>whnf);repeat((first|refine Ct ‹_› ?_|refine Cf ‹_› ?_|refine Ct rfl ?_|refine Cf rfl ?_|refine Bi rfl ?_|refine Bz rfl ?_|refine Lr ?_);conv=>whnf))
  refine Cnd_i (fun g => ?_) (fun g => ?_)
  · have hj := of_decide_eq_true g
    ((conv=>whnf);repeat((first|refine Ct ‹_› ?_|refine Cf ‹_› ?_|refine Ct rfl ?_|refine Cf rfl ?_|refine Bi rfl ?_|refine Bz rfl ?_|refine Lr ?_);conv=>whnf))
    refine Bnd_i (⟨j1, hj⟩) ?_; ((conv=>whnf);repeat((first|refine Ct ‹_› ?_|refine Cf ‹_› ?_|refine Ct rfl ?_|refine Cf rfl ?_|refine Bi rfl ?_|refine Bz rfl ?_|refine Lr ?_);conv=>whnf))
    (refine CallQ_some (F_blocksBetween b h i k ((C.getD t.toNat []).getD j.toNat 0) hi hk (hx.2 _ (getD_mem j1 hj))) ?_ ?_ ?_; rfl; rfl); ((conv=>whnf);repeat((first|refine Ct ‹_› ?_|refine Cf ‹_› ?_|refine Ct rfl ?_|refine Cf rfl ?_|refine Bi rfl ?_|refine Bz rfl ?_|refine Lr ?_);conv=>whnf))
    refine Cnd_i (fun g2 => ?_) (fun g2 => ?_)
    · rw [if_pos g2] at hs
      ((conv=>whnf);repeat((first|refine Ct ‹_› ?_|refine Cf ‹_› ?_|refine Ct rfl ?_|refine Cf rfl ?_|refine Bi rfl ?_|refine Bz rfl ?_|refine Lr ?_);conv=>whnf))
      refine ⟨m - 1, y + 1, j + 1, ?_, by omega, by omega, by omega, hs.symm⟩
      rw [wrapI (n := j + 1) (by omega), wrapI (by omega)]; rfl
    · rw [if_neg (by rw [g2]; simp)] at hs
      ((conv=>whnf);repeat((first|refine Ct ‹_› ?_|refine Cf ‹_› ?_|refine Ct rfl ?_|refine Cf rfl ?_|refine Bi rfl ?_|refine Bz rfl ?_|refine Lr ?_);conv=>whnf))
      refine ⟨m - 1, y, j + 1, ?_, by omega, by omega, by omega, hs.symm⟩
      rw [wrapI (by omega)]; rfl
  · have hj := of_decide_eq_false g
    rw [show j.toNat = (C.getD t.toNat []).length by omega] at j3
    ((conv=>whnf);repeat((first|refine Ct ‹_› ?_|refine Cf ‹_› ?_|refine Ct rfl ?_|refine Cf rfl ?_|refine Bi rfl ?_|refine Bz rfl ?_|refine Lr ?_);conv=>whnf))
    subst j3
    refine Cnd_i (fun g2 => ?_) (fun g2 => ?_)
    · ((conv=>whnf);repeat((first|refine Ct ‹_› ?_|refine Cf ‹_› ?_|refine Ct rfl ?_|refine Cf rfl ?_|refine Bi rfl ?_|refine Bz rfl ?_|refine Lr ?_);conv=>whnf))
      rw [fi_at (d := []) h1 ht h3 g2, if_pos h1]
      exact ⟨rfl, rfl, rfl⟩
    have h3' : ∀ j : Nat, (j : Int) < t + 1 → fullC b i k (C.getD j []) = false := by
      intro j hj
      by_cases e : (j : Int) = t
      · rw [show j = t.toNat by omega]; exact g2
      · exact h3 j (by omega)
    ((conv=>whnf);repeat((first|refine Ct ‹_› ?_|refine Cf ‹_› ?_|refine Ct rfl ?_|refine Cf rfl ?_|refine Bi rfl ?_|refine Bz rfl ?_|refine Lr ?_);conv=>whnf))
    refine Cnd_i (fun g5 => ?_) (fun g5 => ?_)
    · have e : someC b i k (C.getD t.toNat []) = true := g5
      rw [e, Bool.true_or, if_pos rfl] at h4
      ((conv=>whnf);repeat((first|refine Ct ‹_› ?_|refine Cf ‹_› ?_|refine Ct rfl ?_|refine Cf rfl ?_|refine Bi rfl ?_|refine Bz rfl ?_|refine Lr ?_);conv=>whnf))
      refine ⟨n - 1, 1, t + 1, ?_, by omega, by omega, by omega, h3', ?_⟩
      · rw [wrapI (by omega)]; rfl
      · rw [← h4]; split <;> rfl
    · have e : someC b i k (C.getD t.toNat []) = false := g5
      rw [e, Bool.false_or] at h4
      ((conv=>whnf);repeat((first|refine Ct ‹_› ?_|refine Cf ‹_› ?_|refine Ct rfl ?_|refine Cf rfl ?_|refine Bi rfl ?_|refine Bz rfl ?_|refine Lr ?_);conv=>whnf))
      refine ⟨n - 1, c, t + 1, ?_, by omega, by omega, by omega, h3', h4⟩
      rw [wrapI (by omega)]; rfl

def fbR (b : Brd) (i k : Int) : Int × Bool := if okPr b i k = true then if decide (vFc b i k < 0) = true then (0, false) else (vFc b i k, true) else (0, false)

theorem PrOk {b : Brd} (ho : b.Ok) {i k : Int} (h : okPr b i k = true) : GB b ∧ (0 ≤ i ∧ i < b.m.ter.length) ∧ 0 ≤ k ∧ k < b.m.ter.length := by
  simp only [okPr, Bool.and_eq_true] at h
  have a := PlOk.of ho h.1
  have c := PlOk.of ho h.2
  exact ⟨a.gb, ⟨a.i0, a.i1⟩, c.i0, c.i1⟩

theorem F_FirstBlock (b : Brd) (ho : b.Ok) (i k : Int) : Fun E0 16 [.agg b.cs, vI i, vI k] [] (.tup [vI (fbR b i k).1, vB (fbR b i k).2]) [] [] := by
  refine Fun_of_xc k16 rfl rfl (fun k q h => by cases h) ?_
  ((conv=>whnf);repeat((first|refine Ct ‹_› ?_|refine Cf ‹_› ?_|refine Ct rfl ?_|refine Cf rfl ?_|refine Bi rfl ?_|refine Bz rfl ?_|refine Lr ?_);conv=>whnf))
  (refine CallQ_some (F_vPair b ho i k) ?_ ?_ ?_; rfl; rfl); ((conv=>whnf);repeat((first|refine Ct ‹_› ?_|refine Cf ‹_› ?_|refine Ct rfl ?_|refine Cf rfl ?_|refine Bi rfl ?_|refine Bz rfl ?_|refine Lr ?_);conv=>whnf))
  refine Cnd_i (fun g => ?_) (fun g => ?_)
  · have e0 : okPr b i k = false := by simpa using g
    ((conv=>whnf);repeat((first|refine Ct ‹_› ?_|refine Cf ‹_› ?_|refine Ct rfl ?_|refine Cf rfl ?_|refine Bi rfl ?_|refine Bz rfl ?_|refine Lr ?_);conv=>whnf))
    rw [fbR, e0]
    exact ⟨rfl, rfl, rfl⟩
  have e0 : okPr b i k = true := by simpa using g
  obtain ⟨h, hi, hk⟩ := PrOk ho e0
  ((conv=>whnf);repeat((first|refine Ct ‹_› ?_|refine Cf ‹_› ?_|refine Ct rfl ?_|refine Cf rfl ?_|refine Bi rfl ?_|refine Bz rfl ?_|refine Lr ?_);conv=>whnf))
  (refine CallQ_some (F_vFirst b h i k hi hk) ?_ ?_ ?_; rfl; rfl); ((conv=>whnf);repeat((first|refine Ct ‹_› ?_|refine Cf ‹_› ?_|refine Ct rfl ?_|refine Cf rfl ?_|refine Bi rfl ?_|refine Bz rfl ?_|refine Lr ?_);conv=>whnf))
  refine Cnd_i (fun g => ?_) (fun g => ?_)
  · ((conv=>whnf);repeat((first|refine Ct ‹_› ?_|refine Cf ‹_› ?_|refine Ct rfl ?_|refine Cf rfl ?_|refine Bi rfl ?_|refine Bz rfl ?_|refine Lr ?_);conv=>whnf))
    rw [fbR, e0, if_pos rfl, if_pos g]
    exact ⟨rfl, rfl, rfl⟩
  ((conv=>whnf);repeat((first|refine Ct ‹_› ?_|refine Cf ‹_› ?_|refine Ct rfl ?_|refine Cf rfl ?_|refine Bi rfl ?_|refine Bz rfl ?_|refine Lr ?_);conv=>whnf))
  (refine CallQ_some (F_vFirst b h i k hi hk) ?_ ?_ ?_; rfl; rfl); ((conv=>whnf);repeat((first|refine Ct ‹_› ?_|refine Cf ‹_› ?_|refine Ct rfl ?_|refine Cf rfl ?_|refine Bi rfl ?_|refine Bz rfl ?_|refine Lr ?_);conv=>whnf))
  rw [fbR, e0, if_pos rfl, if_neg (by rw [g]; simp)]
  exact ⟨rfl, rfl, rfl⟩

theorem F_FirstBlockI (b : Brd) (ho : b.Ok) (i k : Int) : Fun E0 17 [.agg b.cs, vI i, vI k] [] (.tup [vI (fbR b i k).1, vB (fbR b i k).2]) [] [] := by
  refine Fun_of_xc k17 rfl rfl (fun k q h => by cases h) ?_
  ((conv=>whnf);repeat((first|refine Ct ‹_› ?_|refine Cf ‹_› ?_|refine Ct rfl ?_|refine Cf rfl ?_|refine Bi rfl ?_|refine Bz rfl ?_|refine Lr ?_);conv=>whnf))
  (refine CallQ_some (F_isPair b ho i k) ?_ ?_ ?_; rfl; rfl); ((conv=>whnf);repeat((first|refine Ct ‹_› ?_|refine Cf ‹_› ?_|refine Ct rfl ?_|refine Cf rfl ?_|refine Bi rfl ?_|refine Bz rfl ?_|refine Lr ?_);conv=>whnf))
  refine Cnd_i (fun g => ?_) (fun g => ?_)
  · have e0 : okPr b i k = false := by simpa using g
    ((conv=>whnf);repeat((first|refine Ct ‹_› ?_|refine Cf ‹_› ?_|refine Ct rfl ?_|refine Cf rfl ?_|refine Bi rfl ?_|refine Bz rfl ?_|refine Lr ?_);conv=>whnf))
    rw [fbR, e0]
    exact ⟨rfl, rfl, rfl⟩
  have e0 : okPr b i k = true := by simpa using g
  obtain ⟨h, hi, hk⟩ := PrOk ho e0
  ((conv=>whnf);repeat((first|refine Ct ‹_› ?_|refine Cf ‹_› ?_|refine Ct rfl ?_|refine Cf rfl ?_|refine Bi rfl ?_|refine Bz rfl ?_|refine Lr ?_);conv=>whnf))
  (refine CallQ_some (F_sightOf b h i k hi hk) ?_ ?_ ?_; rfl; rfl); ((conv=>whnf);repeat((first|refine Ct ‹_› ?_|refine Cf ‹_› ?_|refine Ct rfl ?_|refine Cf rfl ?_|refine Bi rfl ?_|refine Bz rfl ?_|refine Lr ?_);conv=>whnf))
  refine Cnd_i (fun g => ?_) (fun g => ?_)
  · ((conv=>whnf);repeat((first|refine Ct ‹_› ?_|refine Cf ‹_› ?_|refine Ct rfl ?_|refine Cf rfl ?_|refine Bi rfl ?_|refine Bz rfl ?_|refine Lr ?_);conv=>whnf))
    rw [fbR, e0, if_pos rfl, if_pos g]
    exact ⟨rfl, rfl, rfl⟩
  ((conv=>whnf);repeat((first|refine Ct ‹_› ?_|refine Cf ‹_› ?_|refine Ct rfl ?_|refine Cf rfl ?_|refine Bi rfl ?_|refine Bz rfl ?_|refine Lr ?_);conv=>whnf))
  rw [fbR, e0, if_pos rfl, if_neg (by rw [g]; simp)]
  exact ⟨rfl, rfl, rfl⟩

theorem F_FnExactFirstBlock (x0 : Brd) (x1 : Int) (x2 : Int) (o0 : x0.Ok) (o1 : i64 x1) (o2 : i64 x2) :
    Fun E0 4 [.agg x0.cs, vI x1, vI x2] [] (.v (vB true)) [] [] := by
  have hS := F_FirstBlock x0 o0 x1 x2
  have hI := F_FirstBlockI x0 o0 x1 x2
  revert hS hI
  generalize fbR x0 x1 x2 = RR
  obtain ⟨r0, r1⟩ := RR
  intro hS hI
  dsimp only at hS
  dsimp only at hI
  refine Fun_of_xc k4 rfl rfl (fun k q h => by cases h) ?_
  ((conv=>whnf);repeat((first|refine Ct ‹_› ?_|refine Cf ‹_› ?_|refine Ct rfl ?_|refine Cf rfl ?_|refine Bi rfl ?_|refine Bz rfl ?_|refine Lr ?_);conv=>whnf))
  (refine CallQ_some (F_szBoard x0 o0 1048576 (by omega) (by omega)) ?_ ?_ ?_; rfl; rfl); ((conv=>whnf);repeat((first|refine Ct ‹_› ?_|refine Cf ‹_› ?_|refine Ct rfl ?_|refine Cf rfl ?_|refine Bi rfl ?_|refine Bz rfl ?_|refine Lr ?_);conv=>whnf))
  refine Cnd_i (fun g => ?_) (fun g => ?_)
  · ((conv=>whnf);repeat((first|refine Ct ‹_› ?_|refine Cf ‹_› ?_|refine Ct rfl ?_|refine Cf rfl ?_|refine Bi rfl ?_|refine Bz rfl ?_|refine Lr ?_);conv=>whnf))
    exact ⟨rfl, rfl, rfl⟩
  have sm0 := szB_sm (b := x0) (x := 1048576) (by omega) (by omega) (of_decide_eq_false g)
  have s0 := sm0.1
  have sb0 := sm0.2
  have sc0 := of_decide_eq_false g
  ((conv=>whnf);repeat((first|refine Ct ‹_› ?_|refine Cf ‹_› ?_|refine Ct rfl ?_|refine Cf rfl ?_|refine Bi rfl ?_|refine Bz rfl ?_|refine Lr ?_);conv=>whnf))
  (refine CallQ_some (F_toBoard x0 s0) ?_ ?_ ?_; rfl; rfl); ((conv=>whnf);repeat((first|refine Ct ‹_› ?_|refine Cf ‹_› ?_|refine Ct rfl ?_|refine Cf rfl ?_|refine Bi rfl ?_|refine Bz rfl ?_|refine Lr ?_);conv=>whnf))
  refine CallQ_eq (snapB x0 _) ?_
  (refine CallQ_some (hS) ?_ ?_ ?_; rfl; rfl); ((conv=>whnf);repeat((first|refine Ct ‹_› ?_|refine Cf ‹_› ?_|refine Ct rfl ?_|refine Cf rfl ?_|refine Bi rfl ?_|refine Bz rfl ?_|refine Lr ?_);conv=>whnf))
  (refine CallQ_some (F_toBoard x0 s0) ?_ ?_ ?_; rfl; rfl); ((conv=>whnf);repeat((first|refine Ct ‹_› ?_|refine Cf ‹_› ?_|refine Ct rfl ?_|refine Cf rfl ?_|refine Bi rfl ?_|refine Bz rfl ?_|refine Lr ?_);conv=>whnf))
  refine CallQ_eq (snapB x0 _) ?_
  (refine CallQ_some (hI) ?_ ?_ ?_; rfl; rfl); ((conv=>whnf);repeat((first|refine Ct ‹_› ?_|refine Cf ‹_› ?_|refine Ct rfl ?_|refine Cf rfl ?_|refine Bi rfl ?_|refine Bz rfl ?_|refine Lr ?_);conv=>whnf))
  repeat (refine Cnd_f (by simp) ?_; ((conv=>whnf);repeat((first|refine Ct ‹_› ?_|refine Cf ‹_› ?_|refine Ct rfl ?_|refine Cf rfl ?_|refine Bi rfl ?_|refine Bz rfl ?_|refine Lr ?_);conv=>whnf)))
  repeat (refine Cnd_f (by simp) ?_; ((conv=>whnf);repeat((first|refine Ct ‹_› ?_|refine Cf ‹_› ?_|refine Ct rfl ?_|refine Cf rfl ?_|refine Bi rfl ?_|refine Bz rfl ?_|refine Lr ?_);conv=>whnf)))
  repeat (refine Cnd_f (by simp) ?_; ((conv=>whnf);repeat((first|refine Ct ‹_› ?_|refine Cf ‹_› ?_|refine Ct rfl ?_|refine Cf rfl ?_|refine Bi rfl ?_|refine Bz rfl ?_|refine Lr ?_);conv=>whnf)))
  (refine CallQ_some (F_toBoard x0 s0) ?_ ?_ ?_; rfl; rfl); ((conv=>whnf);repeat((first|refine Ct ‹_› ?_|refine Cf ‹_› ?_|refine Ct rfl ?_|refine Cf rfl ?_|refine Bi rfl ?_|refine Bz rfl ?_|refine Lr ?_);conv=>whnf))
  refine CallQ_eq (snapBB x0) ?_
  (refine CallQ_some (F_eqBoard x0 s0) ?_ ?_ ?_; rfl; rfl); ((conv=>whnf);repeat((first|refine Ct ‹_› ?_|refine Cf ‹_› ?_|refine Ct rfl ?_|refine Cf rfl ?_|refine Bi rfl ?_|refine Bz rfl ?_|refine Lr ?_);conv=>whnf))
  exact ⟨rfl, rfl, rfl⟩

/-! ### a place to meet -/
def betM (L L' : List Int) (x y : Int) : Prop := max (L.getD x.toNat 0) (L'.getD x.toNat 0) < max (L.getD y.toNat 0) (L'.getD y.toNat 0) ∨ (max (L.getD x.toNat 0) (L'.getD x.toNat 0) = max (L.getD y.toNat 0) (L'.getD y.toNat 0) ∧ L.getD x.toNat 0 + L'.getD x.toNat 0 < L.getD y.toNat 0 + L'.getD y.toNat 0)

instance (L L' : List Int) (x y : Int) : Decidable (betM L L' x y) := by unfold betM; infer_instance
end Go.Proofs.YteemoapfkgkngaaDoor.Ab
