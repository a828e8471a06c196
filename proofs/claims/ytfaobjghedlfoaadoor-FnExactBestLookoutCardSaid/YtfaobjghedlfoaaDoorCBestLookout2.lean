/- Contracts of the functions that FnExactBestLookout reaches, by the abstract machine (part 2).
   Conditions: none. -/
import Derived.Test.YtfaobjghedlfoaaDoorCBestLookout1
set_option linter.unusedVariables false
set_option linter.unusedSimpArgs false
namespace Go.Proofs.YtfaobjghedlfoaaDoor.Ab
open Go Go.RowKit
attribute [local irreducible] Cnd Bnd Rw CallQ CallR Bts Isn Lc WLoop
set_option maxRecDepth 100000
set_option maxHeartbeats 1000000
theorem F_sightCells (b : Brd) (h : GB b) (i k : Int) (hi : 0 ≤ i ∧ i < b.m.ter.length) (hk : 0 ≤ k ∧ k < b.m.ter.length) :
    Fun E0 143 [.agg b.cs, vI i, vI k] [] (.v (.one (.own 0 (ceL b.m i k).length))) [(0, rwLL (ceL b.m i k))] [] := by
  have hm := h.wh.mul
  have hn := h.n
  have hs := lnM_sub h.wh (i := i) (k := k) (by omega) (by omega)
  have bi := hx_b h.wh (i := i) hi.1 (by omega)
  have bk := hx_b h.wh (i := k) hk.1 (by omega)
  have hc := ceL_len h.wh (i := i) (k := k) (by omega) (by omega)
  refine Fun_of_xc k143 rfl rfl (nrC (rwLL_no _) nrN) ?_
  ((conv=>whnf);repeat((first|refine Ct ‹_› ?_|refine Cf ‹_› ?_|refine Ct rfl ?_|refine Cf rfl ?_|refine Bi rfl ?_|refine Bz rfl ?_|refine Lr ?_);conv=>whnf))
  refine Rw_i (rwLL []) (rwLL_nil _) ?_
  ((conv=>whnf);repeat((first|refine Ct ‹_› ?_|refine Cf ‹_› ?_|refine Ct rfl ?_|refine Cf rfl ?_|refine Bi rfl ?_|refine Bz rfl ?_|refine Lr ?_);conv=>whnf))
  refine Rw_i (rwLL []) (rwLL_nil _) ?_
  ((conv=>whnf);repeat((first|refine Ct ‹_› ?_|refine Cf ‹_› ?_|refine Ct rfl ?_|refine Cf rfl ?_|refine Bi rfl ?_|refine Bz rfl ?_|refine Lr ?_);conv=>whnf))
  (refine CallQ_some (F_hexOf b.m h.wh i hi.1 (by omega)) ?_ ?_ ?_; rfl; rfl); ((conv=>whnf);repeat((first|refine Ct ‹_› ?_|refine Cf ‹_› ?_|refine Ct rfl ?_|refine Cf rfl ?_|refine Bi rfl ?_|refine Bz rfl ?_|refine Lr ?_);conv=>whnf))
  (refine CallQ_some (F_hexOf b.m h.wh k hk.1 (by omega)) ?_ ?_ ?_; rfl; rfl); ((conv=>whnf);repeat((first|refine Ct ‹_› ?_|refine Cf ‹_› ?_|refine Ct rfl ?_|refine Cf rfl ?_|refine Bi rfl ?_|refine Bz rfl ?_|refine Lr ?_);conv=>whnf))
  (refine CallQ_some (F_lineOf _ _ _ _ bi bk) ?_ ?_ ?_; rfl; rfl); ((conv=>whnf);repeat((first|refine Ct ‹_› ?_|refine Cf ‹_› ?_|refine Ct rfl ?_|refine Cf rfl ?_|refine Bi rfl ?_|refine Bz rfl ?_|refine Lr ?_);conv=>whnf))
  have hce : ceL b.m i k = (List.range ((lnM b.m i k).length - 2)).map fun t : Nat => ((lnM b.m i k).getD (t + 1) []).map fun p => ix b.m p.1 p.2 := rfl
  rw [hce]
  rw [← show lnM b.m i k = lnL (i.tmod b.m.w) (i.tdiv b.m.w) (k.tmod b.m.w) (k.tdiv b.m.w) from rfl]
  generalize lnM b.m i k = L at hs ⊢
  clear hce hc
  obtain ⟨s1, s2, s3⟩ := hs
  refine WLoop_v2 ⟨[3, 7, 8, 9], [3], []⟩ (fun (t : Int) (out : List (List Int)) => hdS 53 [(3, .v (.one (.box 3 0))), (7, .v (.one (.own (vkey 7) out.length))), (8, .v (.one (.own (vkey 8) L.length))), (9, .v (vI t))] [(3, b.cs)] [(vkey 7, rwLL out), (vkey 8, rwHH L)])
    (fun n t out => 1 ≤ t ∧ t - 1 + n = ((L.length - 2 : Nat) : Int) ∧ out = (List.range (t - 1).toNat).map fun t : Nat => (L.getD (t + 1) []).map fun p => ix b.m p.1 p.2) (L.length - 2) 1 [] rfl ⟨by omega, by omega, rfl⟩ ?_
  rintro n t out ⟨t1, t2, t3⟩
  have hol : out.length ≤ 19 := by rw [t3, List.length_map, List.length_range]; omega
  ((conv=>whnf);repeat((first|refine Ct ‹_› ?_|refine Cf ‹_› ?_|refine Ct rfl ?_|refine Cf rfl ?_|refine Bi rfl ?_|refine Bz rfl ?_|refine Lr ?_);conv=>whnf))
  refine Cnd_e (c' := decide (t + 1 < (L.length : Int))) (by rw [wrapI (by omega)]) ?_
  refine Cnd_i (fun g => ?_) (fun g => ?_)
  rotate_left
  · have ht := of_decide_eq_false g
    ((conv=>whnf);repeat((first|refine Ct ‹_› ?_|refine Cf ‹_› ?_|refine Ct rfl ?_|refine Cf rfl ?_|refine Bi rfl ?_|refine Bz rfl ?_|refine Lr ?_);conv=>whnf))
    rw [t3, show (t - 1).toNat = L.length - 2 by omega]
    exact ⟨rfl, rfl, rfl⟩
  have ht := of_decide_eq_true g
  have hl2 : (L.getD t.toNat []).length ≤ 2 := s3 _ (getD_memT (d := []) (by omega) (by omega))
  ((conv=>whnf);repeat((first|refine Ct ‹_› ?_|refine Cf ‹_› ?_|refine Ct rfl ?_|refine Cf rfl ?_|refine Bi rfl ?_|refine Bz rfl ?_|refine Lr ?_);conv=>whnf))
  refine Rw_i (rwI []) (rwI_nil _) ?_
  ((conv=>whnf);repeat((first|refine Ct ‹_› ?_|refine Cf ‹_› ?_|refine Ct rfl ?_|refine Cf rfl ?_|refine Bi rfl ?_|refine Bz rfl ?_|refine Lr ?_);conv=>whnf))
  refine Bnd_i (⟨by omega, by omega⟩) ?_; ((conv=>whnf);repeat((first|refine Ct ‹_› ?_|refine Cf ‹_› ?_|refine Ct rfl ?_|refine Cf rfl ?_|refine Bi rfl ?_|refine Bz rfl ?_|refine Lr ?_);conv=>whnf))
  refine WLoop_v2 ⟨[3, 7, 8, 9, 10, 35, 36], [3], [(34, 8)]⟩ (fun (j : Int) (cell : List Int) => hdS 53 [(3, .v (.one (.box 3 0))), (7, .v (.one (.own (vkey 7) out.length))), (8, .v (.one (.own (vkey 8) L.length))), (9, .v (vI t)), (10, .v (.one (.own (vkey 10) cell.length))), (34, .v (.one (.own1 (vkey 8) t.toNat 0 (L.getD t.toNat []).length))), (35, .v (vI (L.getD t.toNat []).length)), (36, .v (vI j))] [(3, b.cs)] [(vkey 7, rwLL out), (vkey 8, rwHH L), (vkey 10, rwI cell)])
    (fun n j cell => 0 ≤ j ∧ j + n = (L.getD t.toNat []).length ∧ cell = ((L.getD t.toNat []).take j.toNat).map fun p => ix b.m p.1 p.2) (L.getD t.toNat []).length 0 [] rfl ⟨by omega, by omega, rfl⟩ ?_
  rintro l j cell ⟨j1, j2, j3⟩
  have hcl : cell.length ≤ 2 := by rw [j3, List.length_map, List.length_take]; omega
  ((conv=>whnf);repeat((first|refine Ct ‹_› ?_|refine Cf ‹_› ?_|refine Ct rfl ?_|refine Cf rfl ?_|refine Bi rfl ?_|refine Bz rfl ?_|refine Lr ?_);conv=>whnf))
  refine Cnd_i (fun g2 => ?_) (fun g2 => ?_)
  · have hj := of_decide_eq_true g2
    ((conv=>whnf);repeat((first|refine Ct ‹_› ?_|refine Cf ‹_› ?_|refine Ct rfl ?_|refine Cf rfl ?_|refine Bi rfl ?_|refine Bz rfl ?_|refine Lr ?_);conv=>whnf))
    refine Bnd_i (⟨j1, hj⟩) ?_; ((conv=>whnf);repeat((first|refine Ct ‹_› ?_|refine Cf ‹_› ?_|refine Ct rfl ?_|refine Cf rfl ?_|refine Bi rfl ?_|refine Bz rfl ?_|refine Lr ?_);conv=>whnf))
    (refine CallQ_some (F_indexOf b.m h.wh _ _) ?_ ?_ ?_; rfl; rfl); ((conv=>whnf);repeat((first|refine Ct ‹_› ?_|refine Cf ‹_› ?_|refine Ct rfl ?_|refine Cf rfl ?_|refine Bi rfl ?_|refine Bz rfl ?_|refine Lr ?_);conv=>whnf))
    refine Rw_self ?_
    ((conv=>whnf);repeat((first|refine Ct ‹_› ?_|refine Cf ‹_› ?_|refine Ct rfl ?_|refine Cf rfl ?_|refine Bi rfl ?_|refine Bz rfl ?_|refine Lr ?_);conv=>whnf))
    refine Bnd_i ?_ ?_
    · show cell.length + 1 < _
      omega
    ((conv=>whnf);repeat((first|refine Ct ‹_› ?_|refine Cf ‹_› ?_|refine Ct rfl ?_|refine Cf rfl ?_|refine Bi rfl ?_|refine Bz rfl ?_|refine Lr ?_);conv=>whnf))
    refine Rw_i (rwI (cell ++ [ix b.m ((L.getD t.toNat []).getD j.toNat (0, 0)).1 ((L.getD t.toNat []).getD j.toNat (0, 0)).2])) (rwI_app _ _ _ rfl) ?_
    ((conv=>whnf);repeat((first|refine Ct ‹_› ?_|refine Cf ‹_› ?_|refine Ct rfl ?_|refine Cf rfl ?_|refine Bi rfl ?_|refine Bz rfl ?_|refine Lr ?_);conv=>whnf))
    refine ⟨l - 1, j + 1, cell ++ [ix b.m ((L.getD t.toNat []).getD j.toNat (0, 0)).1 ((L.getD t.toNat []).getD j.toNat (0, 0)).2], ?_, by omega, by omega, by omega, ?_⟩
    · rw [wrapI (by omega)]; rfl
    · rw [map_take _ _ (0, 0) j1 hj, ← j3]
  · have hj := of_decide_eq_false g2
    ((conv=>whnf);repeat((first|refine Ct ‹_› ?_|refine Cf ‹_› ?_|refine Ct rfl ?_|refine Cf rfl ?_|refine Bi rfl ?_|refine Bz rfl ?_|refine Lr ?_);conv=>whnf))
    rw [show j.toNat = (L.getD t.toNat []).length by omega, List.take_length] at j3
    subst j3
    refine Rw_self ?_
    ((conv=>whnf);repeat((first|refine Ct ‹_› ?_|refine Cf ‹_› ?_|refine Ct rfl ?_|refine Cf rfl ?_|refine Bi rfl ?_|refine Bz rfl ?_|refine Lr ?_);conv=>whnf))
    refine Bnd_i ?_ ?_
    · show out.length + 1 < _
      omega
    ((conv=>whnf);repeat((first|refine Ct ‹_› ?_|refine Cf ‹_› ?_|refine Ct rfl ?_|refine Cf rfl ?_|refine Bi rfl ?_|refine Bz rfl ?_|refine Lr ?_);conv=>whnf))
    refine Rw_i (rwLL (out ++ [(L.getD t.toNat []).map fun p => ix b.m p.1 p.2])) (rwLL_app _ _ _ rfl) ?_
    ((conv=>whnf);repeat((first|refine Ct ‹_› ?_|refine Cf ‹_› ?_|refine Ct rfl ?_|refine Cf rfl ?_|refine Bi rfl ?_|refine Bz rfl ?_|refine Lr ?_);conv=>whnf))
    refine ⟨n - 1, t + 1, out ++ [(L.getD t.toNat []).map fun p => ix b.m p.1 p.2], ?_, by omega, by omega, by omega, ?_⟩
    · rw [wrapI (by omega)]; rfl
    · rw [show (t + 1 - 1).toNat = (t - 1 + 1).toNat by omega, range_succ' _ (t - 1) (by omega), ← t3, show (t - 1).toNat + 1 = t.toNat by omega]

theorem hnOff_ceil {n f x : Int} (hf : 0 ≤ f) (hn : 1 ≤ n) (h : x ∈ hnOff n f) : x = 0 ∨ (x = 1 ∧ 0 < f) := by
  unfold hnOff at h
  split at h
  · simp at h; omega
  · split at h <;> simp at h <;> omega

theorem fl_le {q n X : Int} (hq : 0 ≤ q ∧ q ≤ 1000) (hn : 1 ≤ n) (h : q ≤ X * n) : q.tdiv n ≤ X ∧ (0 < q.tmod n → q.tdiv n + 1 ≤ X) := by
  obtain ⟨e1, e1b, e1c, e1d⟩ := dm hq hn
  constructor
  · by_cases e : q.tdiv n ≤ X
    · exact e
    · have : n * (X + 1) ≤ n * q.tdiv n := Int.mul_le_mul_of_nonneg_left (by omega) (by omega)
      rw [Int.mul_add, Int.mul_comm n X] at this
      omega
  · intro hp
    by_cases e : q.tdiv n + 1 ≤ X
    · exact e
    · have : n * X ≤ n * q.tdiv n := Int.mul_le_mul_of_nonneg_left (by omega) (by omega)
      rw [Int.mul_comm n X] at this
      omega

theorem ptL_in {q r n X Y : Int} (hn : 1 ≤ n) (hq : 0 ≤ q ∧ q ≤ 1000) (hr : 0 ≤ r ∧ r ≤ 1000) (hX : q ≤ X * n) (hY : r ≤ Y * n) (hw : q.tmod n = 0 ∨ r.tmod n = 0 ∨ q.tmod n + r.tmod n = n) {p : Hx} (hp : p ∈ ptL q r n) : (0 ≤ p.1 ∧ p.1 ≤ X) ∧ 0 ≤ p.2 ∧ p.2 ≤ Y := by
  obtain ⟨e1, e1b, e1c, e1d⟩ := dm hq hn
  obtain ⟨e2, e2b, e2c, e2d⟩ := dm hr hn
  have a1 := fl_le hq hn hX
  have a2 := fl_le hr hn hY
  unfold ptL at hp
  obtain ⟨o, ho, rfl⟩ := List.mem_map.1 hp
  unfold spOff at ho
  show (0 ≤ q.tdiv n + o.1 ∧ q.tdiv n + o.1 ≤ X) ∧ 0 ≤ r.tdiv n + o.2 ∧ r.tdiv n + o.2 ≤ Y
  split at ho
  · obtain ⟨y, hy, rfl⟩ := List.mem_map.1 ho
    have := hnOff_ceil e2c hn hy
    show (0 ≤ q.tdiv n + 0 ∧ q.tdiv n + 0 ≤ X) ∧ 0 ≤ r.tdiv n + y ∧ r.tdiv n + y ≤ Y
    omega
  · obtain ⟨x, hx, rfl⟩ := List.mem_map.1 ho
    have := hnOff_ceil e1c hn hx
    split
    · show (0 ≤ q.tdiv n + x ∧ q.tdiv n + x ≤ X) ∧ 0 ≤ r.tdiv n + 0 ∧ r.tdiv n + 0 ≤ Y
      omega
    · show (0 ≤ q.tdiv n + x ∧ q.tdiv n + x ≤ X) ∧ 0 ≤ r.tdiv n + (1 - x) ∧ r.tdiv n + (1 - x) ≤ Y
      omega

theorem lnQ_X {a b i n X : Int} (ha : a ≤ X) (hb : b ≤ X) (hi : 0 ≤ i ∧ i ≤ n) : lnQ a b i n ≤ X * n := by
  have e : lnQ a b i n = a * (n - i) + b * i := by
    unfold lnQ
    rw [Int.mul_sub, Int.sub_mul]; omega
  rw [e]
  have h3 := Int.mul_le_mul_of_nonneg_right ha (show 0 ≤ n - i by omega)
  have h4 := Int.mul_le_mul_of_nonneg_right hb hi.1
  rw [Int.mul_sub X] at h3
  omega

theorem hx_w {m : Map} (h : WH m) {i : Int} (h0 : 0 ≤ i) (h1 : i < m.w * m.h) : i.tmod m.w ≤ m.w - 1 ∧ i.tdiv m.w ≤ m.h - 1 := by
  have hw := h.w1; have hm := h.mul
  have h3 := tdiv_b (i := i) (w := m.w) h0 (by omega) hw
  refine ⟨by omega, ?_⟩
  have h4 := Int.mul_tdiv_add_tmod i m.w
  by_cases e : i.tdiv m.w ≤ m.h - 1
  · exact e
  · have h5 : m.w * m.h ≤ m.w * i.tdiv m.w := Int.mul_le_mul_of_nonneg_left (by omega) (by omega)
    omega

theorem ceL_in {m : Map} (h : WH m) {i k : Int} (hi : 0 ≤ i ∧ i < m.w * m.h) (hk : 0 ≤ k ∧ k < m.w * m.h) : ∀ l ∈ ceL m i k, ∀ x ∈ l, 0 ≤ x ∧ x < m.w * m.h := by
  intro l hl x hx
  obtain ⟨t, ht, rfl⟩ := List.mem_map.1 hl
  have ht := List.mem_range.1 ht
  obtain ⟨p, hp, rfl⟩ := List.mem_map.1 hx
  have bi := hx_b h hi.1 hi.2
  have bk := hx_b h hk.1 hk.2
  have wi := hx_w h hi.1 hi.2
  have wk := hx_w h hk.1 hk.2
  have h18 := dsH_b bi bk
  have hln := (lnL_len bi bk).1
  have ht : t < (lnL (i.tmod m.w) (i.tdiv m.w) (k.tmod m.w) (k.tdiv m.w)).length - 2 := ht
  have h1 : 1 ≤ dsH (i.tmod m.w) (i.tdiv m.w) (k.tmod m.w) (k.tdiv m.w) := by omega
  have hp2 : p ∈ lcL (i.tmod m.w) (i.tdiv m.w) (k.tmod m.w) (k.tdiv m.w) ((t + 1 : Nat) : Int) := by
    have : (lnM m i k).getD (t + 1) [] = lcL (i.tmod m.w) (i.tdiv m.w) (k.tmod m.w) (k.tdiv m.w) ((t + 1 : Nat) : Int) := by
      unfold lnM lnL
      rw [if_neg (by omega), List.getD_eq_getElem?_getD, List.getElem?_map, List.getElem?_range (by omega)]; rfl
    rwa [this] at hp
  have hi2 : (0 : Int) ≤ ((t + 1 : Nat) : Int) ∧ ((t + 1 : Nat) : Int) ≤ dsH (i.tmod m.w) (i.tdiv m.w) (k.tmod m.w) (k.tdiv m.w) := by omega
  have q1 := lnQ_b bi.q bk.q hi2 (by omega)
  have r1 := lnQ_b bi.r bk.r hi2 (by omega)
  have r := ptL_in h1 (by omega) (by omega) (lnQ_X wi.1 wk.1 hi2) (lnQ_X wi.2 wk.2 hi2) (ln_whole bi bk hi2 h1) hp2
  have hw := ix_wrap h (q := p.1) (r := p.2) r.1 r.2
  rw [ix, if_pos ⟨r.1, r.2⟩]
  omega

/-- how many of the first n are so -/
def cnN (p : Int → Bool) (l : List Int) : Nat → Int
  | 0 => 0
  | n + 1 => if p (l.getD n 0) = true then cnN p l n + 1 else cnN p l n

theorem cnN_b (p : Int → Bool) (l : List Int) (n : Nat) : 0 ≤ cnN p l n ∧ cnN p l n ≤ n := by
  induction n with
  | zero => simp [cnN]
  | succ n ih => unfold cnN; split <;> omega

theorem cnN_succ (p : Int → Bool) (l : List Int) {t : Int} (h0 : 0 ≤ t) : cnN p l (t + 1).toNat = if p (l.getD t.toNat 0) = true then cnN p l t.toNat + 1 else cnN p l t.toNat := by
  rw [show (t + 1).toNat = t.toNat + 1 by omega, cnN]

abbrev cnA (b : Brd) (i k : Int) (l : List Int) : Int := cnN (blk b i k) l l.length

theorem F_vCount (b : Brd) (h : GB b) (i k : Int) (hi : 0 ≤ i ∧ i < b.m.ter.length) (hk : 0 ≤ k ∧ k < b.m.ter.length) (l : List Int) (hl : l.length ≤ 1000) (hin : ∀ x ∈ l, 0 ≤ x ∧ x < b.m.ter.length) :
    Fun E0 134 [.agg b.cs, vI i, vI k, .one (roI l)] [] (.v (vI (cnA b i k l))) [] [] := by
  refine Fun_of_xc k134 rfl rfl (fun k q h => by cases h) ?_
  ((conv=>whnf);repeat((first|refine Ct ‹_› ?_|refine Cf ‹_› ?_|refine Ct rfl ?_|refine Cf rfl ?_|refine Bi rfl ?_|refine Bz rfl ?_|refine Lr ?_);conv=>whnf))
  refine WLoop_v2 ⟨[1, 2, 4, 9, 12, 13, 14], [4], []⟩ (fun (t y : Int) => hdS 27 [(1, .v (vI i)), (2, .v (vI k)), (4, .v (.one (.box 4 0))), (9, .v (vI y)), (12, .v (.one (roI l))), (13, .v (vI l.length)), (14, .v (vI t))] [(4, b.cs)] [])
    (fun n t y => 0 ≤ t ∧ t + n = l.length ∧ y = cnN (blk b i k) l t.toNat) l.length 0 0 rfl ⟨by omega, by omega, rfl⟩ ?_
  rintro n t y ⟨h1, h2, h3⟩
  have hb := cnN_b (blk b i k) l t.toNat
  have hs := cnN_succ (blk b i k) l h1
  rw [← h3] at hb hs
  ((conv=>whnf);repeat((first|refine Ct ‹_› ?_|refine Cf ‹_› ?_|refine Ct rfl ?_|refine Cf rfl ?_|refine Bi rfl ?_|refine Bz rfl ?_|refine Lr ?_);conv=>whnf))
  refine Cnd_i (fun g => ?_) (fun g => ?_)
  · have ht := of_decide_eq_true g
    have hx := hin _ (getD_mem h1 ht)
    ((conv=>whnf);repeat((first|refine Ct ‹_› ?_|refine Cf ‹_› ?_|refine Ct rfl ?_|refine Cf rfl ?_|refine Bi rfl ?_|refine Bz rfl ?_|refine Lr ?_);conv=>whnf))
    refine Bnd_i (⟨h1, ht⟩) ?_; ((conv=>whnf);repeat((first|refine Ct ‹_› ?_|refine Cf ‹_› ?_|refine Ct rfl ?_|refine Cf rfl ?_|refine Bi rfl ?_|refine Bz rfl ?_|refine Lr ?_);conv=>whnf))
    (refine CallQ_some (F_vBlocks b h i k (l.getD t.toNat 0) hi hk hx) ?_ ?_ ?_; rfl; rfl); ((conv=>whnf);repeat((first|refine Ct ‹_› ?_|refine Cf ‹_› ?_|refine Ct rfl ?_|refine Cf rfl ?_|refine Bi rfl ?_|refine Bz rfl ?_|refine Lr ?_);conv=>whnf))
    refine Cnd_i (fun g2 => ?_) (fun g2 => ?_)
    · rw [if_pos g2] at hs
      ((conv=>whnf);repeat((first|refine Ct ‹_› ?_|refine Cf ‹_› ?_|refine Ct rfl ?_|refine Cf rfl ?_|refine Bi rfl ?_|refine Bz rfl ?_|refine Lr ?_);conv=>whnf))
      refine ⟨n - 1, t + 1, y + 1, ?_, by omega, by omega, by omega, hs.symm⟩
      rw [wrapI (n := t + 1) (by omega), wrapI (by omega)]; rfl
    · rw [if_neg (by rw [g2]; simp)] at hs
      ((conv=>whnf);repeat((first|refine Ct ‹_› ?_|refine Cf ‹_› ?_|refine Ct rfl ?_|refine Cf rfl ?_|refine Bi rfl ?_|refine Bz rfl ?_|refine Lr ?_);conv=>whnf))
      refine ⟨n - 1, t + 1, y, ?_, by omega, by omega, by omega, hs.symm⟩
      rw [wrapI (by omega)]; rfl
  · have ht := of_decide_eq_false g
    ((conv=>whnf);repeat((first|refine Ct ‹_› ?_|refine Cf ‹_› ?_|refine Ct rfl ?_|refine Cf rfl ?_|refine Bi rfl ?_|refine Bz rfl ?_|refine Lr ?_);conv=>whnf))
    rw [h3, show t.toNat = l.length by omega]
    exact ⟨rfl, rfl, rfl⟩

def fullC (b : Brd) (i k : Int) (c : List Int) : Bool := cnA b i k c == (c.length : Int)

def someC (b : Brd) (i k : Int) (c : List Int) : Bool := decide (cnA b i k c > 0)

/-- the first element that blocks; the code of the sight -/
def vFc (b : Brd) (i k : Int) : Int := fi (fullC b i k) (ceL b.m i k)

def vCd (b : Brd) (i k : Int) : Int := if vFc b i k ≥ 0 then 2 else if (ceL b.m i k).any (someC b i k) = true then 1 else 0

theorem vFc_b {b : Brd} (h : GB b) {i k : Int} (hi : 0 ≤ i ∧ i < b.m.ter.length) (hk : 0 ≤ k ∧ k < b.m.ter.length) : (∀ l ∈ ceL b.m i k, l.length ≤ 2 ∧ ∀ x ∈ l, 0 ≤ x ∧ x < b.m.ter.length) ∧ (ceL b.m i k).length ≤ 17 := by
  have hn := h.n
  have h1 := ceL_len h.wh (i := i) (k := k) (by omega) (by omega)
  have h2 := ceL_in h.wh (i := i) (k := k) (by omega) (by omega)
  exact ⟨fun l hl => ⟨h1.2 l hl, fun x hx => by have := h2 l hl x hx; omega⟩, h1.1⟩

theorem F_vFirst (b : Brd) (h : GB b) (i k : Int) (hi : 0 ≤ i ∧ i < b.m.ter.length) (hk : 0 ≤ k ∧ k < b.m.ter.length) :
    Fun E0 132 [.agg b.cs, vI i, vI k] [] (.v (vI (vFc b i k))) [] [] := by
  have hc := vFc_b h hi hk
  unfold vFc
  refine Fun_of_xc k132 rfl rfl (fun k q h => by cases h) ?_
  ((conv=>whnf);repeat((first|refine Ct ‹_› ?_|refine Cf ‹_› ?_|refine Ct rfl ?_|refine Cf rfl ?_|refine Bi rfl ?_|refine Bz rfl ?_|refine Lr ?_);conv=>whnf))
  (refine CallQ_some (F_vCells b h i k hi hk) ?_ ?_ ?_; rfl; rfl); ((conv=>whnf);repeat((first|refine Ct ‹_› ?_|refine Cf ‹_› ?_|refine Ct rfl ?_|refine Cf rfl ?_|refine Bi rfl ?_|refine Bz rfl ?_|refine Lr ?_);conv=>whnf))
  generalize ceL b.m i k = C at hc ⊢
  obtain ⟨c1, c2⟩ := hc
  refine WLoop_v ⟨[1, 2, 3, 12, 13, 14], [3], []⟩ (fun (t : Int) => hdS 29 [(1, .v (vI i)), (2, .v (vI k)), (3, .v (.one (.box 3 0))), (12, .v (.one (.own (vkey 12) C.length))), (13, .v (vI C.length)), (14, .v (vI t))] [(3, b.cs)] [(vkey 12, rwLL C)])
    (fun n t => 0 ≤ t ∧ t + n = C.length ∧ ∀ j : Nat, (j : Int) < t → fullC b i k (C.getD j []) = false) C.length 0 rfl ⟨by omega, by omega, fun j hj => by omega⟩ ?_
  rintro n t ⟨h1, h2, h3⟩
  ((conv=>whnf);repeat((first|refine Ct ‹_› ?_|refine Cf ‹_› ?_|refine Ct rfl ?_|refine Cf rfl ?_|refine Bi rfl ?_|refine Bz rfl ?_|refine Lr ?_);conv=>whnf))
  refine Cnd_i (fun g => ?_) (fun g => ?_)
  · have ht := of_decide_eq_true g
    have hx := c1 _ (getD_memT (d := []) h1 ht)
    ((conv=>whnf);repeat((first|refine Ct ‹_› ?_|refine Cf ‹_› ?_|refine Ct rfl ?_|refine Cf rfl ?_|refine Bi rfl ?_|refine Bz rfl ?_|refine Lr ?_);conv=>whnf))
    refine Bnd_i (⟨h1, ht⟩) ?_; ((conv=>whnf);repeat((first|refine Ct ‹_› ?_|refine Cf ‹_› ?_|refine Ct rfl ?_|refine Cf rfl ?_|refine Bi rfl ?_|refine Bz rfl ?_|refine Lr ?_);conv=>whnf))
    (refine CallQ_some (F_vCount b h i k hi hk (C.getD t.toNat []) (by omega) hx.2) ?_ ?_ ?_; rfl; rfl); ((conv=>whnf);repeat((first|refine Ct ‹_› ?_|refine Cf ‹_› ?_|refine Ct rfl ?_|refine Cf rfl ?_|refine Bi rfl ?_|refine Bz rfl ?_|refine Lr ?_);conv=>whnf))
    refine Cnd_i (fun g2 => ?_) (fun g2 => ?_)
    · ((conv=>whnf);repeat((first|refine Ct ‹_› ?_|refine Cf ‹_› ?_|refine Ct rfl ?_|refine Cf rfl ?_|refine Bi rfl ?_|refine Bz rfl ?_|refine Lr ?_);conv=>whnf))
      rw [fi_at (d := []) h1 ht h3 g2]
      exact ⟨rfl, rfl, rfl⟩
    · ((conv=>whnf);repeat((first|refine Ct ‹_› ?_|refine Cf ‹_› ?_|refine Ct rfl ?_|refine Cf rfl ?_|refine Bi rfl ?_|refine Bz rfl ?_|refine Lr ?_);conv=>whnf))
      refine ⟨n - 1, t + 1, ?_, by omega, by omega, by omega, fun j hj => ?_⟩
      · rw [wrapI (by omega)]; rfl
      · by_cases e : (j : Int) = t
        · rw [show j = t.toNat by omega]; exact g2
        · exact h3 j (by omega)
  · have ht := of_decide_eq_false g
    ((conv=>whnf);repeat((first|refine Ct ‹_› ?_|refine Cf ‹_› ?_|refine Ct rfl ?_|refine Cf rfl ?_|refine Bi rfl ?_|refine Bz rfl ?_|refine Lr ?_);conv=>whnf))
    rw [fi_no (d := []) (fun j hj => h3 j (by omega))]
    exact ⟨rfl, rfl, rfl⟩

theorem F_vCode (b : Brd) (h : GB b) (i k : Int) (hi : 0 ≤ i ∧ i < b.m.ter.length) (hk : 0 ≤ k ∧ k < b.m.ter.length) :
    Fun E0 106 [.agg b.cs, vI i, vI k] [] (.v (vI (vCd b i k))) [] [] := by
  have hc := vFc_b h hi hk
  refine Fun_of_xc k106 rfl rfl (fun k q h => by cases h) ?_
  ((conv=>whnf);repeat((first|refine Ct ‹_› ?_|refine Cf ‹_› ?_|refine Ct rfl ?_|refine Cf rfl ?_|refine Bi rfl ?_|refine Bz rfl ?_|refine Lr ?_);conv=>whnf))
  (refine CallQ_some (F_vFirst b h i k hi hk) ?_ ?_ ?_; rfl; rfl); ((conv=>whnf);repeat((first|refine Ct ‹_› ?_|refine Cf ‹_› ?_|refine Ct rfl ?_|refine Cf rfl ?_|refine Bi rfl ?_|refine Bz rfl ?_|refine Lr ?_);conv=>whnf))
  refine Cnd_i (fun g => ?_) (fun g => ?_)
  · have g := of_decide_eq_true g
    ((conv=>whnf);repeat((first|refine Ct ‹_› ?_|refine Cf ‹_› ?_|refine Ct rfl ?_|refine Cf rfl ?_|refine Bi rfl ?_|refine Bz rfl ?_|refine Lr ?_);conv=>whnf))
    rw [vCd, if_pos g]
    exact ⟨rfl, rfl, rfl⟩
  have g := of_decide_eq_false g
  unfold vCd
  rw [if_neg g]
  ((conv=>whnf);repeat((first|refine Ct ‹_› ?_|refine Cf ‹_› ?_|refine Ct rfl ?_|refine Cf rfl ?_|refine Bi rfl ?_|refine Bz rfl ?_|refine Lr ?_);conv=>whnf))
  (refine CallQ_some (F_vCells b h i k hi hk) ?_ ?_ ?_; rfl; rfl); ((conv=>whnf);repeat((first|refine Ct ‹_› ?_|refine Cf ‹_› ?_|refine Ct rfl ?_|refine Cf rfl ?_|refine Bi rfl ?_|refine Bz rfl ?_|refine Lr ?_);conv=>whnf))
  generalize ceL b.m i k = C at hc ⊢
  obtain ⟨c1, c2⟩ := hc
  refine WLoop_v ⟨[1, 2, 3, 17, 18, 19], [3], []⟩ (fun (t : Int) => hdS 30 [(1, .v (vI i)), (2, .v (vI k)), (3, .v (.one (.box 3 0))), (17, .v (.one (.own (vkey 17) C.length))), (18, .v (vI C.length)), (19, .v (vI t))] [(3, b.cs)] [(vkey 17, rwLL C)])
    (fun n t => 0 ≤ t ∧ t + n = C.length ∧ (C.drop t.toNat).any (someC b i k) = C.any (someC b i k)) C.length 0 rfl ⟨by omega, by omega, rfl⟩ ?_
  rintro n t ⟨h1, h2, h3⟩
  ((conv=>whnf);repeat((first|refine Ct ‹_› ?_|refine Cf ‹_› ?_|refine Ct rfl ?_|refine Cf rfl ?_|refine Bi rfl ?_|refine Bz rfl ?_|refine Lr ?_);conv=>whnf))
  refine Cnd_i (fun g => ?_) (fun g => ?_)
  · have ht := of_decide_eq_true g
    have hx := c1 _ (getD_memT (d := []) h1 ht)
    rw [drop_cons (d := []) h1 ht, List.any_cons] at h3
    ((conv=>whnf);repeat((first|refine Ct ‹_› ?_|refine Cf ‹_› ?_|refine Ct rfl ?_|refine Cf rfl ?_|refine Bi rfl ?_|refine Bz rfl ?_|refine Lr ?_);conv=>whnf))
    refine Bnd_i (⟨h1, ht⟩) ?_; ((conv=>whnf);repeat((first|refine Ct ‹_› ?_|refine Cf ‹_› ?_|refine Ct rfl ?_|refine Cf rfl ?_|refine Bi rfl ?_|refine Bz rfl ?_|refine Lr ?_);conv=>whnf))
    (refine CallQ_some (F_vCount b h i k hi hk (C.getD t.toNat []) (by omega) hx.2) ?_ ?_ ?_; rfl; rfl); ((conv=>whnf);repeat((first|refine Ct ‹_› ?_|refine Cf ‹_› ?_|refine Ct rfl ?_|refine Cf rfl ?_|refine Bi rfl ?_|refine Bz rfl ?_|refine Lr ?_);conv=>whnf))
    refine Cnd_i (fun g2 => ?_) (fun g2 => ?_)
    · have e : someC b i k (C.getD t.toNat []) = true := g2
      ((conv=>whnf);repeat((first|refine Ct ‹_› ?_|refine Cf ‹_› ?_|refine Ct rfl ?_|refine Cf rfl ?_|refine Bi rfl ?_|refine Bz rfl ?_|refine Lr ?_);conv=>whnf))
      rw [← h3, e, if_pos (Bool.true_or _)]
      exact ⟨rfl, rfl, rfl⟩
    · have e : someC b i k (C.getD t.toNat []) = false := g2
      rw [e, Bool.false_or] at h3
      ((conv=>whnf);repeat((first|refine Ct ‹_› ?_|refine Cf ‹_› ?_|refine Ct rfl ?_|refine Cf rfl ?_|refine Bi rfl ?_|refine Bz rfl ?_|refine Lr ?_);conv=>whnf))
      refine ⟨n - 1, t + 1, ?_, by omega, by omega, by omega, h3⟩
      rw [wrapI (by omega)]; rfl
  · have ht := of_decide_eq_false g
    rw [show t.toNat = C.length by omega, List.drop_length] at h3
    ((conv=>whnf);repeat((first|refine Ct ‹_› ?_|refine Cf ‹_› ?_|refine Ct rfl ?_|refine Cf rfl ?_|refine Bi rfl ?_|refine Bz rfl ?_|refine Lr ?_);conv=>whnf))
    rw [← h3, if_neg (by simp)]
    exact ⟨rfl, rfl, rfl⟩

theorem F_sightOf (b : Brd) (h : GB b) (i k : Int) (hi : 0 ≤ i ∧ i < b.m.ter.length) (hk : 0 ≤ k ∧ k < b.m.ter.length) :
    Fun E0 114 [.agg b.cs, vI i, vI k] [] (.tup [vI (vCd b i k), vI (vFc b i k)]) [] [] := by
  have hc := vFc_b h hi hk
  unfold vCd vFc
  refine Fun_of_xc k114 rfl rfl (fun k q h => by cases h) ?_
  ((conv=>whnf);repeat((first|refine Ct ‹_› ?_|refine Cf ‹_› ?_|refine Ct rfl ?_|refine Cf rfl ?_|refine Bi rfl ?_|refine Bz rfl ?_|refine Lr ?_);conv=>whnf))
  (refine CallQ_some (F_sightCells b h i k hi hk) ?_ ?_ ?_; rfl; rfl); ((conv=>whnf);repeat((first|refine Ct ‹_› ?_|refine Cf ‹_› ?_|refine Ct rfl ?_|refine Cf rfl ?_|refine Bi rfl ?_|refine Bz rfl ?_|refine Lr ?_);conv=>whnf))
  generalize ceL b.m i k = C at hc ⊢
  obtain ⟨c1, c2⟩ := hc
  refine WLoop_v2 ⟨[1, 2, 3, 8, 17, 18, 19], [3], []⟩ (fun (c t : Int) => hdS 47 [(1, .v (vI i)), (2, .v (vI k)), (3, .v (.one (.box 3 0))), (8, .v (vI c)), (17, .v (.one (.own (vkey 17) C.length))), (18, .v (vI C.length)), (19, .v (vI t))] [(3, b.cs)] [(vkey 17, rwLL C)])
    (fun n c t => 0 ≤ t ∧ t + n = C.length ∧ (∀ j : Nat, (j : Int) < t → fullC b i k (C.getD j []) = false) ∧ (if (C.drop t.toNat).any (someC b i k) = true then 1 else c) = (if C.any (someC b i k) = true then 1 else (0 : Int))) C.length 0 0 rfl ⟨by omega, by omega, fun j hj => by omega, rfl⟩ ?_
  rintro n c t ⟨h1, h2, h3, h4⟩
  ((conv=>whnf);repeat((first|refine Ct ‹_› ?_|refine Cf ‹_› ?_|refine Ct rfl ?_|refine Cf rfl ?_|refine Bi rfl ?_|refine Bz rfl ?_|refine Lr ?_);conv=>whnf))
  refine Cnd_i (fun g => ?_) (fun g => ?_)
  rotate_left
  · have ht := of_decide_eq_false g
    rw [show t.toNat = C.length by omega, List.drop_length, List.any_nil, if_neg (by simp)] at h4
    ((conv=>whnf);repeat((first|refine Ct ‹_› ?_|refine Cf ‹_› ?_|refine Ct rfl ?_|refine Cf rfl ?_|refine Bi rfl ?_|refine Bz rfl ?_|refine Lr ?_);conv=>whnf))
    rw [fi_no (d := []) (fun j hj => h3 j (by omega)), if_neg (by omega), h4]
    exact ⟨rfl, rfl, rfl⟩
  have ht := of_decide_eq_true g
  have hx := c1 _ (getD_memT (d := []) h1 ht)
  rw [drop_cons (d := []) h1 ht, List.any_cons] at h4
  ((conv=>whnf);repeat((first|refine Ct ‹_› ?_|refine Cf ‹_› ?_|refine Ct rfl ?_|refine Cf rfl ?_|refine Bi rfl ?_|refine Bz rfl ?_|refine Lr ?_);conv=>whnf))
  refine Bnd_i (⟨h1, ht⟩) ?_; ((conv=>whnf);repeat((first|refine Ct ‹_› ?_|refine Cf ‹_› ?_|refine Ct rfl ?_|refine Cf rfl ?_|refine Bi rfl ?_|refine Bz rfl ?_|refine Lr ?_);conv=>whnf))
  refine WLoop_v2 ⟨[1, 2, 3, 8, 9, 11, 17, 18, 19, 25, 26], [3], [(10, 17), (24, 17)]⟩ (fun (y j : Int) => hdS 47 [(1, .v (vI i)), (2, .v (vI k)), (3, .v (.one (.box 3 0))), (8, .v (vI c)), (9, .v (vI t)), (10, .v (.one (.own1 (vkey 17) t.toNat 0 (C.getD t.toNat []).length))), (11, .v (vI y)), (17, .v (.one (.own (vkey 17) C.length))), (18, .v (vI C.length)), (19, .v (vI t)), (24, .v (.one (.own1 (vkey 17) t.toNat 0 (C.getD t.toNat []).length))), (25, .v (vI (C.getD t.toNat []).length)), (26, .v (vI j))] [(3, b.cs)] [(vkey 17, rwLL C)])
    (fun m y j => 0 ≤ j ∧ j + m = (C.getD t.toNat []).length ∧ y = cnN (blk b i k) (C.getD t.toNat []) j.toNat) (C.getD t.toNat []).length 0 0 rfl ⟨by omega, by omega, rfl⟩ ?_
  rintro m y j ⟨j1, j2, j3⟩
  have hb := cnN_b (blk b i k) (C.getD t.toNat []) j.toNat
  have hs := cnN_succ (blk b i k) (C.getD t.toNat []) j1
  rw [← j3] at hb hs
  ((conv=>whnf);repeat((first|refine Ct ‹_› ?_|refine Cf ‹_› ?_|refine Ct rfl ?_|refine Cf rfl ?_|refine Bi rfl ?_|refine Bz rfl ?_|refine Lr ?_);conv=>whnf))
  refine Cnd_i (fun g => ?_) (fun g => ?_)
  · have hj := of_decide_eq_true g
    ((conv=>whnf);repeat((first|refine Ct ‹_› ?_|refine Cf ‹_› ?_|refine Ct rfl ?_|refine Cf rfl ?_|refine Bi rfl ?_|refine Bz rfl ?_|refine Lr ?_);conv=>whnf))
    refine Bnd_i (⟨j1, hj⟩) ?_; ((conv=>whnf);repeat((first|refine Ct ‹_› ?_|refine Cf ‹_› ?_|refine Ct rfl ?_|refine Cf rfl ?_|refine Bi rfl ?_|refine Bz rfl ?_|refine Lr ?_);conv=>whnf))
    (refine CallQ_some (F_blocksBetween b h i k ((C.getD t.toNat []).getD j.toNat 0) hi hk (hx.2 _ (getD_mem j1 hj))) ?_ ?_ ?_; rfl; rfl); ((conv=>whnf);repeat((first|refine Ct ‹_› ?_|refine Cf ‹_› ?_|refine Ct rfl ?_|refine Cf rfl ?_|refine Bi rfl ?_|refine Bz rfl ?_|refine Lr ?_);conv=>whnf))
    refine Cnd_i (fun g2 => ?_) (fun g2 => ?_)
    · rw [if_pos g2] at hs
      ((conv=>whnf);repeat((first|refine Ct ‹_› ?_|refine Cf ‹_› ?_|refine Ct rfl ?_|refine Cf rfl ?_|refine Bi rfl ?_|refine Bz rfl ?_|refine Lr ?_);conv=>whnf))
      refine ⟨m - 1, y + 1, j + 1, ?_, by omega, by omega, by omega, hs.symm⟩
      rw [wrapI (n := j + 1) (by omega), wrapI (by omega)]; rfl
    · rw [if_neg (by rw [g2]; simp)] at hs
      ((conv=>whnf);repeat((first|refine Ct ‹_› ?_|refine Cf ‹_› ?_|refine Ct rfl ?_|refine Cf rfl ?_|refine Bi rfl ?_|refine Bz rfl ?_|refine Lr ?_);conv=>whnf))
      refine ⟨m - 1, y, j + 1, ?_, by omega, by omega, by omega, hs.symm⟩
      rw [wrapI (by omega)]; rfl
  · have hj := of_decide_eq_false g
    rw [show j.toNat = (C.getD t.toNat []).length by omega] at j3
    ((conv=>whnf);repeat((first|refine Ct ‹_› ?_|refine Cf ‹_› ?_|refine Ct rfl ?_|refine Cf rfl ?_|refine Bi rfl ?_|refine Bz rfl ?_|refine Lr ?_);conv=>whnf))
    subst j3
    refine Cnd_i (fun g2 => ?_) (fun g2 => ?_)
    · ((conv=>whnf);repeat((first|refine Ct ‹_› ?_|refine Cf ‹_› ?_|refine Ct rfl ?_|refine Cf rfl ?_|refine Bi rfl ?_|refine Bz rfl ?_|refine Lr ?_);conv=>whnf))
      rw [fi_at (d := []) h1 ht h3 g2, if_pos h1]
      exact ⟨rfl, rfl, rfl⟩
    have h3' : ∀ j : Nat, (j : Int) < t + 1 → fullC b i k (C.getD j []) = false := by
      intro j hj
      by_cases e : (j : Int) = t
      · rw [show j = t.toNat by omega]; exact g2
      · exact h3 j (by omega)
    ((conv=>whnf);repeat((first|refine Ct ‹_› ?_|refine Cf ‹_› ?_|refine Ct rfl ?_|refine Cf rfl ?_|refine Bi rfl ?_|refine Bz rfl ?_|refine Lr ?_);conv=>whnf))
    refine Cnd_i (fun g5 => ?_) (fun g5 => ?_)
    · have e : someC b i k (C.getD t.toNat []) = true := g5
      rw [e, Bool.true_or, if_pos rfl] at h4
      ((conv=>whnf);repeat((first|refine Ct ‹_› ?_|refine Cf ‹_› ?_|refine Ct rfl ?_|refine Cf rfl ?_|refine Bi rfl ?_|refine Bz rfl ?_|refine Lr ?_);conv=>whnf))
      refine ⟨n - 1, 1, t + 1, ?_, by omega, by omega, by omega, h3', ?_⟩
      · rw [wrapI (by omega)]; rfl
      · rw [← h4]; split <;> rfl
    · have e : someC b i k (C.getD t.toNat []) = false := g5
      rw [e, Bool.false_or] at h4
      ((conv=>whnf);repeat((first|refine Ct ‹_› ?_|refine Cf ‹_› ?_|refine Ct rfl ?_|refine Cf rfl ?_|refine Bi rfl ?_|refine Bz rfl ?_|refine Lr ?_);conv=>whnf))
      refine ⟨n - 1, c, t + 1, ?_, by omega, by omega, by omega, h3', h4⟩
      rw [wrapI (by omega)]; rfl

/-! ### a place to meet -/
def betM (L L' : List Int) (x y : Int) : Prop := max (L.getD x.toNat 0) (L'.getD x.toNat 0) < max (L.getD y.toNat 0) (L'.getD y.toNat 0) ∨ (max (L.getD x.toNat 0) (L'.getD x.toNat 0) = max (L.getD y.toNat 0) (L'.getD y.toNat 0) ∧ L.getD x.toNat 0 + L'.getD x.toNat 0 < L.getD y.toNat 0 + L'.getD y.toNat 0)

instance (L L' : List Int) (x y : Int) : Decidable (betM L L' x y) := by unfold betM; infer_instance

theorem selN_mem {p : Int → Bool} {n : Nat} {x : Int} (h : x ∈ selN p n) : (0 ≤ x ∧ x < n) ∧ p x = true := by
  induction n with
  | zero => simp [selN] at h
  | succ n ih =>
    unfold selN at h
    split at h
    · rename_i g
      rcases List.mem_append.1 h with h | h
      · have := ih h; exact ⟨by omega, this.2⟩
      · simp at h; subst h; exact ⟨by omega, g⟩
    · have := ih h; exact ⟨by omega, this.2⟩

theorem selN_filter (p q : Int → Bool) (n : Nat) : (selN p n).filter q = selN (fun x => p x && q x) n := by
  induction n with
  | zero => rfl
  | succ n ih =>
    unfold selN
    by_cases h1 : p (n : Int) = true
    · rw [if_pos h1, List.filter_append, ih]
      by_cases h2 : q (n : Int) = true
      · rw [if_pos (by rw [h1, h2]; rfl)]; simp [h2]
      · rw [if_neg (by rw [h1]; simpa using h2)]; simp [h2]
    · rw [if_neg h1, if_neg (by simp [h1]), ih]

theorem selN_at {p : Int → Bool} {n : Nat} {x : Int} (h0 : 0 ≤ x) (h1 : x < n) (h : p x = true) : x ∈ selN p n := by
  induction n with
  | zero => omega
  | succ n ih =>
    unfold selN
    by_cases e : x = n
    · subst e; rw [if_pos h]; simp
    · have := ih (by omega)
      split
      · exact List.mem_append_left _ this
      · exact this

/-- a list that is sifted element by element -/
theorem filter_take (q : Int → Bool) (l : List Int) {t : Int} (h0 : 0 ≤ t) (h1 : t < l.length) : (l.take (t + 1).toNat).filter q = if q (l.getD t.toNat 0) = true then (l.take t.toNat).filter q ++ [l.getD t.toNat 0] else (l.take t.toNat).filter q := by
  rw [take_appI h0 h1, List.filter_append]
  split
  · rename_i h; rw [List.filter_cons, if_pos h]; rfl
  · rename_i h; rw [List.filter_cons, if_neg h]; simp

def dsM (m : Map) (i k : Int) : Int := dsH (i.tmod m.w) (i.tdiv m.w) (k.tmod m.w) (k.tdiv m.w)

def nearP (m : Map) (i far : Int) : Int → Bool := fun k => decide (dsM m i k ≤ far)

theorem F_mNear (b : Brd) (h : GB b) (i far : Int) (hi : 0 ≤ i ∧ i < b.m.ter.length) :
    Fun E0 105 [.agg b.m.cs, vI i, vI far] [] (.v (.one (.own 0 (selN (nearP b.m i far) b.m.ter.length).length))) [(0, rwI (selN (nearP b.m i far) b.m.ter.length))] [] := by
  have hm := h.wh.mul
  have hn := h.n
  refine Fun_of_xc k105 rfl rfl (nrC (rwI_no _) nrN) ?_
  ((conv=>whnf);repeat((first|refine Ct ‹_› ?_|refine Cf ‹_› ?_|refine Ct rfl ?_|refine Cf rfl ?_|refine Bi rfl ?_|refine Bz rfl ?_|refine Lr ?_);conv=>whnf))
  refine Rw_i (rwI []) (rwI_nil _) ?_
  ((conv=>whnf);repeat((first|refine Ct ‹_› ?_|refine Cf ‹_› ?_|refine Ct rfl ?_|refine Cf rfl ?_|refine Bi rfl ?_|refine Bz rfl ?_|refine Lr ?_);conv=>whnf))
  refine Rw_i (rwI []) (rwI_nil _) ?_
  ((conv=>whnf);repeat((first|refine Ct ‹_› ?_|refine Cf ‹_› ?_|refine Ct rfl ?_|refine Cf rfl ?_|refine Bi rfl ?_|refine Bz rfl ?_|refine Lr ?_);conv=>whnf))
  refine WLoop_v2 ⟨[1, 2, 3, 7, 8], [3], []⟩ (fun (t : Int) (out : List Int) => hdS 29 [(1, .v (vI i)), (2, .v (vI far)), (3, .v (.one (.box 3 0))), (7, .v (.one (.own (vkey 7) out.length))), (8, .v (vI t))] [(3, b.m.cs)] [(vkey 7, rwI out)])
    (fun n t out => 0 ≤ t ∧ t + n = b.m.ter.length ∧ out = selN (nearP b.m i far) t.toNat) b.m.ter.length 0 [] rfl ⟨by omega, by omega, rfl⟩ ?_
  rintro n t out ⟨h1, h2, h3⟩
  have hle := selN_le (nearP b.m i far) t.toNat
  rw [← h3] at hle
  have hnx : selN (nearP b.m i far) (t + 1).toNat = if nearP b.m i far t = true then out ++ [t] else out := by
    rw [show (t + 1).toNat = t.toNat + 1 by omega, selN, ← h3, show ((t.toNat : Nat) : Int) = t by omega]
  ((conv=>whnf);repeat((first|refine Ct ‹_› ?_|refine Cf ‹_› ?_|refine Ct rfl ?_|refine Cf rfl ?_|refine Bi rfl ?_|refine Bz rfl ?_|refine Lr ?_);conv=>whnf))
  (refine CallQ_some (F_mSizeB b h) ?_ ?_ ?_; rfl; rfl); ((conv=>whnf);repeat((first|refine Ct ‹_› ?_|refine Cf ‹_› ?_|refine Ct rfl ?_|refine Cf rfl ?_|refine Bi rfl ?_|refine Bz rfl ?_|refine Lr ?_);conv=>whnf))
  refine Cnd_i (fun g => ?_) (fun g => ?_)
  · have ht := of_decide_eq_true g
    ((conv=>whnf);repeat((first|refine Ct ‹_› ?_|refine Cf ‹_› ?_|refine Ct rfl ?_|refine Cf rfl ?_|refine Bi rfl ?_|refine Bz rfl ?_|refine Lr ?_);conv=>whnf))
    (refine CallQ_some (F_mHex b.m h.wh i hi.1 (by omega)) ?_ ?_ ?_; rfl; rfl); ((conv=>whnf);repeat((first|refine Ct ‹_› ?_|refine Cf ‹_› ?_|refine Ct rfl ?_|refine Cf rfl ?_|refine Bi rfl ?_|refine Bz rfl ?_|refine Lr ?_);conv=>whnf))
    (refine CallQ_some (F_mHex b.m h.wh t h1 (by omega)) ?_ ?_ ?_; rfl; rfl); ((conv=>whnf);repeat((first|refine Ct ‹_› ?_|refine Cf ‹_› ?_|refine Ct rfl ?_|refine Cf rfl ?_|refine Bi rfl ?_|refine Bz rfl ?_|refine Lr ?_);conv=>whnf))
    (refine CallQ_some (F_hDistance _ _ _ _ (hx_b h.wh hi.1 (by omega)) (hx_b h.wh h1 (by omega))) ?_ ?_ ?_; rfl; rfl); ((conv=>whnf);repeat((first|refine Ct ‹_› ?_|refine Cf ‹_› ?_|refine Ct rfl ?_|refine Cf rfl ?_|refine Bi rfl ?_|refine Bz rfl ?_|refine Lr ?_);conv=>whnf))
    refine Cnd_i (fun g2 => ?_) (fun g2 => ?_)
    · ((conv=>whnf);repeat((first|refine Ct ‹_› ?_|refine Cf ‹_› ?_|refine Ct rfl ?_|refine Cf rfl ?_|refine Bi rfl ?_|refine Bz rfl ?_|refine Lr ?_);conv=>whnf))
      refine Rw_self ?_
      ((conv=>whnf);repeat((first|refine Ct ‹_› ?_|refine Cf ‹_› ?_|refine Ct rfl ?_|refine Cf rfl ?_|refine Bi rfl ?_|refine Bz rfl ?_|refine Lr ?_);conv=>whnf))
      refine Bnd_i ?_ ?_
      · show out.length + 1 < _
        omega
      ((conv=>whnf);repeat((first|refine Ct ‹_› ?_|refine Cf ‹_› ?_|refine Ct rfl ?_|refine Cf rfl ?_|refine Bi rfl ?_|refine Bz rfl ?_|refine Lr ?_);conv=>whnf))
      refine Rw_i (rwI (out ++ [t])) (rwI_app _ _ _ rfl) ?_
      ((conv=>whnf);repeat((first|refine Ct ‹_› ?_|refine Cf ‹_› ?_|refine Ct rfl ?_|refine Cf rfl ?_|refine Bi rfl ?_|refine Bz rfl ?_|refine Lr ?_);conv=>whnf))
      rw [if_pos (show nearP b.m i far t = true from g2)] at hnx
      refine ⟨n - 1, t + 1, out ++ [t], ?_, by omega, by omega, by omega, hnx.symm⟩
      rw [wrapI (by omega)]; rfl
    · ((conv=>whnf);repeat((first|refine Ct ‹_› ?_|refine Cf ‹_› ?_|refine Ct rfl ?_|refine Cf rfl ?_|refine Bi rfl ?_|refine Bz rfl ?_|refine Lr ?_);conv=>whnf))
      rw [if_neg (by rw [show nearP b.m i far t = false from g2]; simp)] at hnx
      refine ⟨n - 1, t + 1, out, ?_, by omega, by omega, by omega, hnx.symm⟩
      rw [wrapI (by omega)]; rfl
  · have ht := of_decide_eq_false g
    ((conv=>whnf);repeat((first|refine Ct ‹_› ?_|refine Cf ‹_› ?_|refine Ct rfl ?_|refine Cf rfl ?_|refine Bi rfl ?_|refine Bz rfl ?_|refine Lr ?_);conv=>whnf))
    rw [h3, show t.toNat = b.m.ter.length by omega]
    exact ⟨rfl, rfl, rfl⟩

def seeP (b : Brd) (i far most : Int) : Int → Bool := fun k => nearP b.m i far k && decide (vCd b i k ≤ most)

def seeL (b : Brd) (i far most : Int) : List Int := selN (seeP b i far most) b.m.ter.length

theorem F_vSeen (b : Brd) (h : GB b) (i far most : Int) (hi : 0 ≤ i ∧ i < b.m.ter.length) :
    Fun E0 78 [.agg b.cs, vI i, vI far, vI most] [] (.v (.one (.own 0 (seeL b i far most).length))) [(0, rwI (seeL b i far most))] [] := by
  have hm := h.wh.mul
  have hn := h.n
  refine Fun_of_xc k78 rfl rfl (nrC (rwI_no _) nrN) ?_
  ((conv=>whnf);repeat((first|refine Ct ‹_› ?_|refine Cf ‹_› ?_|refine Ct rfl ?_|refine Cf rfl ?_|refine Bi rfl ?_|refine Bz rfl ?_|refine Lr ?_);conv=>whnf))
  refine Rw_i (rwI []) (rwI_nil _) ?_
  ((conv=>whnf);repeat((first|refine Ct ‹_› ?_|refine Cf ‹_› ?_|refine Ct rfl ?_|refine Cf rfl ?_|refine Bi rfl ?_|refine Bz rfl ?_|refine Lr ?_);conv=>whnf))
  refine Rw_i (rwI []) (rwI_nil _) ?_
  ((conv=>whnf);repeat((first|refine Ct ‹_› ?_|refine Cf ‹_› ?_|refine Ct rfl ?_|refine Cf rfl ?_|refine Bi rfl ?_|refine Bz rfl ?_|refine Lr ?_);conv=>whnf))
  (refine CallQ_some (F_mNear b h i far hi) ?_ ?_ ?_; rfl; rfl); ((conv=>whnf);repeat((first|refine Ct ‹_› ?_|refine Cf ‹_› ?_|refine Ct rfl ?_|refine Cf rfl ?_|refine Bi rfl ?_|refine Bz rfl ?_|refine Lr ?_);conv=>whnf))
  have hL : seeL b i far most = (selN (nearP b.m i far) b.m.ter.length).filter (fun k => decide (vCd b i k ≤ most)) := by rw [selN_filter]; rfl
  have hmem := fun x (hx : x ∈ selN (nearP b.m i far) b.m.ter.length) => (selN_mem hx).1
  have hlen := selN_le (nearP b.m i far) b.m.ter.length
  rw [hL]
  generalize selN (nearP b.m i far) b.m.ter.length = L at hmem hlen ⊢
  clear hL
  refine WLoop_v2 ⟨[1, 3, 4, 9, 16, 17, 18], [4], []⟩ (fun (t : Int) (out : List Int) => hdS 34 [(1, .v (vI i)), (3, .v (vI most)), (4, .v (.one (.box 4 0))), (9, .v (.one (.own (vkey 9) out.length))), (16, .v (.one (.own (vkey 16) L.length))), (17, .v (vI L.length)), (18, .v (vI t))] [(4, b.cs)] [(vkey 9, rwI out), (vkey 16, rwI L)])
    (fun n t out => 0 ≤ t ∧ t + n = L.length ∧ out = (L.take t.toNat).filter (fun k => decide (vCd b i k ≤ most))) L.length 0 [] rfl ⟨by omega, by omega, rfl⟩ ?_
  rintro n t out ⟨h1, h2, h3⟩
  have hol : out.length ≤ 100 := by
    have a1 := List.length_filter_le (fun k => decide (vCd b i k ≤ most)) (L.take t.toNat)
    rw [List.length_take] at a1
    rw [h3]; omega
  ((conv=>whnf);repeat((first|refine Ct ‹_› ?_|refine Cf ‹_› ?_|refine Ct rfl ?_|refine Cf rfl ?_|refine Bi rfl ?_|refine Bz rfl ?_|refine Lr ?_);conv=>whnf))
  refine Cnd_i (fun g => ?_) (fun g => ?_)
  · have ht := of_decide_eq_true g
    have hft := filter_take (fun k => decide (vCd b i k ≤ most)) L h1 ht
    rw [← h3] at hft
    ((conv=>whnf);repeat((first|refine Ct ‹_› ?_|refine Cf ‹_› ?_|refine Ct rfl ?_|refine Cf rfl ?_|refine Bi rfl ?_|refine Bz rfl ?_|refine Lr ?_);conv=>whnf))
    refine Bnd_i (⟨h1, ht⟩) ?_; ((conv=>whnf);repeat((first|refine Ct ‹_› ?_|refine Cf ‹_› ?_|refine Ct rfl ?_|refine Cf rfl ?_|refine Bi rfl ?_|refine Bz rfl ?_|refine Lr ?_);conv=>whnf))
    (refine CallQ_some (F_vCode b h i (L.getD t.toNat 0) hi (hmem _ (getD_mem h1 ht))) ?_ ?_ ?_; rfl; rfl); ((conv=>whnf);repeat((first|refine Ct ‹_› ?_|refine Cf ‹_› ?_|refine Ct rfl ?_|refine Cf rfl ?_|refine Bi rfl ?_|refine Bz rfl ?_|refine Lr ?_);conv=>whnf))
    refine Cnd_i (fun g2 => ?_) (fun g2 => ?_)
    · ((conv=>whnf);repeat((first|refine Ct ‹_› ?_|refine Cf ‹_› ?_|refine Ct rfl ?_|refine Cf rfl ?_|refine Bi rfl ?_|refine Bz rfl ?_|refine Lr ?_);conv=>whnf))
      refine Rw_self ?_
      ((conv=>whnf);repeat((first|refine Ct ‹_› ?_|refine Cf ‹_› ?_|refine Ct rfl ?_|refine Cf rfl ?_|refine Bi rfl ?_|refine Bz rfl ?_|refine Lr ?_);conv=>whnf))
      refine Bnd_i ?_ ?_
      · show out.length + 1 < _
        omega
      ((conv=>whnf);repeat((first|refine Ct ‹_› ?_|refine Cf ‹_› ?_|refine Ct rfl ?_|refine Cf rfl ?_|refine Bi rfl ?_|refine Bz rfl ?_|refine Lr ?_);conv=>whnf))
      refine Rw_i (rwI (out ++ [L.getD t.toNat 0])) (rwI_app _ _ _ rfl) ?_
      ((conv=>whnf);repeat((first|refine Ct ‹_› ?_|refine Cf ‹_› ?_|refine Ct rfl ?_|refine Cf rfl ?_|refine Bi rfl ?_|refine Bz rfl ?_|refine Lr ?_);conv=>whnf))
      rw [if_pos g2] at hft
      refine ⟨n - 1, t + 1, out ++ [L.getD t.toNat 0], ?_, by omega, by omega, by omega, hft.symm⟩
      rw [wrapI (by omega)]; rfl
    · ((conv=>whnf);repeat((first|refine Ct ‹_› ?_|refine Cf ‹_› ?_|refine Ct rfl ?_|refine Cf rfl ?_|refine Bi rfl ?_|refine Bz rfl ?_|refine Lr ?_);conv=>whnf))
      rw [if_neg (by rw [g2]; simp)] at hft
      refine ⟨n - 1, t + 1, out, ?_, by omega, by omega, by omega, hft.symm⟩
      rw [wrapI (by omega)]; rfl
  · have ht := of_decide_eq_false g
    ((conv=>whnf);repeat((first|refine Ct ‹_› ?_|refine Cf ‹_› ?_|refine Ct rfl ?_|refine Cf rfl ?_|refine Bi rfl ?_|refine Bz rfl ?_|refine Lr ?_);conv=>whnf))
    rw [h3, show t.toNat = L.length by omega, List.take_length]
    exact ⟨rfl, rfl, rfl⟩

theorem F_inSight (b : Brd) (h : GB b) (i far most : Int) (hi : 0 ≤ i ∧ i < b.m.ter.length) :
    Fun E0 81 [.agg b.cs, vI i, vI far, vI most] [] (.v (.one (.own 0 (seeL b i far most).length))) [(0, rwI (seeL b i far most))] [] := by
  have hm := h.wh.mul
  have hn := h.n
  refine Fun_of_xc k81 rfl rfl (nrC (rwI_no _) nrN) ?_
  ((conv=>whnf);repeat((first|refine Ct ‹_› ?_|refine Cf ‹_› ?_|refine Ct rfl ?_|refine Cf rfl ?_|refine Bi rfl ?_|refine Bz rfl ?_|refine Lr ?_);conv=>whnf))
  refine Rw_i (rwI []) (rwI_nil _) ?_
  ((conv=>whnf);repeat((first|refine Ct ‹_› ?_|refine Cf ‹_› ?_|refine Ct rfl ?_|refine Cf rfl ?_|refine Bi rfl ?_|refine Bz rfl ?_|refine Lr ?_);conv=>whnf))
  refine Rw_i (rwI []) (rwI_nil _) ?_
  ((conv=>whnf);repeat((first|refine Ct ‹_› ?_|refine Cf ‹_› ?_|refine Ct rfl ?_|refine Cf rfl ?_|refine Bi rfl ?_|refine Bz rfl ?_|refine Lr ?_);conv=>whnf))
  refine WLoop_v2 ⟨[1, 2, 3, 4, 9, 17, 18], [4], []⟩ (fun (t : Int) (out : List Int) => hdS 48 [(1, .v (vI i)), (2, .v (vI far)), (3, .v (vI most)), (4, .v (.one (.box 4 0))), (9, .v (.one (.own (vkey 9) out.length))), (17, .v (vI b.m.ter.length)), (18, .v (vI t))] [(4, b.cs)] [(vkey 9, rwI out)])
    (fun n t out => 0 ≤ t ∧ t + n = b.m.ter.length ∧ out = selN (seeP b i far most) t.toNat) b.m.ter.length 0 [] rfl ⟨by omega, by omega, rfl⟩ ?_
  rintro n t out ⟨h1, h2, h3⟩
  have hle := selN_le (seeP b i far most) t.toNat
  rw [← h3] at hle
  have hnx : selN (seeP b i far most) (t + 1).toNat = if seeP b i far most t = true then out ++ [t] else out := by
    rw [show (t + 1).toNat = t.toNat + 1 by omega, selN, ← h3, show ((t.toNat : Nat) : Int) = t by omega]
  ((conv=>whnf);repeat((first|refine Ct ‹_› ?_|refine Cf ‹_› ?_|refine Ct rfl ?_|refine Cf rfl ?_|refine Bi rfl ?_|refine Bz rfl ?_|refine Lr ?_);conv=>whnf))
  refine Cnd_i (fun g => ?_) (fun g => ?_)
  · have ht := of_decide_eq_true g
    ((conv=>whnf);repeat((first|refine Ct ‹_› ?_|refine Cf ‹_› ?_|refine Ct rfl ?_|refine Cf rfl ?_|refine Bi rfl ?_|refine Bz rfl ?_|refine Lr ?_);conv=>whnf))
    (refine CallQ_some (F_hexOf b.m h.wh i hi.1 (by omega)) ?_ ?_ ?_; rfl; rfl); ((conv=>whnf);repeat((first|refine Ct ‹_› ?_|refine Cf ‹_› ?_|refine Ct rfl ?_|refine Cf rfl ?_|refine Bi rfl ?_|refine Bz rfl ?_|refine Lr ?_);conv=>whnf))
    (refine CallQ_some (F_hexOf b.m h.wh t h1 (by omega)) ?_ ?_ ?_; rfl; rfl); ((conv=>whnf);repeat((first|refine Ct ‹_› ?_|refine Cf ‹_› ?_|refine Ct rfl ?_|refine Cf rfl ?_|refine Bi rfl ?_|refine Bz rfl ?_|refine Lr ?_);conv=>whnf))
    (refine CallQ_some (F_distance _ _ _ _ (hx_b h.wh hi.1 (by omega)) (hx_b h.wh h1 (by omega))) ?_ ?_ ?_; rfl; rfl); ((conv=>whnf);repeat((first|refine Ct ‹_› ?_|refine Cf ‹_› ?_|refine Ct rfl ?_|refine Cf rfl ?_|refine Bi rfl ?_|refine Bz rfl ?_|refine Lr ?_);conv=>whnf))
    refine Cnd_i (fun g2 => ?_) (fun g2 => ?_)
    · have d2 : nearP b.m i far t = false := by
        have := of_decide_eq_true g2
        exact decide_eq_false (by show ¬ dsM b.m i t ≤ far; unfold dsM; omega)
      ((conv=>whnf);repeat((first|refine Ct ‹_› ?_|refine Cf ‹_› ?_|refine Ct rfl ?_|refine Cf rfl ?_|refine Bi rfl ?_|refine Bz rfl ?_|refine Lr ?_);conv=>whnf))
      rw [if_neg (by rw [seeP, d2]; simp)] at hnx
      refine ⟨n - 1, t + 1, out, ?_, by omega, by omega, by omega, hnx.symm⟩
      rw [wrapI (by omega)]; rfl
    have d2 : nearP b.m i far t = true := by
      have := of_decide_eq_false g2
      exact decide_eq_true (by show dsM b.m i t ≤ far; unfold dsM; omega)
    ((conv=>whnf);repeat((first|refine Ct ‹_› ?_|refine Cf ‹_› ?_|refine Ct rfl ?_|refine Cf rfl ?_|refine Bi rfl ?_|refine Bz rfl ?_|refine Lr ?_);conv=>whnf))
    (refine CallQ_some (F_sightOf b h i t hi ⟨h1, ht⟩) ?_ ?_ ?_; rfl; rfl); ((conv=>whnf);repeat((first|refine Ct ‹_› ?_|refine Cf ‹_› ?_|refine Ct rfl ?_|refine Cf rfl ?_|refine Bi rfl ?_|refine Bz rfl ?_|refine Lr ?_);conv=>whnf))
    refine Cnd_i (fun g3 => ?_) (fun g3 => ?_)
    · ((conv=>whnf);repeat((first|refine Ct ‹_› ?_|refine Cf ‹_› ?_|refine Ct rfl ?_|refine Cf rfl ?_|refine Bi rfl ?_|refine Bz rfl ?_|refine Lr ?_);conv=>whnf))
      refine Rw_self ?_
      ((conv=>whnf);repeat((first|refine Ct ‹_› ?_|refine Cf ‹_› ?_|refine Ct rfl ?_|refine Cf rfl ?_|refine Bi rfl ?_|refine Bz rfl ?_|refine Lr ?_);conv=>whnf))
      refine Bnd_i ?_ ?_
      · show out.length + 1 < _
        omega
      ((conv=>whnf);repeat((first|refine Ct ‹_› ?_|refine Cf ‹_› ?_|refine Ct rfl ?_|refine Cf rfl ?_|refine Bi rfl ?_|refine Bz rfl ?_|refine Lr ?_);conv=>whnf))
      refine Rw_i (rwI (out ++ [t])) (rwI_app _ _ _ rfl) ?_
      ((conv=>whnf);repeat((first|refine Ct ‹_› ?_|refine Cf ‹_› ?_|refine Ct rfl ?_|refine Cf rfl ?_|refine Bi rfl ?_|refine Bz rfl ?_|refine Lr ?_);conv=>whnf))
      rw [if_pos (by rw [seeP, d2, g3]; rfl)] at hnx
      refine ⟨n - 1, t + 1, out ++ [t], ?_, by omega, by omega, by omega, hnx.symm⟩
      rw [wrapI (by omega)]; rfl
    · ((conv=>whnf);repeat((first|refine Ct ‹_› ?_|refine Cf ‹_› ?_|refine Ct rfl ?_|refine Cf rfl ?_|refine Bi rfl ?_|refine Bz rfl ?_|refine Lr ?_);conv=>whnf))
      rw [if_neg (by rw [seeP, d2, g3]; simp)] at hnx
      refine ⟨n - 1, t + 1, out, ?_, by omega, by omega, by omega, hnx.symm⟩
      rw [wrapI (by omega)]; rfl
  · have ht := of_decide_eq_false g
    ((conv=>whnf);repeat((first|refine Ct ‹_› ?_|refine Cf ‹_› ?_|refine Ct rfl ?_|refine Cf rfl ?_|refine Bi rfl ?_|refine Bz rfl ?_|refine Lr ?_);conv=>whnf))
    rw [h3, show t.toNat = b.m.ter.length by omega]
    exact ⟨rfl, rfl, rfl⟩

def vwL (b : Brd) (k i : Int) : List Int := seeL b i (b.r.knd.getD k.toNat Knd.d).view 1

theorem F_vBy (b : Brd) (h : GB b) (k i : Int) (hk : 0 ≤ k ∧ k < b.r.knd.length) (hi : 0 ≤ i ∧ i < b.m.ter.length) :
    Fun E0 44 [.agg b.cs, vI k, vI i] [] (.v (.one (.own 0 (vwL b k i).length))) [(0, rwI (vwL b k i))] [] := by
  refine Fun_of_xc k44 rfl rfl (nrC (rwI_no _) nrN) ?_
  ((conv=>whnf);repeat((first|refine Ct ‹_› ?_|refine Cf ‹_› ?_|refine Ct rfl ?_|refine Cf rfl ?_|refine Bi rfl ?_|refine Bz rfl ?_|refine Lr ?_);conv=>whnf))
  refine Rw_i (rwI []) (rwI_nil _) ?_
  ((conv=>whnf);repeat((first|refine Ct ‹_› ?_|refine Cf ‹_› ?_|refine Ct rfl ?_|refine Cf rfl ?_|refine Bi rfl ?_|refine Bz rfl ?_|refine Lr ?_);conv=>whnf))
  refine Bnd_i (⟨hk.1, hk.2⟩) ?_; ((conv=>whnf);repeat((first|refine Ct ‹_› ?_|refine Cf ‹_› ?_|refine Ct rfl ?_|refine Cf rfl ?_|refine Bi rfl ?_|refine Bz rfl ?_|refine Lr ?_);conv=>whnf))
  (refine CallQ_some (F_vSeen b h i _ 1 hi) ?_ ?_ ?_; rfl; rfl); ((conv=>whnf);repeat((first|refine Ct ‹_› ?_|refine Cf ‹_› ?_|refine Ct rfl ?_|refine Cf rfl ?_|refine Bi rfl ?_|refine Bz rfl ?_|refine Lr ?_);conv=>whnf))
  exact ⟨rfl, rfl, rfl⟩

theorem F_seenBy (b : Brd) (h : GB b) (k i : Int) (hk : 0 ≤ k ∧ k < b.r.knd.length) (hi : 0 ≤ i ∧ i < b.m.ter.length) :
    Fun E0 47 [.agg b.cs, vI k, vI i] [] (.v (.one (.own 0 (vwL b k i).length))) [(0, rwI (vwL b k i))] [] := by
  refine Fun_of_xc k47 rfl rfl (nrC (rwI_no _) nrN) ?_
  ((conv=>whnf);repeat((first|refine Ct ‹_› ?_|refine Cf ‹_› ?_|refine Ct rfl ?_|refine Cf rfl ?_|refine Bi rfl ?_|refine Bz rfl ?_|refine Lr ?_);conv=>whnf))
  refine Rw_i (rwI []) (rwI_nil _) ?_
  ((conv=>whnf);repeat((first|refine Ct ‹_› ?_|refine Cf ‹_› ?_|refine Ct rfl ?_|refine Cf rfl ?_|refine Bi rfl ?_|refine Bz rfl ?_|refine Lr ?_);conv=>whnf))
  refine Bnd_i (⟨hk.1, hk.2⟩) ?_; ((conv=>whnf);repeat((first|refine Ct ‹_› ?_|refine Cf ‹_› ?_|refine Ct rfl ?_|refine Cf rfl ?_|refine Bi rfl ?_|refine Bz rfl ?_|refine Lr ?_);conv=>whnf))
  (refine CallQ_some (F_inSight b h i _ 1 hi) ?_ ?_ ?_; rfl; rfl); ((conv=>whnf);repeat((first|refine Ct ‹_› ?_|refine Cf ‹_› ?_|refine Ct rfl ?_|refine Cf rfl ?_|refine Bi rfl ?_|refine Bz rfl ?_|refine Lr ?_);conv=>whnf))
  exact ⟨rfl, rfl, rfl⟩

def opP (b : Brd) (k : Int) : Int → Bool := fun i => decide (costAt b k i > 0)

def opL (b : Brd) (k : Int) : List Int := selN (opP b k) b.m.ter.length

theorem opL_mem {b : Brd} {k x : Int} (h : x ∈ opL b k) : 0 ≤ x ∧ x < b.m.ter.length := (selN_mem h).1

theorem opL_le {b : Brd} (h : GB b) (k : Int) : (opL b k).length ≤ 100 := by
  have := selN_le (opP b k) b.m.ter.length
  have := h.n
  have := h.wh.mul
  unfold opL
  omega

theorem F_bOpen (b : Brd) (h : GB b) (k : Int) (hk : 0 ≤ k ∧ k < b.r.knd.length) :
    Fun E0 43 [.agg b.cs, vI k] [] (.v (.one (.own 0 (opL b k).length))) [(0, rwI (opL b k))] [] := by
  have hm := h.wh.mul
  have hn := h.n
  refine Fun_of_xc k43 rfl rfl (nrC (rwI_no _) nrN) ?_
  ((conv=>whnf);repeat((first|refine Ct ‹_› ?_|refine Cf ‹_› ?_|refine Ct rfl ?_|refine Cf rfl ?_|refine Bi rfl ?_|refine Bz rfl ?_|refine Lr ?_);conv=>whnf))
  refine Rw_i (rwI []) (rwI_nil _) ?_
  ((conv=>whnf);repeat((first|refine Ct ‹_› ?_|refine Cf ‹_› ?_|refine Ct rfl ?_|refine Cf rfl ?_|refine Bi rfl ?_|refine Bz rfl ?_|refine Lr ?_);conv=>whnf))
  refine Rw_i (rwI []) (rwI_nil _) ?_
  ((conv=>whnf);repeat((first|refine Ct ‹_› ?_|refine Cf ‹_› ?_|refine Ct rfl ?_|refine Cf rfl ?_|refine Bi rfl ?_|refine Bz rfl ?_|refine Lr ?_);conv=>whnf))
  refine WLoop_v2 ⟨[1, 2, 5, 10, 11], [2], []⟩ (fun (t : Int) (out : List Int) => hdS 25 [(1, .v (vI k)), (2, .v (.one (.box 2 0))), (5, .v (.one (.own (vkey 5) out.length))), (10, .v (vI b.m.ter.length)), (11, .v (vI t))] [(2, b.cs)] [(vkey 5, rwI out)])
    (fun n t out => 0 ≤ t ∧ t + n = b.m.ter.length ∧ out = selN (opP b k) t.toNat) b.m.ter.length 0 [] rfl ⟨by omega, by omega, rfl⟩ ?_
  rintro n t out ⟨h1, h2, h3⟩
  have hle := selN_le (opP b k) t.toNat
  rw [← h3] at hle
  have hnx : selN (opP b k) (t + 1).toNat = if opP b k t = true then out ++ [t] else out := by
    rw [show (t + 1).toNat = t.toNat + 1 by omega, selN, ← h3, show ((t.toNat : Nat) : Int) = t by omega]
  ((conv=>whnf);repeat((first|refine Ct ‹_› ?_|refine Cf ‹_› ?_|refine Ct rfl ?_|refine Cf rfl ?_|refine Bi rfl ?_|refine Bz rfl ?_|refine Lr ?_);conv=>whnf))
  refine Cnd_i (fun g => ?_) (fun g => ?_)
  · have ht := of_decide_eq_true g
    have hc := h.cost (k := k) (i := t) h1 ht hk.1 hk.2
    ((conv=>whnf);repeat((first|refine Ct ‹_› ?_|refine Cf ‹_› ?_|refine Ct rfl ?_|refine Cf rfl ?_|refine Bi rfl ?_|refine Bz rfl ?_|refine Lr ?_);conv=>whnf))
    (refine CallQ_some (F_bCost b h k t h1 ht hk.1 hk.2) ?_ ?_ ?_; rfl; rfl); ((conv=>whnf);repeat((first|refine Ct ‹_› ?_|refine Cf ‹_› ?_|refine Ct rfl ?_|refine Cf rfl ?_|refine Bi rfl ?_|refine Bz rfl ?_|refine Lr ?_);conv=>whnf))
    refine Cnd_i (fun g2 => ?_) (fun g2 => ?_)
    · have d2 : opP b k t = true := g2
      ((conv=>whnf);repeat((first|refine Ct ‹_› ?_|refine Cf ‹_› ?_|refine Ct rfl ?_|refine Cf rfl ?_|refine Bi rfl ?_|refine Bz rfl ?_|refine Lr ?_);conv=>whnf))
      refine Rw_self ?_
      ((conv=>whnf);repeat((first|refine Ct ‹_› ?_|refine Cf ‹_› ?_|refine Ct rfl ?_|refine Cf rfl ?_|refine Bi rfl ?_|refine Bz rfl ?_|refine Lr ?_);conv=>whnf))
      refine Bnd_i ?_ ?_
      · show out.length + 1 < _
        omega
      ((conv=>whnf);repeat((first|refine Ct ‹_› ?_|refine Cf ‹_› ?_|refine Ct rfl ?_|refine Cf rfl ?_|refine Bi rfl ?_|refine Bz rfl ?_|refine Lr ?_);conv=>whnf))
      refine Rw_i (rwI (out ++ [t])) (rwI_app _ _ _ rfl) ?_
      ((conv=>whnf);repeat((first|refine Ct ‹_› ?_|refine Cf ‹_› ?_|refine Ct rfl ?_|refine Cf rfl ?_|refine Bi rfl ?_|refine Bz rfl ?_|refine Lr ?_);conv=>whnf))
      rw [if_pos d2] at hnx
      refine ⟨n - 1, t + 1, out ++ [t], ?_, by omega, by omega, by omega, hnx.symm⟩
      rw [wrapI (by omega)]; rfl
    · have d2 : opP b k t = false := g2
      ((conv=>whnf);repeat((first|refine Ct ‹_› ?_|refine Cf ‹_› ?_|refine Ct rfl ?_|refine Cf rfl ?_|refine Bi rfl ?_|refine Bz rfl ?_|refine Lr ?_);conv=>whnf))
      rw [if_neg (by rw [d2]; simp)] at hnx
      refine ⟨n - 1, t + 1, out, ?_, by omega, by omega, by omega, hnx.symm⟩
      rw [wrapI (by omega)]; rfl
  · have ht := of_decide_eq_false g
    ((conv=>whnf);repeat((first|refine Ct ‹_› ?_|refine Cf ‹_› ?_|refine Ct rfl ?_|refine Cf rfl ?_|refine Bi rfl ?_|refine Bz rfl ?_|refine Lr ?_);conv=>whnf))
    rw [h3, show t.toNat = b.m.ter.length by omega]
    exact ⟨rfl, rfl, rfl⟩

theorem F_openHexes (b : Brd) (h : GB b) (k : Int) (hk : 0 ≤ k ∧ k < b.r.knd.length) :
    Fun E0 46 [.agg b.cs, vI k] [] (.v (.one (.own 0 (opL b k).length))) [(0, rwI (opL b k))] [] := by
  have hm := h.wh.mul
  have hn := h.n
  refine Fun_of_xc k46 rfl rfl (nrC (rwI_no _) nrN) ?_
  ((conv=>whnf);repeat((first|refine Ct ‹_› ?_|refine Cf ‹_› ?_|refine Ct rfl ?_|refine Cf rfl ?_|refine Bi rfl ?_|refine Bz rfl ?_|refine Lr ?_);conv=>whnf))
  refine Rw_i (rwI []) (rwI_nil _) ?_
  ((conv=>whnf);repeat((first|refine Ct ‹_› ?_|refine Cf ‹_› ?_|refine Ct rfl ?_|refine Cf rfl ?_|refine Bi rfl ?_|refine Bz rfl ?_|refine Lr ?_);conv=>whnf))
  refine Rw_i (rwI []) (rwI_nil _) ?_
  ((conv=>whnf);repeat((first|refine Ct ‹_› ?_|refine Cf ‹_› ?_|refine Ct rfl ?_|refine Cf rfl ?_|refine Bi rfl ?_|refine Bz rfl ?_|refine Lr ?_);conv=>whnf))
  refine WLoop_v2 ⟨[1, 2, 5, 11, 12], [2], []⟩ (fun (t : Int) (out : List Int) => hdS 26 [(1, .v (vI k)), (2, .v (.one (.box 2 0))), (5, .v (.one (.own (vkey 5) out.length))), (11, .v (vI b.m.ter.length)), (12, .v (vI t))] [(2, b.cs)] [(vkey 5, rwI out)])
    (fun n t out => 0 ≤ t ∧ t + n = b.m.ter.length ∧ out = selN (opP b k) t.toNat) b.m.ter.length 0 [] rfl ⟨by omega, by omega, rfl⟩ ?_
  rintro n t out ⟨h1, h2, h3⟩
  have hle := selN_le (opP b k) t.toNat
  rw [← h3] at hle
  have hnx : selN (opP b k) (t + 1).toNat = if opP b k t = true then out ++ [t] else out := by
    rw [show (t + 1).toNat = t.toNat + 1 by omega, selN, ← h3, show ((t.toNat : Nat) : Int) = t by omega]
  ((conv=>whnf);repeat((first|refine Ct ‹_› ?_|refine Cf ‹_› ?_|refine Ct rfl ?_|refine Cf rfl ?_|refine Bi rfl ?_|refine Bz rfl ?_|refine Lr ?_);conv=>whnf))
  refine Cnd_i (fun g => ?_) (fun g => ?_)
  · have ht := of_decide_eq_true g
    have hc := h.cost (k := k) (i := t) h1 ht hk.1 hk.2
    ((conv=>whnf);repeat((first|refine Ct ‹_› ?_|refine Cf ‹_› ?_|refine Ct rfl ?_|refine Cf rfl ?_|refine Bi rfl ?_|refine Bz rfl ?_|refine Lr ?_);conv=>whnf))
    (refine CallQ_some (F_enterCost b h k t h1 ht hk.1 hk.2) ?_ ?_ ?_; rfl; rfl); ((conv=>whnf);repeat((first|refine Ct ‹_› ?_|refine Cf ‹_› ?_|refine Ct rfl ?_|refine Cf rfl ?_|refine Bi rfl ?_|refine Bz rfl ?_|refine Lr ?_);conv=>whnf))
    refine Cnd_i (fun g2 => ?_) (fun g2 => ?_)
    · have d2 : opP b k t = true := decide_eq_true (by have : ¬ costAt b k t = 0 := (by simpa using g2); omega)
      ((conv=>whnf);repeat((first|refine Ct ‹_› ?_|refine Cf ‹_› ?_|refine Ct rfl ?_|refine Cf rfl ?_|refine Bi rfl ?_|refine Bz rfl ?_|refine Lr ?_);conv=>whnf))
      refine Rw_self ?_
      ((conv=>whnf);repeat((first|refine Ct ‹_› ?_|refine Cf ‹_› ?_|refine Ct rfl ?_|refine Cf rfl ?_|refine Bi rfl ?_|refine Bz rfl ?_|refine Lr ?_);conv=>whnf))
      refine Bnd_i ?_ ?_
      · show out.length + 1 < _
        omega
      ((conv=>whnf);repeat((first|refine Ct ‹_› ?_|refine Cf ‹_› ?_|refine Ct rfl ?_|refine Cf rfl ?_|refine Bi rfl ?_|refine Bz rfl ?_|refine Lr ?_);conv=>whnf))
      refine Rw_i (rwI (out ++ [t])) (rwI_app _ _ _ rfl) ?_
      ((conv=>whnf);repeat((first|refine Ct ‹_› ?_|refine Cf ‹_› ?_|refine Ct rfl ?_|refine Cf rfl ?_|refine Bi rfl ?_|refine Bz rfl ?_|refine Lr ?_);conv=>whnf))
      rw [if_pos d2] at hnx
      refine ⟨n - 1, t + 1, out ++ [t], ?_, by omega, by omega, by omega, hnx.symm⟩
      rw [wrapI (by omega)]; rfl
    · have d2 : opP b k t = false := decide_eq_false (by have : costAt b k t = 0 := (by simpa using g2); omega)
      ((conv=>whnf);repeat((first|refine Ct ‹_› ?_|refine Cf ‹_› ?_|refine Ct rfl ?_|refine Cf rfl ?_|refine Bi rfl ?_|refine Bz rfl ?_|refine Lr ?_);conv=>whnf))
      rw [if_neg (by rw [d2]; simp)] at hnx
      refine ⟨n - 1, t + 1, out, ?_, by omega, by omega, by omega, hnx.symm⟩
      rw [wrapI (by omega)]; rfl
  · have ht := of_decide_eq_false g
    ((conv=>whnf);repeat((first|refine Ct ‹_› ?_|refine Cf ‹_› ?_|refine Ct rfl ?_|refine Cf rfl ?_|refine Bi rfl ?_|refine Bz rfl ?_|refine Lr ?_);conv=>whnf))
    rw [h3, show t.toNat = b.m.ter.length by omega]
    exact ⟨rfl, rfl, rfl⟩

def okKi (b : Brd) (k i : Int) : Bool := okBrd b && In k 0 (b.r.knd.length - 1) && In i 0 (b.m.w * b.m.h - 1)

structure KiOk (b : Brd) (k i : Int) : Prop where
  gb : GB b
  k : 0 ≤ k ∧ k < b.r.knd.length
  i : 0 ≤ i ∧ i < b.m.ter.length

theorem KiOk.of {b : Brd} (ho : b.Ok) {k i : Int} (h : okKi b k i = true) : KiOk b k i := by
  simp only [okKi, Bool.and_eq_true] at h
  have g := GB.of ho h.1.1
  have a2 := of_decide_eq_true h.1.2
  have a3 := of_decide_eq_true h.2
  have := g.n
  exact ⟨g, by omega, by omega⟩

/-- the first that is more, among the first n -/
def blN (f : Int → Int) (O : List Int) (m0 : Int) : Nat → Int × Int
  | 0 => (0, m0)
  | n + 1 => if f (O.getD n 0) > (blN f O m0 n).2 then (O.getD n 0, f (O.getD n 0)) else blN f O m0 n

theorem blN_succ (f : Int → Int) (O : List Int) (m0 : Int) {t : Int} (h0 : 0 ≤ t) : blN f O m0 (t + 1).toNat = if f (O.getD t.toNat 0) > (blN f O m0 t.toNat).2 then (O.getD t.toNat 0, f (O.getD t.toNat 0)) else blN f O m0 t.toNat := by
  rw [show (t + 1).toNat = t.toNat + 1 by omega, blN]

theorem blN_eq (f : Int → Int) (O : List Int) (hf : ∀ x ∈ O, 1 ≤ f x) (n : Nat) (hn : n + 1 ≤ O.length) : blN f O (-1) (n + 1) = blN f O 0 (n + 1) := by
  induction n with
  | zero =>
    have h1 : 1 ≤ f (O.getD 0 0) := hf _ (getD_mem (l := O) (i := 0) (by omega) (by omega))
    unfold blN
    rw [if_pos (by show f (O.getD 0 0) > -1; omega), if_pos (by show f (O.getD 0 0) > 0; omega)]
  | succ n ih =>
    unfold blN
    rw [ih (by omega)]

theorem blN_pos (f : Int → Int) (O : List Int) (hf : ∀ x ∈ O, 1 ≤ f x) (n : Nat) (hn : n + 1 ≤ O.length) : 1 ≤ (blN f O 0 (n + 1)).2 := by
  induction n with
  | zero =>
    have h1 : 1 ≤ f (O.getD 0 0) := hf _ (getD_mem (l := O) (i := 0) (by omega) (by omega))
    unfold blN
    rw [if_pos (by show f (O.getD 0 0) > 0; omega)]; exact h1
  | succ n ih =>
    have := ih (by omega)
    unfold blN
    split
    · rename_i g; show 1 ≤ f _; omega
    · exact this

theorem dsM_self (m : Map) (i : Int) : dsM m i i = 0 := by unfold dsM dsH; simp

theorem see_self {b : Brd} {i far : Int} (hi : 0 ≤ i ∧ i < b.m.ter.length) (hf : 0 ≤ far) : 1 ≤ (seeL b i far 1).length := by
  have : i ∈ seeL b i far 1 := by
    refine selN_at hi.1 hi.2 ?_
    have e1 : nearP b.m i far i = true := decide_eq_true (by rw [dsM_self]; exact hf)
    have e2 : vCd b i i = 0 := by
      have : ceL b.m i i = [] := by
        have : (lnM b.m i i).length = 1 := by
          unfold lnM lnL
          rw [if_pos (show dsH _ _ _ _ = 0 from dsM_self b.m i)]; rfl
        unfold ceL
        rw [this]; rfl
      unfold vCd vFc
      rw [this]; rfl
    show (nearP b.m i far i && decide (vCd b i i ≤ 1)) = true
    rw [e1, e2]; rfl
  exact List.length_pos_of_mem this

theorem GB.view {b : Brd} (h : GB b) {k : Int} (hk : 0 ≤ k ∧ k < b.r.knd.length) : 0 ≤ (b.r.knd.getD k.toNat Knd.d).view := by
  have hk' := h.knd _ (getD_memT (d := Knd.d) hk.1 hk.2)
  simp only [okKnd, Bool.and_eq_true] at hk'
  exact (of_decide_eq_true hk'.2).1

def okKd (b : Brd) (k : Int) : Bool := okBrd b && In k 0 (b.r.knd.length - 1)

theorem bAtk_eq {b : Brd} (ho : b.Ok) (k : Int) : (okBrd b && In k 0 (b.r.knd.length - 1) && In 0 0 (b.m.w * b.m.h - 1)) = okKd b k := by
  unfold okKd
  cases e : okBrd b && In k 0 (b.r.knd.length - 1) with
  | false => rfl
  | true =>
    simp only [Bool.and_eq_true] at e
    have := (GB.of ho e.1).wh.mul
    rw [Bool.true_and]
    exact decide_eq_true (by omega)

theorem F_bAtk (b : Brd) (ho : b.Ok) (k : Int) : Fun E0 42 [.agg b.cs, vI k, vI 0] [] (.v (vB (okKd b k))) [] [] := bAtk_eq ho k ▸ F_bAt b ho k 0

structure KdOk (b : Brd) (k : Int) : Prop where
  gb : GB b
  k : 0 ≤ k ∧ k < b.r.knd.length

theorem KdOk.of {b : Brd} (ho : b.Ok) {k : Int} (h : okKd b k = true) : KdOk b k := by
  simp only [okKd, Bool.and_eq_true] at h
  have a2 := of_decide_eq_true h.2
  exact ⟨GB.of ho h.1, by omega⟩

def vwN (b : Brd) (k : Int) : Int → Int := fun i => (vwL b k i).length

def blkR' (b : Brd) (k : Int) : Int × Int × Bool := if okKd b k = true then if (opL b k).length = 0 then (0, 0, false) else ((blN (vwN b k) (opL b k) 0 (opL b k).length).1, (blN (vwN b k) (opL b k) 0 (opL b k).length).2, true) else (0, 0, false)

theorem F_BestLookout (b : Brd) (ho : b.Ok) (k : Int) : Fun E0 20 [.agg b.cs, vI k] [] (.tup [vI (blkR' b k).1, vI (blkR' b k).2.1, vB (blkR' b k).2.2]) [] [] := by
  refine Fun_of_xc k20 rfl rfl (fun k q h => by cases h) ?_
  ((conv=>whnf);repeat((first|refine Ct ‹_› ?_|refine Cf ‹_› ?_|refine Ct rfl ?_|refine Cf rfl ?_|refine Bi rfl ?_|refine Bz rfl ?_|refine Lr ?_);conv=>whnf))
  (refine CallQ_some (F_bAtk b ho k) ?_ ?_ ?_; rfl; rfl); ((conv=>whnf);repeat((first|refine Ct ‹_› ?_|refine Cf ‹_› ?_|refine Ct rfl ?_|refine Cf rfl ?_|refine Bi rfl ?_|refine Bz rfl ?_|refine Lr ?_);conv=>whnf))
  refine Cnd_i (fun g => ?_) (fun g => ?_)
  · have e0 : okKd b k = false := by simpa using g
    ((conv=>whnf);repeat((first|refine Ct ‹_› ?_|refine Cf ‹_› ?_|refine Ct rfl ?_|refine Cf rfl ?_|refine Bi rfl ?_|refine Bz rfl ?_|refine Lr ?_);conv=>whnf))
    rw [blkR', e0]
    exact ⟨rfl, rfl, rfl⟩
  have e0 : okKd b k = true := by simpa using g
  have p := KdOk.of ho e0
  have hpos : ∀ x ∈ opL b k, 1 ≤ vwN b k x := fun x hx => by have := see_self (opL_mem hx) (p.gb.view p.k); show (1 : Int) ≤ ((seeL b x (b.r.knd.getD k.toNat Knd.d).view 1).length : Int); omega
  have hmem := fun x (hx : x ∈ opL b k) => opL_mem hx
  have hle := opL_le p.gb k
  ((conv=>whnf);repeat((first|refine Ct ‹_› ?_|refine Cf ‹_› ?_|refine Ct rfl ?_|refine Cf rfl ?_|refine Bi rfl ?_|refine Bz rfl ?_|refine Lr ?_);conv=>whnf))
  (refine CallQ_some (F_bOpen b p.gb k p.k) ?_ ?_ ?_; rfl; rfl); ((conv=>whnf);repeat((first|refine Ct ‹_› ?_|refine Cf ‹_› ?_|refine Ct rfl ?_|refine Cf rfl ?_|refine Bi rfl ?_|refine Bz rfl ?_|refine Lr ?_);conv=>whnf))
  refine Cnd_i (fun g => ?_) (fun g => ?_)
  · have g : (opL b k).length = 0 := by have : ((opL b k).length : Int) = 0 := (by simpa using g); omega
    ((conv=>whnf);repeat((first|refine Ct ‹_› ?_|refine Cf ‹_› ?_|refine Ct rfl ?_|refine Cf rfl ?_|refine Bi rfl ?_|refine Bz rfl ?_|refine Lr ?_);conv=>whnf))
    rw [blkR', e0, if_pos rfl, if_pos g]
    exact ⟨rfl, rfl, rfl⟩
  have g : ¬ (opL b k).length = 0 := by have : ¬ ((opL b k).length : Int) = 0 := (by simpa using g); omega
  have hR : blkR' b k = ((blN (vwN b k) (opL b k) (-1) (opL b k).length).1, (blN (vwN b k) (opL b k) (-1) (opL b k).length).2, true) := by
    rw [blkR', e0, if_pos rfl, if_neg g]
    obtain ⟨n, hn⟩ : ∃ n, (opL b k).length = n + 1 := ⟨(opL b k).length - 1, by omega⟩
    rw [hn, blN_eq _ _ hpos n (by omega)]
  rw [hR]
  clear hR
  ((conv=>whnf);repeat((first|refine Ct ‹_› ?_|refine Cf ‹_› ?_|refine Ct rfl ?_|refine Cf rfl ?_|refine Bi rfl ?_|refine Bz rfl ?_|refine Lr ?_);conv=>whnf))
  (refine CallQ_some (F_bOpen b p.gb k p.k) ?_ ?_ ?_; rfl; rfl); ((conv=>whnf);repeat((first|refine Ct ‹_› ?_|refine Cf ‹_› ?_|refine Ct rfl ?_|refine Cf rfl ?_|refine Bi rfl ?_|refine Bz rfl ?_|refine Lr ?_);conv=>whnf))
  generalize opL b k = O at hmem hle hpos ⊢
  refine WLoop_v3 ⟨[1, 2, 7, 8, 25, 26, 27], [2], []⟩ (fun (y z t : Int) => hdS 44 [(1, .v (vI k)), (2, .v (.one (.box 2 0))), (7, .v (vI y)), (8, .v (vI z)), (25, .v (.one (.own (vkey 25) O.length))), (26, .v (vI O.length)), (27, .v (vI t))] [(2, b.cs)] [(vkey 25, rwI O)])
    (fun n y z t => 0 ≤ t ∧ t + n = O.length ∧ (y, z) = blN (vwN b k) O (-1) t.toNat) O.length 0 (-1) 0 rfl ⟨by omega, by omega, rfl⟩ ?_
  rintro n y z t ⟨h1, h2, h3⟩
  have hs := blN_succ (vwN b k) O (-1) h1
  rw [← h3] at hs
  ((conv=>whnf);repeat((first|refine Ct ‹_› ?_|refine Cf ‹_› ?_|refine Ct rfl ?_|refine Cf rfl ?_|refine Bi rfl ?_|refine Bz rfl ?_|refine Lr ?_);conv=>whnf))
  refine Cnd_i (fun g => ?_) (fun g => ?_)
  · have ht := of_decide_eq_true g
    ((conv=>whnf);repeat((first|refine Ct ‹_› ?_|refine Cf ‹_› ?_|refine Ct rfl ?_|refine Cf rfl ?_|refine Bi rfl ?_|refine Bz rfl ?_|refine Lr ?_);conv=>whnf))
    refine Bnd_i (⟨h1, ht⟩) ?_; ((conv=>whnf);repeat((first|refine Ct ‹_› ?_|refine Cf ‹_› ?_|refine Ct rfl ?_|refine Cf rfl ?_|refine Bi rfl ?_|refine Bz rfl ?_|refine Lr ?_);conv=>whnf))
    (refine CallQ_some (F_vBy b p.gb k (O.getD t.toNat 0) p.k (hmem _ (getD_mem h1 ht))) ?_ ?_ ?_; rfl; rfl); ((conv=>whnf);repeat((first|refine Ct ‹_› ?_|refine Cf ‹_› ?_|refine Ct rfl ?_|refine Cf rfl ?_|refine Bi rfl ?_|refine Bz rfl ?_|refine Lr ?_);conv=>whnf))
    refine Cnd_i (fun g2 => ?_) (fun g2 => ?_)
    · have d2 := of_decide_eq_true g2
      rw [if_pos (show vwN b k (O.getD t.toNat 0) > z from d2)] at hs
      ((conv=>whnf);repeat((first|refine Ct ‹_› ?_|refine Cf ‹_› ?_|refine Ct rfl ?_|refine Cf rfl ?_|refine Bi rfl ?_|refine Bz rfl ?_|refine Lr ?_);conv=>whnf))
      refine ⟨n - 1, O.getD t.toNat 0, vwN b k (O.getD t.toNat 0), t + 1, ?_, by omega, by omega, by omega, hs.symm⟩
      rw [wrapI (by omega)]; rfl
    · have d2 := of_decide_eq_false g2
      rw [if_neg (show ¬ vwN b k (O.getD t.toNat 0) > z from d2)] at hs
      ((conv=>whnf);repeat((first|refine Ct ‹_› ?_|refine Cf ‹_› ?_|refine Ct rfl ?_|refine Cf rfl ?_|refine Bi rfl ?_|refine Bz rfl ?_|refine Lr ?_);conv=>whnf))
      refine ⟨n - 1, y, z, t + 1, ?_, by omega, by omega, by omega, hs.symm⟩
      rw [wrapI (by omega)]; rfl
  · have ht := of_decide_eq_false g
    ((conv=>whnf);repeat((first|refine Ct ‹_› ?_|refine Cf ‹_› ?_|refine Ct rfl ?_|refine Cf rfl ?_|refine Bi rfl ?_|refine Bz rfl ?_|refine Lr ?_);conv=>whnf))
    rw [show O.length = t.toNat by omega, ← h3]
    exact ⟨rfl, rfl, rfl⟩

theorem F_BestLookoutI (b : Brd) (ho : b.Ok) (k : Int) : Fun E0 21 [.agg b.cs, vI k] [] (.tup [vI (blkR' b k).1, vI (blkR' b k).2.1, vB (blkR' b k).2.2]) [] [] := by
  refine Fun_of_xc k21 rfl rfl (fun k q h => by cases h) ?_
  ((conv=>whnf);repeat((first|refine Ct ‹_› ?_|refine Cf ‹_› ?_|refine Ct rfl ?_|refine Cf rfl ?_|refine Bi rfl ?_|refine Bz rfl ?_|refine Lr ?_);conv=>whnf))
  (refine CallQ_some (F_isKindOf b ho k) ?_ ?_ ?_; rfl; rfl); ((conv=>whnf);repeat((first|refine Ct ‹_› ?_|refine Cf ‹_› ?_|refine Ct rfl ?_|refine Cf rfl ?_|refine Bi rfl ?_|refine Bz rfl ?_|refine Lr ?_);conv=>whnf))
  refine Cnd_i (fun g => ?_) (fun g => ?_)
  · have e0 : okKd b k = false := by first | (rwa [Bool.not_eq_true'] at g) | (rwa [Bool.not_eq_false'] at g)
    ((conv=>whnf);repeat((first|refine Ct ‹_› ?_|refine Cf ‹_› ?_|refine Ct rfl ?_|refine Cf rfl ?_|refine Bi rfl ?_|refine Bz rfl ?_|refine Lr ?_);conv=>whnf))
    rw [blkR', e0]
    exact ⟨rfl, rfl, rfl⟩
  have e0 : okKd b k = true := by first | (rwa [Bool.not_eq_true'] at g) | (rwa [Bool.not_eq_false'] at g)
  have p := KdOk.of ho e0
  have hpos : ∀ x ∈ opL b k, 1 ≤ vwN b k x := fun x hx => by have := see_self (opL_mem hx) (p.gb.view p.k); show (1 : Int) ≤ ((seeL b x (b.r.knd.getD k.toNat Knd.d).view 1).length : Int); omega
  have hmem := fun x (hx : x ∈ opL b k) => opL_mem hx
  have hle := opL_le p.gb k
  have hR : blkR' b k = ((blN (vwN b k) (opL b k) 0 (opL b k).length).1, (blN (vwN b k) (opL b k) 0 (opL b k).length).2, decide ((blN (vwN b k) (opL b k) 0 (opL b k).length).2 > 0)) := by
    rw [blkR', e0, if_pos rfl]
    by_cases g : (opL b k).length = 0
    · rw [if_pos g, g]; rfl
    · rw [if_neg g]
      obtain ⟨n, hn⟩ : ∃ n, (opL b k).length = n + 1 := ⟨(opL b k).length - 1, by omega⟩
      have := blN_pos _ _ hpos n (by omega)
      rw [hn, decide_eq_true (by omega)]
  rw [hR]
  clear hR
  ((conv=>whnf);repeat((first|refine Ct ‹_› ?_|refine Cf ‹_› ?_|refine Ct rfl ?_|refine Cf rfl ?_|refine Bi rfl ?_|refine Bz rfl ?_|refine Lr ?_);conv=>whnf))
  (refine CallQ_some (F_openHexes b p.gb k p.k) ?_ ?_ ?_; rfl; rfl); ((conv=>whnf);repeat((first|refine Ct ‹_› ?_|refine Cf ‹_› ?_|refine Ct rfl ?_|refine Cf rfl ?_|refine Bi rfl ?_|refine Bz rfl ?_|refine Lr ?_);conv=>whnf))
  generalize opL b k = O at hmem hle hpos ⊢
  refine WLoop_v3 ⟨[1, 2, 7, 8, 18, 19, 20], [2], []⟩ (fun (y z t : Int) => hdS 39 [(1, .v (vI k)), (2, .v (.one (.box 2 0))), (7, .v (vI y)), (8, .v (vI z)), (18, .v (.one (.own (vkey 18) O.length))), (19, .v (vI O.length)), (20, .v (vI t))] [(2, b.cs)] [(vkey 18, rwI O)])
    (fun n y z t => 0 ≤ t ∧ t + n = O.length ∧ (y, z) = blN (vwN b k) O 0 t.toNat) O.length 0 0 0 rfl ⟨by omega, by omega, rfl⟩ ?_
  rintro n y z t ⟨h1, h2, h3⟩
  have hs := blN_succ (vwN b k) O 0 h1
  rw [← h3] at hs
  ((conv=>whnf);repeat((first|refine Ct ‹_› ?_|refine Cf ‹_› ?_|refine Ct rfl ?_|refine Cf rfl ?_|refine Bi rfl ?_|refine Bz rfl ?_|refine Lr ?_);conv=>whnf))
  refine Cnd_i (fun g => ?_) (fun g => ?_)
  · have ht := of_decide_eq_true g
    ((conv=>whnf);repeat((first|refine Ct ‹_› ?_|refine Cf ‹_› ?_|refine Ct rfl ?_|refine Cf rfl ?_|refine Bi rfl ?_|refine Bz rfl ?_|refine Lr ?_);conv=>whnf))
    refine Bnd_i (⟨h1, ht⟩) ?_; ((conv=>whnf);repeat((first|refine Ct ‹_› ?_|refine Cf ‹_› ?_|refine Ct rfl ?_|refine Cf rfl ?_|refine Bi rfl ?_|refine Bz rfl ?_|refine Lr ?_);conv=>whnf))
    (refine CallQ_some (F_seenBy b p.gb k (O.getD t.toNat 0) p.k (hmem _ (getD_mem h1 ht))) ?_ ?_ ?_; rfl; rfl); ((conv=>whnf);repeat((first|refine Ct ‹_› ?_|refine Cf ‹_› ?_|refine Ct rfl ?_|refine Cf rfl ?_|refine Bi rfl ?_|refine Bz rfl ?_|refine Lr ?_);conv=>whnf))
    refine Cnd_i (fun g2 => ?_) (fun g2 => ?_)
    · have d2 := of_decide_eq_true g2
      rw [if_pos (show vwN b k (O.getD t.toNat 0) > z from d2)] at hs
      ((conv=>whnf);repeat((first|refine Ct ‹_› ?_|refine Cf ‹_› ?_|refine Ct rfl ?_|refine Cf rfl ?_|refine Bi rfl ?_|refine Bz rfl ?_|refine Lr ?_);conv=>whnf))
      refine ⟨n - 1, O.getD t.toNat 0, vwN b k (O.getD t.toNat 0), t + 1, ?_, by omega, by omega, by omega, hs.symm⟩
      rw [wrapI (by omega)]; rfl
    · have d2 := of_decide_eq_false g2
      rw [if_neg (show ¬ vwN b k (O.getD t.toNat 0) > z from d2)] at hs
      ((conv=>whnf);repeat((first|refine Ct ‹_› ?_|refine Cf ‹_› ?_|refine Ct rfl ?_|refine Cf rfl ?_|refine Bi rfl ?_|refine Bz rfl ?_|refine Lr ?_);conv=>whnf))
      refine ⟨n - 1, y, z, t + 1, ?_, by omega, by omega, by omega, hs.symm⟩
      rw [wrapI (by omega)]; rfl
  · have ht := of_decide_eq_false g
    ((conv=>whnf);repeat((first|refine Ct ‹_› ?_|refine Cf ‹_› ?_|refine Ct rfl ?_|refine Cf rfl ?_|refine Bi rfl ?_|refine Bz rfl ?_|refine Lr ?_);conv=>whnf))
    rw [show O.length = t.toNat by omega, ← h3]
    exact ⟨rfl, rfl, rfl⟩

theorem F_FnExactBestLookout (x0 : Brd) (x1 : Int) (o0 : x0.Ok) (o1 : i64 x1) :
    Fun E0 4 [.agg x0.cs, vI x1] [] (.v (vB true)) [] [] := by
  have hS := F_BestLookout x0 o0 x1
  have hI := F_BestLookoutI x0 o0 x1
  revert hS hI
  generalize blkR' x0 x1 = RR
  obtain ⟨r0, r1, r2⟩ := RR
  intro hS hI
  dsimp only at hS
  dsimp only at hI
  refine Fun_of_xc k4 rfl rfl (fun k q h => by cases h) ?_
  ((conv=>whnf);repeat((first|refine Ct ‹_› ?_|refine Cf ‹_› ?_|refine Ct rfl ?_|refine Cf rfl ?_|refine Bi rfl ?_|refine Bz rfl ?_|refine Lr ?_);conv=>whnf))
  (refine CallQ_some (F_szBoard x0 o0 1048576 (by omega) (by omega)) ?_ ?_ ?_; rfl; rfl); ((conv=>whnf);repeat((first|refine Ct ‹_› ?_|refine Cf ‹_› ?_|refine Ct rfl ?_|refine Cf rfl ?_|refine Bi rfl ?_|refine Bz rfl ?_|refine Lr ?_);conv=>whnf))
  refine Cnd_i (fun g => ?_) (fun g => ?_)
  · ((conv=>whnf);repeat((first|refine Ct ‹_› ?_|refine Cf ‹_› ?_|refine Ct rfl ?_|refine Cf rfl ?_|refine Bi rfl ?_|refine Bz rfl ?_|refine Lr ?_);conv=>whnf))
    exact ⟨rfl, rfl, rfl⟩
  have sm0 := szB_sm (b := x0) (x := 1048576) (by omega) (by omega) (of_decide_eq_false g)
  have s0 := sm0.1
  have sb0 := sm0.2
  have sc0 := of_decide_eq_false g
  ((conv=>whnf);repeat((first|refine Ct ‹_› ?_|refine Cf ‹_› ?_|refine Ct rfl ?_|refine Cf rfl ?_|refine Bi rfl ?_|refine Bz rfl ?_|refine Lr ?_);conv=>whnf))
  (refine CallQ_some (F_toBoard x0 s0) ?_ ?_ ?_; rfl; rfl); ((conv=>whnf);repeat((first|refine Ct ‹_› ?_|refine Cf ‹_› ?_|refine Ct rfl ?_|refine Cf rfl ?_|refine Bi rfl ?_|refine Bz rfl ?_|refine Lr ?_);conv=>whnf))
  refine CallQ_eq (snapB x0 _) ?_
  (refine CallQ_some (hS) ?_ ?_ ?_; rfl; rfl); ((conv=>whnf);repeat((first|refine Ct ‹_› ?_|refine Cf ‹_› ?_|refine Ct rfl ?_|refine Cf rfl ?_|refine Bi rfl ?_|refine Bz rfl ?_|refine Lr ?_);conv=>whnf))
  (refine CallQ_some (F_toBoard x0 s0) ?_ ?_ ?_; rfl; rfl); ((conv=>whnf);repeat((first|refine Ct ‹_› ?_|refine Cf ‹_› ?_|refine Ct rfl ?_|refine Cf rfl ?_|refine Bi rfl ?_|refine Bz rfl ?_|refine Lr ?_);conv=>whnf))
  refine CallQ_eq (snapB x0 _) ?_
  (refine CallQ_some (hI) ?_ ?_ ?_; rfl; rfl); ((conv=>whnf);repeat((first|refine Ct ‹_› ?_|refine Cf ‹_› ?_|refine Ct rfl ?_|refine Cf rfl ?_|refine Bi rfl ?_|refine Bz rfl ?_|refine Lr ?_);conv=>whnf))
  repeat (refine Cnd_f (by simp) ?_; ((conv=>whnf);repeat((first|refine Ct ‹_› ?_|refine Cf ‹_› ?_|refine Ct rfl ?_|refine Cf rfl ?_|refine Bi rfl ?_|refine Bz rfl ?_|refine Lr ?_);conv=>whnf)))
  repeat (refine Cnd_f (by simp) ?_; ((conv=>whnf);repeat((first|refine Ct ‹_› ?_|refine Cf ‹_› ?_|refine Ct rfl ?_|refine Cf rfl ?_|refine Bi rfl ?_|refine Bz rfl ?_|refine Lr ?_);conv=>whnf)))
  repeat (refine Cnd_f (by simp) ?_; ((conv=>whnf);repeat((first|refine Ct ‹_› ?_|refine Cf ‹_› ?_|refine Ct rfl ?_|refine Cf rfl ?_|refine Bi rfl ?_|refine Bz rfl ?_|refine Lr ?_);conv=>whnf)))
  repeat (refine Cnd_f (by simp) ?_; ((conv=>whnf);repeat((first|refine Ct ‹_› ?_|refine Cf ‹_› ?_|refine Ct rfl ?_|refine Cf rfl ?_|refine Bi rfl ?_|refine Bz rfl ?_|refine Lr ?_);conv=>whnf)))
  (refine CallQ_some (F_toBoard x0 s0) ?_ ?_ ?_; rfl; rfl); ((conv=>whnf);repeat((first|refine Ct ‹_› ?_|refine Cf ‹_› ?_|refine Ct rfl ?_|refine Cf rfl ?_|refine Bi rfl ?_|refine Bz rfl ?_|refine Lr ?_);conv=>whnf))
  refine CallQ_eq (snapBB x0) ?_
  (refine CallQ_some (F_eqBoard x0 s0) ?_ ?_ ?_; rfl; rfl); ((conv=>whnf);repeat((first|refine Ct ‹_› ?_|refine Cf ‹_› ?_|refine Ct rfl ?_|refine Cf rfl ?_|refine Bi rfl ?_|refine Bz rfl ?_|refine Lr ?_);conv=>whnf))
  exact ⟨rfl, rfl, rfl⟩
end Go.Proofs.YtfaobjghedlfoaaDoor.Ab
