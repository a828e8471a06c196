/- Contracts of the functions that FnExactCountCheapest reaches, by the abstract machine (part 2).
   Conditions: none. -/
import Derived.Test.YtjnpnpkjmlihdaaDoorCCountCheapest1
set_option linter.unusedVariables false
set_option linter.unusedSimpArgs false
namespace Go.Proofs.YtjnpnpkjmlihdaaDoor.Ab
open Go Go.RowKit
attribute [local irreducible] Cnd Bnd Rw CallQ CallR CallRX Bts Isn Lc WLoop
set_option maxRecDepth 100000
set_option maxHeartbeats 1000000
theorem F_pAsked (b : Brd) (ho : b.Ok) (k w i : Int) : Fun E0 11 [.agg b.cs, vI k, vI w, vI i] [] (.v (vB (okIn b k w i))) [] [] := by
  refine Fun_of_xc k11 rfl rfl (fun k q h => by cases h) ?_
  ((conv=>whnf);repeat((first|refine Ct ‹_› ?_|refine Cf ‹_› ?_|refine Ct rfl ?_|refine Cf rfl ?_|refine Bi rfl ?_|refine Bz rfl ?_|refine Lr ?_);conv=>whnf))
  (refine CallQ_some (F_bAt b ho k i) ?_ ?_ ?_; rfl; rfl); ((conv=>whnf);repeat((first|refine Ct ‹_› ?_|refine Cf ‹_› ?_|refine Ct rfl ?_|refine Cf rfl ?_|refine Bi rfl ?_|refine Bz rfl ?_|refine Lr ?_);conv=>whnf))
  refine Cnd_i (fun e1 => ?_) (fun g => ?_)
  · ((conv=>whnf);repeat((first|refine Ct ‹_› ?_|refine Cf ‹_› ?_|refine Ct rfl ?_|refine Cf rfl ?_|refine Bi rfl ?_|refine Bz rfl ?_|refine Lr ?_);conv=>whnf))
    (refine CallQ_some (F_l1In _ _ _) ?_ ?_ ?_; rfl; rfl); ((conv=>whnf);repeat((first|refine Ct ‹_› ?_|refine Cf ‹_› ?_|refine Ct rfl ?_|refine Cf rfl ?_|refine Bi rfl ?_|refine Bz rfl ?_|refine Lr ?_);conv=>whnf))
    refine ⟨?_, rfl, rfl⟩
    simp only [okIn, e1, Bool.true_and]
    rfl
  · ((conv=>whnf);repeat((first|refine Ct ‹_› ?_|refine Cf ‹_› ?_|refine Ct rfl ?_|refine Cf rfl ?_|refine Bi rfl ?_|refine Bz rfl ?_|refine Lr ?_);conv=>whnf))
    refine ⟨?_, rfl, rfl⟩
    simp only [okIn, g, Bool.false_and]
    rfl

theorem dL_len {b : Brd} (h : GB b) {k w i : Int} (k0 : 0 ≤ k ∧ k < b.r.knd.length) (w0 : 0 ≤ w ∧ w ≤ 2) (i0 : 0 ≤ i ∧ i < b.m.ter.length) (av : List Int) (bk : Bool) : (dL b k w i av bk).length = b.m.ter.length := (dL_ok h k0 w0 i0 av bk).len

theorem F_pFrom0 (b : Brd) (h : GB b) (k w i : Int) (k0 : 0 ≤ k ∧ k < b.r.knd.length) (w0 : 0 ≤ w ∧ w ≤ 2) (i0 : 0 ≤ i ∧ i < b.m.ter.length) :
    Fun E0 12 [.agg b.cs, vI k, vI w, vI i, .one (.ro 1 0 nog)] [] (.v (.one (.own 0 (dL b k w i [] false).length))) [(0, rwI (dL b k w i [] false))] [] :=
  FunNog (pre := [.agg b.cs, vI k, vI w, vI i]) (post := []) (F_pFrom b h k w i [] k0 w0 i0 (Nat.zero_le _))

theorem F_relaxed0 (b : Brd) (h : GB b) (k w i : Int) (bk : Bool) (k0 : 0 ≤ k ∧ k < b.r.knd.length) (w0 : 0 ≤ w ∧ w ≤ 2) (i0 : 0 ≤ i ∧ i < b.m.ter.length) :
    Fun E0 19 [.agg b.cs, vI k, vI w, vI i, vB bk, .one (.ro 1 0 nog)] [] (.v (.one (.own 0 (dL b k w i [] bk).length))) [(0, rwI (dL b k w i [] bk))] [] :=
  FunNog (pre := [.agg b.cs, vI k, vI w, vI i, vB bk]) (post := []) (F_relaxed b h k w i bk [] k0 w0 i0 (Nat.zero_le _))

structure HxB (q r : Int) : Prop where
  q : 0 ≤ q ∧ q ≤ 9
  r : 0 ≤ r ∧ r ≤ 9

structure PtB (q r n : Int) : Prop where
  n : 1 ≤ n ∧ n ≤ 18
  q : 0 ≤ q ∧ q ≤ 1000
  r : 0 ≤ r ∧ r ≤ 1000

/-! ### trips -/
def okTr (b : Brd) (k w i x : Int) : Bool := okIn b k w i && okIn b k w x

theorem okTr_eq {b : Brd} (h : GB b) {k w i x : Int} (e : okIn b k w i = true) : okIn b k w x = In x 0 (b.m.ter.length - 1) := by
  have hn := h.n
  unfold okIn at e ⊢
  simp only [Bool.and_eq_true] at e
  obtain ⟨⟨⟨e1, e2⟩, _⟩, e4⟩ := e
  rw [e1, e2, e4, hn]; simp

theorem TrOk {b : Brd} (ho : b.Ok) {k w i x : Int} (h : okTr b k w i x = true) : InOk b k w i ∧ 0 ≤ x ∧ x < b.m.ter.length := by
  simp only [okTr, Bool.and_eq_true] at h
  exact ⟨InOk.of ho h.1, (InOk.of ho h.2).i⟩

theorem F_isTrip (b : Brd) (ho : b.Ok) (k w i x : Int) : Fun E0 18 [.agg b.cs, vI k, vI w, vI i, vI x] [] (.v (vB (okTr b k w i x))) [] [] := by
  refine Fun_of_xc k18 rfl rfl (fun k q h => by cases h) ?_
  ((conv=>whnf);repeat((first|refine Ct ‹_› ?_|refine Cf ‹_› ?_|refine Ct rfl ?_|refine Cf rfl ?_|refine Bi rfl ?_|refine Bz rfl ?_|refine Lr ?_);conv=>whnf))
  (refine CallQ_some (F_isMover b ho k w i) ?_ ?_ ?_; rfl; rfl); ((conv=>whnf);repeat((first|refine Ct ‹_› ?_|refine Cf ‹_› ?_|refine Ct rfl ?_|refine Cf rfl ?_|refine Bi rfl ?_|refine Bz rfl ?_|refine Lr ?_);conv=>whnf))
  refine Cnd_i (fun g => ?_) (fun g => ?_)
  · have hi := InOk.of ho g
    have hm := hi.gb.wh.mul
    have hn := hi.gb.n
    ((conv=>whnf);repeat((first|refine Ct ‹_› ?_|refine Cf ‹_› ?_|refine Ct rfl ?_|refine Cf rfl ?_|refine Bi rfl ?_|refine Bz rfl ?_|refine Lr ?_);conv=>whnf))
    (refine CallQ_some (F_sizeOf b) ?_ ?_ ?_; rfl; rfl); ((conv=>whnf);repeat((first|refine Ct ‹_› ?_|refine Cf ‹_› ?_|refine Ct rfl ?_|refine Cf rfl ?_|refine Bi rfl ?_|refine Bz rfl ?_|refine Lr ?_);conv=>whnf))
    (refine CallQ_some (F_isIndex x b.m.ter.length ⟨by unfold i64; omega, by omega⟩) ?_ ?_ ?_; rfl; rfl); ((conv=>whnf);repeat((first|refine Ct ‹_› ?_|refine Cf ‹_› ?_|refine Ct rfl ?_|refine Cf rfl ?_|refine Bi rfl ?_|refine Bz rfl ?_|refine Lr ?_);conv=>whnf))
    rw [okTr, g, okTr_eq hi.gb g, Bool.true_and]
    exact ⟨rfl, rfl, rfl⟩
  · ((conv=>whnf);repeat((first|refine Ct ‹_› ?_|refine Cf ‹_› ?_|refine Ct rfl ?_|refine Cf rfl ?_|refine Bi rfl ?_|refine Bz rfl ?_|refine Lr ?_);conv=>whnf))
    rw [okTr, g, Bool.false_and]
    exact ⟨rfl, rfl, rfl⟩

/-! ### a place to meet -/
def betM (L L' : List Int) (x y : Int) : Prop := max (L.getD x.toNat 0) (L'.getD x.toNat 0) < max (L.getD y.toNat 0) (L'.getD y.toNat 0) ∨ (max (L.getD x.toNat 0) (L'.getD x.toNat 0) = max (L.getD y.toNat 0) (L'.getD y.toNat 0) ∧ L.getD x.toNat 0 + L'.getD x.toNat 0 < L.getD y.toNat 0 + L'.getD y.toNat 0)

instance (L L' : List Int) (x y : Int) : Decidable (betM L L' x y) := by unfold betM; infer_instance

theorem dL_sm {b : Brd} (h : GB b) {k w i : Int} (k0 : 0 ≤ k ∧ k < b.r.knd.length) (w0 : 0 ≤ w ∧ w ≤ 2) (i0 : 0 ≤ i ∧ i < b.m.ter.length) (av : List Int) (bk : Bool) : ∀ j : Nat, j < b.m.ter.length → -1 ≤ (dL b k w i av bk).getD j 0 ∧ (dL b k w i av bk).getD j 0 ≤ 2000 :=
  fun j hj => ⟨(dL_ok h k0 w0 i0 av bk).low j hj, dL_le h k0 w0 i0 av bk j hj⟩

def okKi (b : Brd) (k i : Int) : Bool := okBrd b && In k 0 (b.r.knd.length - 1) && In i 0 (b.m.w * b.m.h - 1)

structure KiOk (b : Brd) (k i : Int) : Prop where
  gb : GB b
  k : 0 ≤ k ∧ k < b.r.knd.length
  i : 0 ≤ i ∧ i < b.m.ter.length

theorem KiOk.of {b : Brd} (ho : b.Ok) {k i : Int} (h : okKi b k i = true) : KiOk b k i := by
  simp only [okKi, Bool.and_eq_true] at h
  have g := GB.of ho h.1.1
  have a2 := of_decide_eq_true h.1.2
  have a3 := of_decide_eq_true h.2
  have := g.n
  exact ⟨g, by omega, by omega⟩

def okKd (b : Brd) (k : Int) : Bool := okBrd b && In k 0 (b.r.knd.length - 1)

structure KdOk (b : Brd) (k : Int) : Prop where
  gb : GB b
  k : 0 ≤ k ∧ k < b.r.knd.length

theorem KdOk.of {b : Brd} (ho : b.Ok) {k : Int} (h : okKd b k = true) : KdOk b k := by
  simp only [okKd, Bool.and_eq_true] at h
  have a2 := of_decide_eq_true h.2
  exact ⟨GB.of ho h.1, by omega⟩

/-! ### ways and paths -/
theorem Wy.zero {g : Int → Int → Prop} {op : Int → Bool} {S : Int → Prop} {k c : Int} (h : Wy g op S k c) (hc : c = 0) : S k := by
  cases h with
  | src hs => exact hs
  | step h1 _ _ => have := h1.pos; omega

structure SpD (N : Nat) (g : Int → Int → Prop) (op : Int → Bool) (S : Int → Prop) (a : Int) (L B : List Int) (n : Int) : Prop where
  hL : DstS N g op S L
  hB : DstS N g op (fun k => k = a) B
  sym : ∀ j k, g j k → g k j
  gb : ∀ j k, g j k → (0 ≤ j ∧ j < N)
  so : ∀ k, S k → op k = true
  sb : ∀ k, S k → 0 ≤ k ∧ k < N
  ab : 0 ≤ a ∧ a < N
  n0 : 0 ≤ n
  hn : L.getD a.toNat 0 = n
namespace SpD

variable {N : Nat} {g : Int → Int → Prop} {op : Int → Bool} {S : Int → Prop} {a n : Int} {L B : List Int}

theorem wL (h : SpD N g op S a L B n) {k : Int} (hk : 0 ≤ k ∧ k < N) (h0 : 0 ≤ L.getD k.toNat 0) : Wy g op S k (L.getD k.toNat 0) := by
  have := h.hL.snd k.toNat (by omega) h0
  rwa [show ((k.toNat : Nat) : Int) = k by omega] at this

theorem wB (h : SpD N g op S a L B n) {k : Int} (hk : 0 ≤ k ∧ k < N) (h0 : 0 ≤ B.getD k.toNat 0) : Wy g op (fun y => y = a) k (B.getD k.toNat 0) := by
  have := h.hB.snd k.toNat (by omega) h0
  rwa [show ((k.toNat : Nat) : Int) = k by omega] at this

theorem lL (h : SpD N g op S a L B n) {k c : Int} (hk : 0 ≤ k ∧ k < N) (hw : Wy g op S k c) : 0 ≤ L.getD k.toNat 0 ∧ L.getD k.toNat 0 ≤ c :=
  h.hL.lst k.toNat c (by omega) (by rwa [show ((k.toNat : Nat) : Int) = k by omega])

theorem lB (h : SpD N g op S a L B n) {k c : Int} (hk : 0 ≤ k ∧ k < N) (hw : Wy g op (fun y => y = a) k c) : 0 ≤ B.getD k.toNat 0 ∧ B.getD k.toNat 0 ≤ c :=
  h.hB.lst k.toNat c (by omega) (by rwa [show ((k.toNat : Nat) : Int) = k by omega])

theorem oa (h : SpD N g op S a L B n) : op a = true := (h.wL h.ab (by rw [h.hn]; exact h.n0)).opn h.so

theorem b0 (h : SpD N g op S a L B n) {k : Int} (hk : 0 ≤ k ∧ k < N) : B.getD k.toNat 0 = 0 ↔ k = a := by
  constructor
  · intro e; exact (h.wB hk (by omega)).zero e
  · intro e
    have := h.lB hk (.src e)
    omega

theorem tri (h : SpD N g op S a L B n) {k : Int} (hk : 0 ≤ k ∧ k < N) (h1 : 0 ≤ L.getD k.toNat 0) (h2 : 0 ≤ B.getD k.toNat 0) : n ≤ L.getD k.toNat 0 + B.getD k.toNat 0 := by
  have w := (h.wL hk h1).app ((h.wB hk h2).rev h.sym h.oa)
  have := (h.lL h.ab w).2
  rw [h.hn] at this; exact this

theorem next (h : SpD N g op S a L B n) {z : Int} (hz : 0 ≤ z ∧ z < N) (h0 : 1 ≤ B.getD z.toNat 0) : ∃ k : Int, (0 ≤ k ∧ k < N) ∧ g z k ∧ B.getD k.toNat 0 = B.getD z.toNat 0 - 1 := by
  obtain ⟨j, h1, h2, h3⟩ := h.hB.last hz h.gb h0
  exact ⟨j, h1, h.sym _ _ h2, h3⟩

end SpD

/-- element i of a list -/
def el (D : List Int) (i : Int) : Int := D.getD i.toNat 0

/-- a row of small numbers -/
def SmN (L : List Int) : Prop := ∀ i, -1 ≤ el L i ∧ el L i ≤ 2000

/-- all numbers of D are places of L -/
def Pls (L D : List Int) : Prop := ∀ x ∈ D, 0 ≤ x ∧ x < L.length

theorem Pls.at' {L D : List Int} (h : Pls L D) {i : Int} (h0 : 0 ≤ i) (h1 : i < D.length) : 0 ≤ el D i ∧ el D i < L.length := by
  have : el D i ∈ D := by
    unfold el
    rw [List.getD_eq_getElem?_getD, List.getElem?_eq_getElem (by omega)]
    exact List.getElem_mem _
  exact h _ this

theorem F_CC1 (L : List Int) (hL : SmN L) (x y : Int) (x0 : 0 ≤ x ∧ x < L.length) (y0 : 0 ≤ y ∧ y < L.length) :
    Fun E0 21 [vI x, vI y, .one (.pro 1 fun _ => roI L)] [] (.v (vI (el L x - el L y))) [] [] := by
  have h1 := hL x
  have h2 := hL y
  refine Fun_of_xc k21 rfl rfl (fun k q h => by cases h) ?_
  ((conv=>whnf);repeat((first|refine Ct ‹_› ?_|refine Cf ‹_› ?_|refine Ct rfl ?_|refine Cf rfl ?_|refine Bi rfl ?_|refine Bz rfl ?_|refine Lr ?_);conv=>whnf))
  refine Bnd_i (⟨x0.1, x0.2⟩) ?_; ((conv=>whnf);repeat((first|refine Ct ‹_› ?_|refine Cf ‹_› ?_|refine Ct rfl ?_|refine Cf rfl ?_|refine Bi rfl ?_|refine Bz rfl ?_|refine Lr ?_);conv=>whnf))
  refine Bnd_i (⟨y0.1, y0.2⟩) ?_; ((conv=>whnf);repeat((first|refine Ct ‹_› ?_|refine Cf ‹_› ?_|refine Ct rfl ?_|refine Cf rfl ?_|refine Bi rfl ?_|refine Bz rfl ?_|refine Lr ?_);conv=>whnf))
  rw [show L.getD x.toNat 0 = el L x from rfl, show L.getD y.toNat 0 = el L y from rfl, wrapI (by omega)]
  exact ⟨rfl, rfl, rfl⟩

/-! ### plain laws of swaps -/
def swp (D : List Int) (i j : Int) : List Int := (D.set i.toNat (el D j)).set j.toNat (el D i)

theorem el_set {D : List Int} {i t x : Int} (i0 : 0 ≤ i) (i1 : i < D.length) (t0 : 0 ≤ t) : el (D.set i.toNat x) t = if t = i then x else el D t := by
  unfold el
  rw [getD_set _ _ _ _ (by omega)]
  by_cases e : t = i
  · rw [if_pos e, if_pos (by omega)]
  · rw [if_neg e, if_neg (by omega)]

theorem el_swp {D : List Int} {i j t : Int} (i0 : 0 ≤ i) (i1 : i < D.length) (j0 : 0 ≤ j) (j1 : j < D.length) (t0 : 0 ≤ t) : el (swp D i j) t = if t = j then el D i else if t = i then el D j else el D t := by
  unfold swp
  rw [el_set j0 (by simpa using j1) t0, el_set i0 i1 t0]

theorem swp_len (D : List Int) (i j : Int) : (swp D i j).length = D.length := by simp [swp]

theorem swp_perm {D : List Int} {i j : Int} (i0 : 0 ≤ i) (i1 : i < D.length) (j0 : 0 ≤ j) (j1 : j < D.length) : (swp D i j).Perm D := by
  have h := @List.set_set_perm _ D i.toNat j.toNat (by omega) (by omega)
  have e1 : el D j = D[j.toNat]'(by omega) := by unfold el; rw [List.getD_eq_getElem?_getD, List.getElem?_eq_getElem (by omega)]; rfl
  have e2 : el D i = D[i.toNat]'(by omega) := by unfold el; rw [List.getD_eq_getElem?_getD, List.getElem?_eq_getElem (by omega)]; rfl
  unfold swp
  rw [e1, e2]; exact h

/-- the elements of a stretch are dealt out anew -/
structure Mv (n : Nat) (a b : Int) (D D' : List Int) : Prop where
  len : D'.length = n
  perm : D'.Perm D
  out : ∀ i, 0 ≤ i → i < a ∨ b ≤ i → el D' i = el D i
  sub : ∀ i, a ≤ i → i < b → ∃ j, a ≤ j ∧ j < b ∧ el D' i = el D j

theorem Mv.refl {n : Nat} {a b : Int} {D : List Int} (h : D.length = n) : Mv n a b D D := ⟨h, List.Perm.refl _, fun _ _ _ => rfl, fun i h1 h2 => ⟨i, h1, h2, rfl⟩⟩

theorem Mv.trans {n : Nat} {a b : Int} {D D' D'' : List Int} (h : Mv n a b D D') (h' : Mv n a b D' D'') : Mv n a b D D'' :=
  ⟨h'.len, h'.perm.trans h.perm, fun i i0 hi => (h'.out i i0 hi).trans (h.out i i0 hi), fun i h1 h2 => by
    obtain ⟨j, j1, j2, e⟩ := h'.sub i h1 h2
    obtain ⟨q, q1, q2, e'⟩ := h.sub j j1 j2
    exact ⟨q, q1, q2, e.trans e'⟩⟩

theorem Mv.wide {n : Nat} {a b c d : Int} {D D' : List Int} (h : Mv n c d D D') (h1 : a ≤ c) (h2 : d ≤ b) (c0 : 0 ≤ a) : Mv n a b D D' :=
  ⟨h.len, h.perm, fun i i0 hi => h.out i i0 (by omega), fun i i1 i2 => by
    by_cases e : c ≤ i ∧ i < d
    · obtain ⟨j, j1, j2, e⟩ := h.sub i e.1 e.2
      exact ⟨j, by omega, by omega, e⟩
    · exact ⟨i, i1, i2, h.out i (by omega) (by omega)⟩⟩

theorem Mv.pls {n : Nat} {a b : Int} {L D D' : List Int} (h : Mv n a b D D') (hp : Pls L D) : Pls L D' := fun x hx => hp x (h.perm.mem_iff.1 hx)

theorem Mv.swp {n : Nat} {a b i j : Int} {D : List Int} (h : D.length = n) (a0 : 0 ≤ a) (bn : b ≤ n) (i0 : a ≤ i) (i1 : i < b) (j0 : a ≤ j) (j1 : j < b) : Mv n a b D (swp D i j) := by
  have e := fun t (t0 : 0 ≤ t) => el_swp (D := D) (i := i) (j := j) (t := t) (by omega) (by omega) (by omega) (by omega) t0
  refine ⟨by rw [swp_len, h], swp_perm (by omega) (by omega) (by omega) (by omega), fun t t0 ht => ?_, fun t t0 t1 => ?_⟩
  · rw [e t t0, if_neg (by omega), if_neg (by omega)]
  · rw [e t (by omega)]
    by_cases e1 : t = j
    · rw [if_pos e1]; exact ⟨i, i0, i1, rfl⟩
    · rw [if_neg e1]
      by_cases e2 : t = i
      · rw [if_pos e2]; exact ⟨j, j0, j1, rfl⟩
      · rw [if_neg e2]; exact ⟨t, t0, t1, rfl⟩

/-- the stretch is in order -/
def Srd (L D : List Int) (a b : Int) : Prop := ∀ i j, a ≤ i → i ≤ j → j < b → el L (el D i) ≤ el L (el D j)

/-- .. but for place j, which may have to go further down -/
def Srx (L D : List Int) (a i j : Int) : Prop := ∀ p q, a ≤ p → p < q → q ≤ i → q ≠ j → el L (el D p) ≤ el L (el D q)

theorem Srx.init {L D : List Int} {a i : Int} (h : Srd L D a i) : Srx L D a i i := fun p q h1 h2 h3 h4 => h p q h1 (by omega) (by omega)

theorem Srx.fin {L D : List Int} {a i j : Int} (h : Srx L D a i j) (hj : a ≤ j ∧ j ≤ i) (hs : j = a ∨ el L (el D (j - 1)) ≤ el L (el D j)) : Srd L D a (i + 1) := by
  intro p q h1 h2 h3
  by_cases e : p = q
  · rw [e]; exact Int.le_refl _
  · by_cases e2 : q = j
    · subst e2
      rcases hs with hs | hs
      · omega
      · by_cases e3 : p = q - 1
        · rw [e3]; exact hs
        · exact Int.le_trans (h p (q - 1) h1 (by omega) (by omega) (by omega)) hs
    · exact h p q h1 (by omega) (by omega) e2

theorem Srx.step {L D : List Int} {a i j : Int} (h : Srx L D a i j) (a0 : 0 ≤ a) (hj : a < j ∧ j ≤ i) (hi : i < D.length) (hs : el L (el D j) ≤ el L (el D (j - 1))) : Srx L (swp D j (j - 1)) a i (j - 1) := by
  have e := fun t (t0 : 0 ≤ t) => el_swp (D := D) (i := j) (j := j - 1) (t := t) (by omega) (by omega) (by omega) (by omega) t0
  intro p q h1 h2 h3 h4
  rw [e p (by omega), e q (by omega), if_neg h4]
  by_cases q1 : q = j
  · rw [if_pos q1]
    by_cases p1 : p = j - 1
    · rw [if_pos p1]; exact hs
    · rw [if_neg p1, if_neg (by omega)]
      exact h p (j - 1) h1 (by omega) (by omega) (by omega)
  · rw [if_neg q1]
    by_cases p1 : p = j - 1
    · rw [if_pos p1]
      exact h j q (by omega) (by omega) h3 q1
    · rw [if_neg p1]
      by_cases p2 : p = j
      · rw [if_pos p2]
        exact h (j - 1) q (by omega) (by omega) h3 q1
      · rw [if_neg p2]
        exact h p q h1 h2 h3 q1

abbrev cmpX (k n : Nat) (sz : Nat → Nat) (get : Nat → Nat → Cell) : V := .one (.fnx 21 k n 0 1 sz get)

theorem F_insertion (n : Nat) (hn : n ≤ 100) (L : List Int) (hL : SmN L) (D : List Int) (hD : Pls L D) (hl : D.length = n) (sz : Nat → Nat) (get : Nat → Nat → Cell) (a b : Int) (a0 : 0 ≤ a) (a1 : a ≤ 200) (b0 : b ≤ n) :
    FunE E0 68 [.one (.own 1000000 n), vI a, vI b, cmpX 1003000 L.length sz get] [(1000000, rwIn n D), (1003000, rwI L)]
      (fun r o oo => r = .tup [] ∧ o = [] ∧ ∃ D', oo = [(1000000, rwIn n D'), (1003000, rwI L)] ∧ Mv n a b D D' ∧ Srd L D' a b) := by
  refine FunE_of_xc k68 rfl ?_ ?_
  · rintro r o oo ⟨rfl, rfl, D', rfl, _⟩; rfl
  ((conv=>whnf);repeat((first|refine Ct ‹_› ?_|refine Cf ‹_› ?_|refine Ct rfl ?_|refine Cf rfl ?_|refine Bi rfl ?_|refine Bz rfl ?_|refine Lr ?_);conv=>whnf))
  rw [wrapI (by omega)]
  refine WLoop_v2 ⟨[0, 1, 2, 3, 8], [], []⟩ (fun (i : Int) (X : List Int) => hdS 53 [(0, .v (.one (.own 1000000 n))), (1, .v (vI a)), (2, .v (vI b)), (3, .v (cmpX 1003000 L.length sz get)), (8, .v (vI i))] [] [(1000000, rwIn n X), (1003000, rwI L)])
    (fun m i X => a + 1 ≤ i ∧ (b - i).toNat ≤ m ∧ Mv n a b D X ∧ Srd L X a i ∧ (i ≤ b ∨ i = a + 1)) (b - (a + 1)).toNat (a + 1) D rfl ⟨by omega, by omega, .refl hl, fun p q h1 h2 h3 => by rw [show p = q by omega]; exact Int.le_refl _, .inr rfl⟩ ?_
  rintro m i X ⟨h1, h2, h3, h4, h5⟩
  ((conv=>whnf);repeat((first|refine Ct ‹_› ?_|refine Cf ‹_› ?_|refine Ct rfl ?_|refine Cf rfl ?_|refine Bi rfl ?_|refine Bz rfl ?_|refine Lr ?_);conv=>whnf))
  refine Cnd_i (fun g => ?_) (fun g => ?_)
  rotate_left
  · have hi := of_decide_eq_false g
    ((conv=>whnf);repeat((first|refine Ct ‹_› ?_|refine Cf ‹_› ?_|refine Ct rfl ?_|refine Cf rfl ?_|refine Bi rfl ?_|refine Bz rfl ?_|refine Lr ?_);conv=>whnf))
    exact ⟨rfl, rfl, X, rfl, h3, fun p q p1 p2 p3 => h4 p q p1 p2 (by omega)⟩
  have hi := of_decide_eq_true g
  ((conv=>whnf);repeat((first|refine Ct ‹_› ?_|refine Cf ‹_› ?_|refine Ct rfl ?_|refine Cf rfl ?_|refine Bi rfl ?_|refine Bz rfl ?_|refine Lr ?_);conv=>whnf))
  refine WLoop_v2 ⟨[0, 1, 2, 3, 8, 9], [], []⟩ (fun (j : Int) (X : List Int) => hdS 53 [(0, .v (.one (.own 1000000 n))), (1, .v (vI a)), (2, .v (vI b)), (3, .v (cmpX 1003000 L.length sz get)), (8, .v (vI i)), (9, .v (vI j))] [] [(1000000, rwIn n X), (1003000, rwI L)])
    (fun m j X => a ≤ j ∧ j ≤ i ∧ (j - a).toNat ≤ m ∧ Mv n a b D X ∧ Srx L X a i j) (i - a).toNat i X rfl ⟨by omega, by omega, by omega, h3, Srx.init h4⟩ ?_
  clear h3 h4 X
  rintro m2 j X ⟨j1, j2, j3, h3, h4⟩
  have hX := h3.pls hD
  have hlX := h3.len
  have out : Srd L X a (i + 1) → ∃ k' x y, keep ⟨[0, 1, 2, 3, 8], [], []⟩ (hdS 53 [(0, .v (.one (.own 1000000 n))), (1, .v (vI a)), (2, .v (vI b)), (3, .v (cmpX 1003000 L.length sz get)), (8, .v (vI (i + 1)))] [] [(1000000, rwIn n X), (1003000, rwI L)]) = some (hdS 53 [(0, .v (.one (.own 1000000 n))), (1, .v (vI a)), (2, .v (vI b)), (3, .v (cmpX 1003000 L.length sz get)), (8, .v (vI x))] [] [(1000000, rwIn n y), (1003000, rwI L)]) ∧ k' < m ∧ a + 1 ≤ x ∧ (b - x).toNat ≤ k' ∧ Mv n a b D y ∧ Srd L y a x ∧ (x ≤ b ∨ x = a + 1) := fun hh =>
    ⟨m - 1, i + 1, X, rfl, by omega, by omega, by omega, h3, hh, .inl (by omega)⟩
  ((conv=>whnf);repeat((first|refine Ct ‹_› ?_|refine Cf ‹_› ?_|refine Ct rfl ?_|refine Cf rfl ?_|refine Bi rfl ?_|refine Bz rfl ?_|refine Lr ?_);conv=>whnf))
  refine Cnd_i (fun g => ?_) (fun g => ?_)
  rotate_left
  · have hj := of_decide_eq_false g
    ((conv=>whnf);repeat((first|refine Ct ‹_› ?_|refine Cf ‹_› ?_|refine Ct rfl ?_|refine Cf rfl ?_|refine Bi rfl ?_|refine Bz rfl ?_|refine Lr ?_);conv=>whnf))
    rw [wrapI (by omega)]
    exact out (h4.fin ⟨j1, j2⟩ (.inl (by omega)))
  have hj := of_decide_eq_true g
  have q1 := hX.at' (i := j) (by omega) (by omega)
  have q2 := hX.at' (i := j - 1) (by omega) (by omega)
  have v1 := hL (el X j)
  have v2 := hL (el X (j - 1))
  ((conv=>whnf);repeat((first|refine Ct ‹_› ?_|refine Cf ‹_› ?_|refine Ct rfl ?_|refine Cf rfl ?_|refine Bi rfl ?_|refine Bz rfl ?_|refine Lr ?_);conv=>whnf))
  refine Bnd_i (⟨by omega, by omega⟩) ?_; ((conv=>whnf);repeat((first|refine Ct ‹_› ?_|refine Cf ‹_› ?_|refine Ct rfl ?_|refine Cf rfl ?_|refine Bi rfl ?_|refine Bz rfl ?_|refine Lr ?_);conv=>whnf))
  rw [wrapI (n := j - 1) (by omega)]
  refine Bnd_i (⟨by omega, by omega⟩) ?_; ((conv=>whnf);repeat((first|refine Ct ‹_› ?_|refine Cf ‹_› ?_|refine Ct rfl ?_|refine Cf rfl ?_|refine Bi rfl ?_|refine Bz rfl ?_|refine Lr ?_);conv=>whnf))
  (refine CallQ_some (F_CC1 L hL (el X j) (el X (j - 1)) q1 q2) ?_ ?_ ?_; rfl; rfl); ((conv=>whnf);repeat((first|refine Ct ‹_› ?_|refine Cf ‹_› ?_|refine Ct rfl ?_|refine Cf rfl ?_|refine Bi rfl ?_|refine Bz rfl ?_|refine Lr ?_);conv=>whnf))
  refine Cnd_i (fun g => ?_) (fun g => ?_)
  rotate_left
  · have hc := of_decide_eq_false g
    ((conv=>whnf);repeat((first|refine Ct ‹_› ?_|refine Cf ‹_› ?_|refine Ct rfl ?_|refine Cf rfl ?_|refine Bi rfl ?_|refine Bz rfl ?_|refine Lr ?_);conv=>whnf))
    rw [wrapI (by omega)]
    exact out (h4.fin ⟨j1, j2⟩ (.inr (by omega)))
  have hc := of_decide_eq_true g
  ((conv=>whnf);repeat((first|refine Ct ‹_› ?_|refine Cf ‹_› ?_|refine Ct rfl ?_|refine Cf rfl ?_|refine Bi rfl ?_|refine Bz rfl ?_|refine Lr ?_);conv=>whnf))
  rw [wrapI (n := j - 1) (by omega)]
  refine Bnd_i (⟨by omega, by omega⟩) ?_; ((conv=>whnf);repeat((first|refine Ct ‹_› ?_|refine Cf ‹_› ?_|refine Ct rfl ?_|refine Cf rfl ?_|refine Bi rfl ?_|refine Bz rfl ?_|refine Lr ?_);conv=>whnf))
  refine Bnd_i (⟨by omega, by omega⟩) ?_; ((conv=>whnf);repeat((first|refine Ct ‹_› ?_|refine Cf ‹_› ?_|refine Ct rfl ?_|refine Cf rfl ?_|refine Bi rfl ?_|refine Bz rfl ?_|refine Lr ?_);conv=>whnf))
  refine Bnd_i (⟨by omega, by omega⟩) ?_; ((conv=>whnf);repeat((first|refine Ct ‹_› ?_|refine Cf ‹_› ?_|refine Ct rfl ?_|refine Cf rfl ?_|refine Bi rfl ?_|refine Bz rfl ?_|refine Lr ?_);conv=>whnf))
  refine Rw_i (rwIn n (X.set j.toNat (X.getD (j - 1).toNat 0))) (rwIn_set _ _ _ _ (by omega)) ?_
  ((conv=>whnf);repeat((first|refine Ct ‹_› ?_|refine Cf ‹_› ?_|refine Ct rfl ?_|refine Cf rfl ?_|refine Bi rfl ?_|refine Bz rfl ?_|refine Lr ?_);conv=>whnf))
  refine Bnd_i (⟨by omega, by omega⟩) ?_; ((conv=>whnf);repeat((first|refine Ct ‹_› ?_|refine Cf ‹_› ?_|refine Ct rfl ?_|refine Cf rfl ?_|refine Bi rfl ?_|refine Bz rfl ?_|refine Lr ?_);conv=>whnf))
  refine Rw_i (rwIn n (swp X j (j - 1))) (rwIn_set _ _ _ _ (by rw [List.length_set]; omega)) ?_
  ((conv=>whnf);repeat((first|refine Ct ‹_› ?_|refine Cf ‹_› ?_|refine Ct rfl ?_|refine Cf rfl ?_|refine Bi rfl ?_|refine Bz rfl ?_|refine Lr ?_);conv=>whnf))
  refine ⟨m2 - 1, j - 1, swp X j (j - 1), ?_, by omega, by omega, by omega, by omega, h3.trans (Mv.swp hlX a0 b0 (by omega) (by omega) (by omega) (by omega)), h4.step a0 (by omega) (by omega) (by omega)⟩
  rw [wrapI (by omega)]; rfl

def swF (D : List Int) (a b c t : Int) : Int := if a ≤ t ∧ t < a + c then el D (t + (b - a)) else if b ≤ t ∧ t < b + c then el D (t - (b - a)) else el D t

theorem swF_step {D X : List Int} {a b i : Int} (h : ∀ t, 0 ≤ t → el X t = swF D a b i t) (a0 : 0 ≤ a) (i0 : 0 ≤ i) (hab : a + i < b) (hb : b + i < X.length) : ∀ t, 0 ≤ t → el (swp X (a + i) (b + i)) t = swF D a b (i + 1) t := by
  intro t t0
  rw [el_swp (by omega) (by omega) (by omega) (by omega) t0]
  have e1 : el X (a + i) = el D (a + i) := by rw [h _ (by omega), swF, if_neg (by omega), if_neg (by omega)]
  have e2 : el X (b + i) = el D (b + i) := by rw [h _ (by omega), swF, if_neg (by omega), if_neg (by omega)]
  split
  · rename_i c1
    rw [e1, swF, if_neg (by omega), if_pos (by omega)]; congr 1; omega
  · split
    · rename_i c1 c2
      rw [e2, swF, if_pos (by omega)]; congr 1; omega
    · rename_i c1 c2
      rw [h t t0]
      unfold swF
      repeat' split
      all_goals first
        | (exfalso; omega)
        | rfl

theorem F_swapRange (n : Nat) (hn : n ≤ 100) (L : List Int) (D : List Int) (hl : D.length = n) (sz : Nat → Nat) (get : Nat → Nat → Cell) (a b c : Int) (a0 : 0 ≤ a) (c0 : 0 ≤ c) (hab : a + c ≤ b) (hb : b + c ≤ n) :
    FunE E0 86 [.one (.own 1000000 n), vI a, vI b, vI c, cmpX 1004000 L.length sz get] [(1000000, rwIn n D), (1004000, rwI L)]
      (fun r o oo => r = .tup [] ∧ o = [] ∧ ∃ D', oo = [(1000000, rwIn n D'), (1004000, rwI L)] ∧ D'.length = n ∧ D'.Perm D ∧ ∀ t, 0 ≤ t → el D' t = swF D a b c t) := by
  refine FunE_of_xc k86 rfl ?_ ?_
  · rintro r o oo ⟨rfl, rfl, D', rfl, _⟩; rfl
  ((conv=>whnf);repeat((first|refine Ct ‹_› ?_|refine Cf ‹_› ?_|refine Ct rfl ?_|refine Cf rfl ?_|refine Bi rfl ?_|refine Bz rfl ?_|refine Lr ?_);conv=>whnf))
  refine WLoop_v2 ⟨[0, 1, 2, 3, 4, 10], [], []⟩ (fun (i : Int) (X : List Int) => hdS 38 [(0, .v (.one (.own 1000000 n))), (1, .v (vI a)), (2, .v (vI b)), (3, .v (vI c)), (4, .v (cmpX 1004000 L.length sz get)), (10, .v (vI i))] [] [(1000000, rwIn n X), (1004000, rwI L)])
    (fun m i X => 0 ≤ i ∧ i + m = c ∧ X.length = n ∧ X.Perm D ∧ ∀ t, 0 ≤ t → el X t = swF D a b i t) c.toNat 0 D rfl ⟨by omega, by omega, hl, List.Perm.refl _, fun t t0 => by rw [swF, if_neg (by omega), if_neg (by omega)]⟩ ?_
  rintro m i X ⟨h1, h2, h3, h4, h5⟩
  ((conv=>whnf);repeat((first|refine Ct ‹_› ?_|refine Cf ‹_› ?_|refine Ct rfl ?_|refine Cf rfl ?_|refine Bi rfl ?_|refine Bz rfl ?_|refine Lr ?_);conv=>whnf))
  refine Cnd_i (fun g => ?_) (fun g => ?_)
  rotate_left
  · have hi := of_decide_eq_false g
    ((conv=>whnf);repeat((first|refine Ct ‹_› ?_|refine Cf ‹_› ?_|refine Ct rfl ?_|refine Cf rfl ?_|refine Bi rfl ?_|refine Bz rfl ?_|refine Lr ?_);conv=>whnf))
    obtain rfl : i = c := by omega
    exact ⟨rfl, rfl, X, rfl, h3, h4, h5⟩
  have hi := of_decide_eq_true g
  ((conv=>whnf);repeat((first|refine Ct ‹_› ?_|refine Cf ‹_› ?_|refine Ct rfl ?_|refine Cf rfl ?_|refine Bi rfl ?_|refine Bz rfl ?_|refine Lr ?_);conv=>whnf))
  rw [wrapI (n := b + i) (by omega)]
  refine Bnd_i (⟨by omega, by omega⟩) ?_; ((conv=>whnf);repeat((first|refine Ct ‹_› ?_|refine Cf ‹_› ?_|refine Ct rfl ?_|refine Cf rfl ?_|refine Bi rfl ?_|refine Bz rfl ?_|refine Lr ?_);conv=>whnf))
  rw [wrapI (n := a + i) (by omega)]
  refine Bnd_i (⟨by omega, by omega⟩) ?_; ((conv=>whnf);repeat((first|refine Ct ‹_› ?_|refine Cf ‹_› ?_|refine Ct rfl ?_|refine Cf rfl ?_|refine Bi rfl ?_|refine Bz rfl ?_|refine Lr ?_);conv=>whnf))
  refine Bnd_i (⟨by omega, by omega⟩) ?_; ((conv=>whnf);repeat((first|refine Ct ‹_› ?_|refine Cf ‹_› ?_|refine Ct rfl ?_|refine Cf rfl ?_|refine Bi rfl ?_|refine Bz rfl ?_|refine Lr ?_);conv=>whnf))
  refine Rw_i (rwIn n (X.set (a + i).toNat (X.getD (b + i).toNat 0))) (rwIn_set _ _ _ _ (by omega)) ?_
  ((conv=>whnf);repeat((first|refine Ct ‹_› ?_|refine Cf ‹_› ?_|refine Ct rfl ?_|refine Cf rfl ?_|refine Bi rfl ?_|refine Bz rfl ?_|refine Lr ?_);conv=>whnf))
  refine Bnd_i (⟨by omega, by omega⟩) ?_; ((conv=>whnf);repeat((first|refine Ct ‹_› ?_|refine Cf ‹_› ?_|refine Ct rfl ?_|refine Cf rfl ?_|refine Bi rfl ?_|refine Bz rfl ?_|refine Lr ?_);conv=>whnf))
  refine Rw_i (rwIn n (swp X (a + i) (b + i))) (rwIn_set _ _ _ _ (by rw [List.length_set]; omega)) ?_
  ((conv=>whnf);repeat((first|refine Ct ‹_› ?_|refine Cf ‹_› ?_|refine Ct rfl ?_|refine Cf rfl ?_|refine Bi rfl ?_|refine Bz rfl ?_|refine Lr ?_);conv=>whnf))
  refine ⟨m - 1, i + 1, swp X (a + i) (b + i), ?_, by omega, by omega, by omega, by rw [swp_len, h3], (swp_perm (by omega) (by omega) (by omega) (by omega)).trans h4, swF_step h5 a0 h1 (by omega) (by omega)⟩
  rw [wrapI (by omega)]; rfl

def rotF (D : List Int) (lo i j t : Int) : Int := if t < lo then el D t else if t < lo + j then el D (t + i) else if t < lo + i + j then el D (t - j) else el D t

theorem rotF_gt {D X : List Int} {m i j : Int} (h : ∀ t, 0 ≤ t → el X t = swF D (m - i) m j t) (hm : 0 ≤ m - i) (j0 : 0 < j) (hij : j < i) : ∀ t, 0 ≤ t → rotF X (m - (i - j)) (i - j) j t = rotF D (m - i) i j t := by
  intro t t0
  unfold rotF
  repeat' split
  all_goals first
    | (exfalso; omega)
    | (rw [h _ (by omega)]; unfold swF; repeat' split)
  all_goals first
    | (exfalso; omega)
    | rfl
    | (congr 1; omega)

theorem rotF_lt {D X : List Int} {m i j : Int} (h : ∀ t, 0 ≤ t → el X t = swF D (m - i) (m + j - i) i t) (hm : 0 ≤ m - i) (i0 : 0 < i) (hij : i < j) : ∀ t, 0 ≤ t → rotF X (m - i) i (j - i) t = rotF D (m - i) i j t := by
  intro t t0
  unfold rotF
  repeat' split
  all_goals first
    | (exfalso; omega)
    | (rw [h _ (by omega)]; unfold swF; repeat' split)
  all_goals first
    | (exfalso; omega)
    | rfl
    | (congr 1; omega)

theorem rotF_eq {D X : List Int} {m i : Int} (h : ∀ t, 0 ≤ t → el X t = swF D (m - i) m i t) (hm : 0 ≤ m - i) (i0 : 0 < i) : ∀ t, 0 ≤ t → el X t = rotF D (m - i) i i t := by
  intro t t0
  unfold rotF
  repeat' split
  all_goals first
    | (exfalso; omega)
    | (rw [h _ (by omega)]; unfold swF; repeat' split)
  all_goals first
    | (exfalso; omega)
    | rfl
    | (congr 1; omega)

theorem rwIn_no (n : Nat) (l : List Int) : NoRo (rwIn n l) := fun _ _ _ _ => rfl

theorem Mv.rot {n : Nat} {a m b : Int} {D D' : List Int} (hl : D'.length = n) (hp : D'.Perm D) (a0 : 0 ≤ a) (am : a ≤ m) (mb : m ≤ b) (h : ∀ t, 0 ≤ t → el D' t = rotF D a (m - a) (b - m) t) : Mv n a b D D' := by
  refine ⟨hl, hp, fun t t0 ht => ?_, fun t h1 h2 => ?_⟩
  · rw [h t t0]
    unfold rotF
    repeat' split
    all_goals first
      | (exfalso; omega)
      | rfl
  · by_cases c : t < a + (b - m)
    · exact ⟨t + (m - a), by omega, by omega, by rw [h t (by omega), rotF, if_neg (by omega), if_pos c]⟩
    · exact ⟨t - (b - m), by omega, by omega, by rw [h t (by omega), rotF, if_neg (by omega), if_neg c, if_pos (by omega)]⟩

theorem F_rotate (n : Nat) (hn : n ≤ 100) (L : List Int) (D : List Int) (hl : D.length = n) (sz : Nat → Nat) (get : Nat → Nat → Cell) (a m b : Int) (a0 : 0 ≤ a) (am : a < m) (mb : m < b) (b0 : b ≤ n) :
    FunE E0 77 [.one (.own 1000000 n), vI a, vI m, vI b, cmpX 1004000 L.length sz get] [(1000000, rwIn n D), (1004000, rwI L)]
      (fun r o oo => r = .tup [] ∧ o = [] ∧ ∃ D', oo = [(1000000, rwIn n D'), (1004000, rwI L)] ∧ Mv n a b D D' ∧ ∀ t, 0 ≤ t → el D' t = rotF D a (m - a) (b - m) t) := by
  refine FunE_of_xc k77 rfl ?_ ?_
  · rintro r o oo ⟨rfl, rfl, D', rfl, _⟩; rfl
  ((conv=>whnf);repeat((first|refine Ct ‹_› ?_|refine Cf ‹_› ?_|refine Ct rfl ?_|refine Cf rfl ?_|refine Bi rfl ?_|refine Bz rfl ?_|refine Lr ?_);conv=>whnf))
  rw [wrapI (n := m - a) (by omega), wrapI (n := b - m) (by omega)]
  refine WLoop_v3 ⟨[0, 2, 4, 10, 11], [], []⟩ (fun (i j : Int) (X : List Int) => hdS 58 [(0, .v (.one (.own 1000000 n))), (2, .v (vI m)), (4, .v (cmpX 1004000 L.length sz get)), (10, .v (vI i)), (11, .v (vI j))] [] [(1000000, rwIn n X), (1004000, rwI L)])
    (fun q i j X => 0 < i ∧ 0 < j ∧ i ≤ m - a ∧ j ≤ b - m ∧ i + j ≤ q ∧ X.length = n ∧ X.Perm D ∧ ∀ t, 0 ≤ t → rotF X (m - i) i j t = rotF D a (m - a) (b - m) t) (b - a).toNat (m - a) (b - m) D rfl ⟨by omega, by omega, by omega, by omega, by omega, hl, List.Perm.refl _, fun t t0 => by rw [show m - (m - a) = a by omega]⟩ ?_
  rintro q i j X ⟨i0, j0, i1, j1, hq, hX, hP, hr⟩
  ((conv=>whnf);repeat((first|refine Ct ‹_› ?_|refine Cf ‹_› ?_|refine Ct rfl ?_|refine Cf rfl ?_|refine Bi rfl ?_|refine Bz rfl ?_|refine Lr ?_);conv=>whnf))
  refine Cnd_i (fun g => ?_) (fun g => ?_)
  rotate_left
  · have hij : i = j := by simpa using g
    subst hij
    ((conv=>whnf);repeat((first|refine Ct ‹_› ?_|refine Cf ‹_› ?_|refine Ct rfl ?_|refine Cf rfl ?_|refine Bi rfl ?_|refine Bz rfl ?_|refine Lr ?_);conv=>whnf))
    rw [wrapI (n := m - i) (by omega)]
    refine CallRX_e (F_swapRange n hn L X hX sz get (m - i) m i (by omega) (by omega) (by omega) (by omega)) ?_
    rintro _ _ _ ⟨rfl, rfl, D', rfl, d1, d2, d3⟩
    refine ⟨⟨rwIn_no _ _, rwI_no _, trivial⟩, ⟨rfl, rfl, rfl, rfl, rfl, rfl, rfl, rfl, trivial⟩, rfl, rfl, ?_⟩
    conv => whnf
    refine ⟨rfl, ?_⟩
    ((conv=>whnf);repeat((first|refine Ct ‹_› ?_|refine Cf ‹_› ?_|refine Ct rfl ?_|refine Cf rfl ?_|refine Bi rfl ?_|refine Bz rfl ?_|refine Lr ?_);conv=>whnf))
    refine ⟨rfl, rfl, D', rfl, ?_⟩
    have hD : ∀ t, 0 ≤ t → el D' t = rotF D a (m - a) (b - m) t := fun t t0 => (rotF_eq d3 (by omega) i0 t t0).trans (hr t t0)
    exact ⟨Mv.rot d1 (d2.trans hP) a0 (by omega) (by omega) hD, hD⟩
  have hij : ¬ i = j := by simpa using g
  ((conv=>whnf);repeat((first|refine Ct ‹_› ?_|refine Cf ‹_› ?_|refine Ct rfl ?_|refine Cf rfl ?_|refine Bi rfl ?_|refine Bz rfl ?_|refine Lr ?_);conv=>whnf))
  refine Cnd_i (fun g => ?_) (fun g => ?_)
  · have hc := of_decide_eq_true g
    ((conv=>whnf);repeat((first|refine Ct ‹_› ?_|refine Cf ‹_› ?_|refine Ct rfl ?_|refine Cf rfl ?_|refine Bi rfl ?_|refine Bz rfl ?_|refine Lr ?_);conv=>whnf))
    rw [wrapI (n := m - i) (by omega)]
    refine CallRX_e (F_swapRange n hn L X hX sz get (m - i) m j (by omega) (by omega) (by omega) (by omega)) ?_
    rintro _ _ _ ⟨rfl, rfl, D', rfl, d1, d2, d3⟩
    refine ⟨⟨rwIn_no _ _, rwI_no _, trivial⟩, ⟨rfl, rfl, rfl, rfl, rfl, rfl, rfl, rfl, trivial⟩, rfl, rfl, ?_⟩
    conv => whnf
    refine ⟨rfl, ?_⟩
    ((conv=>whnf);repeat((first|refine Ct ‹_› ?_|refine Cf ‹_› ?_|refine Ct rfl ?_|refine Cf rfl ?_|refine Bi rfl ?_|refine Bz rfl ?_|refine Lr ?_);conv=>whnf))
    rw [wrapI (n := i - j) (by omega)]
    exact ⟨q - 1, i - j, j, D', rfl, by omega, by omega, by omega, by omega, by omega, by omega, d1, d2.trans hP, fun t t0 => (rotF_gt d3 (by omega) j0 (by omega) t t0).trans (hr t t0)⟩
  · have hc := of_decide_eq_false g
    ((conv=>whnf);repeat((first|refine Ct ‹_› ?_|refine Cf ‹_› ?_|refine Ct rfl ?_|refine Cf rfl ?_|refine Bi rfl ?_|refine Bz rfl ?_|refine Lr ?_);conv=>whnf))
    rw [wrapI (n := m - i) (by omega), wrapI (n := m + j) (by omega), wrapI (n := m + j - i) (by omega)]
    refine CallRX_e (F_swapRange n hn L X hX sz get (m - i) (m + j - i) i (by omega) (by omega) (by omega) (by omega)) ?_
    rintro _ _ _ ⟨rfl, rfl, D', rfl, d1, d2, d3⟩
    refine ⟨⟨rwIn_no _ _, rwI_no _, trivial⟩, ⟨rfl, rfl, rfl, rfl, rfl, rfl, rfl, rfl, trivial⟩, rfl, rfl, ?_⟩
    conv => whnf
    refine ⟨rfl, ?_⟩
    ((conv=>whnf);repeat((first|refine Ct ‹_› ?_|refine Cf ‹_› ?_|refine Ct rfl ?_|refine Cf rfl ?_|refine Bi rfl ?_|refine Bz rfl ?_|refine Lr ?_);conv=>whnf))
    rw [wrapI (n := j - i) (by omega)]
    exact ⟨q - 1, i, j - i, D', rfl, by omega, by omega, by omega, by omega, by omega, by omega, d1, d2.trans hP, fun t t0 => (rotF_lt d3 (by omega) i0 (by omega) t t0).trans (hr t t0)⟩

theorem half_eq {i j : Int} (h0 : 0 ≤ i + j) (h1 : i + j ≤ 1000) : IntKind.i64.wrap (IntKind.u64.wrap (IntKind.i64.wrap (i + j)) / 2) = (i + j) / 2 := by
  have e1 : IntKind.i64.wrap (i + j) = i + j := wrapI (by omega)
  have e2 : IntKind.u64.wrap (i + j) = i + j := by
    unfold IntKind.wrap
    simp [IntKind.signed, IntKind.bits]
    omega
  rw [e1, e2, wrapI (by omega)]

/-! ### one element is let in from below, from above -/
def shU (D : List Int) (a k t : Int) : Int := if a ≤ t ∧ t < k then el D (t + 1) else if t = k then el D a else el D t

theorem shU_step {D X : List Int} {a k : Int} (h : ∀ t, 0 ≤ t → el X t = shU D a k t) (a0 : 0 ≤ a) (ak : a ≤ k) (hk : k + 1 < X.length) : ∀ t, 0 ≤ t → el (swp X k (k + 1)) t = shU D a (k + 1) t := by
  intro t t0
  rw [el_swp (by omega) (by omega) (by omega) (by omega) t0, h k (by omega), h (k + 1) (by omega), h t t0]
  unfold shU
  repeat' split
  all_goals first
    | (exfalso; omega)
    | rfl
    | (congr 1; omega)

theorem shU_srd {L D X : List Int} {a i b : Int} (h : ∀ t, 0 ≤ t → el X t = shU D a (i - 1) t) (a0 : 0 ≤ a) (ai : a + 1 ≤ i) (ib : i ≤ b) (hs : Srd L D (a + 1) b)
    (h1 : ∀ c, a + 1 ≤ c → c < i → el L (el D c) < el L (el D a)) (h2 : ∀ c, i ≤ c → c < b → el L (el D a) ≤ el L (el D c)) : Srd L X a b := by
  intro p q p0 pq qb
  rw [h p (by omega), h q (by omega)]
  unfold shU
  repeat' split
  all_goals first
    | (exfalso; omega)
    | exact Int.le_refl _
    | exact hs _ _ (by omega) (by omega) (by omega)
    | exact Int.le_of_lt (h1 _ (by omega) (by omega))
    | exact h2 _ (by omega) (by omega)

def shD (D : List Int) (m k t : Int) : Int := if t = k then el D m else if k < t ∧ t ≤ m then el D (t - 1) else el D t

theorem shD_step {D X : List Int} {m k : Int} (h : ∀ t, 0 ≤ t → el X t = shD D m k t) (k0 : 0 < k) (mk : k ≤ m) (hk : m < X.length) : ∀ t, 0 ≤ t → el (swp X k (k - 1)) t = shD D m (k - 1) t := by
  intro t t0
  rw [el_swp (by omega) (by omega) (by omega) (by omega) t0, h k (by omega), h (k - 1) (by omega), h t t0]
  unfold shD
  repeat' split
  all_goals first
    | (exfalso; omega)
    | rfl
    | (congr 1; omega)

theorem shD_srd {L D X : List Int} {a m i : Int} (h : ∀ t, 0 ≤ t → el X t = shD D m i t) (a0 : 0 ≤ a) (ai : a ≤ i) (im : i ≤ m) (hs : Srd L D a m)
    (h1 : ∀ c, a ≤ c → c < i → el L (el D c) ≤ el L (el D m)) (h2 : ∀ c, i ≤ c → c < m → el L (el D m) < el L (el D c)) : Srd L X a (m + 1) := by
  intro p q p0 pq qb
  rw [h p (by omega), h q (by omega)]
  unfold shD
  repeat' split
  all_goals first
    | (exfalso; omega)
    | exact Int.le_refl _
    | exact hs _ _ (by omega) (by omega) (by omega)
    | exact h1 _ (by omega) (by omega)
    | exact Int.le_of_lt (h2 _ (by omega) (by omega))

/-! ### the two halves -/
/-- four stretches in order, the first two below the last two -/
structure Spl (L X : List Int) (a s m e b : Int) : Prop where
  r : a ≤ s ∧ s ≤ m ∧ m ≤ e ∧ e ≤ b ∧ 0 ≤ a
  s1 : Srd L X a s
  s2 : Srd L X s m
  s3 : Srd L X m e
  s4 : Srd L X e b
  x : ∀ x y, a ≤ x → x < m → m ≤ y → y < b → el L (el X x) ≤ el L (el X y)

/-- the search for the cut -/
structure Cut (L D : List Int) (a m b mid s r : Int) : Prop where
  b1 : a ≤ s ∧ mid + m - b ≤ s ∧ s ≤ r ∧ r ≤ m ∧ r ≤ mid
  i1 : ∀ x y, a ≤ x → x < s → mid + m - s ≤ y → y < b → el L (el D x) ≤ el L (el D y)
  i2 : ∀ x y, r ≤ x → x < m → m ≤ y → y < mid + m - r → el L (el D y) ≤ el L (el D x)

theorem Cut.up {L D : List Int} {a m b mid s r c : Int} (h : Cut L D a m b mid s r) (h1 : Srd L D a m) (h2 : Srd L D m b) (hc : s ≤ c ∧ c < r) (hk : el L (el D c) ≤ el L (el D (mid + m - 1 - c))) : Cut L D a m b mid (c + 1) r := by
  have := h.b1
  refine ⟨by omega, fun x y x0 x1 y0 y1 => ?_, h.i2⟩
  have a1 := h1 x c x0 (by omega) (by omega)
  have a2 := h2 (mid + m - 1 - c) y (by omega) (by omega) y1
  omega

theorem Cut.down {L D : List Int} {a m b mid s r c : Int} (h : Cut L D a m b mid s r) (h1 : Srd L D a m) (h2 : Srd L D m b) (hc : s ≤ c ∧ c < r) (hk : el L (el D (mid + m - 1 - c)) < el L (el D c)) : Cut L D a m b mid s c := by
  have := h.b1
  refine ⟨by omega, h.i1, fun x y x0 x1 y0 y1 => ?_⟩
  have a1 := h1 c x (by omega) (by omega) (by omega)
  have a2 := h2 y (mid + m - 1 - c) (by omega) (by omega) (by omega)
  omega

theorem Spl.of_no {L D : List Int} {a m b mid s : Int} (h : Cut L D a m b mid s s) (a0 : 0 ≤ a) (h1 : Srd L D a m) (h2 : Srd L D m b) (hm : a ≤ m ∧ m ≤ b) (hmid : a ≤ mid ∧ mid ≤ b) (hn : s = m ∨ mid + m - s = m) : Spl L D a s mid (mid + m - s) b := by
  have hb := h.b1
  refine ⟨by omega, fun p q p0 p1 p2 => h1 p q p0 p1 (by omega), fun p q p0 p1 p2 => ?_, fun p q p0 p1 p2 => ?_, fun p q p0 p1 p2 => h2 p q (by omega) p1 p2, fun x y x0 x1 y0 y1 => ?_⟩
  · rcases hn with e | e
    · exact h2 p q (by omega) p1 (by omega)
    · omega
  · rcases hn with e | e
    · omega
    · exact h1 p q (by omega) p1 (by omega)
  · rcases hn with e | e
    · by_cases c : x < m
      · exact h.i1 x y x0 (by omega) (by omega) y1
      · exact h2 x y (by omega) (by omega) y1
    · by_cases c : y < m
      · exact h1 x y x0 (by omega) c
      · exact h.i1 x y x0 (by omega) (by omega) y1

theorem Spl.of_rot {L D X : List Int} {a m b mid s : Int} (h : Cut L D a m b mid s s) (a0 : 0 ≤ a) (h1 : Srd L D a m) (h2 : Srd L D m b) (hm : a ≤ m ∧ m ≤ b) (hX : ∀ t, 0 ≤ t → el X t = rotF D s (m - s) (mid + m - s - m) t) : Spl L X a s mid (mid + m - s) b := by
  have hb := h.b1
  have e1 : ∀ t, a ≤ t → t < s → el X t = el D t := fun t t0 t1 => by rw [hX t (by omega), rotF, if_pos t1]
  have e2 : ∀ t, s ≤ t → t < mid → el X t = el D (t + (m - s)) := fun t t0 t1 => by rw [hX t (by omega), rotF, if_neg (by omega), if_pos (by omega)]
  have e3 : ∀ t, mid ≤ t → t < mid + m - s → el X t = el D (t - (mid - s)) := fun t t0 t1 => by rw [hX t (by omega), rotF, if_neg (by omega), if_neg (by omega), if_pos (by omega)]; congr 1; omega
  have e4 : ∀ t, mid + m - s ≤ t → el X t = el D t := fun t t0 => by rw [hX t (by omega), rotF, if_neg (by omega), if_neg (by omega), if_neg (by omega)]
  refine ⟨by omega, fun p q p0 p1 p2 => ?_, fun p q p0 p1 p2 => ?_, fun p q p0 p1 p2 => ?_, fun p q p0 p1 p2 => ?_, fun x y x0 x1 y0 y1 => ?_⟩
  · rw [e1 p p0 (by omega), e1 q (by omega) p2]; exact h1 p q p0 p1 (by omega)
  · rw [e2 p p0 (by omega), e2 q (by omega) p2]; exact h2 _ _ (by omega) (by omega) (by omega)
  · rw [e3 p p0 (by omega), e3 q (by omega) p2]; exact h1 _ _ (by omega) (by omega) (by omega)
  · rw [e4 p p0, e4 q (by omega)]; exact h2 p q (by omega) p1 p2
  · by_cases c1 : x < s
    · rw [e1 x x0 c1]
      by_cases c2 : y < mid + m - s
      · rw [e3 y y0 c2]; exact h1 _ _ x0 (by omega) (by omega)
      · rw [e4 y (by omega)]; exact h.i1 x y x0 c1 (by omega) y1
    · rw [e2 x (by omega) x1]
      by_cases c2 : y < mid + m - s
      · rw [e3 y y0 c2]; exact h.i2 _ _ (by omega) (by omega) (by omega) (by omega)
      · rw [e4 y (by omega)]; exact h2 _ _ (by omega) (by omega) y1

theorem Spl.left {L X : List Int} {a s m e b : Int} (h : Spl L X a s m e b) (hn : ¬ (a < s ∧ s < m)) : Srd L X a m := by
  have := h.r
  by_cases c : s = a
  · rw [← c]; exact h.s2
  · have : s = m := by omega
    rw [← this]; exact h.s1

theorem Mv.srd {n : Nat} {L X X' : List Int} {a b c d : Int} (h : Mv n a b X X') (hs : Srd L X c d) (hd : d ≤ a ∨ b ≤ c) (c0 : 0 ≤ c) : Srd L X' c d := by
  intro p q p0 p1 p2
  rw [h.out p (by omega) (by omega), h.out q (by omega) (by omega)]
  exact hs p q p0 p1 p2

theorem Spl.right {n : Nat} {L X X1 : List Int} {a s m e b : Int} (h : Spl L X a s m e b) (h1 : Mv n a m X X1) (hn : ¬ (m < e ∧ e < b)) : Srd L X1 m b := by
  have := h.r
  by_cases c : e = m
  · rw [← c]; exact h1.srd h.s4 (.inr (by omega)) (by omega)
  · have : e = b := by omega
    rw [← this]; exact h1.srd h.s3 (.inr (by omega)) (by omega)

theorem Spl.fin {n : Nat} {L X X1 X2 : List Int} {a s m e b : Int} (h : Spl L X a s m e b) (h1 : Mv n a m X X1) (s1 : Srd L X1 a m) (h2 : Mv n m b X1 X2) (s2 : Srd L X2 m b) : Srd L X2 a b := by
  have hr := h.r
  intro p q p0 p1 p2
  by_cases c1 : q < m
  · rw [h2.out p (by omega) (by omega), h2.out q (by omega) (by omega)]
    exact s1 p q p0 p1 c1
  · by_cases c2 : m ≤ p
    · exact s2 p q c2 p1 p2
    · rw [h2.out p (by omega) (by omega)]
      obtain ⟨x, x0, x1, ex⟩ := h1.sub p p0 (by omega)
      obtain ⟨y, y0, y1, ey⟩ := h2.sub q (by omega) p2
      rw [ex, ey, h1.out y (by omega) (by omega)]
      exact h.x x y x0 x1 y0 y1

theorem F_symMerge (n : Nat) (hn : n ≤ 100) (L : List Int) (hL : SmN L) (sz : Nat → Nat) (get : Nat → Nat → Cell) : ∀ (N : Nat) (D : List Int) (hD : Pls L D) (hl : D.length = n) (a m b : Int) (hN : (b - a).toNat ≤ N) (a0 : 0 ≤ a) (am : a < m) (mb : m < b) (b0 : b ≤ n)
    (h1 : Srd L D a m) (h2 : Srd L D m b),
    FunE E0 69 [.one (.own 1000000 n), vI a, vI m, vI b, cmpX 1004000 L.length sz get] [(1000000, rwIn n D), (1004000, rwI L)]
      (fun r o oo => r = .tup [] ∧ o = [] ∧ ∃ D', oo = [(1000000, rwIn n D'), (1004000, rwI L)] ∧ Mv n a b D D' ∧ Srd L D' a b) := by
  intro N
  induction N
  case zero => intro D hD hl a m b hN a0 am mb; omega
  rename_i N IH
  intro D hD hl a m b hN a0 am mb b0 h1 h2
  refine FunE_of_xc k69 rfl ?_ ?_
  · rintro r o oo ⟨rfl, rfl, D', rfl, _⟩; rfl
  have qD := fun (i : Int) (i0 : 0 ≤ i) (i1 : i < n) => hD.at' (i := i) i0 (by omega)
  ((conv=>whnf);repeat((first|refine Ct ‹_› ?_|refine Cf ‹_› ?_|refine Ct rfl ?_|refine Cf rfl ?_|refine Bi rfl ?_|refine Bz rfl ?_|refine Lr ?_);conv=>whnf))
  rw [wrapI (n := m - a) (by omega)]
  refine Cnd_i (fun g => ?_) (fun g => ?_)
  · have e : m - a = 1 := by simpa using g
    obtain rfl : m = a + 1 := by omega
    ((conv=>whnf);repeat((first|refine Ct ‹_› ?_|refine Cf ‹_› ?_|refine Ct rfl ?_|refine Cf rfl ?_|refine Bi rfl ?_|refine Bz rfl ?_|refine Lr ?_);conv=>whnf))
    refine WLoop_v2 ⟨[0, 1, 4, 10, 11], [], []⟩ (fun (i j : Int) => hdS 220 [(0, .v (.one (.own 1000000 n))), (1, .v (vI a)), (4, .v (cmpX 1004000 L.length sz get)), (10, .v (vI i)), (11, .v (vI j))] [] [(1000000, rwIn n D), (1004000, rwI L)])
      (fun q i j => a + 1 ≤ i ∧ i ≤ j ∧ j ≤ b ∧ (j - i).toNat ≤ q ∧ (∀ c, a + 1 ≤ c → c < i → el L (el D c) < el L (el D a)) ∧ ∀ c, j ≤ c → c < b → el L (el D a) ≤ el L (el D c)) (b - (a + 1)).toNat (a + 1) b rfl ⟨by omega, by omega, by omega, by omega, fun c c0 c1 => by omega, fun c c0 c1 => by omega⟩ ?_
    rintro q i j ⟨i1, ij, jb, hq, p1, p2⟩
    ((conv=>whnf);repeat((first|refine Ct ‹_› ?_|refine Cf ‹_› ?_|refine Ct rfl ?_|refine Cf rfl ?_|refine Bi rfl ?_|refine Bz rfl ?_|refine Lr ?_);conv=>whnf))
    refine Cnd_i (fun g => ?_) (fun g => ?_)
    · have hij := of_decide_eq_true g
      ((conv=>whnf);repeat((first|refine Ct ‹_› ?_|refine Cf ‹_› ?_|refine Ct rfl ?_|refine Cf rfl ?_|refine Bi rfl ?_|refine Bz rfl ?_|refine Lr ?_);conv=>whnf))
      rw [half_eq (by omega) (by omega)]
      generalize hc : (i + j) / 2 = c
      refine Bnd_i (⟨by omega, by omega⟩) ?_; ((conv=>whnf);repeat((first|refine Ct ‹_› ?_|refine Cf ‹_› ?_|refine Ct rfl ?_|refine Cf rfl ?_|refine Bi rfl ?_|refine Bz rfl ?_|refine Lr ?_);conv=>whnf))
      refine Bnd_i (⟨by omega, by omega⟩) ?_; ((conv=>whnf);repeat((first|refine Ct ‹_› ?_|refine Cf ‹_› ?_|refine Ct rfl ?_|refine Cf rfl ?_|refine Bi rfl ?_|refine Bz rfl ?_|refine Lr ?_);conv=>whnf))
      have v1 := hL (el D c)
      have v2 := hL (el D a)
      (refine CallQ_some (F_CC1 L hL (el D c) (el D a) (qD c (by omega) (by omega)) (qD a (by omega) (by omega))) ?_ ?_ ?_; rfl; rfl); ((conv=>whnf);repeat((first|refine Ct ‹_› ?_|refine Cf ‹_› ?_|refine Ct rfl ?_|refine Cf rfl ?_|refine Bi rfl ?_|refine Bz rfl ?_|refine Lr ?_);conv=>whnf))
      refine Cnd_i (fun g => ?_) (fun g => ?_)
      · have hk := of_decide_eq_true g
        ((conv=>whnf);repeat((first|refine Ct ‹_› ?_|refine Cf ‹_› ?_|refine Ct rfl ?_|refine Cf rfl ?_|refine Bi rfl ?_|refine Bz rfl ?_|refine Lr ?_);conv=>whnf))
        rw [wrapI (n := c + 1) (by omega)]
        refine ⟨q - 1, c + 1, j, rfl, by omega, by omega, by omega, by omega, by omega, fun d d0 d1 => ?_, p2⟩
        have := h2 d c (by omega) (by omega) (by omega)
        omega
      · have hk := of_decide_eq_false g
        ((conv=>whnf);repeat((first|refine Ct ‹_› ?_|refine Cf ‹_› ?_|refine Ct rfl ?_|refine Cf rfl ?_|refine Bi rfl ?_|refine Bz rfl ?_|refine Lr ?_);conv=>whnf))
        refine ⟨q - 1, i, c, rfl, by omega, by omega, by omega, by omega, by omega, p1, fun d d0 d1 => ?_⟩
        have := h2 c d (by omega) (by omega) (by omega)
        omega
    · have hij := of_decide_eq_false g
      obtain rfl : j = i := by omega
      ((conv=>whnf);repeat((first|refine Ct ‹_› ?_|refine Cf ‹_› ?_|refine Ct rfl ?_|refine Cf rfl ?_|refine Bi rfl ?_|refine Bz rfl ?_|refine Lr ?_);conv=>whnf))
      refine WLoop_v2 ⟨[0, 4, 10, 13], [], []⟩ (fun (k : Int) (X : List Int) => hdS 220 [(0, .v (.one (.own 1000000 n))), (4, .v (cmpX 1004000 L.length sz get)), (10, .v (vI j)), (13, .v (vI k))] [] [(1000000, rwIn n X), (1004000, rwI L)])
        (fun q k X => a ≤ k ∧ k ≤ j - 1 ∧ k + q = j - 1 ∧ Mv n a b D X ∧ ∀ t, 0 ≤ t → el X t = shU D a k t) (j - 1 - a).toNat a D rfl ⟨by omega, by omega, by omega, .refl hl, fun t t0 => by
          unfold shU
          repeat' split
          all_goals first
            | (exfalso; omega)
            | (congr 1 <;> omega)⟩ ?_
      rintro q k X ⟨k0, k1, hq, hM, hX⟩
      have hlX := hM.len
      ((conv=>whnf);repeat((first|refine Ct ‹_› ?_|refine Cf ‹_› ?_|refine Ct rfl ?_|refine Cf rfl ?_|refine Bi rfl ?_|refine Bz rfl ?_|refine Lr ?_);conv=>whnf))
      rw [wrapI (n := j - 1) (by omega)]
      refine Cnd_i (fun g => ?_) (fun g => ?_)
      · have hk := of_decide_eq_true g
        ((conv=>whnf);repeat((first|refine Ct ‹_› ?_|refine Cf ‹_› ?_|refine Ct rfl ?_|refine Cf rfl ?_|refine Bi rfl ?_|refine Bz rfl ?_|refine Lr ?_);conv=>whnf))
        rw [wrapI (n := k + 1) (by omega)]
        refine Bnd_i (⟨by omega, by omega⟩) ?_; ((conv=>whnf);repeat((first|refine Ct ‹_› ?_|refine Cf ‹_› ?_|refine Ct rfl ?_|refine Cf rfl ?_|refine Bi rfl ?_|refine Bz rfl ?_|refine Lr ?_);conv=>whnf))
        refine Bnd_i (⟨by omega, by omega⟩) ?_; ((conv=>whnf);repeat((first|refine Ct ‹_› ?_|refine Cf ‹_› ?_|refine Ct rfl ?_|refine Cf rfl ?_|refine Bi rfl ?_|refine Bz rfl ?_|refine Lr ?_);conv=>whnf))
        refine Bnd_i (⟨by omega, by omega⟩) ?_; ((conv=>whnf);repeat((first|refine Ct ‹_› ?_|refine Cf ‹_› ?_|refine Ct rfl ?_|refine Cf rfl ?_|refine Bi rfl ?_|refine Bz rfl ?_|refine Lr ?_);conv=>whnf))
        refine Rw_i (rwIn n (X.set k.toNat (X.getD (k + 1).toNat 0))) (rwIn_set _ _ _ _ (by omega)) ?_
        ((conv=>whnf);repeat((first|refine Ct ‹_› ?_|refine Cf ‹_› ?_|refine Ct rfl ?_|refine Cf rfl ?_|refine Bi rfl ?_|refine Bz rfl ?_|refine Lr ?_);conv=>whnf))
        refine Bnd_i (⟨by omega, by omega⟩) ?_; ((conv=>whnf);repeat((first|refine Ct ‹_› ?_|refine Cf ‹_› ?_|refine Ct rfl ?_|refine Cf rfl ?_|refine Bi rfl ?_|refine Bz rfl ?_|refine Lr ?_);conv=>whnf))
        refine Rw_i (rwIn n (swp X k (k + 1))) (rwIn_set _ _ _ _ (by rw [List.length_set]; omega)) ?_
        ((conv=>whnf);repeat((first|refine Ct ‹_› ?_|refine Cf ‹_› ?_|refine Ct rfl ?_|refine Cf rfl ?_|refine Bi rfl ?_|refine Bz rfl ?_|refine Lr ?_);conv=>whnf))
        refine ⟨q - 1, k + 1, swp X k (k + 1), ?_, by omega, by omega, by omega, by omega, hM.trans (Mv.swp hlX a0 b0 (by omega) (by omega) (by omega) (by omega)), shU_step hX a0 k0 (by omega)⟩
        rw [wrapI (by omega)]; rfl
      · have hk := of_decide_eq_false g
        obtain rfl : k = j - 1 := by omega
        ((conv=>whnf);repeat((first|refine Ct ‹_› ?_|refine Cf ‹_› ?_|refine Ct rfl ?_|refine Cf rfl ?_|refine Bi rfl ?_|refine Bz rfl ?_|refine Lr ?_);conv=>whnf))
        exact ⟨rfl, rfl, X, rfl, hM, shU_srd hX a0 (by omega) (by omega) h2 p1 p2⟩
  have e1 : ¬ m - a = 1 := by simpa using g
  ((conv=>whnf);repeat((first|refine Ct ‹_› ?_|refine Cf ‹_› ?_|refine Ct rfl ?_|refine Cf rfl ?_|refine Bi rfl ?_|refine Bz rfl ?_|refine Lr ?_);conv=>whnf))
  rw [wrapI (n := b - m) (by omega)]
  refine Cnd_i (fun g => ?_) (fun g => ?_)
  · have e : b - m = 1 := by simpa using g
    obtain rfl : b = m + 1 := by omega
    ((conv=>whnf);repeat((first|refine Ct ‹_› ?_|refine Cf ‹_› ?_|refine Ct rfl ?_|refine Cf rfl ?_|refine Bi rfl ?_|refine Bz rfl ?_|refine Lr ?_);conv=>whnf))
    refine WLoop_v2 ⟨[0, 2, 4, 14, 15], [], []⟩ (fun (i j : Int) => hdS 220 [(0, .v (.one (.own 1000000 n))), (2, .v (vI m)), (4, .v (cmpX 1004000 L.length sz get)), (14, .v (vI i)), (15, .v (vI j))] [] [(1000000, rwIn n D), (1004000, rwI L)])
      (fun q i j => a ≤ i ∧ i ≤ j ∧ j ≤ m ∧ (j - i).toNat ≤ q ∧ (∀ c, a ≤ c → c < i → el L (el D c) ≤ el L (el D m)) ∧ ∀ c, j ≤ c → c < m → el L (el D m) < el L (el D c)) (m - a).toNat a m rfl ⟨by omega, by omega, by omega, by omega, fun c c0 c1 => by omega, fun c c0 c1 => by omega⟩ ?_
    rintro q i j ⟨i1, ij, jb, hq, p1, p2⟩
    ((conv=>whnf);repeat((first|refine Ct ‹_› ?_|refine Cf ‹_› ?_|refine Ct rfl ?_|refine Cf rfl ?_|refine Bi rfl ?_|refine Bz rfl ?_|refine Lr ?_);conv=>whnf))
    refine Cnd_i (fun g => ?_) (fun g => ?_)
    · have hij := of_decide_eq_true g
      ((conv=>whnf);repeat((first|refine Ct ‹_› ?_|refine Cf ‹_› ?_|refine Ct rfl ?_|refine Cf rfl ?_|refine Bi rfl ?_|refine Bz rfl ?_|refine Lr ?_);conv=>whnf))
      refine Bnd_i (⟨by omega, by omega⟩) ?_; ((conv=>whnf);repeat((first|refine Ct ‹_› ?_|refine Cf ‹_› ?_|refine Ct rfl ?_|refine Cf rfl ?_|refine Bi rfl ?_|refine Bz rfl ?_|refine Lr ?_);conv=>whnf))
      rw [half_eq (by omega) (by omega)]
      generalize hc : (i + j) / 2 = c
      refine Bnd_i (⟨by omega, by omega⟩) ?_; ((conv=>whnf);repeat((first|refine Ct ‹_› ?_|refine Cf ‹_› ?_|refine Ct rfl ?_|refine Cf rfl ?_|refine Bi rfl ?_|refine Bz rfl ?_|refine Lr ?_);conv=>whnf))
      have v1 := hL (el D c)
      have v2 := hL (el D m)
      (refine CallQ_some (F_CC1 L hL (el D m) (el D c) (qD m (by omega) (by omega)) (qD c (by omega) (by omega))) ?_ ?_ ?_; rfl; rfl); ((conv=>whnf);repeat((first|refine Ct ‹_› ?_|refine Cf ‹_› ?_|refine Ct rfl ?_|refine Cf rfl ?_|refine Bi rfl ?_|refine Bz rfl ?_|refine Lr ?_);conv=>whnf))
      by_cases hk : el L (el D m) - el L (el D c) < 0
      · have g : (!(decide (el L (el D m) - el L (el D c) < 0))) = false := by rw [decide_eq_true hk]; rfl
        refine Cnd_f g ?_
        ((conv=>whnf);repeat((first|refine Ct ‹_› ?_|refine Cf ‹_› ?_|refine Ct rfl ?_|refine Cf rfl ?_|refine Bi rfl ?_|refine Bz rfl ?_|refine Lr ?_);conv=>whnf))
        refine ⟨q - 1, i, c, rfl, by omega, by omega, by omega, by omega, by omega, p1, fun d d0 d1 => ?_⟩
        have := h1 c d (by omega) (by omega) (by omega)
        omega
      · have g : (!(decide (el L (el D m) - el L (el D c) < 0))) = true := by rw [decide_eq_false hk]; rfl
        refine Cnd_t g ?_
        ((conv=>whnf);repeat((first|refine Ct ‹_› ?_|refine Cf ‹_› ?_|refine Ct rfl ?_|refine Cf rfl ?_|refine Bi rfl ?_|refine Bz rfl ?_|refine Lr ?_);conv=>whnf))
        rw [wrapI (n := c + 1) (by omega)]
        refine ⟨q - 1, c + 1, j, rfl, by omega, by omega, by omega, by omega, by omega, fun d d0 d1 => ?_, p2⟩
        have := h1 d c (by omega) (by omega) (by omega)
        omega
    · have hij := of_decide_eq_false g
      obtain rfl : j = i := by omega
      ((conv=>whnf);repeat((first|refine Ct ‹_› ?_|refine Cf ‹_› ?_|refine Ct rfl ?_|refine Cf rfl ?_|refine Bi rfl ?_|refine Bz rfl ?_|refine Lr ?_);conv=>whnf))
      refine WLoop_v2 ⟨[0, 4, 14, 17], [], []⟩ (fun (k : Int) (X : List Int) => hdS 220 [(0, .v (.one (.own 1000000 n))), (4, .v (cmpX 1004000 L.length sz get)), (14, .v (vI j)), (17, .v (vI k))] [] [(1000000, rwIn n X), (1004000, rwI L)])
        (fun q k X => j ≤ k ∧ k ≤ m ∧ k - q = j ∧ Mv n a (m + 1) D X ∧ ∀ t, 0 ≤ t → el X t = shD D m k t) (m - j).toNat m D rfl ⟨by omega, by omega, by omega, .refl hl, fun t t0 => by
          unfold shD
          repeat' split
          all_goals first
            | (exfalso; omega)
            | rfl
            | (congr 1 <;> omega)⟩ ?_
      rintro q k X ⟨k0, k1, hq, hM, hX⟩
      have hlX := hM.len
      ((conv=>whnf);repeat((first|refine Ct ‹_› ?_|refine Cf ‹_› ?_|refine Ct rfl ?_|refine Cf rfl ?_|refine Bi rfl ?_|refine Bz rfl ?_|refine Lr ?_);conv=>whnf))
      refine Cnd_i (fun g => ?_) (fun g => ?_)
      · have hk := of_decide_eq_true g
        ((conv=>whnf);repeat((first|refine Ct ‹_› ?_|refine Cf ‹_› ?_|refine Ct rfl ?_|refine Cf rfl ?_|refine Bi rfl ?_|refine Bz rfl ?_|refine Lr ?_);conv=>whnf))
        rw [wrapI (n := k - 1) (by omega)]
        refine Bnd_i (⟨by omega, by omega⟩) ?_; ((conv=>whnf);repeat((first|refine Ct ‹_› ?_|refine Cf ‹_› ?_|refine Ct rfl ?_|refine Cf rfl ?_|refine Bi rfl ?_|refine Bz rfl ?_|refine Lr ?_);conv=>whnf))
        refine Bnd_i (⟨by omega, by omega⟩) ?_; ((conv=>whnf);repeat((first|refine Ct ‹_› ?_|refine Cf ‹_› ?_|refine Ct rfl ?_|refine Cf rfl ?_|refine Bi rfl ?_|refine Bz rfl ?_|refine Lr ?_);conv=>whnf))
        refine Bnd_i (⟨by omega, by omega⟩) ?_; ((conv=>whnf);repeat((first|refine Ct ‹_› ?_|refine Cf ‹_› ?_|refine Ct rfl ?_|refine Cf rfl ?_|refine Bi rfl ?_|refine Bz rfl ?_|refine Lr ?_);conv=>whnf))
        refine Rw_i (rwIn n (X.set k.toNat (X.getD (k - 1).toNat 0))) (rwIn_set _ _ _ _ (by omega)) ?_
        ((conv=>whnf);repeat((first|refine Ct ‹_› ?_|refine Cf ‹_› ?_|refine Ct rfl ?_|refine Cf rfl ?_|refine Bi rfl ?_|refine Bz rfl ?_|refine Lr ?_);conv=>whnf))
        refine Bnd_i (⟨by omega, by omega⟩) ?_; ((conv=>whnf);repeat((first|refine Ct ‹_› ?_|refine Cf ‹_› ?_|refine Ct rfl ?_|refine Cf rfl ?_|refine Bi rfl ?_|refine Bz rfl ?_|refine Lr ?_);conv=>whnf))
        refine Rw_i (rwIn n (swp X k (k - 1))) (rwIn_set _ _ _ _ (by rw [List.length_set]; omega)) ?_
        ((conv=>whnf);repeat((first|refine Ct ‹_› ?_|refine Cf ‹_› ?_|refine Ct rfl ?_|refine Cf rfl ?_|refine Bi rfl ?_|refine Bz rfl ?_|refine Lr ?_);conv=>whnf))
        refine ⟨q - 1, k - 1, swp X k (k - 1), ?_, by omega, by omega, by omega, by omega, hM.trans (Mv.swp hlX a0 b0 (by omega) (by omega) (by omega) (by omega)), shD_step hX (by omega) k1 (by omega)⟩
        rw [wrapI (by omega)]; rfl
      · have hk := of_decide_eq_false g
        obtain rfl : k = j := by omega
        ((conv=>whnf);repeat((first|refine Ct ‹_› ?_|refine Cf ‹_› ?_|refine Ct rfl ?_|refine Cf rfl ?_|refine Bi rfl ?_|refine Bz rfl ?_|refine Lr ?_);conv=>whnf))
        exact ⟨rfl, rfl, X, rfl, hM, shD_srd hX a0 (by omega) (by omega) h1 p1 p2⟩
  have e2 : ¬ b - m = 1 := by simpa using g
  ((conv=>whnf);repeat((first|refine Ct ‹_› ?_|refine Cf ‹_› ?_|refine Ct rfl ?_|refine Cf rfl ?_|refine Bi rfl ?_|refine Bz rfl ?_|refine Lr ?_);conv=>whnf))
  rw [half_eq (by omega) (by omega)]
  generalize hc : (a + b) / 2 = mid
  rw [wrapI (n := mid + m) (by omega)]
  refine Cnd_i (fun g => ?_) (fun g => ?_)
  · have hm := of_decide_eq_true g
    ((conv=>whnf);repeat((first|refine Ct ‹_› ?_|refine Cf ‹_› ?_|refine Ct rfl ?_|refine Cf rfl ?_|refine Bi rfl ?_|refine Bz rfl ?_|refine Lr ?_);conv=>whnf))
    rw [wrapI (n := mid + m - b) (by omega)]
    rw [wrapI (n := mid + m - 1) (by omega)]
    refine WLoop_v2 ⟨[0, 1, 2, 3, 4, 18, 19, 20, 21, 22], [], []⟩ (fun (s r : Int) => hdS 220 [(0, .v (.one (.own 1000000 n))), (1, .v (vI a)), (2, .v (vI m)), (3, .v (vI b)), (4, .v (cmpX 1004000 L.length sz get)), (18, .v (vI mid)), (19, .v (vI (mid + m))), (20, .v (vI s)), (21, .v (vI r)), (22, .v (vI (mid + m - 1)))] [] [(1000000, rwIn n D), (1004000, rwI L)])
      (fun q s r => (r - s).toNat ≤ q ∧ Cut L D a m b mid s r) (mid - (mid + m - b)).toNat (mid + m - b) (mid) rfl ⟨by omega, ⟨by omega, fun x y x0 x1 y0 y1 => by omega, fun x y x0 x1 y0 y1 => by omega⟩⟩ ?_
    rintro q s r ⟨hq, cut⟩
    have cb := cut.b1
    ((conv=>whnf);repeat((first|refine Ct ‹_› ?_|refine Cf ‹_› ?_|refine Ct rfl ?_|refine Cf rfl ?_|refine Bi rfl ?_|refine Bz rfl ?_|refine Lr ?_);conv=>whnf))
    refine Cnd_i (fun g => ?_) (fun g => ?_)
    rotate_left
    · have hsr := of_decide_eq_false g
      obtain rfl : s = r := by omega
      clear g hsr hq
      ((conv=>whnf);repeat((first|refine Ct ‹_› ?_|refine Cf ‹_› ?_|refine Ct rfl ?_|refine Cf rfl ?_|refine Bi rfl ?_|refine Bz rfl ?_|refine Lr ?_);conv=>whnf))
      rw [wrapI (n := mid + m - s) (by omega)]
      refine Cnd_i (fun g => ?_) (fun g => ?_)
      · have d1 := of_decide_eq_true g
        ((conv=>whnf);repeat((first|refine Ct ‹_› ?_|refine Cf ‹_› ?_|refine Ct rfl ?_|refine Cf rfl ?_|refine Bi rfl ?_|refine Bz rfl ?_|refine Lr ?_);conv=>whnf))
        refine Cnd_i (fun g => ?_) (fun g => ?_)
        · have d2 := of_decide_eq_true g
          ((conv=>whnf);repeat((first|refine Ct ‹_› ?_|refine Cf ‹_› ?_|refine Ct rfl ?_|refine Cf rfl ?_|refine Bi rfl ?_|refine Bz rfl ?_|refine Lr ?_);conv=>whnf))
          refine CallRX_e (F_rotate n hn L D hl sz get s m (mid + m - s) (by omega) (by omega) (by omega) (by omega)) ?_
          rintro _ _ _ ⟨rfl, rfl, X, rfl, m0, hX⟩
          refine ⟨⟨rwIn_no _ _, rwI_no _, trivial⟩, ⟨rfl, rfl, rfl, rfl, rfl, rfl, rfl, rfl, trivial⟩, rfl, rfl, ?_⟩
          conv => whnf
          refine ⟨rfl, ?_⟩
          ((conv=>whnf);repeat((first|refine Ct ‹_› ?_|refine Cf ‹_› ?_|refine Ct rfl ?_|refine Cf rfl ?_|refine Bi rfl ?_|refine Bz rfl ?_|refine Lr ?_);conv=>whnf))
          have m0 : Mv n a b D X := m0.wide (by omega) (by omega) a0
          have pX := m0.pls hD
          have spl := Spl.of_rot cut a0 h1 h2 (by omega) hX
          refine Cnd_i (fun g => ?_) (fun g => ?_)
          · have d1 := of_decide_eq_true g
            ((conv=>whnf);repeat((first|refine Ct ‹_› ?_|refine Cf ‹_› ?_|refine Ct rfl ?_|refine Cf rfl ?_|refine Bi rfl ?_|refine Bz rfl ?_|refine Lr ?_);conv=>whnf))
            refine Cnd_i (fun g => ?_) (fun g => ?_)
            · have d2 := of_decide_eq_true g
              ((conv=>whnf);repeat((first|refine Ct ‹_› ?_|refine Cf ‹_› ?_|refine Ct rfl ?_|refine Cf rfl ?_|refine Bi rfl ?_|refine Bz rfl ?_|refine Lr ?_);conv=>whnf))
              refine CallRX_e (IH X pX m0.len a s mid (by omega) a0 (by omega) (by omega) (by omega) spl.s1 spl.s2) ?_
              rintro _ _ _ ⟨rfl, rfl, Y1, rfl, m1, s1⟩
              refine ⟨⟨rwIn_no _ _, rwI_no _, trivial⟩, ⟨rfl, rfl, rfl, rfl, rfl, rfl, rfl, rfl, trivial⟩, rfl, rfl, ?_⟩
              conv => whnf
              refine ⟨rfl, ?_⟩
              ((conv=>whnf);repeat((first|refine Ct ‹_› ?_|refine Cf ‹_› ?_|refine Ct rfl ?_|refine Cf rfl ?_|refine Bi rfl ?_|refine Bz rfl ?_|refine Lr ?_);conv=>whnf))
              refine Cnd_i (fun g => ?_) (fun g => ?_)
              · have d1 := of_decide_eq_true g
                ((conv=>whnf);repeat((first|refine Ct ‹_› ?_|refine Cf ‹_› ?_|refine Ct rfl ?_|refine Cf rfl ?_|refine Bi rfl ?_|refine Bz rfl ?_|refine Lr ?_);conv=>whnf))
                refine Cnd_i (fun g => ?_) (fun g => ?_)
                · have d2 := of_decide_eq_true g
                  ((conv=>whnf);repeat((first|refine Ct ‹_› ?_|refine Cf ‹_› ?_|refine Ct rfl ?_|refine Cf rfl ?_|refine Bi rfl ?_|refine Bz rfl ?_|refine Lr ?_);conv=>whnf))
                  refine CallRX_e (IH Y1 (m1.pls pX) m1.len mid (mid + m - s) b (by omega) (by omega) (by omega) (by omega) b0 (m1.srd spl.s3 (.inr (Int.le_refl _)) (by omega)) (m1.srd spl.s4 (.inr (by omega)) (by omega))) ?_
                  rintro _ _ _ ⟨rfl, rfl, Y2, rfl, m2, s2⟩
                  refine ⟨⟨rwIn_no _ _, rwI_no _, trivial⟩, ⟨rfl, rfl, rfl, rfl, rfl, rfl, rfl, rfl, trivial⟩, rfl, rfl, ?_⟩
                  conv => whnf
                  refine ⟨rfl, ?_⟩
                  ((conv=>whnf);repeat((first|refine Ct ‹_› ?_|refine Cf ‹_› ?_|refine Ct rfl ?_|refine Cf rfl ?_|refine Bi rfl ?_|refine Bz rfl ?_|refine Lr ?_);conv=>whnf))
                  exact ⟨rfl, rfl, Y2, rfl, (m0.trans (m1.wide (Int.le_refl _) (by omega) a0)).trans (Mv.wide m2 (by omega) (Int.le_refl _) a0), spl.fin m1 s1 m2 s2⟩
                · have d2 := of_decide_eq_false g
                  ((conv=>whnf);repeat((first|refine Ct ‹_› ?_|refine Cf ‹_› ?_|refine Ct rfl ?_|refine Cf rfl ?_|refine Bi rfl ?_|refine Bz rfl ?_|refine Lr ?_);conv=>whnf))
                  exact ⟨rfl, rfl, Y1, rfl, (m0.trans (m1.wide (Int.le_refl _) (by omega) a0)).trans (Mv.wide (Mv.refl (a := mid) (b := b) m1.len) (by omega) (Int.le_refl _) a0), spl.fin m1 s1 (Mv.refl (a := mid) (b := b) m1.len) (spl.right m1 (by omega))⟩
              · have d1 := of_decide_eq_false g
                ((conv=>whnf);repeat((first|refine Ct ‹_› ?_|refine Cf ‹_› ?_|refine Ct rfl ?_|refine Cf rfl ?_|refine Bi rfl ?_|refine Bz rfl ?_|refine Lr ?_);conv=>whnf))
                exact ⟨rfl, rfl, Y1, rfl, (m0.trans (m1.wide (Int.le_refl _) (by omega) a0)).trans (Mv.wide (Mv.refl (a := mid) (b := b) m1.len) (by omega) (Int.le_refl _) a0), spl.fin m1 s1 (Mv.refl (a := mid) (b := b) m1.len) (spl.right m1 (by omega))⟩
            · have d2 := of_decide_eq_false g
              ((conv=>whnf);repeat((first|refine Ct ‹_› ?_|refine Cf ‹_› ?_|refine Ct rfl ?_|refine Cf rfl ?_|refine Bi rfl ?_|refine Bz rfl ?_|refine Lr ?_);conv=>whnf))
              have m1 : Mv n a mid X X := .refl m0.len
              have s1 := spl.left (by omega)
              refine Cnd_i (fun g => ?_) (fun g => ?_)
              · have d1 := of_decide_eq_true g
                ((conv=>whnf);repeat((first|refine Ct ‹_› ?_|refine Cf ‹_› ?_|refine Ct rfl ?_|refine Cf rfl ?_|refine Bi rfl ?_|refine Bz rfl ?_|refine Lr ?_);conv=>whnf))
                refine Cnd_i (fun g => ?_) (fun g => ?_)
                · have d2 := of_decide_eq_true g
                  ((conv=>whnf);repeat((first|refine Ct ‹_› ?_|refine Cf ‹_› ?_|refine Ct rfl ?_|refine Cf rfl ?_|refine Bi rfl ?_|refine Bz rfl ?_|refine Lr ?_);conv=>whnf))
                  refine CallRX_e (IH X (m1.pls pX) m1.len mid (mid + m - s) b (by omega) (by omega) (by omega) (by omega) b0 (m1.srd spl.s3 (.inr (Int.le_refl _)) (by omega)) (m1.srd spl.s4 (.inr (by omega)) (by omega))) ?_
                  rintro _ _ _ ⟨rfl, rfl, Y2, rfl, m2, s2⟩
                  refine ⟨⟨rwIn_no _ _, rwI_no _, trivial⟩, ⟨rfl, rfl, rfl, rfl, rfl, rfl, rfl, rfl, trivial⟩, rfl, rfl, ?_⟩
                  conv => whnf
                  refine ⟨rfl, ?_⟩
                  ((conv=>whnf);repeat((first|refine Ct ‹_› ?_|refine Cf ‹_› ?_|refine Ct rfl ?_|refine Cf rfl ?_|refine Bi rfl ?_|refine Bz rfl ?_|refine Lr ?_);conv=>whnf))
                  exact ⟨rfl, rfl, Y2, rfl, (m0.trans (m1.wide (Int.le_refl _) (by omega) a0)).trans (Mv.wide m2 (by omega) (Int.le_refl _) a0), spl.fin m1 s1 m2 s2⟩
                · have d2 := of_decide_eq_false g
                  ((conv=>whnf);repeat((first|refine Ct ‹_› ?_|refine Cf ‹_› ?_|refine Ct rfl ?_|refine Cf rfl ?_|refine Bi rfl ?_|refine Bz rfl ?_|refine Lr ?_);conv=>whnf))
                  exact ⟨rfl, rfl, X, rfl, (m0.trans (m1.wide (Int.le_refl _) (by omega) a0)).trans (Mv.wide (Mv.refl (a := mid) (b := b) m1.len) (by omega) (Int.le_refl _) a0), spl.fin m1 s1 (Mv.refl (a := mid) (b := b) m1.len) (spl.right m1 (by omega))⟩
              · have d1 := of_decide_eq_false g
                ((conv=>whnf);repeat((first|refine Ct ‹_› ?_|refine Cf ‹_› ?_|refine Ct rfl ?_|refine Cf rfl ?_|refine Bi rfl ?_|refine Bz rfl ?_|refine Lr ?_);conv=>whnf))
                exact ⟨rfl, rfl, X, rfl, (m0.trans (m1.wide (Int.le_refl _) (by omega) a0)).trans (Mv.wide (Mv.refl (a := mid) (b := b) m1.len) (by omega) (Int.le_refl _) a0), spl.fin m1 s1 (Mv.refl (a := mid) (b := b) m1.len) (spl.right m1 (by omega))⟩
          · have d1 := of_decide_eq_false g
            ((conv=>whnf);repeat((first|refine Ct ‹_› ?_|refine Cf ‹_› ?_|refine Ct rfl ?_|refine Cf rfl ?_|refine Bi rfl ?_|refine Bz rfl ?_|refine Lr ?_);conv=>whnf))
            have m1 : Mv n a mid X X := .refl m0.len
            have s1 := spl.left (by omega)
            refine Cnd_i (fun g => ?_) (fun g => ?_)
            · have d1 := of_decide_eq_true g
              ((conv=>whnf);repeat((first|refine Ct ‹_› ?_|refine Cf ‹_› ?_|refine Ct rfl ?_|refine Cf rfl ?_|refine Bi rfl ?_|refine Bz rfl ?_|refine Lr ?_);conv=>whnf))
              refine Cnd_i (fun g => ?_) (fun g => ?_)
              · have d2 := of_decide_eq_true g
                ((conv=>whnf);repeat((first|refine Ct ‹_› ?_|refine Cf ‹_› ?_|refine Ct rfl ?_|refine Cf rfl ?_|refine Bi rfl ?_|refine Bz rfl ?_|refine Lr ?_);conv=>whnf))
                refine CallRX_e (IH X (m1.pls pX) m1.len mid (mid + m - s) b (by omega) (by omega) (by omega) (by omega) b0 (m1.srd spl.s3 (.inr (Int.le_refl _)) (by omega)) (m1.srd spl.s4 (.inr (by omega)) (by omega))) ?_
                rintro _ _ _ ⟨rfl, rfl, Y2, rfl, m2, s2⟩
                refine ⟨⟨rwIn_no _ _, rwI_no _, trivial⟩, ⟨rfl, rfl, rfl, rfl, rfl, rfl, rfl, rfl, trivial⟩, rfl, rfl, ?_⟩
                conv => whnf
                refine ⟨rfl, ?_⟩
                ((conv=>whnf);repeat((first|refine Ct ‹_› ?_|refine Cf ‹_› ?_|refine Ct rfl ?_|refine Cf rfl ?_|refine Bi rfl ?_|refine Bz rfl ?_|refine Lr ?_);conv=>whnf))
                exact ⟨rfl, rfl, Y2, rfl, (m0.trans (m1.wide (Int.le_refl _) (by omega) a0)).trans (Mv.wide m2 (by omega) (Int.le_refl _) a0), spl.fin m1 s1 m2 s2⟩
              · have d2 := of_decide_eq_false g
                ((conv=>whnf);repeat((first|refine Ct ‹_› ?_|refine Cf ‹_› ?_|refine Ct rfl ?_|refine Cf rfl ?_|refine Bi rfl ?_|refine Bz rfl ?_|refine Lr ?_);conv=>whnf))
                exact ⟨rfl, rfl, X, rfl, (m0.trans (m1.wide (Int.le_refl _) (by omega) a0)).trans (Mv.wide (Mv.refl (a := mid) (b := b) m1.len) (by omega) (Int.le_refl _) a0), spl.fin m1 s1 (Mv.refl (a := mid) (b := b) m1.len) (spl.right m1 (by omega))⟩
            · have d1 := of_decide_eq_false g
              ((conv=>whnf);repeat((first|refine Ct ‹_› ?_|refine Cf ‹_› ?_|refine Ct rfl ?_|refine Cf rfl ?_|refine Bi rfl ?_|refine Bz rfl ?_|refine Lr ?_);conv=>whnf))
              exact ⟨rfl, rfl, X, rfl, (m0.trans (m1.wide (Int.le_refl _) (by omega) a0)).trans (Mv.wide (Mv.refl (a := mid) (b := b) m1.len) (by omega) (Int.le_refl _) a0), spl.fin m1 s1 (Mv.refl (a := mid) (b := b) m1.len) (spl.right m1 (by omega))⟩
        · have d2 := of_decide_eq_false g
          ((conv=>whnf);repeat((first|refine Ct ‹_› ?_|refine Cf ‹_› ?_|refine Ct rfl ?_|refine Cf rfl ?_|refine Bi rfl ?_|refine Bz rfl ?_|refine Lr ?_);conv=>whnf))
          have m0 : Mv n a b D D := .refl hl
          have pX := hD
          have spl := Spl.of_no cut a0 h1 h2 (by omega) (by omega) (by omega)
          refine Cnd_i (fun g => ?_) (fun g => ?_)
          · have d1 := of_decide_eq_true g
            ((conv=>whnf);repeat((first|refine Ct ‹_› ?_|refine Cf ‹_› ?_|refine Ct rfl ?_|refine Cf rfl ?_|refine Bi rfl ?_|refine Bz rfl ?_|refine Lr ?_);conv=>whnf))
            refine Cnd_i (fun g => ?_) (fun g => ?_)
            · have d2 := of_decide_eq_true g
              ((conv=>whnf);repeat((first|refine Ct ‹_› ?_|refine Cf ‹_› ?_|refine Ct rfl ?_|refine Cf rfl ?_|refine Bi rfl ?_|refine Bz rfl ?_|refine Lr ?_);conv=>whnf))
              refine CallRX_e (IH D pX m0.len a s mid (by omega) a0 (by omega) (by omega) (by omega) spl.s1 spl.s2) ?_
              rintro _ _ _ ⟨rfl, rfl, Y1, rfl, m1, s1⟩
              refine ⟨⟨rwIn_no _ _, rwI_no _, trivial⟩, ⟨rfl, rfl, rfl, rfl, rfl, rfl, rfl, rfl, trivial⟩, rfl, rfl, ?_⟩
              conv => whnf
              refine ⟨rfl, ?_⟩
              ((conv=>whnf);repeat((first|refine Ct ‹_› ?_|refine Cf ‹_› ?_|refine Ct rfl ?_|refine Cf rfl ?_|refine Bi rfl ?_|refine Bz rfl ?_|refine Lr ?_);conv=>whnf))
              refine Cnd_i (fun g => ?_) (fun g => ?_)
              · have d1 := of_decide_eq_true g
                ((conv=>whnf);repeat((first|refine Ct ‹_› ?_|refine Cf ‹_› ?_|refine Ct rfl ?_|refine Cf rfl ?_|refine Bi rfl ?_|refine Bz rfl ?_|refine Lr ?_);conv=>whnf))
                refine Cnd_i (fun g => ?_) (fun g => ?_)
                · have d2 := of_decide_eq_true g
                  ((conv=>whnf);repeat((first|refine Ct ‹_› ?_|refine Cf ‹_› ?_|refine Ct rfl ?_|refine Cf rfl ?_|refine Bi rfl ?_|refine Bz rfl ?_|refine Lr ?_);conv=>whnf))
                  refine CallRX_e (IH Y1 (m1.pls pX) m1.len mid (mid + m - s) b (by omega) (by omega) (by omega) (by omega) b0 (m1.srd spl.s3 (.inr (Int.le_refl _)) (by omega)) (m1.srd spl.s4 (.inr (by omega)) (by omega))) ?_
                  rintro _ _ _ ⟨rfl, rfl, Y2, rfl, m2, s2⟩
                  refine ⟨⟨rwIn_no _ _, rwI_no _, trivial⟩, ⟨rfl, rfl, rfl, rfl, rfl, rfl, rfl, rfl, trivial⟩, rfl, rfl, ?_⟩
                  conv => whnf
                  refine ⟨rfl, ?_⟩
                  ((conv=>whnf);repeat((first|refine Ct ‹_› ?_|refine Cf ‹_› ?_|refine Ct rfl ?_|refine Cf rfl ?_|refine Bi rfl ?_|refine Bz rfl ?_|refine Lr ?_);conv=>whnf))
                  exact ⟨rfl, rfl, Y2, rfl, (m0.trans (m1.wide (Int.le_refl _) (by omega) a0)).trans (Mv.wide m2 (by omega) (Int.le_refl _) a0), spl.fin m1 s1 m2 s2⟩
                · have d2 := of_decide_eq_false g
                  ((conv=>whnf);repeat((first|refine Ct ‹_› ?_|refine Cf ‹_› ?_|refine Ct rfl ?_|refine Cf rfl ?_|refine Bi rfl ?_|refine Bz rfl ?_|refine Lr ?_);conv=>whnf))
                  exact ⟨rfl, rfl, Y1, rfl, (m0.trans (m1.wide (Int.le_refl _) (by omega) a0)).trans (Mv.wide (Mv.refl (a := mid) (b := b) m1.len) (by omega) (Int.le_refl _) a0), spl.fin m1 s1 (Mv.refl (a := mid) (b := b) m1.len) (spl.right m1 (by omega))⟩
              · have d1 := of_decide_eq_false g
                ((conv=>whnf);repeat((first|refine Ct ‹_› ?_|refine Cf ‹_› ?_|refine Ct rfl ?_|refine Cf rfl ?_|refine Bi rfl ?_|refine Bz rfl ?_|refine Lr ?_);conv=>whnf))
                exact ⟨rfl, rfl, Y1, rfl, (m0.trans (m1.wide (Int.le_refl _) (by omega) a0)).trans (Mv.wide (Mv.refl (a := mid) (b := b) m1.len) (by omega) (Int.le_refl _) a0), spl.fin m1 s1 (Mv.refl (a := mid) (b := b) m1.len) (spl.right m1 (by omega))⟩
            · have d2 := of_decide_eq_false g
              ((conv=>whnf);repeat((first|refine Ct ‹_› ?_|refine Cf ‹_› ?_|refine Ct rfl ?_|refine Cf rfl ?_|refine Bi rfl ?_|refine Bz rfl ?_|refine Lr ?_);conv=>whnf))
              have m1 : Mv n a mid D D := .refl m0.len
              have s1 := spl.left (by omega)
              refine Cnd_i (fun g => ?_) (fun g => ?_)
              · have d1 := of_decide_eq_true g
                ((conv=>whnf);repeat((first|refine Ct ‹_› ?_|refine Cf ‹_› ?_|refine Ct rfl ?_|refine Cf rfl ?_|refine Bi rfl ?_|refine Bz rfl ?_|refine Lr ?_);conv=>whnf))
                refine Cnd_i (fun g => ?_) (fun g => ?_)
                · have d2 := of_decide_eq_true g
                  ((conv=>whnf);repeat((first|refine Ct ‹_› ?_|refine Cf ‹_› ?_|refine Ct rfl ?_|refine Cf rfl ?_|refine Bi rfl ?_|refine Bz rfl ?_|refine Lr ?_);conv=>whnf))
                  refine CallRX_e (IH D (m1.pls pX) m1.len mid (mid + m - s) b (by omega) (by omega) (by omega) (by omega) b0 (m1.srd spl.s3 (.inr (Int.le_refl _)) (by omega)) (m1.srd spl.s4 (.inr (by omega)) (by omega))) ?_
                  rintro _ _ _ ⟨rfl, rfl, Y2, rfl, m2, s2⟩
                  refine ⟨⟨rwIn_no _ _, rwI_no _, trivial⟩, ⟨rfl, rfl, rfl, rfl, rfl, rfl, rfl, rfl, trivial⟩, rfl, rfl, ?_⟩
                  conv => whnf
                  refine ⟨rfl, ?_⟩
                  ((conv=>whnf);repeat((first|refine Ct ‹_› ?_|refine Cf ‹_› ?_|refine Ct rfl ?_|refine Cf rfl ?_|refine Bi rfl ?_|refine Bz rfl ?_|refine Lr ?_);conv=>whnf))
                  exact ⟨rfl, rfl, Y2, rfl, (m0.trans (m1.wide (Int.le_refl _) (by omega) a0)).trans (Mv.wide m2 (by omega) (Int.le_refl _) a0), spl.fin m1 s1 m2 s2⟩
                · have d2 := of_decide_eq_false g
                  ((conv=>whnf);repeat((first|refine Ct ‹_› ?_|refine Cf ‹_› ?_|refine Ct rfl ?_|refine Cf rfl ?_|refine Bi rfl ?_|refine Bz rfl ?_|refine Lr ?_);conv=>whnf))
                  exact ⟨rfl, rfl, D, rfl, (m0.trans (m1.wide (Int.le_refl _) (by omega) a0)).trans (Mv.wide (Mv.refl (a := mid) (b := b) m1.len) (by omega) (Int.le_refl _) a0), spl.fin m1 s1 (Mv.refl (a := mid) (b := b) m1.len) (spl.right m1 (by omega))⟩
              · have d1 := of_decide_eq_false g
                ((conv=>whnf);repeat((first|refine Ct ‹_› ?_|refine Cf ‹_› ?_|refine Ct rfl ?_|refine Cf rfl ?_|refine Bi rfl ?_|refine Bz rfl ?_|refine Lr ?_);conv=>whnf))
                exact ⟨rfl, rfl, D, rfl, (m0.trans (m1.wide (Int.le_refl _) (by omega) a0)).trans (Mv.wide (Mv.refl (a := mid) (b := b) m1.len) (by omega) (Int.le_refl _) a0), spl.fin m1 s1 (Mv.refl (a := mid) (b := b) m1.len) (spl.right m1 (by omega))⟩
          · have d1 := of_decide_eq_false g
            ((conv=>whnf);repeat((first|refine Ct ‹_› ?_|refine Cf ‹_› ?_|refine Ct rfl ?_|refine Cf rfl ?_|refine Bi rfl ?_|refine Bz rfl ?_|refine Lr ?_);conv=>whnf))
            have m1 : Mv n a mid D D := .refl m0.len
            have s1 := spl.left (by omega)
            refine Cnd_i (fun g => ?_) (fun g => ?_)
            · have d1 := of_decide_eq_true g
              ((conv=>whnf);repeat((first|refine Ct ‹_› ?_|refine Cf ‹_› ?_|refine Ct rfl ?_|refine Cf rfl ?_|refine Bi rfl ?_|refine Bz rfl ?_|refine Lr ?_);conv=>whnf))
              refine Cnd_i (fun g => ?_) (fun g => ?_)
              · have d2 := of_decide_eq_true g
                ((conv=>whnf);repeat((first|refine Ct ‹_› ?_|refine Cf ‹_› ?_|refine Ct rfl ?_|refine Cf rfl ?_|refine Bi rfl ?_|refine Bz rfl ?_|refine Lr ?_);conv=>whnf))
                refine CallRX_e (IH D (m1.pls pX) m1.len mid (mid + m - s) b (by omega) (by omega) (by omega) (by omega) b0 (m1.srd spl.s3 (.inr (Int.le_refl _)) (by omega)) (m1.srd spl.s4 (.inr (by omega)) (by omega))) ?_
                rintro _ _ _ ⟨rfl, rfl, Y2, rfl, m2, s2⟩
                refine ⟨⟨rwIn_no _ _, rwI_no _, trivial⟩, ⟨rfl, rfl, rfl, rfl, rfl, rfl, rfl, rfl, trivial⟩, rfl, rfl, ?_⟩
                conv => whnf
                refine ⟨rfl, ?_⟩
                ((conv=>whnf);repeat((first|refine Ct ‹_› ?_|refine Cf ‹_› ?_|refine Ct rfl ?_|refine Cf rfl ?_|refine Bi rfl ?_|refine Bz rfl ?_|refine Lr ?_);conv=>whnf))
                exact ⟨rfl, rfl, Y2, rfl, (m0.trans (m1.wide (Int.le_refl _) (by omega) a0)).trans (Mv.wide m2 (by omega) (Int.le_refl _) a0), spl.fin m1 s1 m2 s2⟩
              · have d2 := of_decide_eq_false g
                ((conv=>whnf);repeat((first|refine Ct ‹_› ?_|refine Cf ‹_› ?_|refine Ct rfl ?_|refine Cf rfl ?_|refine Bi rfl ?_|refine Bz rfl ?_|refine Lr ?_);conv=>whnf))
                exact ⟨rfl, rfl, D, rfl, (m0.trans (m1.wide (Int.le_refl _) (by omega) a0)).trans (Mv.wide (Mv.refl (a := mid) (b := b) m1.len) (by omega) (Int.le_refl _) a0), spl.fin m1 s1 (Mv.refl (a := mid) (b := b) m1.len) (spl.right m1 (by omega))⟩
            · have d1 := of_decide_eq_false g
              ((conv=>whnf);repeat((first|refine Ct ‹_› ?_|refine Cf ‹_› ?_|refine Ct rfl ?_|refine Cf rfl ?_|refine Bi rfl ?_|refine Bz rfl ?_|refine Lr ?_);conv=>whnf))
              exact ⟨rfl, rfl, D, rfl, (m0.trans (m1.wide (Int.le_refl _) (by omega) a0)).trans (Mv.wide (Mv.refl (a := mid) (b := b) m1.len) (by omega) (Int.le_refl _) a0), spl.fin m1 s1 (Mv.refl (a := mid) (b := b) m1.len) (spl.right m1 (by omega))⟩
      · have d1 := of_decide_eq_false g
        ((conv=>whnf);repeat((first|refine Ct ‹_› ?_|refine Cf ‹_› ?_|refine Ct rfl ?_|refine Cf rfl ?_|refine Bi rfl ?_|refine Bz rfl ?_|refine Lr ?_);conv=>whnf))
        have m0 : Mv n a b D D := .refl hl
        have pX := hD
        have spl := Spl.of_no cut a0 h1 h2 (by omega) (by omega) (by omega)
        refine Cnd_i (fun g => ?_) (fun g => ?_)
        · have d1 := of_decide_eq_true g
          ((conv=>whnf);repeat((first|refine Ct ‹_› ?_|refine Cf ‹_› ?_|refine Ct rfl ?_|refine Cf rfl ?_|refine Bi rfl ?_|refine Bz rfl ?_|refine Lr ?_);conv=>whnf))
          refine Cnd_i (fun g => ?_) (fun g => ?_)
          · have d2 := of_decide_eq_true g
            ((conv=>whnf);repeat((first|refine Ct ‹_› ?_|refine Cf ‹_› ?_|refine Ct rfl ?_|refine Cf rfl ?_|refine Bi rfl ?_|refine Bz rfl ?_|refine Lr ?_);conv=>whnf))
            refine CallRX_e (IH D pX m0.len a s mid (by omega) a0 (by omega) (by omega) (by omega) spl.s1 spl.s2) ?_
            rintro _ _ _ ⟨rfl, rfl, Y1, rfl, m1, s1⟩
            refine ⟨⟨rwIn_no _ _, rwI_no _, trivial⟩, ⟨rfl, rfl, rfl, rfl, rfl, rfl, rfl, rfl, trivial⟩, rfl, rfl, ?_⟩
            conv => whnf
            refine ⟨rfl, ?_⟩
            ((conv=>whnf);repeat((first|refine Ct ‹_› ?_|refine Cf ‹_› ?_|refine Ct rfl ?_|refine Cf rfl ?_|refine Bi rfl ?_|refine Bz rfl ?_|refine Lr ?_);conv=>whnf))
            refine Cnd_i (fun g => ?_) (fun g => ?_)
            · have d1 := of_decide_eq_true g
              ((conv=>whnf);repeat((first|refine Ct ‹_› ?_|refine Cf ‹_› ?_|refine Ct rfl ?_|refine Cf rfl ?_|refine Bi rfl ?_|refine Bz rfl ?_|refine Lr ?_);conv=>whnf))
              refine Cnd_i (fun g => ?_) (fun g => ?_)
              · have d2 := of_decide_eq_true g
                ((conv=>whnf);repeat((first|refine Ct ‹_› ?_|refine Cf ‹_› ?_|refine Ct rfl ?_|refine Cf rfl ?_|refine Bi rfl ?_|refine Bz rfl ?_|refine Lr ?_);conv=>whnf))
                refine CallRX_e (IH Y1 (m1.pls pX) m1.len mid (mid + m - s) b (by omega) (by omega) (by omega) (by omega) b0 (m1.srd spl.s3 (.inr (Int.le_refl _)) (by omega)) (m1.srd spl.s4 (.inr (by omega)) (by omega))) ?_
                rintro _ _ _ ⟨rfl, rfl, Y2, rfl, m2, s2⟩
                refine ⟨⟨rwIn_no _ _, rwI_no _, trivial⟩, ⟨rfl, rfl, rfl, rfl, rfl, rfl, rfl, rfl, trivial⟩, rfl, rfl, ?_⟩
                conv => whnf
                refine ⟨rfl, ?_⟩
                ((conv=>whnf);repeat((first|refine Ct ‹_› ?_|refine Cf ‹_› ?_|refine Ct rfl ?_|refine Cf rfl ?_|refine Bi rfl ?_|refine Bz rfl ?_|refine Lr ?_);conv=>whnf))
                exact ⟨rfl, rfl, Y2, rfl, (m0.trans (m1.wide (Int.le_refl _) (by omega) a0)).trans (Mv.wide m2 (by omega) (Int.le_refl _) a0), spl.fin m1 s1 m2 s2⟩
              · have d2 := of_decide_eq_false g
                ((conv=>whnf);repeat((first|refine Ct ‹_› ?_|refine Cf ‹_› ?_|refine Ct rfl ?_|refine Cf rfl ?_|refine Bi rfl ?_|refine Bz rfl ?_|refine Lr ?_);conv=>whnf))
                exact ⟨rfl, rfl, Y1, rfl, (m0.trans (m1.wide (Int.le_refl _) (by omega) a0)).trans (Mv.wide (Mv.refl (a := mid) (b := b) m1.len) (by omega) (Int.le_refl _) a0), spl.fin m1 s1 (Mv.refl (a := mid) (b := b) m1.len) (spl.right m1 (by omega))⟩
            · have d1 := of_decide_eq_false g
              ((conv=>whnf);repeat((first|refine Ct ‹_› ?_|refine Cf ‹_› ?_|refine Ct rfl ?_|refine Cf rfl ?_|refine Bi rfl ?_|refine Bz rfl ?_|refine Lr ?_);conv=>whnf))
              exact ⟨rfl, rfl, Y1, rfl, (m0.trans (m1.wide (Int.le_refl _) (by omega) a0)).trans (Mv.wide (Mv.refl (a := mid) (b := b) m1.len) (by omega) (Int.le_refl _) a0), spl.fin m1 s1 (Mv.refl (a := mid) (b := b) m1.len) (spl.right m1 (by omega))⟩
          · have d2 := of_decide_eq_false g
            ((conv=>whnf);repeat((first|refine Ct ‹_› ?_|refine Cf ‹_› ?_|refine Ct rfl ?_|refine Cf rfl ?_|refine Bi rfl ?_|refine Bz rfl ?_|refine Lr ?_);conv=>whnf))
            have m1 : Mv n a mid D D := .refl m0.len
            have s1 := spl.left (by omega)
            refine Cnd_i (fun g => ?_) (fun g => ?_)
            · have d1 := of_decide_eq_true g
              ((conv=>whnf);repeat((first|refine Ct ‹_› ?_|refine Cf ‹_› ?_|refine Ct rfl ?_|refine Cf rfl ?_|refine Bi rfl ?_|refine Bz rfl ?_|refine Lr ?_);conv=>whnf))
              refine Cnd_i (fun g => ?_) (fun g => ?_)
              · have d2 := of_decide_eq_true g
                ((conv=>whnf);repeat((first|refine Ct ‹_› ?_|refine Cf ‹_› ?_|refine Ct rfl ?_|refine Cf rfl ?_|refine Bi rfl ?_|refine Bz rfl ?_|refine Lr ?_);conv=>whnf))
                refine CallRX_e (IH D (m1.pls pX) m1.len mid (mid + m - s) b (by omega) (by omega) (by omega) (by omega) b0 (m1.srd spl.s3 (.inr (Int.le_refl _)) (by omega)) (m1.srd spl.s4 (.inr (by omega)) (by omega))) ?_
                rintro _ _ _ ⟨rfl, rfl, Y2, rfl, m2, s2⟩
                refine ⟨⟨rwIn_no _ _, rwI_no _, trivial⟩, ⟨rfl, rfl, rfl, rfl, rfl, rfl, rfl, rfl, trivial⟩, rfl, rfl, ?_⟩
                conv => whnf
                refine ⟨rfl, ?_⟩
                ((conv=>whnf);repeat((first|refine Ct ‹_› ?_|refine Cf ‹_› ?_|refine Ct rfl ?_|refine Cf rfl ?_|refine Bi rfl ?_|refine Bz rfl ?_|refine Lr ?_);conv=>whnf))
                exact ⟨rfl, rfl, Y2, rfl, (m0.trans (m1.wide (Int.le_refl _) (by omega) a0)).trans (Mv.wide m2 (by omega) (Int.le_refl _) a0), spl.fin m1 s1 m2 s2⟩
              · have d2 := of_decide_eq_false g
                ((conv=>whnf);repeat((first|refine Ct ‹_› ?_|refine Cf ‹_› ?_|refine Ct rfl ?_|refine Cf rfl ?_|refine Bi rfl ?_|refine Bz rfl ?_|refine Lr ?_);conv=>whnf))
                exact ⟨rfl, rfl, D, rfl, (m0.trans (m1.wide (Int.le_refl _) (by omega) a0)).trans (Mv.wide (Mv.refl (a := mid) (b := b) m1.len) (by omega) (Int.le_refl _) a0), spl.fin m1 s1 (Mv.refl (a := mid) (b := b) m1.len) (spl.right m1 (by omega))⟩
            · have d1 := of_decide_eq_false g
              ((conv=>whnf);repeat((first|refine Ct ‹_› ?_|refine Cf ‹_› ?_|refine Ct rfl ?_|refine Cf rfl ?_|refine Bi rfl ?_|refine Bz rfl ?_|refine Lr ?_);conv=>whnf))
              exact ⟨rfl, rfl, D, rfl, (m0.trans (m1.wide (Int.le_refl _) (by omega) a0)).trans (Mv.wide (Mv.refl (a := mid) (b := b) m1.len) (by omega) (Int.le_refl _) a0), spl.fin m1 s1 (Mv.refl (a := mid) (b := b) m1.len) (spl.right m1 (by omega))⟩
        · have d1 := of_decide_eq_false g
          ((conv=>whnf);repeat((first|refine Ct ‹_› ?_|refine Cf ‹_› ?_|refine Ct rfl ?_|refine Cf rfl ?_|refine Bi rfl ?_|refine Bz rfl ?_|refine Lr ?_);conv=>whnf))
          have m1 : Mv n a mid D D := .refl m0.len
          have s1 := spl.left (by omega)
          refine Cnd_i (fun g => ?_) (fun g => ?_)
          · have d1 := of_decide_eq_true g
            ((conv=>whnf);repeat((first|refine Ct ‹_› ?_|refine Cf ‹_› ?_|refine Ct rfl ?_|refine Cf rfl ?_|refine Bi rfl ?_|refine Bz rfl ?_|refine Lr ?_);conv=>whnf))
            refine Cnd_i (fun g => ?_) (fun g => ?_)
            · have d2 := of_decide_eq_true g
              ((conv=>whnf);repeat((first|refine Ct ‹_› ?_|refine Cf ‹_› ?_|refine Ct rfl ?_|refine Cf rfl ?_|refine Bi rfl ?_|refine Bz rfl ?_|refine Lr ?_);conv=>whnf))
              refine CallRX_e (IH D (m1.pls pX) m1.len mid (mid + m - s) b (by omega) (by omega) (by omega) (by omega) b0 (m1.srd spl.s3 (.inr (Int.le_refl _)) (by omega)) (m1.srd spl.s4 (.inr (by omega)) (by omega))) ?_
              rintro _ _ _ ⟨rfl, rfl, Y2, rfl, m2, s2⟩
              refine ⟨⟨rwIn_no _ _, rwI_no _, trivial⟩, ⟨rfl, rfl, rfl, rfl, rfl, rfl, rfl, rfl, trivial⟩, rfl, rfl, ?_⟩
              conv => whnf
              refine ⟨rfl, ?_⟩
              ((conv=>whnf);repeat((first|refine Ct ‹_› ?_|refine Cf ‹_› ?_|refine Ct rfl ?_|refine Cf rfl ?_|refine Bi rfl ?_|refine Bz rfl ?_|refine Lr ?_);conv=>whnf))
              exact ⟨rfl, rfl, Y2, rfl, (m0.trans (m1.wide (Int.le_refl _) (by omega) a0)).trans (Mv.wide m2 (by omega) (Int.le_refl _) a0), spl.fin m1 s1 m2 s2⟩
            · have d2 := of_decide_eq_false g
              ((conv=>whnf);repeat((first|refine Ct ‹_› ?_|refine Cf ‹_› ?_|refine Ct rfl ?_|refine Cf rfl ?_|refine Bi rfl ?_|refine Bz rfl ?_|refine Lr ?_);conv=>whnf))
              exact ⟨rfl, rfl, D, rfl, (m0.trans (m1.wide (Int.le_refl _) (by omega) a0)).trans (Mv.wide (Mv.refl (a := mid) (b := b) m1.len) (by omega) (Int.le_refl _) a0), spl.fin m1 s1 (Mv.refl (a := mid) (b := b) m1.len) (spl.right m1 (by omega))⟩
          · have d1 := of_decide_eq_false g
            ((conv=>whnf);repeat((first|refine Ct ‹_› ?_|refine Cf ‹_› ?_|refine Ct rfl ?_|refine Cf rfl ?_|refine Bi rfl ?_|refine Bz rfl ?_|refine Lr ?_);conv=>whnf))
            exact ⟨rfl, rfl, D, rfl, (m0.trans (m1.wide (Int.le_refl _) (by omega) a0)).trans (Mv.wide (Mv.refl (a := mid) (b := b) m1.len) (by omega) (Int.le_refl _) a0), spl.fin m1 s1 (Mv.refl (a := mid) (b := b) m1.len) (spl.right m1 (by omega))⟩
    have hsr := of_decide_eq_true g
    ((conv=>whnf);repeat((first|refine Ct ‹_› ?_|refine Cf ‹_› ?_|refine Ct rfl ?_|refine Cf rfl ?_|refine Bi rfl ?_|refine Bz rfl ?_|refine Lr ?_);conv=>whnf))
    rw [half_eq (by omega) (by omega)]
    generalize hcc : (s + r) / 2 = c
    rw [wrapI (n := mid + m - 1 - c) (by omega)]
    refine Bnd_i (⟨by omega, by omega⟩) ?_; ((conv=>whnf);repeat((first|refine Ct ‹_› ?_|refine Cf ‹_› ?_|refine Ct rfl ?_|refine Cf rfl ?_|refine Bi rfl ?_|refine Bz rfl ?_|refine Lr ?_);conv=>whnf))
    refine Bnd_i (⟨by omega, by omega⟩) ?_; ((conv=>whnf);repeat((first|refine Ct ‹_› ?_|refine Cf ‹_› ?_|refine Ct rfl ?_|refine Cf rfl ?_|refine Bi rfl ?_|refine Bz rfl ?_|refine Lr ?_);conv=>whnf))
    have v1 := hL (el D c)
    have v2 := hL (el D (mid + m - 1 - c))
    (refine CallQ_some (F_CC1 L hL (el D (mid + m - 1 - c)) (el D c) (qD _ (by omega) (by omega)) (qD c (by omega) (by omega))) ?_ ?_ ?_; rfl; rfl); ((conv=>whnf);repeat((first|refine Ct ‹_› ?_|refine Cf ‹_› ?_|refine Ct rfl ?_|refine Cf rfl ?_|refine Bi rfl ?_|refine Bz rfl ?_|refine Lr ?_);conv=>whnf))
    by_cases hk : el L (el D (mid + m - 1 - c)) - el L (el D c) < 0
    · have g : (!(decide (el L (el D (mid + m - 1 - c)) - el L (el D c) < 0))) = false := by rw [decide_eq_true hk]; rfl
      refine Cnd_f g ?_
      ((conv=>whnf);repeat((first|refine Ct ‹_› ?_|refine Cf ‹_› ?_|refine Ct rfl ?_|refine Cf rfl ?_|refine Bi rfl ?_|refine Bz rfl ?_|refine Lr ?_);conv=>whnf))
      exact ⟨q - 1, s, c, rfl, by omega, by omega, cut.down h1 h2 (by omega) (by omega)⟩
    · have g : (!(decide (el L (el D (mid + m - 1 - c)) - el L (el D c) < 0))) = true := by rw [decide_eq_false hk]; rfl
      refine Cnd_t g ?_
      ((conv=>whnf);repeat((first|refine Ct ‹_› ?_|refine Cf ‹_› ?_|refine Ct rfl ?_|refine Cf rfl ?_|refine Bi rfl ?_|refine Bz rfl ?_|refine Lr ?_);conv=>whnf))
      refine ⟨q - 1, c + 1, r, ?_, by omega, by omega, cut.up h1 h2 (by omega) (by omega)⟩
      rw [wrapI (by omega)]; rfl
  · have hm := of_decide_eq_false g
    ((conv=>whnf);repeat((first|refine Ct ‹_› ?_|refine Cf ‹_› ?_|refine Ct rfl ?_|refine Cf rfl ?_|refine Bi rfl ?_|refine Bz rfl ?_|refine Lr ?_);conv=>whnf))
    rw [wrapI (n := mid + m - 1) (by omega)]
    refine WLoop_v2 ⟨[0, 1, 2, 3, 4, 18, 19, 20, 21, 22], [], []⟩ (fun (s r : Int) => hdS 220 [(0, .v (.one (.own 1000000 n))), (1, .v (vI a)), (2, .v (vI m)), (3, .v (vI b)), (4, .v (cmpX 1004000 L.length sz get)), (18, .v (vI mid)), (19, .v (vI (mid + m))), (20, .v (vI s)), (21, .v (vI r)), (22, .v (vI (mid + m - 1)))] [] [(1000000, rwIn n D), (1004000, rwI L)])
      (fun q s r => (r - s).toNat ≤ q ∧ Cut L D a m b mid s r) (m - (a)).toNat (a) (m) rfl ⟨by omega, ⟨by omega, fun x y x0 x1 y0 y1 => by omega, fun x y x0 x1 y0 y1 => by omega⟩⟩ ?_
    rintro q s r ⟨hq, cut⟩
    have cb := cut.b1
    ((conv=>whnf);repeat((first|refine Ct ‹_› ?_|refine Cf ‹_› ?_|refine Ct rfl ?_|refine Cf rfl ?_|refine Bi rfl ?_|refine Bz rfl ?_|refine Lr ?_);conv=>whnf))
    refine Cnd_i (fun g => ?_) (fun g => ?_)
    rotate_left
    · have hsr := of_decide_eq_false g
      obtain rfl : s = r := by omega
      clear g hsr hq
      ((conv=>whnf);repeat((first|refine Ct ‹_› ?_|refine Cf ‹_› ?_|refine Ct rfl ?_|refine Cf rfl ?_|refine Bi rfl ?_|refine Bz rfl ?_|refine Lr ?_);conv=>whnf))
      rw [wrapI (n := mid + m - s) (by omega)]
      refine Cnd_i (fun g => ?_) (fun g => ?_)
      · have d1 := of_decide_eq_true g
        ((conv=>whnf);repeat((first|refine Ct ‹_› ?_|refine Cf ‹_› ?_|refine Ct rfl ?_|refine Cf rfl ?_|refine Bi rfl ?_|refine Bz rfl ?_|refine Lr ?_);conv=>whnf))
        refine Cnd_i (fun g => ?_) (fun g => ?_)
        · have d2 := of_decide_eq_true g
          ((conv=>whnf);repeat((first|refine Ct ‹_› ?_|refine Cf ‹_› ?_|refine Ct rfl ?_|refine Cf rfl ?_|refine Bi rfl ?_|refine Bz rfl ?_|refine Lr ?_);conv=>whnf))
          refine CallRX_e (F_rotate n hn L D hl sz get s m (mid + m - s) (by omega) (by omega) (by omega) (by omega)) ?_
          rintro _ _ _ ⟨rfl, rfl, X, rfl, m0, hX⟩
          refine ⟨⟨rwIn_no _ _, rwI_no _, trivial⟩, ⟨rfl, rfl, rfl, rfl, rfl, rfl, rfl, rfl, trivial⟩, rfl, rfl, ?_⟩
          conv => whnf
          refine ⟨rfl, ?_⟩
          ((conv=>whnf);repeat((first|refine Ct ‹_› ?_|refine Cf ‹_› ?_|refine Ct rfl ?_|refine Cf rfl ?_|refine Bi rfl ?_|refine Bz rfl ?_|refine Lr ?_);conv=>whnf))
          have m0 : Mv n a b D X := m0.wide (by omega) (by omega) a0
          have pX := m0.pls hD
          have spl := Spl.of_rot cut a0 h1 h2 (by omega) hX
          refine Cnd_i (fun g => ?_) (fun g => ?_)
          · have d1 := of_decide_eq_true g
            ((conv=>whnf);repeat((first|refine Ct ‹_› ?_|refine Cf ‹_› ?_|refine Ct rfl ?_|refine Cf rfl ?_|refine Bi rfl ?_|refine Bz rfl ?_|refine Lr ?_);conv=>whnf))
            refine Cnd_i (fun g => ?_) (fun g => ?_)
            · have d2 := of_decide_eq_true g
              ((conv=>whnf);repeat((first|refine Ct ‹_› ?_|refine Cf ‹_› ?_|refine Ct rfl ?_|refine Cf rfl ?_|refine Bi rfl ?_|refine Bz rfl ?_|refine Lr ?_);conv=>whnf))
              refine CallRX_e (IH X pX m0.len a s mid (by omega) a0 (by omega) (by omega) (by omega) spl.s1 spl.s2) ?_
              rintro _ _ _ ⟨rfl, rfl, Y1, rfl, m1, s1⟩
              refine ⟨⟨rwIn_no _ _, rwI_no _, trivial⟩, ⟨rfl, rfl, rfl, rfl, rfl, rfl, rfl, rfl, trivial⟩, rfl, rfl, ?_⟩
              conv => whnf
              refine ⟨rfl, ?_⟩
              ((conv=>whnf);repeat((first|refine Ct ‹_› ?_|refine Cf ‹_› ?_|refine Ct rfl ?_|refine Cf rfl ?_|refine Bi rfl ?_|refine Bz rfl ?_|refine Lr ?_);conv=>whnf))
              refine Cnd_i (fun g => ?_) (fun g => ?_)
              · have d1 := of_decide_eq_true g
                ((conv=>whnf);repeat((first|refine Ct ‹_› ?_|refine Cf ‹_› ?_|refine Ct rfl ?_|refine Cf rfl ?_|refine Bi rfl ?_|refine Bz rfl ?_|refine Lr ?_);conv=>whnf))
                refine Cnd_i (fun g => ?_) (fun g => ?_)
                · have d2 := of_decide_eq_true g
                  ((conv=>whnf);repeat((first|refine Ct ‹_› ?_|refine Cf ‹_› ?_|refine Ct rfl ?_|refine Cf rfl ?_|refine Bi rfl ?_|refine Bz rfl ?_|refine Lr ?_);conv=>whnf))
                  refine CallRX_e (IH Y1 (m1.pls pX) m1.len mid (mid + m - s) b (by omega) (by omega) (by omega) (by omega) b0 (m1.srd spl.s3 (.inr (Int.le_refl _)) (by omega)) (m1.srd spl.s4 (.inr (by omega)) (by omega))) ?_
                  rintro _ _ _ ⟨rfl, rfl, Y2, rfl, m2, s2⟩
                  refine ⟨⟨rwIn_no _ _, rwI_no _, trivial⟩, ⟨rfl, rfl, rfl, rfl, rfl, rfl, rfl, rfl, trivial⟩, rfl, rfl, ?_⟩
                  conv => whnf
                  refine ⟨rfl, ?_⟩
                  ((conv=>whnf);repeat((first|refine Ct ‹_› ?_|refine Cf ‹_› ?_|refine Ct rfl ?_|refine Cf rfl ?_|refine Bi rfl ?_|refine Bz rfl ?_|refine Lr ?_);conv=>whnf))
                  exact ⟨rfl, rfl, Y2, rfl, (m0.trans (m1.wide (Int.le_refl _) (by omega) a0)).trans (Mv.wide m2 (by omega) (Int.le_refl _) a0), spl.fin m1 s1 m2 s2⟩
                · have d2 := of_decide_eq_false g
                  ((conv=>whnf);repeat((first|refine Ct ‹_› ?_|refine Cf ‹_› ?_|refine Ct rfl ?_|refine Cf rfl ?_|refine Bi rfl ?_|refine Bz rfl ?_|refine Lr ?_);conv=>whnf))
                  exact ⟨rfl, rfl, Y1, rfl, (m0.trans (m1.wide (Int.le_refl _) (by omega) a0)).trans (Mv.wide (Mv.refl (a := mid) (b := b) m1.len) (by omega) (Int.le_refl _) a0), spl.fin m1 s1 (Mv.refl (a := mid) (b := b) m1.len) (spl.right m1 (by omega))⟩
              · have d1 := of_decide_eq_false g
                ((conv=>whnf);repeat((first|refine Ct ‹_› ?_|refine Cf ‹_› ?_|refine Ct rfl ?_|refine Cf rfl ?_|refine Bi rfl ?_|refine Bz rfl ?_|refine Lr ?_);conv=>whnf))
                exact ⟨rfl, rfl, Y1, rfl, (m0.trans (m1.wide (Int.le_refl _) (by omega) a0)).trans (Mv.wide (Mv.refl (a := mid) (b := b) m1.len) (by omega) (Int.le_refl _) a0), spl.fin m1 s1 (Mv.refl (a := mid) (b := b) m1.len) (spl.right m1 (by omega))⟩
            · have d2 := of_decide_eq_false g
              ((conv=>whnf);repeat((first|refine Ct ‹_› ?_|refine Cf ‹_› ?_|refine Ct rfl ?_|refine Cf rfl ?_|refine Bi rfl ?_|refine Bz rfl ?_|refine Lr ?_);conv=>whnf))
              have m1 : Mv n a mid X X := .refl m0.len
              have s1 := spl.left (by omega)
              refine Cnd_i (fun g => ?_) (fun g => ?_)
              · have d1 := of_decide_eq_true g
                ((conv=>whnf);repeat((first|refine Ct ‹_› ?_|refine Cf ‹_› ?_|refine Ct rfl ?_|refine Cf rfl ?_|refine Bi rfl ?_|refine Bz rfl ?_|refine Lr ?_);conv=>whnf))
                refine Cnd_i (fun g => ?_) (fun g => ?_)
                · have d2 := of_decide_eq_true g
                  ((conv=>whnf);repeat((first|refine Ct ‹_› ?_|refine Cf ‹_› ?_|refine Ct rfl ?_|refine Cf rfl ?_|refine Bi rfl ?_|refine Bz rfl ?_|refine Lr ?_);conv=>whnf))
                  refine CallRX_e (IH X (m1.pls pX) m1.len mid (mid + m - s) b (by omega) (by omega) (by omega) (by omega) b0 (m1.srd spl.s3 (.inr (Int.le_refl _)) (by omega)) (m1.srd spl.s4 (.inr (by omega)) (by omega))) ?_
                  rintro _ _ _ ⟨rfl, rfl, Y2, rfl, m2, s2⟩
                  refine ⟨⟨rwIn_no _ _, rwI_no _, trivial⟩, ⟨rfl, rfl, rfl, rfl, rfl, rfl, rfl, rfl, trivial⟩, rfl, rfl, ?_⟩
                  conv => whnf
                  refine ⟨rfl, ?_⟩
                  ((conv=>whnf);repeat((first|refine Ct ‹_› ?_|refine Cf ‹_› ?_|refine Ct rfl ?_|refine Cf rfl ?_|refine Bi rfl ?_|refine Bz rfl ?_|refine Lr ?_);conv=>whnf))
                  exact ⟨rfl, rfl, Y2, rfl, (m0.trans (m1.wide (Int.le_refl _) (by omega) a0)).trans (Mv.wide m2 (by omega) (Int.le_refl _) a0), spl.fin m1 s1 m2 s2⟩
                · have d2 := of_decide_eq_false g
                  ((conv=>whnf);repeat((first|refine Ct ‹_› ?_|refine Cf ‹_› ?_|refine Ct rfl ?_|refine Cf rfl ?_|refine Bi rfl ?_|refine Bz rfl ?_|refine Lr ?_);conv=>whnf))
                  exact ⟨rfl, rfl, X, rfl, (m0.trans (m1.wide (Int.le_refl _) (by omega) a0)).trans (Mv.wide (Mv.refl (a := mid) (b := b) m1.len) (by omega) (Int.le_refl _) a0), spl.fin m1 s1 (Mv.refl (a := mid) (b := b) m1.len) (spl.right m1 (by omega))⟩
              · have d1 := of_decide_eq_false g
                ((conv=>whnf);repeat((first|refine Ct ‹_› ?_|refine Cf ‹_› ?_|refine Ct rfl ?_|refine Cf rfl ?_|refine Bi rfl ?_|refine Bz rfl ?_|refine Lr ?_);conv=>whnf))
                exact ⟨rfl, rfl, X, rfl, (m0.trans (m1.wide (Int.le_refl _) (by omega) a0)).trans (Mv.wide (Mv.refl (a := mid) (b := b) m1.len) (by omega) (Int.le_refl _) a0), spl.fin m1 s1 (Mv.refl (a := mid) (b := b) m1.len) (spl.right m1 (by omega))⟩
          · have d1 := of_decide_eq_false g
            ((conv=>whnf);repeat((first|refine Ct ‹_› ?_|refine Cf ‹_› ?_|refine Ct rfl ?_|refine Cf rfl ?_|refine Bi rfl ?_|refine Bz rfl ?_|refine Lr ?_);conv=>whnf))
            have m1 : Mv n a mid X X := .refl m0.len
            have s1 := spl.left (by omega)
            refine Cnd_i (fun g => ?_) (fun g => ?_)
            · have d1 := of_decide_eq_true g
              ((conv=>whnf);repeat((first|refine Ct ‹_› ?_|refine Cf ‹_› ?_|refine Ct rfl ?_|refine Cf rfl ?_|refine Bi rfl ?_|refine Bz rfl ?_|refine Lr ?_);conv=>whnf))
              refine Cnd_i (fun g => ?_) (fun g => ?_)
              · have d2 := of_decide_eq_true g
                ((conv=>whnf);repeat((first|refine Ct ‹_› ?_|refine Cf ‹_› ?_|refine Ct rfl ?_|refine Cf rfl ?_|refine Bi rfl ?_|refine Bz rfl ?_|refine Lr ?_);conv=>whnf))
                refine CallRX_e (IH X (m1.pls pX) m1.len mid (mid + m - s) b (by omega) (by omega) (by omega) (by omega) b0 (m1.srd spl.s3 (.inr (Int.le_refl _)) (by omega)) (m1.srd spl.s4 (.inr (by omega)) (by omega))) ?_
                rintro _ _ _ ⟨rfl, rfl, Y2, rfl, m2, s2⟩
                refine ⟨⟨rwIn_no _ _, rwI_no _, trivial⟩, ⟨rfl, rfl, rfl, rfl, rfl, rfl, rfl, rfl, trivial⟩, rfl, rfl, ?_⟩
                conv => whnf
                refine ⟨rfl, ?_⟩
                ((conv=>whnf);repeat((first|refine Ct ‹_› ?_|refine Cf ‹_› ?_|refine Ct rfl ?_|refine Cf rfl ?_|refine Bi rfl ?_|refine Bz rfl ?_|refine Lr ?_);conv=>whnf))
                exact ⟨rfl, rfl, Y2, rfl, (m0.trans (m1.wide (Int.le_refl _) (by omega) a0)).trans (Mv.wide m2 (by omega) (Int.le_refl _) a0), spl.fin m1 s1 m2 s2⟩
              · have d2 := of_decide_eq_false g
                ((conv=>whnf);repeat((first|refine Ct ‹_› ?_|refine Cf ‹_› ?_|refine Ct rfl ?_|refine Cf rfl ?_|refine Bi rfl ?_|refine Bz rfl ?_|refine Lr ?_);conv=>whnf))
                exact ⟨rfl, rfl, X, rfl, (m0.trans (m1.wide (Int.le_refl _) (by omega) a0)).trans (Mv.wide (Mv.refl (a := mid) (b := b) m1.len) (by omega) (Int.le_refl _) a0), spl.fin m1 s1 (Mv.refl (a := mid) (b := b) m1.len) (spl.right m1 (by omega))⟩
            · have d1 := of_decide_eq_false g
              ((conv=>whnf);repeat((first|refine Ct ‹_› ?_|refine Cf ‹_› ?_|refine Ct rfl ?_|refine Cf rfl ?_|refine Bi rfl ?_|refine Bz rfl ?_|refine Lr ?_);conv=>whnf))
              exact ⟨rfl, rfl, X, rfl, (m0.trans (m1.wide (Int.le_refl _) (by omega) a0)).trans (Mv.wide (Mv.refl (a := mid) (b := b) m1.len) (by omega) (Int.le_refl _) a0), spl.fin m1 s1 (Mv.refl (a := mid) (b := b) m1.len) (spl.right m1 (by omega))⟩
        · have d2 := of_decide_eq_false g
          ((conv=>whnf);repeat((first|refine Ct ‹_› ?_|refine Cf ‹_› ?_|refine Ct rfl ?_|refine Cf rfl ?_|refine Bi rfl ?_|refine Bz rfl ?_|refine Lr ?_);conv=>whnf))
          have m0 : Mv n a b D D := .refl hl
          have pX := hD
          have spl := Spl.of_no cut a0 h1 h2 (by omega) (by omega) (by omega)
          refine Cnd_i (fun g => ?_) (fun g => ?_)
          · have d1 := of_decide_eq_true g
            ((conv=>whnf);repeat((first|refine Ct ‹_› ?_|refine Cf ‹_› ?_|refine Ct rfl ?_|refine Cf rfl ?_|refine Bi rfl ?_|refine Bz rfl ?_|refine Lr ?_);conv=>whnf))
            refine Cnd_i (fun g => ?_) (fun g => ?_)
            · have d2 := of_decide_eq_true g
              ((conv=>whnf);repeat((first|refine Ct ‹_› ?_|refine Cf ‹_› ?_|refine Ct rfl ?_|refine Cf rfl ?_|refine Bi rfl ?_|refine Bz rfl ?_|refine Lr ?_);conv=>whnf))
              refine CallRX_e (IH D pX m0.len a s mid (by omega) a0 (by omega) (by omega) (by omega) spl.s1 spl.s2) ?_
              rintro _ _ _ ⟨rfl, rfl, Y1, rfl, m1, s1⟩
              refine ⟨⟨rwIn_no _ _, rwI_no _, trivial⟩, ⟨rfl, rfl, rfl, rfl, rfl, rfl, rfl, rfl, trivial⟩, rfl, rfl, ?_⟩
              conv => whnf
              refine ⟨rfl, ?_⟩
              ((conv=>whnf);repeat((first|refine Ct ‹_› ?_|refine Cf ‹_› ?_|refine Ct rfl ?_|refine Cf rfl ?_|refine Bi rfl ?_|refine Bz rfl ?_|refine Lr ?_);conv=>whnf))
              refine Cnd_i (fun g => ?_) (fun g => ?_)
              · have d1 := of_decide_eq_true g
                ((conv=>whnf);repeat((first|refine Ct ‹_› ?_|refine Cf ‹_› ?_|refine Ct rfl ?_|refine Cf rfl ?_|refine Bi rfl ?_|refine Bz rfl ?_|refine Lr ?_);conv=>whnf))
                refine Cnd_i (fun g => ?_) (fun g => ?_)
                · have d2 := of_decide_eq_true g
                  ((conv=>whnf);repeat((first|refine Ct ‹_› ?_|refine Cf ‹_› ?_|refine Ct rfl ?_|refine Cf rfl ?_|refine Bi rfl ?_|refine Bz rfl ?_|refine Lr ?_);conv=>whnf))
                  refine CallRX_e (IH Y1 (m1.pls pX) m1.len mid (mid + m - s) b (by omega) (by omega) (by omega) (by omega) b0 (m1.srd spl.s3 (.inr (Int.le_refl _)) (by omega)) (m1.srd spl.s4 (.inr (by omega)) (by omega))) ?_
                  rintro _ _ _ ⟨rfl, rfl, Y2, rfl, m2, s2⟩
                  refine ⟨⟨rwIn_no _ _, rwI_no _, trivial⟩, ⟨rfl, rfl, rfl, rfl, rfl, rfl, rfl, rfl, trivial⟩, rfl, rfl, ?_⟩
                  conv => whnf
                  refine ⟨rfl, ?_⟩
                  ((conv=>whnf);repeat((first|refine Ct ‹_› ?_|refine Cf ‹_› ?_|refine Ct rfl ?_|refine Cf rfl ?_|refine Bi rfl ?_|refine Bz rfl ?_|refine Lr ?_);conv=>whnf))
                  exact ⟨rfl, rfl, Y2, rfl, (m0.trans (m1.wide (Int.le_refl _) (by omega) a0)).trans (Mv.wide m2 (by omega) (Int.le_refl _) a0), spl.fin m1 s1 m2 s2⟩
                · have d2 := of_decide_eq_false g
                  ((conv=>whnf);repeat((first|refine Ct ‹_› ?_|refine Cf ‹_› ?_|refine Ct rfl ?_|refine Cf rfl ?_|refine Bi rfl ?_|refine Bz rfl ?_|refine Lr ?_);conv=>whnf))
                  exact ⟨rfl, rfl, Y1, rfl, (m0.trans (m1.wide (Int.le_refl _) (by omega) a0)).trans (Mv.wide (Mv.refl (a := mid) (b := b) m1.len) (by omega) (Int.le_refl _) a0), spl.fin m1 s1 (Mv.refl (a := mid) (b := b) m1.len) (spl.right m1 (by omega))⟩
              · have d1 := of_decide_eq_false g
                ((conv=>whnf);repeat((first|refine Ct ‹_› ?_|refine Cf ‹_› ?_|refine Ct rfl ?_|refine Cf rfl ?_|refine Bi rfl ?_|refine Bz rfl ?_|refine Lr ?_);conv=>whnf))
                exact ⟨rfl, rfl, Y1, rfl, (m0.trans (m1.wide (Int.le_refl _) (by omega) a0)).trans (Mv.wide (Mv.refl (a := mid) (b := b) m1.len) (by omega) (Int.le_refl _) a0), spl.fin m1 s1 (Mv.refl (a := mid) (b := b) m1.len) (spl.right m1 (by omega))⟩
            · have d2 := of_decide_eq_false g
              ((conv=>whnf);repeat((first|refine Ct ‹_› ?_|refine Cf ‹_› ?_|refine Ct rfl ?_|refine Cf rfl ?_|refine Bi rfl ?_|refine Bz rfl ?_|refine Lr ?_);conv=>whnf))
              have m1 : Mv n a mid D D := .refl m0.len
              have s1 := spl.left (by omega)
              refine Cnd_i (fun g => ?_) (fun g => ?_)
              · have d1 := of_decide_eq_true g
                ((conv=>whnf);repeat((first|refine Ct ‹_› ?_|refine Cf ‹_› ?_|refine Ct rfl ?_|refine Cf rfl ?_|refine Bi rfl ?_|refine Bz rfl ?_|refine Lr ?_);conv=>whnf))
                refine Cnd_i (fun g => ?_) (fun g => ?_)
                · have d2 := of_decide_eq_true g
                  ((conv=>whnf);repeat((first|refine Ct ‹_› ?_|refine Cf ‹_› ?_|refine Ct rfl ?_|refine Cf rfl ?_|refine Bi rfl ?_|refine Bz rfl ?_|refine Lr ?_);conv=>whnf))
                  refine CallRX_e (IH D (m1.pls pX) m1.len mid (mid + m - s) b (by omega) (by omega) (by omega) (by omega) b0 (m1.srd spl.s3 (.inr (Int.le_refl _)) (by omega)) (m1.srd spl.s4 (.inr (by omega)) (by omega))) ?_
                  rintro _ _ _ ⟨rfl, rfl, Y2, rfl, m2, s2⟩
                  refine ⟨⟨rwIn_no _ _, rwI_no _, trivial⟩, ⟨rfl, rfl, rfl, rfl, rfl, rfl, rfl, rfl, trivial⟩, rfl, rfl, ?_⟩
                  conv => whnf
                  refine ⟨rfl, ?_⟩
                  ((conv=>whnf);repeat((first|refine Ct ‹_› ?_|refine Cf ‹_› ?_|refine Ct rfl ?_|refine Cf rfl ?_|refine Bi rfl ?_|refine Bz rfl ?_|refine Lr ?_);conv=>whnf))
                  exact ⟨rfl, rfl, Y2, rfl, (m0.trans (m1.wide (Int.le_refl _) (by omega) a0)).trans (Mv.wide m2 (by omega) (Int.le_refl _) a0), spl.fin m1 s1 m2 s2⟩
                · have d2 := of_decide_eq_false g
                  ((conv=>whnf);repeat((first|refine Ct ‹_› ?_|refine Cf ‹_› ?_|refine Ct rfl ?_|refine Cf rfl ?_|refine Bi rfl ?_|refine Bz rfl ?_|refine Lr ?_);conv=>whnf))
                  exact ⟨rfl, rfl, D, rfl, (m0.trans (m1.wide (Int.le_refl _) (by omega) a0)).trans (Mv.wide (Mv.refl (a := mid) (b := b) m1.len) (by omega) (Int.le_refl _) a0), spl.fin m1 s1 (Mv.refl (a := mid) (b := b) m1.len) (spl.right m1 (by omega))⟩
              · have d1 := of_decide_eq_false g
                ((conv=>whnf);repeat((first|refine Ct ‹_› ?_|refine Cf ‹_› ?_|refine Ct rfl ?_|refine Cf rfl ?_|refine Bi rfl ?_|refine Bz rfl ?_|refine Lr ?_);conv=>whnf))
                exact ⟨rfl, rfl, D, rfl, (m0.trans (m1.wide (Int.le_refl _) (by omega) a0)).trans (Mv.wide (Mv.refl (a := mid) (b := b) m1.len) (by omega) (Int.le_refl _) a0), spl.fin m1 s1 (Mv.refl (a := mid) (b := b) m1.len) (spl.right m1 (by omega))⟩
          · have d1 := of_decide_eq_false g
            ((conv=>whnf);repeat((first|refine Ct ‹_› ?_|refine Cf ‹_› ?_|refine Ct rfl ?_|refine Cf rfl ?_|refine Bi rfl ?_|refine Bz rfl ?_|refine Lr ?_);conv=>whnf))
            have m1 : Mv n a mid D D := .refl m0.len
            have s1 := spl.left (by omega)
            refine Cnd_i (fun g => ?_) (fun g => ?_)
            · have d1 := of_decide_eq_true g
              ((conv=>whnf);repeat((first|refine Ct ‹_› ?_|refine Cf ‹_› ?_|refine Ct rfl ?_|refine Cf rfl ?_|refine Bi rfl ?_|refine Bz rfl ?_|refine Lr ?_);conv=>whnf))
              refine Cnd_i (fun g => ?_) (fun g => ?_)
              · have d2 := of_decide_eq_true g
                ((conv=>whnf);repeat((first|refine Ct ‹_› ?_|refine Cf ‹_› ?_|refine Ct rfl ?_|refine Cf rfl ?_|refine Bi rfl ?_|refine Bz rfl ?_|refine Lr ?_);conv=>whnf))
                refine CallRX_e (IH D (m1.pls pX) m1.len mid (mid + m - s) b (by omega) (by omega) (by omega) (by omega) b0 (m1.srd spl.s3 (.inr (Int.le_refl _)) (by omega)) (m1.srd spl.s4 (.inr (by omega)) (by omega))) ?_
                rintro _ _ _ ⟨rfl, rfl, Y2, rfl, m2, s2⟩
                refine ⟨⟨rwIn_no _ _, rwI_no _, trivial⟩, ⟨rfl, rfl, rfl, rfl, rfl, rfl, rfl, rfl, trivial⟩, rfl, rfl, ?_⟩
                conv => whnf
                refine ⟨rfl, ?_⟩
                ((conv=>whnf);repeat((first|refine Ct ‹_› ?_|refine Cf ‹_› ?_|refine Ct rfl ?_|refine Cf rfl ?_|refine Bi rfl ?_|refine Bz rfl ?_|refine Lr ?_);conv=>whnf))
                exact ⟨rfl, rfl, Y2, rfl, (m0.trans (m1.wide (Int.le_refl _) (by omega) a0)).trans (Mv.wide m2 (by omega) (Int.le_refl _) a0), spl.fin m1 s1 m2 s2⟩
              · have d2 := of_decide_eq_false g
                ((conv=>whnf);repeat((first|refine Ct ‹_› ?_|refine Cf ‹_› ?_|refine Ct rfl ?_|refine Cf rfl ?_|refine Bi rfl ?_|refine Bz rfl ?_|refine Lr ?_);conv=>whnf))
                exact ⟨rfl, rfl, D, rfl, (m0.trans (m1.wide (Int.le_refl _) (by omega) a0)).trans (Mv.wide (Mv.refl (a := mid) (b := b) m1.len) (by omega) (Int.le_refl _) a0), spl.fin m1 s1 (Mv.refl (a := mid) (b := b) m1.len) (spl.right m1 (by omega))⟩
            · have d1 := of_decide_eq_false g
              ((conv=>whnf);repeat((first|refine Ct ‹_› ?_|refine Cf ‹_› ?_|refine Ct rfl ?_|refine Cf rfl ?_|refine Bi rfl ?_|refine Bz rfl ?_|refine Lr ?_);conv=>whnf))
              exact ⟨rfl, rfl, D, rfl, (m0.trans (m1.wide (Int.le_refl _) (by omega) a0)).trans (Mv.wide (Mv.refl (a := mid) (b := b) m1.len) (by omega) (Int.le_refl _) a0), spl.fin m1 s1 (Mv.refl (a := mid) (b := b) m1.len) (spl.right m1 (by omega))⟩
      · have d1 := of_decide_eq_false g
        ((conv=>whnf);repeat((first|refine Ct ‹_› ?_|refine Cf ‹_› ?_|refine Ct rfl ?_|refine Cf rfl ?_|refine Bi rfl ?_|refine Bz rfl ?_|refine Lr ?_);conv=>whnf))
        have m0 : Mv n a b D D := .refl hl
        have pX := hD
        have spl := Spl.of_no cut a0 h1 h2 (by omega) (by omega) (by omega)
        refine Cnd_i (fun g => ?_) (fun g => ?_)
        · have d1 := of_decide_eq_true g
          ((conv=>whnf);repeat((first|refine Ct ‹_› ?_|refine Cf ‹_› ?_|refine Ct rfl ?_|refine Cf rfl ?_|refine Bi rfl ?_|refine Bz rfl ?_|refine Lr ?_);conv=>whnf))
          refine Cnd_i (fun g => ?_) (fun g => ?_)
          · have d2 := of_decide_eq_true g
            ((conv=>whnf);repeat((first|refine Ct ‹_› ?_|refine Cf ‹_› ?_|refine Ct rfl ?_|refine Cf rfl ?_|refine Bi rfl ?_|refine Bz rfl ?_|refine Lr ?_);conv=>whnf))
            refine CallRX_e (IH D pX m0.len a s mid (by omega) a0 (by omega) (by omega) (by omega) spl.s1 spl.s2) ?_
            rintro _ _ _ ⟨rfl, rfl, Y1, rfl, m1, s1⟩
            refine ⟨⟨rwIn_no _ _, rwI_no _, trivial⟩, ⟨rfl, rfl, rfl, rfl, rfl, rfl, rfl, rfl, trivial⟩, rfl, rfl, ?_⟩
            conv => whnf
            refine ⟨rfl, ?_⟩
            ((conv=>whnf);repeat((first|refine Ct ‹_› ?_|refine Cf ‹_› ?_|refine Ct rfl ?_|refine Cf rfl ?_|refine Bi rfl ?_|refine Bz rfl ?_|refine Lr ?_);conv=>whnf))
            refine Cnd_i (fun g => ?_) (fun g => ?_)
            · have d1 := of_decide_eq_true g
              ((conv=>whnf);repeat((first|refine Ct ‹_› ?_|refine Cf ‹_› ?_|refine Ct rfl ?_|refine Cf rfl ?_|refine Bi rfl ?_|refine Bz rfl ?_|refine Lr ?_);conv=>whnf))
              refine Cnd_i (fun g => ?_) (fun g => ?_)
              · have d2 := of_decide_eq_true g
                ((conv=>whnf);repeat((first|refine Ct ‹_› ?_|refine Cf ‹_› ?_|refine Ct rfl ?_|refine Cf rfl ?_|refine Bi rfl ?_|refine Bz rfl ?_|refine Lr ?_);conv=>whnf))
                refine CallRX_e (IH Y1 (m1.pls pX) m1.len mid (mid + m - s) b (by omega) (by omega) (by omega) (by omega) b0 (m1.srd spl.s3 (.inr (Int.le_refl _)) (by omega)) (m1.srd spl.s4 (.inr (by omega)) (by omega))) ?_
                rintro _ _ _ ⟨rfl, rfl, Y2, rfl, m2, s2⟩
                refine ⟨⟨rwIn_no _ _, rwI_no _, trivial⟩, ⟨rfl, rfl, rfl, rfl, rfl, rfl, rfl, rfl, trivial⟩, rfl, rfl, ?_⟩
                conv => whnf
                refine ⟨rfl, ?_⟩
                ((conv=>whnf);repeat((first|refine Ct ‹_› ?_|refine Cf ‹_› ?_|refine Ct rfl ?_|refine Cf rfl ?_|refine Bi rfl ?_|refine Bz rfl ?_|refine Lr ?_);conv=>whnf))
                exact ⟨rfl, rfl, Y2, rfl, (m0.trans (m1.wide (Int.le_refl _) (by omega) a0)).trans (Mv.wide m2 (by omega) (Int.le_refl _) a0), spl.fin m1 s1 m2 s2⟩
              · have d2 := of_decide_eq_false g
                ((conv=>whnf);repeat((first|refine Ct ‹_› ?_|refine Cf ‹_› ?_|refine Ct rfl ?_|refine Cf rfl ?_|refine Bi rfl ?_|refine Bz rfl ?_|refine Lr ?_);conv=>whnf))
                exact ⟨rfl, rfl, Y1, rfl, (m0.trans (m1.wide (Int.le_refl _) (by omega) a0)).trans (Mv.wide (Mv.refl (a := mid) (b := b) m1.len) (by omega) (Int.le_refl _) a0), spl.fin m1 s1 (Mv.refl (a := mid) (b := b) m1.len) (spl.right m1 (by omega))⟩
            · have d1 := of_decide_eq_false g
              ((conv=>whnf);repeat((first|refine Ct ‹_› ?_|refine Cf ‹_› ?_|refine Ct rfl ?_|refine Cf rfl ?_|refine Bi rfl ?_|refine Bz rfl ?_|refine Lr ?_);conv=>whnf))
              exact ⟨rfl, rfl, Y1, rfl, (m0.trans (m1.wide (Int.le_refl _) (by omega) a0)).trans (Mv.wide (Mv.refl (a := mid) (b := b) m1.len) (by omega) (Int.le_refl _) a0), spl.fin m1 s1 (Mv.refl (a := mid) (b := b) m1.len) (spl.right m1 (by omega))⟩
          · have d2 := of_decide_eq_false g
            ((conv=>whnf);repeat((first|refine Ct ‹_› ?_|refine Cf ‹_› ?_|refine Ct rfl ?_|refine Cf rfl ?_|refine Bi rfl ?_|refine Bz rfl ?_|refine Lr ?_);conv=>whnf))
            have m1 : Mv n a mid D D := .refl m0.len
            have s1 := spl.left (by omega)
            refine Cnd_i (fun g => ?_) (fun g => ?_)
            · have d1 := of_decide_eq_true g
              ((conv=>whnf);repeat((first|refine Ct ‹_› ?_|refine Cf ‹_› ?_|refine Ct rfl ?_|refine Cf rfl ?_|refine Bi rfl ?_|refine Bz rfl ?_|refine Lr ?_);conv=>whnf))
              refine Cnd_i (fun g => ?_) (fun g => ?_)
              · have d2 := of_decide_eq_true g
                ((conv=>whnf);repeat((first|refine Ct ‹_› ?_|refine Cf ‹_› ?_|refine Ct rfl ?_|refine Cf rfl ?_|refine Bi rfl ?_|refine Bz rfl ?_|refine Lr ?_);conv=>whnf))
                refine CallRX_e (IH D (m1.pls pX) m1.len mid (mid + m - s) b (by omega) (by omega) (by omega) (by omega) b0 (m1.srd spl.s3 (.inr (Int.le_refl _)) (by omega)) (m1.srd spl.s4 (.inr (by omega)) (by omega))) ?_
                rintro _ _ _ ⟨rfl, rfl, Y2, rfl, m2, s2⟩
                refine ⟨⟨rwIn_no _ _, rwI_no _, trivial⟩, ⟨rfl, rfl, rfl, rfl, rfl, rfl, rfl, rfl, trivial⟩, rfl, rfl, ?_⟩
                conv => whnf
                refine ⟨rfl, ?_⟩
                ((conv=>whnf);repeat((first|refine Ct ‹_› ?_|refine Cf ‹_› ?_|refine Ct rfl ?_|refine Cf rfl ?_|refine Bi rfl ?_|refine Bz rfl ?_|refine Lr ?_);conv=>whnf))
                exact ⟨rfl, rfl, Y2, rfl, (m0.trans (m1.wide (Int.le_refl _) (by omega) a0)).trans (Mv.wide m2 (by omega) (Int.le_refl _) a0), spl.fin m1 s1 m2 s2⟩
              · have d2 := of_decide_eq_false g
                ((conv=>whnf);repeat((first|refine Ct ‹_› ?_|refine Cf ‹_› ?_|refine Ct rfl ?_|refine Cf rfl ?_|refine Bi rfl ?_|refine Bz rfl ?_|refine Lr ?_);conv=>whnf))
                exact ⟨rfl, rfl, D, rfl, (m0.trans (m1.wide (Int.le_refl _) (by omega) a0)).trans (Mv.wide (Mv.refl (a := mid) (b := b) m1.len) (by omega) (Int.le_refl _) a0), spl.fin m1 s1 (Mv.refl (a := mid) (b := b) m1.len) (spl.right m1 (by omega))⟩
            · have d1 := of_decide_eq_false g
              ((conv=>whnf);repeat((first|refine Ct ‹_› ?_|refine Cf ‹_› ?_|refine Ct rfl ?_|refine Cf rfl ?_|refine Bi rfl ?_|refine Bz rfl ?_|refine Lr ?_);conv=>whnf))
              exact ⟨rfl, rfl, D, rfl, (m0.trans (m1.wide (Int.le_refl _) (by omega) a0)).trans (Mv.wide (Mv.refl (a := mid) (b := b) m1.len) (by omega) (Int.le_refl _) a0), spl.fin m1 s1 (Mv.refl (a := mid) (b := b) m1.len) (spl.right m1 (by omega))⟩
        · have d1 := of_decide_eq_false g
          ((conv=>whnf);repeat((first|refine Ct ‹_› ?_|refine Cf ‹_› ?_|refine Ct rfl ?_|refine Cf rfl ?_|refine Bi rfl ?_|refine Bz rfl ?_|refine Lr ?_);conv=>whnf))
          have m1 : Mv n a mid D D := .refl m0.len
          have s1 := spl.left (by omega)
          refine Cnd_i (fun g => ?_) (fun g => ?_)
          · have d1 := of_decide_eq_true g
            ((conv=>whnf);repeat((first|refine Ct ‹_› ?_|refine Cf ‹_› ?_|refine Ct rfl ?_|refine Cf rfl ?_|refine Bi rfl ?_|refine Bz rfl ?_|refine Lr ?_);conv=>whnf))
            refine Cnd_i (fun g => ?_) (fun g => ?_)
            · have d2 := of_decide_eq_true g
              ((conv=>whnf);repeat((first|refine Ct ‹_› ?_|refine Cf ‹_› ?_|refine Ct rfl ?_|refine Cf rfl ?_|refine Bi rfl ?_|refine Bz rfl ?_|refine Lr ?_);conv=>whnf))
              refine CallRX_e (IH D (m1.pls pX) m1.len mid (mid + m - s) b (by omega) (by omega) (by omega) (by omega) b0 (m1.srd spl.s3 (.inr (Int.le_refl _)) (by omega)) (m1.srd spl.s4 (.inr (by omega)) (by omega))) ?_
              rintro _ _ _ ⟨rfl, rfl, Y2, rfl, m2, s2⟩
              refine ⟨⟨rwIn_no _ _, rwI_no _, trivial⟩, ⟨rfl, rfl, rfl, rfl, rfl, rfl, rfl, rfl, trivial⟩, rfl, rfl, ?_⟩
              conv => whnf
              refine ⟨rfl, ?_⟩
              ((conv=>whnf);repeat((first|refine Ct ‹_› ?_|refine Cf ‹_› ?_|refine Ct rfl ?_|refine Cf rfl ?_|refine Bi rfl ?_|refine Bz rfl ?_|refine Lr ?_);conv=>whnf))
              exact ⟨rfl, rfl, Y2, rfl, (m0.trans (m1.wide (Int.le_refl _) (by omega) a0)).trans (Mv.wide m2 (by omega) (Int.le_refl _) a0), spl.fin m1 s1 m2 s2⟩
            · have d2 := of_decide_eq_false g
              ((conv=>whnf);repeat((first|refine Ct ‹_› ?_|refine Cf ‹_› ?_|refine Ct rfl ?_|refine Cf rfl ?_|refine Bi rfl ?_|refine Bz rfl ?_|refine Lr ?_);conv=>whnf))
              exact ⟨rfl, rfl, D, rfl, (m0.trans (m1.wide (Int.le_refl _) (by omega) a0)).trans (Mv.wide (Mv.refl (a := mid) (b := b) m1.len) (by omega) (Int.le_refl _) a0), spl.fin m1 s1 (Mv.refl (a := mid) (b := b) m1.len) (spl.right m1 (by omega))⟩
          · have d1 := of_decide_eq_false g
            ((conv=>whnf);repeat((first|refine Ct ‹_› ?_|refine Cf ‹_› ?_|refine Ct rfl ?_|refine Cf rfl ?_|refine Bi rfl ?_|refine Bz rfl ?_|refine Lr ?_);conv=>whnf))
            exact ⟨rfl, rfl, D, rfl, (m0.trans (m1.wide (Int.le_refl _) (by omega) a0)).trans (Mv.wide (Mv.refl (a := mid) (b := b) m1.len) (by omega) (Int.le_refl _) a0), spl.fin m1 s1 (Mv.refl (a := mid) (b := b) m1.len) (spl.right m1 (by omega))⟩
    have hsr := of_decide_eq_true g
    ((conv=>whnf);repeat((first|refine Ct ‹_› ?_|refine Cf ‹_› ?_|refine Ct rfl ?_|refine Cf rfl ?_|refine Bi rfl ?_|refine Bz rfl ?_|refine Lr ?_);conv=>whnf))
    rw [half_eq (by omega) (by omega)]
    generalize hcc : (s + r) / 2 = c
    rw [wrapI (n := mid + m - 1 - c) (by omega)]
    refine Bnd_i (⟨by omega, by omega⟩) ?_; ((conv=>whnf);repeat((first|refine Ct ‹_› ?_|refine Cf ‹_› ?_|refine Ct rfl ?_|refine Cf rfl ?_|refine Bi rfl ?_|refine Bz rfl ?_|refine Lr ?_);conv=>whnf))
    refine Bnd_i (⟨by omega, by omega⟩) ?_; ((conv=>whnf);repeat((first|refine Ct ‹_› ?_|refine Cf ‹_› ?_|refine Ct rfl ?_|refine Cf rfl ?_|refine Bi rfl ?_|refine Bz rfl ?_|refine Lr ?_);conv=>whnf))
    have v1 := hL (el D c)
    have v2 := hL (el D (mid + m - 1 - c))
    (refine CallQ_some (F_CC1 L hL (el D (mid + m - 1 - c)) (el D c) (qD _ (by omega) (by omega)) (qD c (by omega) (by omega))) ?_ ?_ ?_; rfl; rfl); ((conv=>whnf);repeat((first|refine Ct ‹_› ?_|refine Cf ‹_› ?_|refine Ct rfl ?_|refine Cf rfl ?_|refine Bi rfl ?_|refine Bz rfl ?_|refine Lr ?_);conv=>whnf))
    by_cases hk : el L (el D (mid + m - 1 - c)) - el L (el D c) < 0
    · have g : (!(decide (el L (el D (mid + m - 1 - c)) - el L (el D c) < 0))) = false := by rw [decide_eq_true hk]; rfl
      refine Cnd_f g ?_
      ((conv=>whnf);repeat((first|refine Ct ‹_› ?_|refine Cf ‹_› ?_|refine Ct rfl ?_|refine Cf rfl ?_|refine Bi rfl ?_|refine Bz rfl ?_|refine Lr ?_);conv=>whnf))
      exact ⟨q - 1, s, c, rfl, by omega, by omega, cut.down h1 h2 (by omega) (by omega)⟩
    · have g : (!(decide (el L (el D (mid + m - 1 - c)) - el L (el D c) < 0))) = true := by rw [decide_eq_false hk]; rfl
      refine Cnd_t g ?_
      ((conv=>whnf);repeat((first|refine Ct ‹_› ?_|refine Cf ‹_› ?_|refine Ct rfl ?_|refine Cf rfl ?_|refine Bi rfl ?_|refine Bz rfl ?_|refine Lr ?_);conv=>whnf))
      refine ⟨q - 1, c + 1, r, ?_, by omega, by omega, cut.up h1 h2 (by omega) (by omega)⟩
      rw [wrapI (by omega)]; rfl

/-- blocks that are in order, below e -/
def Blk (L X : List Int) (bs e : Int) : Prop := ∀ i j, 0 ≤ i → i ≤ j → j < e → i / bs = j / bs → el L (el X i) ≤ el L (el X j)

theorem Blk.ins {n : Nat} {L X X' : List Int} {a b : Int} (h : Blk L X 20 a) (a0 : 0 ≤ a ∧ a % 20 = 0) (hM : Mv n a b X X') (hs : Srd L X' a b) (hb : b ≤ a + 20) : Blk L X' 20 b := by
  intro i j i0 ij jb e
  by_cases c : a ≤ i
  · exact hs i j c ij jb
  · rw [hM.out i i0 (.inl (by omega)), hM.out j (by omega) (.inl (by omega))]
    exact h i j i0 ij (by omega) e

structure BlkM (L X : List Int) (bs c a n : Int) : Prop where
  hb : bs = 20 ∧ c = 40 ∨ bs = 40 ∧ c = 80 ∨ bs = 80 ∧ c = 160
  a0 : 0 ≤ a ∧ a % c = 0
  lo : Blk L X c a
  hi : ∀ i j, a ≤ i → i ≤ j → j < n → i / bs = j / bs → el L (el X i) ≤ el L (el X j)

theorem BlkM.c {L X : List Int} {bs c a n : Int} (h : BlkM L X bs c a n) : c = 2 * bs ∧ 0 < bs ∧ 0 ≤ a ∧ bs ≤ 80 := by
  have := h.hb; have := h.a0; omega

theorem BlkM.init {L X : List Int} {bs n : Int} (hb : bs = 20 ∨ bs = 40 ∨ bs = 80) (h : Blk L X bs n) : BlkM L X bs (2 * bs) 0 n :=
  ⟨by omega, ⟨Int.le_refl _, by simp⟩, fun i j i0 ij j0 => by omega, fun i j i0 ij jn e => h i j i0 ij jn e⟩

theorem BlkM.p1 {L X : List Int} {bs c a n m : Int} (h : BlkM L X bs c a n) (hm : m = a + bs) (hn : m ≤ n) : Srd L X a m := by
  intro i j i0 ij jm
  have a0 := h.a0
  refine h.hi i j i0 ij (by omega) ?_
  rcases h.hb with ⟨rfl, rfl⟩ | ⟨rfl, rfl⟩ | ⟨rfl, rfl⟩ <;> omega

theorem BlkM.p2 {L X : List Int} {bs c a n m b : Int} (h : BlkM L X bs c a n) (hm : m = a + bs) (hn : b ≤ n) (hb : b ≤ a + 2 * bs) : Srd L X m b := by
  intro i j i0 ij jm
  have a0 := h.a0
  have := h.c
  refine h.hi i j (by omega) ij (by omega) ?_
  rcases h.hb with ⟨rfl, rfl⟩ | ⟨rfl, rfl⟩ | ⟨rfl, rfl⟩ <;> omega

theorem BlkM.lo' {n : Nat} {L X X' : List Int} {bs c a N b : Int} (h : BlkM L X bs c a N) (hM : Mv n a b X X') (hs : Srd L X' a b) (hb : b ≤ a + 2 * bs) : Blk L X' c b := by
  intro i j i0 ij jb e
  have a0 := h.a0
  by_cases d : a ≤ i
  · exact hs i j d ij jb
  · have hj : j < a := by
      rcases h.hb with ⟨rfl, rfl⟩ | ⟨rfl, rfl⟩ | ⟨rfl, rfl⟩ <;> omega
    rw [hM.out i i0 (.inl (by omega)), hM.out j (by omega) (.inl hj)]
    exact h.lo i j i0 ij hj e

theorem BlkM.step {n : Nat} {L X X' : List Int} {bs c a N b : Int} (h : BlkM L X bs c a N) (hM : Mv n a b X X') (hs : Srd L X' a b) (hb : b = a + 2 * bs) : BlkM L X' bs c b N := by
  have a0 := h.a0
  have hc := h.c
  refine ⟨h.hb, ⟨by omega, ?_⟩, h.lo' hM hs (by omega), fun i j i0 ij jn e => ?_⟩
  · rcases h.hb with ⟨rfl, rfl⟩ | ⟨rfl, rfl⟩ | ⟨rfl, rfl⟩ <;> omega
  · rw [hM.out i (by omega) (.inr (by omega)), hM.out j (by omega) (.inr (by omega))]
    exact h.hi i j (by omega) ij jn e

theorem BlkM.end' {L X : List Int} {bs c a N : Int} (h : BlkM L X bs c a N) (hN : N ≤ a + bs) : Blk L X c N := by
  intro i j i0 ij jb e
  have a0 := h.a0
  by_cases d : a ≤ i
  · refine h.hi i j d ij jb ?_
    rcases h.hb with ⟨rfl, rfl⟩ | ⟨rfl, rfl⟩ | ⟨rfl, rfl⟩ <;> omega
  · have hj : j < a := by
      rcases h.hb with ⟨rfl, rfl⟩ | ⟨rfl, rfl⟩ | ⟨rfl, rfl⟩ <;> omega
    exact h.lo i j i0 ij hj e

theorem Blk.fin {L X : List Int} {bs n : Int} (h : Blk L X bs n) (hn : n ≤ bs) : Srd L X 0 n := fun i j i0 ij jn => h i j i0 ij jn (by
  rw [Int.ediv_eq_zero_of_lt i0 (by omega), Int.ediv_eq_zero_of_lt (by omega) (by omega)])

theorem F_stable (n : Nat) (hn : n ≤ 100) (L : List Int) (hL : SmN L) (sz : Nat → Nat) (get : Nat → Nat → Cell) (D : List Int) (hD : Pls L D) (hl : D.length = n) :
    FunE E0 47 [.one (.own 1000000 n), vI n, cmpX 1002000 L.length sz get] [(1000000, rwIn n D), (1002000, rwI L)]
      (fun r o oo => r = .tup [] ∧ o = [] ∧ ∃ D', oo = [(1000000, rwIn n D'), (1002000, rwI L)] ∧ Mv n 0 n D D' ∧ Srd L D' 0 n) := by
  refine FunE_of_xc k47 rfl ?_ ?_
  · rintro r o oo ⟨rfl, rfl, D', rfl, _⟩; rfl
  ((conv=>whnf);repeat((first|refine Ct ‹_› ?_|refine Cf ‹_› ?_|refine Ct rfl ?_|refine Cf rfl ?_|refine Bi rfl ?_|refine Bz rfl ?_|refine Lr ?_);conv=>whnf))
  refine WLoop_v3 ⟨[0, 1, 2, 6, 7, 8], [], []⟩ (fun (a b : Int) (X : List Int) => hdS 63 [(0, .v (.one (.own 1000000 n))), (1, .v (vI n)), (2, .v (cmpX 1002000 L.length sz get)), (6, .v (vI 20)), (7, .v (vI a)), (8, .v (vI b))] [] [(1000000, rwIn n X), (1002000, rwI L)])
    (fun q a b X => b = a + 20 ∧ 0 ≤ a ∧ a ≤ n ∧ a % 20 = 0 ∧ (n - a : Int).toNat ≤ q ∧ Mv n 0 n D X ∧ Blk L X 20 a) n 0 20 D rfl ⟨by omega, by omega, by omega, by omega, by omega, .refl hl, fun i j i0 ij j0 => by omega⟩ ?_
  rintro q a b X ⟨rfl, a0, an, am, hq, hM, hB⟩
  ((conv=>whnf);repeat((first|refine Ct ‹_› ?_|refine Cf ‹_› ?_|refine Ct rfl ?_|refine Cf rfl ?_|refine Bi rfl ?_|refine Bz rfl ?_|refine Lr ?_);conv=>whnf))
  refine Cnd_i (fun g => ?_) (fun g => ?_)
  · have hb := of_decide_eq_true g
    ((conv=>whnf);repeat((first|refine Ct ‹_› ?_|refine Cf ‹_› ?_|refine Ct rfl ?_|refine Cf rfl ?_|refine Bi rfl ?_|refine Bz rfl ?_|refine Lr ?_);conv=>whnf))
    refine CallRX_e (F_insertion n hn L hL X (hM.pls hD) hM.len sz get a (a + 20) a0 (by omega) (by omega)) ?_
    rintro _ _ _ ⟨rfl, rfl, Y, rfl, m1, s1⟩
    refine ⟨⟨rwIn_no _ _, rwI_no _, trivial⟩, ⟨rfl, rfl, rfl, rfl, rfl, rfl, rfl, rfl, trivial⟩, rfl, rfl, ?_⟩
    conv => whnf
    refine ⟨rfl, ?_⟩
    ((conv=>whnf);repeat((first|refine Ct ‹_› ?_|refine Cf ‹_› ?_|refine Ct rfl ?_|refine Cf rfl ?_|refine Bi rfl ?_|refine Bz rfl ?_|refine Lr ?_);conv=>whnf))
    refine ⟨q - 1, a + 20, a + 20 + 20, Y, ?_, by omega, rfl, by omega, by omega, by omega, by omega, hM.trans (m1.wide a0 (by omega) (by omega)), hB.ins ⟨a0, am⟩ m1 s1 (by omega)⟩
    rw [wrapI (by omega)]; rfl
  have hb := of_decide_eq_false g
  ((conv=>whnf);repeat((first|refine Ct ‹_› ?_|refine Cf ‹_› ?_|refine Ct rfl ?_|refine Cf rfl ?_|refine Bi rfl ?_|refine Bz rfl ?_|refine Lr ?_);conv=>whnf))
  refine CallRX_e (F_insertion n hn L hL X (hM.pls hD) hM.len sz get a n a0 (by omega) (by omega)) ?_
  rintro _ _ _ ⟨rfl, rfl, Y, rfl, m1, s1⟩
  refine ⟨⟨rwIn_no _ _, rwI_no _, trivial⟩, ⟨rfl, rfl, rfl, rfl, rfl, rfl, rfl, rfl, trivial⟩, rfl, rfl, ?_⟩
  conv => whnf
  refine ⟨rfl, ?_⟩
  ((conv=>whnf);repeat((first|refine Ct ‹_› ?_|refine Cf ‹_› ?_|refine Ct rfl ?_|refine Cf rfl ?_|refine Bi rfl ?_|refine Bz rfl ?_|refine Lr ?_);conv=>whnf))
  have hM := hM.trans (m1.wide a0 (Int.le_refl _) (Int.le_refl _))
  have hB := hB.ins ⟨a0, am⟩ m1 s1 (by omega)
  clear g hb m1 s1 hq am a0 an
  refine WLoop_v2 ⟨[0, 1, 2, 6], [], []⟩ (fun (bs : Int) (X : List Int) => hdS 63 [(0, .v (.one (.own 1000000 n))), (1, .v (vI n)), (2, .v (cmpX 1002000 L.length sz get)), (6, .v (vI bs))] [] [(1000000, rwIn n X), (1002000, rwI L)])
    (fun q bs X => (bs = 20 ∨ bs = 40 ∨ bs = 80 ∨ bs = 160) ∧ (160 - bs).toNat ≤ q ∧ Mv n 0 n D X ∧ Blk L X bs n) 140 20 Y rfl ⟨.inl rfl, by omega, hM, hB⟩ ?_
  clear hM hB
  rintro q bs X ⟨hbs, hq, hM, hB⟩
  ((conv=>whnf);repeat((first|refine Ct ‹_› ?_|refine Cf ‹_› ?_|refine Ct rfl ?_|refine Cf rfl ?_|refine Bi rfl ?_|refine Bz rfl ?_|refine Lr ?_);conv=>whnf))
  refine Cnd_i (fun g => ?_) (fun g => ?_)
  rotate_left
  · have hb := of_decide_eq_false g
    ((conv=>whnf);repeat((first|refine Ct ‹_› ?_|refine Cf ‹_› ?_|refine Ct rfl ?_|refine Cf rfl ?_|refine Bi rfl ?_|refine Bz rfl ?_|refine Lr ?_);conv=>whnf))
    exact ⟨rfl, rfl, X, rfl, hM, hB.fin (by omega)⟩
  have hb := of_decide_eq_true g
  have hbs : bs = 20 ∨ bs = 40 ∨ bs = 80 := by omega
  ((conv=>whnf);repeat((first|refine Ct ‹_› ?_|refine Cf ‹_› ?_|refine Ct rfl ?_|refine Cf rfl ?_|refine Bi rfl ?_|refine Bz rfl ?_|refine Lr ?_);conv=>whnf))
  rw [wrapI (n := 2 * bs) (by omega)]
  refine WLoop_v3 ⟨[0, 1, 2, 6, 7, 8], [], []⟩ (fun (a b : Int) (X : List Int) => hdS 63 [(0, .v (.one (.own 1000000 n))), (1, .v (vI n)), (2, .v (cmpX 1002000 L.length sz get)), (6, .v (vI bs)), (7, .v (vI a)), (8, .v (vI b))] [] [(1000000, rwIn n X), (1002000, rwI L)])
    (fun q2 a b X => b = a + 2 * bs ∧ a ≤ n ∧ (n - a : Int).toNat ≤ q2 ∧ Mv n 0 n D X ∧ BlkM L X bs (2 * bs) a n) n 0 (2 * bs) X rfl ⟨by omega, by omega, by omega, hM, BlkM.init hbs hB⟩ ?_
  clear hM hB X
  rintro q2 a b X ⟨rfl, an, hq2, hM, hB⟩
  have hc := hB.c
  ((conv=>whnf);repeat((first|refine Ct ‹_› ?_|refine Cf ‹_› ?_|refine Ct rfl ?_|refine Cf rfl ?_|refine Bi rfl ?_|refine Bz rfl ?_|refine Lr ?_);conv=>whnf))
  refine Cnd_i (fun g => ?_) (fun g => ?_)
  · have hb := of_decide_eq_true g
    ((conv=>whnf);repeat((first|refine Ct ‹_› ?_|refine Cf ‹_› ?_|refine Ct rfl ?_|refine Cf rfl ?_|refine Bi rfl ?_|refine Bz rfl ?_|refine Lr ?_);conv=>whnf))
    rw [wrapI (n := a + bs) (by omega)]
    refine CallRX_e (F_symMerge n hn L hL sz get 100 X (hM.pls hD) hM.len a (a + bs) (a + 2 * bs) (by omega) (by omega) (by omega) (by omega) (by omega) (hB.p1 rfl (by omega)) (hB.p2 rfl (by omega) (by omega))) ?_
    rintro _ _ _ ⟨rfl, rfl, Y2, rfl, m1, s1⟩
    refine ⟨⟨rwIn_no _ _, rwI_no _, trivial⟩, ⟨rfl, rfl, rfl, rfl, rfl, rfl, rfl, rfl, trivial⟩, rfl, rfl, ?_⟩
    conv => whnf
    refine ⟨rfl, ?_⟩
    ((conv=>whnf);repeat((first|refine Ct ‹_› ?_|refine Cf ‹_› ?_|refine Ct rfl ?_|refine Cf rfl ?_|refine Bi rfl ?_|refine Bz rfl ?_|refine Lr ?_);conv=>whnf))
    refine ⟨q2 - 1, a + 2 * bs, a + 2 * bs + 2 * bs, Y2, ?_, by omega, rfl, by omega, by omega, hM.trans (m1.wide (by omega) (by omega) (by omega)), hB.step m1 s1 rfl⟩
    rw [wrapI (n := 2 * bs) (by omega), wrapI (by omega)]; rfl
  have hb := of_decide_eq_false g
  ((conv=>whnf);repeat((first|refine Ct ‹_› ?_|refine Cf ‹_› ?_|refine Ct rfl ?_|refine Cf rfl ?_|refine Bi rfl ?_|refine Bz rfl ?_|refine Lr ?_);conv=>whnf))
  rw [wrapI (n := a + bs) (by omega)]
  refine Cnd_i (fun g => ?_) (fun g => ?_)
  · have hm := of_decide_eq_true g
    ((conv=>whnf);repeat((first|refine Ct ‹_› ?_|refine Cf ‹_› ?_|refine Ct rfl ?_|refine Cf rfl ?_|refine Bi rfl ?_|refine Bz rfl ?_|refine Lr ?_);conv=>whnf))
    refine CallRX_e (F_symMerge n hn L hL sz get 100 X (hM.pls hD) hM.len a (a + bs) n (by omega) (by omega) (by omega) (by omega) (by omega) (hB.p1 rfl (by omega)) (hB.p2 rfl (by omega) (by omega))) ?_
    rintro _ _ _ ⟨rfl, rfl, Y2, rfl, m1, s1⟩
    refine ⟨⟨rwIn_no _ _, rwI_no _, trivial⟩, ⟨rfl, rfl, rfl, rfl, rfl, rfl, rfl, rfl, trivial⟩, rfl, rfl, ?_⟩
    conv => whnf
    refine ⟨rfl, ?_⟩
    ((conv=>whnf);repeat((first|refine Ct ‹_› ?_|refine Cf ‹_› ?_|refine Ct rfl ?_|refine Cf rfl ?_|refine Bi rfl ?_|refine Bz rfl ?_|refine Lr ?_);conv=>whnf))
    refine ⟨q - 1, 2 * bs, Y2, ?_, by omega, by omega, by omega, hM.trans (m1.wide (by omega) (by omega) (by omega)), hB.lo' m1 s1 (by omega)⟩
    rw [wrapI (by omega), Int.mul_comm bs 2]; rfl
  · have hm := of_decide_eq_false g
    ((conv=>whnf);repeat((first|refine Ct ‹_› ?_|refine Cf ‹_› ?_|refine Ct rfl ?_|refine Cf rfl ?_|refine Bi rfl ?_|refine Bz rfl ?_|refine Lr ?_);conv=>whnf))
    refine ⟨q - 1, 2 * bs, X, ?_, by omega, by omega, by omega, hM, hB.end' (by omega)⟩
    rw [wrapI (by omega), Int.mul_comm bs 2]; rfl

theorem F_sortStable (n : Nat) (hn : n ≤ 100) (L : List Int) (hL : SmN L) (sz : Nat → Nat) (get : Nat → Nat → Cell) (D : List Int) (hD : Pls L D) (hl : D.length = n) :
    FunE E0 20 [.one (.own 1000000 n), cmpX 1001000 L.length sz get] [(1000000, rwIn n D), (1001000, rwI L)]
      (fun r o oo => r = .tup [] ∧ o = [] ∧ ∃ D', oo = [(1000000, rwIn n D'), (1001000, rwI L)] ∧ Mv n 0 n D D' ∧ Srd L D' 0 n) := by
  refine FunE_of_xc k20 rfl ?_ ?_
  · rintro r o oo ⟨rfl, rfl, D', rfl, _⟩; rfl
  ((conv=>whnf);repeat((first|refine Ct ‹_› ?_|refine Cf ‹_› ?_|refine Ct rfl ?_|refine Cf rfl ?_|refine Bi rfl ?_|refine Bz rfl ?_|refine Lr ?_);conv=>whnf))
  refine CallRX_e (F_stable n hn L hL sz get D hD hl) ?_
  rintro _ _ _ ⟨rfl, rfl, Y, rfl, m1, s1⟩
  refine ⟨⟨rwIn_no _ _, rwI_no _, trivial⟩, ⟨rfl, rfl, rfl, rfl, rfl, rfl, rfl, rfl, trivial⟩, rfl, rfl, ?_⟩
  conv => whnf
  refine ⟨rfl, ?_⟩
  ((conv=>whnf);repeat((first|refine Ct ‹_› ?_|refine Cf ‹_› ?_|refine Ct rfl ?_|refine Cf rfl ?_|refine Bi rfl ?_|refine Bz rfl ?_|refine Lr ?_);conv=>whnf))
  exact ⟨rfl, rfl, Y, rfl, m1, s1⟩

/-! ### sums -/
def sumN (f : Nat → Nat) : Nat → Nat
  | 0 => 0
  | n + 1 => sumN f n + f n

theorem sumN_congr {f g : Nat → Nat} : ∀ {n : Nat}, (∀ i, i < n → f i = g i) → sumN f n = sumN g n
  | 0, _ => rfl
  | n + 1, h => by rw [sumN, sumN, sumN_congr (fun i hi => h i (by omega)), h n (by omega)]

theorem sumN_zero {f : Nat → Nat} {n : Nat} (h : ∀ i, i < n → f i = 0) : sumN f n = 0 := by
  induction n with
  | zero => rfl
  | succ n ih => rw [sumN, ih (fun i hi => h i (by omega)), h n (by omega)]

theorem sumN_add (f g : Nat → Nat) : ∀ n, sumN (fun i => f i + g i) n = sumN f n + sumN g n
  | 0 => rfl
  | n + 1 => by rw [sumN, sumN, sumN, sumN_add f g n]; omega

theorem sumN_comm (f : Nat → Nat → Nat) (m : Nat) : ∀ n, sumN (fun i => sumN (f i) m) n = sumN (fun j => sumN (fun i => f i j) n) m
  | 0 => (sumN_zero (fun _ _ => rfl)).symm
  | n + 1 => by
    rw [sumN, sumN_comm f m n, ← sumN_add]; rfl

theorem sumN_one {f : Nat → Nat} {n x : Nat} (hx : x < n) (h : ∀ i, i < n → i ≠ x → f i = 0) : sumN f n = f x := by
  induction n with
  | zero => omega
  | succ n ih =>
    rw [sumN]
    by_cases e : x = n
    · subst e
      rw [sumN_zero (fun i hi => h i (by omega) (by omega)), Nat.zero_add]
    · rw [ih (by omega) (fun i hi hne => h i (by omega) hne), h n (by omega) (Ne.symm e), Nat.add_zero]

/-- a sum over places and directions -/
def sum2 (N : Nat) (f : Nat → Nat → Nat) : Nat := sumN (fun z => sumN (f z) 6) N

theorem sum2_congr {N : Nat} {f g : Nat → Nat → Nat} (h : ∀ z e, z < N → e < 6 → f z e = g z e) : sum2 N f = sum2 N g :=
  sumN_congr fun z hz => sumN_congr fun e he => h z e hz he

theorem sum2_add {N : Nat} (f g : Nat → Nat → Nat) : sum2 N (fun z e => f z e + g z e) = sum2 N f + sum2 N g := by
  unfold sum2
  rw [← sumN_add]
  exact sumN_congr fun z _ => sumN_add _ _ _

theorem sum2_one {N : Nat} {f : Nat → Nat → Nat} {x d : Nat} (hx : x < N) (hd : d < 6) (h : ∀ z e, z < N → e < 6 → ¬ (z = x ∧ e = d) → f z e = 0) : sum2 N f = f x d := by
  unfold sum2
  rw [sumN_one hx (fun z hz hne => sumN_zero fun e he => h z e hz he (fun hh => hne hh.1)), sumN_one hd (fun e he hne => h x e hx he (fun hh => hne hh.2))]

theorem sum2_zero {N : Nat} {f : Nat → Nat → Nat} (h : ∀ z e, z < N → e < 6 → f z e = 0) : sum2 N f = 0 :=
  sumN_zero fun z hz => sumN_zero fun e he => h z e hz he

/-! ### ways of a given sum -/
section

variable (cost next : Int → Int → Int)

/-- how many ways of the sum c lead from x to y -/
def WkC (y : Int) (c : Nat) (x : Int) : Nat :=
  if c = 0 then (if x = y then 1 else 0)
  else sumN (fun d => if h : 0 < cost x d ∧ cost x d ≤ (c : Int) then WkC y (c - (cost x d).toNat) (next x d) else 0) 6
termination_by c
decreasing_by omega

end

section

variable {cost next : Int → Int → Int}

theorem WkC_zero {y x : Int} : WkC cost next y 0 x = if x = y then 1 else 0 := by
  rw [WkC, if_pos rfl]

theorem WkC_pos {y x : Int} {c : Nat} (h : 0 < c) : WkC cost next y c x = sumN (fun d => if 0 < cost x d ∧ cost x d ≤ (c : Int) then WkC cost next y (c - (cost x d).toNat) (next x d) else 0) 6 := by
  rw [WkC, if_neg (by omega)]
  apply sumN_congr
  intro d _
  by_cases e : 0 < cost x d ∧ cost x d ≤ (c : Int)
  · rw [dif_pos e, if_pos e]
  · rw [dif_neg e, if_neg e]

/-- a step leads to a place -/
def StpOk (cost next : Int → Int → Int) (N : Nat) : Prop := ∀ x d, 0 ≤ x → x < (N : Int) → 0 ≤ d → d ≤ 5 → 0 < cost x d → 0 ≤ next x d ∧ next x d < (N : Int)

/-- the sum by the last steps -/
theorem WkC_last {N : Nat} (hs : StpOk cost next N) : ∀ (c : Nat), 0 < c → ∀ (x y : Int), 0 ≤ x → x < (N : Int) →
    WkC cost next y c x = sum2 N (fun z e => if 0 < cost z e ∧ cost z e ≤ (c : Int) ∧ next z e = y then WkC cost next z (c - (cost z e).toNat) x else 0) := by
  intro c
  induction c using Nat.strongRecOn with
  | _ c ih =>
    intro hc x y x0 x1
    have hxn : ((x.toNat : Nat) : Int) = x := by omega
    -- the middle part
    let M : Nat → Nat → Nat → Nat := fun d z e => if 0 < cost x d ∧ 0 < cost z e ∧ cost x d + cost z e ≤ (c : Int) ∧ next z e = y then WkC cost next z (c - (cost x d).toNat - (cost z e).toNat) (next x d) else 0
    have hA : WkC cost next y c x = sumN (fun d => if cost x d = (c : Int) ∧ next x d = y then 1 else 0) 6 + sumN (fun d => sum2 N (M d)) 6 := by
      rw [WkC_pos hc, ← sumN_add]
      apply sumN_congr
      intro d hd
      by_cases e1 : 0 < cost x d ∧ cost x d ≤ (c : Int)
      · rw [if_pos e1]
        have hn := hs x d x0 x1 (by omega) (by omega) e1.1
        by_cases e2 : cost x d = (c : Int)
        · rw [show c - (cost x d).toNat = 0 by omega, WkC_zero]
          have hz : sum2 N (M d) = 0 := sum2_zero fun z e _ _ => if_neg (by omega)
          rw [hz, Nat.add_zero]
          by_cases e3 : next x d = y
          · rw [if_pos e3, if_pos ⟨e2, e3⟩]
          · rw [if_neg e3, if_neg (fun h => e3 h.2)]
        · rw [if_neg (fun h => e2 h.1), Nat.zero_add, ih (c - (cost x d).toNat) (by omega) (by omega) _ y hn.1 hn.2]
          apply sum2_congr
          intro z e _ _
          show _ = if _ then _ else _
          by_cases e3 : 0 < cost z e ∧ cost z e ≤ ((c - (cost x d).toNat : Nat) : Int) ∧ next z e = y
          · rw [if_pos e3, if_pos ⟨e1.1, e3.1, by omega, e3.2.2⟩]
          · rw [if_neg e3, if_neg (fun h => e3 ⟨h.2.1, by omega, h.2.2.2⟩)]
      · rw [if_neg e1, if_neg (by omega), Nat.zero_add]
        exact (sum2_zero fun z e _ _ => if_neg (by omega)).symm
    have hB : sum2 N (fun z e => if 0 < cost z e ∧ cost z e ≤ (c : Int) ∧ next z e = y then WkC cost next z (c - (cost z e).toNat) x else 0) =
        sum2 N (fun z e => if cost z e = (c : Int) ∧ next z e = y ∧ (z : Int) = x then 1 else 0) + sum2 N (fun z e => sumN (fun d => M d z e) 6) := by
      rw [← sum2_add]
      apply sum2_congr
      intro z e _ _
      by_cases e1 : 0 < cost z e ∧ cost z e ≤ (c : Int) ∧ next z e = y
      · rw [if_pos e1]
        by_cases e2 : cost z e = (c : Int)
        · rw [show c - (cost z e).toNat = 0 by omega, WkC_zero]
          have hz : sumN (fun d => M d z e) 6 = 0 := sumN_zero fun d _ => if_neg (by omega)
          rw [hz, Nat.add_zero]
          by_cases e3 : (z : Int) = x
          · rw [if_pos e3.symm, if_pos ⟨e2, e1.2.2, e3⟩]
          · rw [if_neg (fun h => e3 h.symm), if_neg (fun h => e3 h.2.2)]
        · rw [if_neg (fun h => e2 h.1), Nat.zero_add, WkC_pos (by omega)]
          apply sumN_congr
          intro d _
          show _ = if _ then _ else _
          by_cases e3 : 0 < cost x d ∧ cost x d ≤ ((c - (cost z e).toNat : Nat) : Int)
          · rw [if_pos e3, if_pos ⟨e3.1, e1.1, by omega, e1.2.2⟩]
            congr 1; omega
          · rw [if_neg e3, if_neg (fun h => e3 ⟨h.1, by omega⟩)]
      · rw [if_neg e1, if_neg (fun h => e1 ⟨by omega, by omega, h.2.1⟩), Nat.zero_add]
        exact (sumN_zero fun d _ => if_neg (fun h => e1 ⟨h.2.1, by omega, h.2.2.2⟩)).symm
    rw [hA, hB]
    congr 1
    · unfold sum2
      rw [sumN_one (x := x.toNat) (by omega) (fun z hz hne => sumN_zero fun e _ => if_neg (fun h => hne (by omega)))]
      apply sumN_congr
      intro d _
      by_cases e : cost x d = (c : Int) ∧ next x d = y
      · rw [if_pos e, if_pos ⟨by rw [hxn]; exact e.1, by rw [hxn]; exact e.2, hxn⟩]
      · rw [if_neg e, if_neg (fun h => e ⟨by have := h.1; rwa [hxn] at this, by have := h.2.1; rwa [hxn] at this⟩)]
    · unfold sum2
      rw [sumN_comm]
      apply sumN_congr
      intro z _
      rw [sumN_comm]

theorem sumN_ne {f : Nat → Nat} {n : Nat} (h : sumN f n ≠ 0) : ∃ i, i < n ∧ f i ≠ 0 := by
  by_cases e : ∃ i, i < n ∧ f i ≠ 0
  · exact e
  · exact absurd (sumN_zero fun i hi => by
      by_cases c : f i = 0
      · exact c
      · exact absurd ⟨i, hi, c⟩ e) h

/-- least sums from a place -/
structure FrOk (cost next : Int → Int → Int) (N : Nat) (i : Int) (fr : Int → Int) : Prop where
  st : StpOk cost next N
  i0 : 0 ≤ i ∧ i < (N : Int)
  z : fr i = 0
  tri : ∀ x d, 0 ≤ x → x < (N : Int) → 0 ≤ d → d ≤ 5 → 0 < cost x d → 0 ≤ fr x → 0 ≤ fr (next x d) ∧ fr (next x d) ≤ fr x + cost x d

theorem FrOk.low {N : Nat} {i : Int} {fr : Int → Int} (h : FrOk cost next N i fr) : ∀ (c : Nat) (x y : Int), 0 ≤ x → x < (N : Int) → 0 ≤ fr x → WkC cost next y c x ≠ 0 → 0 ≤ fr y ∧ fr y ≤ fr x + c := by
  intro c
  induction c using Nat.strongRecOn with
  | _ c ih =>
    intro x y x0 x1 hx hw
    by_cases hc : c = 0
    · subst hc
      rw [WkC_zero] at hw
      by_cases e : x = y
      · subst e; omega
      · rw [if_neg e] at hw; exact absurd rfl hw
    · rw [WkC_pos (by omega)] at hw
      obtain ⟨d, hd, hv⟩ := sumN_ne hw
      by_cases e : 0 < cost x d ∧ cost x d ≤ (c : Int)
      · rw [if_pos e] at hv
        have hn := h.st x d x0 x1 (by omega) (by omega) e.1
        have ht := h.tri x d x0 x1 (by omega) (by omega) e.1 hx
        have := ih (c - (cost x d).toNat) (by omega) (next x d) y hn.1 hn.2 ht.1 hv
        omega
      · rw [if_neg e] at hv; exact absurd rfl hv

/-- a step of a least way -/
def Tig (cost next : Int → Int → Int) (fr : Int → Int) (z e y : Int) : Prop := 0 < cost z e ∧ next z e = y ∧ 0 ≤ fr z ∧ fr z + cost z e = fr y

def Don (fr : Int → Int) (v x d z e : Int) : Prop := fr z < v ∨ fr z = v ∧ (z < x ∨ z = x ∧ e < d)

open Classical in
noncomputable def Acc (cost next : Int → Int → Int) (N : Nat) (i : Int) (fr : Int → Int) (v x d y : Int) : Nat :=
  (if y = i then 1 else 0) + sum2 N (fun z e => if Tig cost next fr z e y ∧ Don fr v x d z e then WkC cost next z (fr z).toNat i else 0)

section

variable {N : Nat} {i : Int} {fr : Int → Int}

theorem Acc_congr {v x d y v' x' d' : Int} (h : ∀ (z e : Nat), z < N → e < 6 → Tig cost next fr z e y → WkC cost next z (fr z).toNat i ≠ 0 → (Don fr v x d z e ↔ Don fr v' x' d' z e)) : Acc cost next N i fr v x d y = Acc cost next N i fr v' x' d' y := by
  classical
  unfold Acc
  congr 1
  apply sum2_congr
  intro z e hz he
  by_cases c : Tig cost next fr z e y
  · by_cases w : WkC cost next z (fr z).toNat i = 0
    · rw [w]; simp
    · have := h z e hz he c w
      by_cases k : Don fr v x d z e
      · rw [if_pos ⟨c, k⟩, if_pos ⟨c, this.1 k⟩]
      · rw [if_neg (fun hh => k hh.2), if_neg (fun hh => k (this.2 hh.2))]
  · rw [if_neg (fun hh => c hh.1), if_neg (fun hh => c hh.1)]

theorem Acc_init {y : Int} : Acc cost next N i fr 0 0 0 y = if y = i then 1 else 0 := by
  classical
  unfold Acc
  rw [sum2_zero (fun z e hz he => if_neg (fun hh => by
    obtain ⟨⟨_, _, h3, _⟩, h5⟩ := hh
    rcases h5 with h5 | ⟨_, h6 | ⟨_, h7⟩⟩ <;> omega)), Nat.add_zero]

theorem Acc_skip {v x y : Int} (h : fr x ≠ v ∨ WkC cost next x (fr x).toNat i = 0) : Acc cost next N i fr v (x + 1) 0 y = Acc cost next N i fr v x 0 y := by
  refine Acc_congr fun z e hz he ht hw => ?_
  by_cases c : (z : Int) = x
  · rcases h with h | h
    · unfold Don; rw [c]; omega
    · rw [c] at hw; exact absurd h hw
  · unfold Don; omega

theorem Acc_nx {v x y : Int} : Acc cost next N i fr v x 6 y = Acc cost next N i fr v (x + 1) 0 y :=
  Acc_congr fun z e hz he ht hw => by unfold Don; omega

theorem Acc_nv {v y : Int} : Acc cost next N i fr v N 0 y = Acc cost next N i fr (v + 1) 0 0 y :=
  Acc_congr fun z e hz he ht hw => by unfold Don; omega

open Classical in
theorem Acc_d {v x d y : Int} (x0 : 0 ≤ x ∧ x < (N : Int)) (d0 : 0 ≤ d ∧ d ≤ 5) (hv : fr x = v) :
    Acc cost next N i fr v x (d + 1) y = Acc cost next N i fr v x d y + (if Tig cost next fr x d y then WkC cost next x v.toNat i else 0) := by
  have hx : ((x.toNat : Nat) : Int) = x := by omega
  have hd : ((d.toNat : Nat) : Int) = d := by omega
  have h1 := sum2_one (N := N) (f := fun z e => if (z : Int) = x ∧ (e : Int) = d ∧ Tig cost next fr x d y then WkC cost next x v.toNat i else 0) (x := x.toNat) (d := d.toNat) (by omega) (by omega) (fun z e hz he hne => if_neg (fun hh => hne ⟨by omega, by omega⟩))
  have h2 : (if ((x.toNat : Nat) : Int) = x ∧ ((d.toNat : Nat) : Int) = d ∧ Tig cost next fr x d y then WkC cost next x v.toNat i else 0) = if Tig cost next fr x d y then WkC cost next x v.toNat i else 0 := by
    by_cases c : Tig cost next fr x d y
    · rw [if_pos c, if_pos ⟨hx, hd, c⟩]
    · rw [if_neg c, if_neg (fun hh => c hh.2.2)]
  rw [← h2, ← h1]
  unfold Acc
  rw [Nat.add_assoc, ← sum2_add]
  congr 1
  apply sum2_congr
  intro z e hz he
  by_cases c : (z : Int) = x ∧ (e : Int) = d
  · obtain ⟨c1, c2⟩ := c
    rw [c1, c2, hv]
    have n1 : ¬ Don fr v x d x d := by unfold Don; omega
    have n2 : Don fr v x (d + 1) x d := by unfold Don; omega
    rw [if_neg (show ¬ (Tig cost next fr x d y ∧ Don fr v x d x d) from fun hh => n1 hh.2), Nat.zero_add]
    by_cases c : Tig cost next fr x d y
    · rw [if_pos ⟨c, n2⟩, if_pos ⟨rfl, rfl, c⟩]
    · rw [if_neg (fun hh => c hh.1), if_neg (fun hh => c hh.2.2)]
  · rw [if_neg (show ¬ ((z : Int) = x ∧ (e : Int) = d ∧ Tig cost next fr x d y) from fun hh => c ⟨hh.1, hh.2.1⟩), Nat.add_zero]
    have : Don fr v x (d + 1) z e ↔ Don fr v x d z e := by
      unfold Don
      by_cases c1 : (z : Int) = x
      · have : ¬ (e : Int) = d := fun h => c ⟨c1, h⟩
        omega
      · omega
    by_cases k : Tig cost next fr z e y ∧ Don fr v x d z e
    · rw [if_pos k, if_pos ⟨k.1, this.2 k.2⟩]
    · rw [if_neg k, if_neg (fun hh => k ⟨hh.1, this.1 hh.2⟩)]

theorem Acc_done (h : FrOk cost next N i fr) {v x d y : Int} (hy : 0 ≤ fr y) (hv : fr y ≤ v) : Acc cost next N i fr v x d y = WkC cost next y (fr y).toNat i := by
  classical
  unfold Acc
  by_cases e : fr y = 0
  · rw [show (fr y).toNat = 0 by omega, WkC_zero, sum2_zero (fun z e hz he => if_neg (fun hh => by
      obtain ⟨⟨h1, _, h3, h4⟩, _⟩ := hh
      omega)), Nat.add_zero]
    by_cases c : y = i
    · rw [if_pos c, if_pos c.symm]
    · rw [if_neg c, if_neg (Ne.symm c)]
  · have hne : y ≠ i := fun c => e (by rw [c]; exact h.z)
    rw [if_neg hne, Nat.zero_add, WkC_last h.st (fr y).toNat (by omega) i y h.i0.1 h.i0.2]
    apply sum2_congr
    intro z e hz he
    by_cases c : Tig cost next fr z e y
    · have c' := c
      obtain ⟨h1, h2, h3, h4⟩ := c'
      have hd : Don fr v x d z e := .inl (by omega)
      rw [if_pos ⟨c, hd⟩, if_pos ⟨h1, by omega, h2⟩]
      congr 1; omega
    · rw [if_neg (fun hh => c hh.1)]
      by_cases k : 0 < cost z e ∧ cost z e ≤ (((fr y).toNat : Nat) : Int) ∧ next z e = y
      · rw [if_pos k]
        by_cases w : WkC cost next z ((fr y).toNat - (cost z e).toNat) i = 0
        · exact w.symm
        · exfalso
          have l := h.low _ i z h.i0.1 h.i0.2 (by rw [h.z]; omega) w
          have t := h.tri z e (by omega) (by omega) (by omega) (by omega) k.1 l.1
          rw [k.2.2] at t
          rw [h.z] at l
          exact c ⟨k.1, k.2.2, l.1, by omega⟩
      · rw [if_neg k]

end

/-- least sums to a place -/
structure ToOk (cost next : Int → Int → Int) (N : Nat) (k : Int) (lf : Int → Int) : Prop where
  st : StpOk cost next N
  z : lf k = 0
  tri : ∀ x d, 0 ≤ x → x < (N : Int) → 0 ≤ d → d ≤ 5 → 0 < cost x d → 0 ≤ lf (next x d) → 0 ≤ lf x ∧ lf x ≤ lf (next x d) + cost x d

theorem ToOk.low {N : Nat} {k : Int} {lf : Int → Int} (h : ToOk cost next N k lf) : ∀ (c : Nat) (x : Int), 0 ≤ x → x < (N : Int) → WkC cost next k c x ≠ 0 → 0 ≤ lf x ∧ lf x ≤ c := by
  intro c
  induction c using Nat.strongRecOn with
  | _ c ih =>
    intro x x0 x1 hw
    by_cases hc : c = 0
    · subst hc
      rw [WkC_zero] at hw
      by_cases e : x = k
      · subst e; have := h.z; omega
      · rw [if_neg e] at hw; exact absurd rfl hw
    · rw [WkC_pos (by omega)] at hw
      obtain ⟨d, hd, hv⟩ := sumN_ne hw
      by_cases e : 0 < cost x d ∧ cost x d ≤ (c : Int)
      · rw [if_pos e] at hv
        have hn := h.st x d x0 x1 (by omega) (by omega) e.1
        have := ih (c - (cost x d).toNat) (by omega) (next x d) hn.1 hn.2 hv
        have ht := h.tri x d x0 x1 (by omega) (by omega) e.1 this.1
        omega
      · rw [if_neg e] at hv; exact absurd rfl hv

def TigI (cost next : Int → Int → Int) (lf : Int → Int) (x d : Int) : Prop := 0 < cost x d ∧ 0 ≤ lf (next x d) ∧ lf (next x d) + cost x d = lf x

open Classical in
noncomputable def PS (cost next : Int → Int → Int) (k : Int) (lf : Int → Int) (x : Int) (d : Nat) : Nat :=
  (if x = k then 1 else 0) + sumN (fun e => if TigI cost next lf x e then WkC cost next k (lf (next x e)).toNat (next x e) else 0) d

theorem PS_all {N : Nat} {k : Int} {lf : Int → Int} (h : ToOk cost next N k lf) {x : Int} (x0 : 0 ≤ x ∧ x < (N : Int)) (hx : 0 ≤ lf x) : PS cost next k lf x 6 = WkC cost next k (lf x).toNat x := by
  classical
  unfold PS
  by_cases e : lf x = 0
  · rw [show (lf x).toNat = 0 by omega, WkC_zero, sumN_zero (fun e he => if_neg (fun hh => by
      obtain ⟨h1, h2, h3⟩ := hh
      omega)), Nat.add_zero]
  · have hne : x ≠ k := fun c => e (by rw [c]; exact h.z)
    rw [if_neg hne, Nat.zero_add, WkC_pos (by omega)]
    apply sumN_congr
    intro d hd
    by_cases c : TigI cost next lf x d
    · have c' := c
      obtain ⟨h1, h2, h3⟩ := c'
      rw [if_pos c, if_pos ⟨h1, by omega⟩]
      congr 1; omega
    · rw [if_neg c]
      by_cases q : 0 < cost x d ∧ cost x d ≤ (((lf x).toNat : Nat) : Int)
      · rw [if_pos q]
        by_cases w : WkC cost next k ((lf x).toNat - (cost x d).toNat) (next x d) = 0
        · exact w.symm
        · exfalso
          have hn := h.st x d x0.1 x0.2 (by omega) (by omega) q.1
          have l := h.low _ (next x d) hn.1 hn.2 w
          have t := h.tri x d x0.1 x0.2 (by omega) (by omega) q.1 l.1
          exact c ⟨q.1, l.1, by omega⟩
      · rw [if_neg q]

end
end Go.Proofs.YtjnpnpkjmlihdaaDoor.Ab
