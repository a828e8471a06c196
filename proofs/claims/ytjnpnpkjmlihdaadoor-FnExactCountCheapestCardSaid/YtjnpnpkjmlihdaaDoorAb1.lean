/- An abstract machine over the model, proved sound once: by-value states, weakest preconditions, contracts of functions (part 1).
   Conditions: none. -/
import Derived.Test.YtjnpnpkjmlihdaaDoorAb0
set_option linter.unusedVariables false
set_option linter.unusedSimpArgs false
namespace Go.Proofs.YtjnpnpkjmlihdaaDoor.Ab
open Go Go.RowKit

section
variable {C : Cx} {G : Gh} {st : St} {a : Act} {w : World}

/-- the frame's memory after a row `k'` has been made anew out of what was there, other names having fallen -/
theorem Rel.remake (h : Rel C G st a w) {G' : Gh} {st' : St} {w' : World} {k' : Nat} {r' : Row} {p : Cell → Bool} {φ : Pos → Pos} {new : Pos → Prop}
    (htm : st'.tm = killTs p st.tm) (hbx : st'.bx = killB p st.bx) (hGb : G'.bx = G.bx) (hr : lk st'.ob k' = some r')
    (hold : ∀ k r, k ≠ k' → lk st'.ob k = some r → lk st.ob k = some r ∧ G'.top k = G.top k ∧ G'.sub k = G.sub k)
    (hcell : ∀ c k r, p c = false → c.isKey k = true → lk st.ob k = some r →
      (k ≠ k' ∧ lk st'.ob k = some r) ∨ (k = k' ∧ r'.n = r.n ∧ r'.sz = r.sz ∧ G'.top k = G.top k ∧ c.isDeep k = false))
    (hrow : RowAt w' (G'.top k') r'.sz r'.n (fun i j v => Cont w' C.w0 C.I G' k' r'.deep i j v (r'.get i j)))
    (hemb : Emb w G st.bx st.ob G' st'.bx st'.ob φ new)
    (hheap : ∀ q b, Live st'.bx st'.ob q → q ≠ .top k' → (∀ i j, q ≠ .sub k' i j) → G'.blk q = some b → w'.heap[b]? = w.heap[b]?)
    (hkeep : Keep C.w0 w' C.D) (hsz : w.heap.size ≤ w'.heap.size) (hpk : isP k' = true → G'.top k' = G.top k' ∧ ∃ r, lk st.ob k' = some r)
    (hpu : p .u = false) : Rel C G' st' a w' := by
  have hS : ∀ v c, SRep C.w0 C.I G st.bx st.ob v c → SRep C.w0 C.I G' st'.bx st'.ob v (killC p c) := by
    intro v c hv
    refine hv.toKill (fun s cs hs => ⟨⟨killL p cs, by rw [hbx, lk_killB, hs]; rfl⟩, by rw [hGb]⟩) (fun k r hp hk hr0 => ?_)
    rcases hcell c k r hp hk hr0 with ⟨hne, h1⟩ | ⟨rfl, h1, h2, h3, h4⟩
    · obtain ⟨_, h2, h3⟩ := hold k r hne h1
      exact ⟨r, h1, rfl, rfl, h2, fun _ i j sz n g _ _ hg => ⟨hg, by rw [h3]⟩⟩
    · exact ⟨r', hr, h1, h2, h3, fun hd => by rw [h4] at hd; cases hd⟩
  refine ⟨h.df, by rw [htm, length_killTs]; exact h.sz, fun s => ?_, ⟨?_, ?_, ?_, ?_⟩, hkeep, ?_⟩
  · rw [htm]
    by_cases hs : s < st.tm.length
    · rw [getL_killTs _ _ _ hs]; exact (h.tm s).kill hS
    · rw [getL_out _ _ (by rw [length_killTs]; omega)]; exact TRep.u
  · intro s cs' hs
    have hs' := hs
    rw [hbx, lk_killB] at hs'
    obtain ⟨cs, h1, h2⟩ := Option.map_eq_some_iff.1 hs'
    obtain ⟨arr, t, b1, b2, b3⟩ := h.ob.bxr s cs h1
    refine ⟨arr, t, ?_, by rw [b2, ← h2, length_killL], fun j u hu => ?_⟩
    · rw [hheap (.bx s) (G'.bx s) ⟨cs', hs⟩ (by simp) (by simp) rfl, hGb]; exact b1
    · have hj : j < cs.length := by have := (Array.getElem?_eq_some_iff.1 hu).1; omega
      rw [← h2, nth_killL _ _ _ hj]
      exact ⟨hS _ _ (b3 j u hu).1, trivial⟩
  · intro k r hk
    by_cases e : k = k'
    · subst e
      rw [hr] at hk; cases hk
      exact hrow
    · obtain ⟨h1, h2, h3⟩ := hold k r e hk
      rw [h2]
      refine (h.ob.obr k r h1).imp (fun b hb => hheap (.top k) b ⟨r, hk⟩ (by simpa using e) (by simp) (by simp only [Gh.blk]; rw [h2]; exact hb)) (fun i j v hi hj hc => ?_)
      cases e2 : r.get i j with
      | fr sz n g =>
        rw [e2] at hc
        refine ⟨hc.1, by rw [h3]; exact hc.2.1, ?_⟩
        rw [h3]
        exact hc.2.2.imp (fun b hb => hheap (.sub k i j) b ⟨r, sz, n, g, hk, hi, hj, e2⟩ (by simp) (fun i' j' => by simp; intro e3; exact absurd e3 e) (by simp only [Gh.blk]; rw [h3]; exact hb)) (fun _ _ _ _ _ h => h)
      | _ => rw [e2] at hc; exact hc
  · exact hemb.apart h.ob
  · exact hemb.okay h.ob (fun b hb => hb) (fun b hb => ⟨.inl (by have := h.keep.size; omega), fun hI => by have := (C.imm b hI).1; have := h.keep.size; omega⟩)
  · intro k r hp hk
    by_cases e : k = k'
    · subst e
      obtain ⟨h1, r0, h2⟩ := hpk hp
      rw [h1]; exact h.pk k r0 hp h2
    · obtain ⟨h1, h2, _⟩ := hold k r e hk
      rw [h2]; exact h.pk k r hp h1

theorem Rel.put (h : Rel C G st a w) {d : Option Nat} {v : Value} {t : T} (hv : TRep C.w0 C.I G st.bx st.ob v t) : Rel C G (st.put d t) (a.put d v) w := by
  cases d with
  | none => exact h
  | some d =>
    refine ⟨h.df, by simp only [St.put, Act.put, length_setL, Array.size_setIfInBounds]; exact h.sz, fun s => ?_, h.ob, h.keep, h.pk⟩
    simp only [St.put, Act.put, getL_setL]
    have hsz := h.sz
    by_cases e : d = s ∧ d < st.tm.length
    · obtain ⟨rfl, e2⟩ := e
      rw [if_pos ⟨rfl, e2⟩]
      have : (a.tmps.setIfInBounds d v).getD d undef = v := by
        have hlt : d < a.tmps.size := by omega
        rw [Array.getD_eq_getD_getElem?, Array.getElem?_setIfInBounds]
        simp [hlt]
      rw [this]; exact hv
    · rw [if_neg e]
      have : (a.tmps.setIfInBounds d v).getD s undef = a.tmps.getD s undef := by
        rw [Array.getD_eq_getD_getElem?, Array.getD_eq_getD_getElem?, Array.getElem?_setIfInBounds]
        by_cases e1 : d = s
        · subst e1
          have e2 : ¬ d < st.tm.length := fun h => e ⟨rfl, h⟩
          have hlt : ¬ d < a.tmps.size := by omega
          simp [hlt]
        · simp [e1]
      rw [this]; exact h.tm s

theorem run_store {P : Program} {t : TypeId} {n b o' : Nat} {v : Value} {cur : Array Value} {ty : TypeId} (hn : sizeT P t = some n) (hv : v.cells.size = n)
    (hb : w.heap[b]? = some (.cells cur ty (0, 0))) (ho : o' + n ≤ cur.size) (h1 : ∀ u ∈ v.cells.toList, u.oneCell' = true) :
    (Instr.storeAt t (.pointer (some ⟨b, o', none⟩)) v).run P w = .ok () (w.setRow b (cur.toList.take o' ++ v.cells.toList ++ cur.toList.drop (o' + v.cells.toList.length)).toArray) := by
  have hs := run_storeCells_at P b o' ty v.cells.toList 0 cur w hb (by simp [hv]; exact ho) h1
  simp only [Instr.storeAt, Instr.sureAddr, storeVar, Sem.run_bind, run_ok, Result.andThen_ok, run_sizeOf hn]
  rw [if_neg (by simp [hv])]
  simpa using hs

theorem Keep.setRow {w0 w : World} {D : Nat → Prop} (h : Keep w0 w D) {b : Nat} {cs : Array Value} (hb : w0.heap.size ≤ b ∨ D b) : Keep w0 (w.setRow b cs) D :=
  ⟨h.os, h.tape, h.output, by simp; exact h.size, fun k hk hd => by
    rw [setRow_other w b k cs (fun e => by subst e; rcases hb with hb | hb; omega; exact hd hb)]; exact h.block k hk hd⟩

/-- a store into a variable of the frame's own -/
theorem Rel.putB (h : Rel C G st a w) {s o' : Nat} {cs ys : List Cell} {v : Value} {cur : Array Value} {ty : TypeId} (hs : lk st.bx s = some cs)
    (hb : w.heap[G.bx s]? = some (.cells cur ty (0, 0))) (hv : v.cells.size = ys.length ∧ ∀ (j : Nat) (u : Value), v.cells[j]? = some u → SRep C.w0 C.I G st.bx st.ob u (nth ys j)) (ho : o' + ys.length ≤ cs.length) :
    Rel C G { st with bx := up st.bx s (splice cs o' ys) } a (w.setRow (G.bx s) (cur.toList.take o' ++ v.cells.toList ++ cur.toList.drop (o' + v.cells.toList.length)).toArray) := by
  obtain ⟨arr, t, b1, b2, b3⟩ := h.ob.bxr s cs hs
  rw [hb] at b1; cases b1
  have hvl : v.cells.toList.length = ys.length := by simpa using hv.1
  have hlk : ∀ s', (∃ x, lk (up st.bx s (splice cs o' ys)) s' = some x) ↔ ∃ x, lk st.bx s' = some x := by
    intro s'
    rw [lk_up]
    by_cases e : s = s'
    · subst e; simp [hs]
    · simp [e]
  have hext : ∀ v c, SRep C.w0 C.I G st.bx st.ob v c → SRep C.w0 C.I G (up st.bx s (splice cs o' ys)) st.ob v c := by
    intro v c hv
    exact hv.to (fun _ h => h) (fun _ _ => rfl) (fun s' cs' hs' => ⟨(hlk s').2 ⟨cs', hs'⟩, rfl⟩) (fun k r _ hr => ⟨r, hr, rfl, rfl, rfl, fun _ i j sz n g _ _ hg => ⟨hg, rfl⟩⟩)
  have live : ∀ p, Live (up st.bx s (splice cs o' ys)) st.ob p ↔ Live st.bx st.ob p := by
    intro p
    cases p with
    | bx s' => exact hlk s'
    | top k => exact Iff.rfl
    | sub k i j => exact Iff.rfl
  have hne : ∀ p b, Live st.bx st.ob p → p ≠ .bx s → G.blk p = some b → b ≠ G.bx s := by
    intro p b hp hpe hbp e
    subst e
    exact hpe (h.ob.inj p (.bx s) _ hp ⟨cs, hs⟩ hbp rfl)
  have hok := (h.ob.okb (.bx s) _ ⟨cs, hs⟩ rfl).1
  refine ⟨h.df, h.sz, fun s' => (h.tm s').same hext, ⟨?_, ?_, ?_, ?_⟩, h.keep.setRow hok, h.pk⟩
  · intro s' cs' hs'
    have hs'' : lk (up st.bx s (splice cs o' ys)) s' = some cs' := hs'
    rw [lk_up] at hs''
    by_cases e : s = s'
    · subst e
      rw [if_pos rfl, hs] at hs''
      simp only [Option.map_some, Option.some.injEq] at hs''
      subst hs''
      refine ⟨_, ty, setRow_heap w _ cur _ ty _ hb, by rw [laid_size (by omega), length_splice]; exact b2, fun j u hu => ⟨hext _ _ ?_, trivial⟩⟩
      rw [laid_get (by omega)] at hu
      by_cases c : o' ≤ j ∧ j < o' + v.cells.toList.length
      · rw [if_pos c] at hu
        rw [nth_splice _ _ _ _ (by omega), if_pos (by omega)]
        exact hv.2 _ u (by simpa using hu)
      · rw [if_neg c] at hu
        have hj : j < cs.length := by have := (Array.getElem?_eq_some_iff.1 hu).1; omega
        rw [nth_splice _ _ _ _ hj, if_neg (by omega)]
        exact (b3 j u hu).1
    · rw [if_neg e] at hs''
      obtain ⟨arr', t', c1, c2, c3⟩ := h.ob.bxr s' cs' hs''
      refine ⟨arr', t', ?_, c2, fun j u hu => ⟨hext _ _ (c3 j u hu).1, trivial⟩⟩
      rw [setRow_other w _ _ _ (hne (.bx s') _ ⟨cs', hs''⟩ (by simpa using Ne.symm e) rfl)]
      exact c1
  · intro k r hr
    refine (h.ob.obr k r hr).imp (fun b hb => setRow_other w _ _ _ (hne (.top k) b ⟨r, hr⟩ (by simp) hb)) (fun i j v' hi hj hc => ?_)
    cases e2 : r.get i j with
    | fr sz n g =>
      rw [e2] at hc
      exact ⟨hc.1, hc.2.1, hc.2.2.imp (fun b hb => setRow_other w _ _ _ (hne (.sub k i j) b ⟨r, sz, n, g, hr, hi, hj, e2⟩ (by simp) hb)) (fun _ _ _ _ _ h => h)⟩
    | _ => rw [e2] at hc; exact hc
  · intro p q b hp hq hbp hbq
    exact h.ob.inj p q b ((live p).1 hp) ((live q).1 hq) hbp hbq
  · intro p b hp hbp
    exact h.ob.okb p b ((live p).1 hp) hbp

/-- the cells of a row, an element's cells having been laid anew -/
theorem row_set {w : World} {d : Hd} {sz n b : Nat} {cr cr' : Nat → Nat → Value → Prop} (hr : RowAt w d sz n cr) (hb : d.base = some b) {i o' : Nat} {vs : List Value} (hi : i < n) (ho : o' + vs.length ≤ sz)
    {cur : Array Value} {ty : TypeId} (hc : w.heap[b]? = some (.cells cur ty (0, 0)))
    (hnew : ∀ j v, vs[j]? = some v → cr' i (o' + j) v) (hold : ∀ i' j' v, i' < n → j' < sz → ¬ (i' = i ∧ o' ≤ j' ∧ j' < o' + vs.length) → cr i' j' v → cr' i' j' v) :
    RowAt (w.setRow b (cur.toList.take (d.off + (i * sz + o')) ++ vs ++ cur.toList.drop (d.off + (i * sz + o') + vs.length)).toArray) d sz n cr' ∧ d.off + (i * sz + o') + vs.length ≤ cur.size := by
  obtain ⟨cs, t, h1, h2, h3⟩ := hr.2.2 b hb
  rw [hc] at h1; cases h1
  have hlt : (i + 1) * sz ≤ d.cap * sz := Nat.mul_le_mul_right _ (by have := hr.1; omega)
  rw [Nat.add_mul, Nat.one_mul] at hlt
  have hfit : d.off + (i * sz + o') + vs.length ≤ cur.size := by omega
  refine ⟨⟨hr.1, hr.2.1, fun b' hb' => ?_⟩, hfit⟩
  rw [hb] at hb'; cases hb'
  refine ⟨_, ty, setRow_heap w b cur _ ty _ hc, by rw [laid_size hfit]; exact h2, fun i' j' hi' hj' => ?_⟩
  rw [laid_get hfit]
  by_cases c : i' = i ∧ o' ≤ j' ∧ j' < o' + vs.length
  · obtain ⟨rfl, c1, c2⟩ := c
    rw [if_pos (by omega)]
    have hl : i' * sz + j' - (i' * sz + o') < vs.length := by omega
    rw [show d.off + (i' * sz + j') - (d.off + (i' * sz + o')) = i' * sz + j' - (i' * sz + o') by omega]
    refine ⟨vs[i' * sz + j' - (i' * sz + o')], by simp [hl], ?_⟩
    have := hnew (i' * sz + j' - (i' * sz + o')) vs[i' * sz + j' - (i' * sz + o')] (by simp [hl])
    rw [show o' + (i' * sz + j' - (i' * sz + o')) = j' by omega] at this
    exact this
  · have hn : ¬ (d.off + (i * sz + o') ≤ d.off + (i' * sz + j') ∧ d.off + (i' * sz + j') < d.off + (i * sz + o') + vs.length) := by
      intro hh
      have := idx_inj (sz := sz) (i := i') (j := j') (i' := i) (j' := i' * sz + j' - i * sz) hj' (by omega) (by omega)
      exact c ⟨this.1, by omega, by omega⟩
    rw [if_neg hn]
    obtain ⟨v, hv, hcr⟩ := h3 i' j' hi' hj'
    exact ⟨v, hv, hold i' j' v hi' hj' c hcr⟩

theorem wrG_in {g : Nat → Nat → Cell} {i o' j' : Nat} {ys : List Cell} (h : o' ≤ j' ∧ j' < o' + ys.length) : wrG g i o' ys i j' = nth ys (j' - o') := by
  unfold wrG
  have h1 : Nat.ble o' j' = true := Nat.ble_eq_true_of_le h.1
  have h2 : Nat.blt j' (o' + ys.length) = true := by simp [Nat.blt, Nat.ble_eq]; omega
  simp [h1, h2, beq_self]
theorem wrG_out {g : Nat → Nat → Cell} {i o' i' j' : Nat} {ys : List Cell} (h : ¬ (i' = i ∧ o' ≤ j' ∧ j' < o' + ys.length)) : wrG g i o' ys i' j' = g i' j' := by
  unfold wrG
  by_cases e : i' = i
  · subst e
    by_cases c : o' ≤ j'
    · have h2 : Nat.blt j' (o' + ys.length) = false := by
        rw [Bool.eq_false_iff]; simp [Nat.blt, Nat.ble_eq]; omega
      simp [h2]
    · have h1 : Nat.ble o' j' = false := by rw [Bool.eq_false_iff]; simp [Nat.ble_eq]; omega
      simp [h1]
  · simp [beq_ne e]

/-- a store of plain cells into an element of a row -/
theorem Rel.putE (h : Rel C G st a w) {k i o' b : Nat} {r q : Row} {ys : List Cell} {v : Value} {cur : Array Value} {ty : TypeId} (hr : lk st.ob k = some r) (hi : i < r.n) (hbase : (G.top k).base = some b)
    (hb : w.heap[b]? = some (.cells cur ty (0, 0))) (hv : v.cells.size = ys.length ∧ ∀ (j : Nat) (u : Value), v.cells[j]? = some u → CRep C.w0 C.I u (nth ys j))
    (hpl : allC Cell.plain ys = true) (ho : o' + ys.length ≤ r.sz) (hq : RowEq ⟨r.deep, r.sz, r.n, wrG r.get i o' ys⟩ q) :
    Rel C G (({ st with ob := up st.ob k q } : St).kill (Cell.isDeep k)) a (w.setRow b (cur.toList.take ((G.top k).off + (i * r.sz + o')) ++ v.cells.toList ++ cur.toList.drop ((G.top k).off + (i * r.sz + o') + v.cells.toList.length)).toArray) ∧ (G.top k).off + (i * r.sz + o') + v.cells.toList.length ≤ cur.size := by
  have hvl : v.cells.toList.length = ys.length := by simpa using hv.1
  have hR := h.ob.obr k r hr
  have hlk : ∀ k', lk (up st.ob k q) k' = if k = k' then some q else lk st.ob k' := by
    intro k'; rw [lk_up]; by_cases e : k = k'
    · subst e; simp [hr]
    · simp [e]
  have hqsz : q.sz = r.sz := hq.sz.symm
  have hqn : q.n = r.n := hq.n.symm
  have hqd : q.deep = r.deep := hq.deep.symm
  have hget : ∀ i' j', i' < r.n → j' < r.sz → q.get i' j' = wrG r.get i o' ys i' j' := fun i' j' a1 a2 => (hq.get i' j' a1 a2).symm
  have hsub : ∀ i' j' sz n g, i' < r.n → j' < r.sz → q.get i' j' = .fr sz n g → r.get i' j' = .fr sz n g ∧ ¬ (i' = i ∧ o' ≤ j' ∧ j' < o' + ys.length) := by
    intro i' j' sz n g a1 a2 hg
    rw [hget i' j' a1 a2] at hg
    by_cases c : i' = i ∧ o' ≤ j' ∧ j' < o' + ys.length
    · obtain ⟨rfl, c⟩ := c
      rw [wrG_in c] at hg
      have := allC_nth hpl (j := j' - o') (by omega)
      rw [hg] at this; cases this
    · rw [wrG_out c] at hg; exact ⟨hg, c⟩
  have live : ∀ p, Live (killB (Cell.isDeep k) st.bx) (up st.ob k q) p → Live st.bx st.ob p := by
    intro p hp
    cases p with
    | bx s =>
      obtain ⟨cs, hs⟩ := hp
      rw [lk_killB] at hs
      obtain ⟨cs', h1, _⟩ := Option.map_eq_some_iff.1 hs
      exact ⟨cs', h1⟩
    | top k' =>
      obtain ⟨r', hr'⟩ := hp
      rw [hlk] at hr'
      by_cases e : k = k'
      · subst e; exact ⟨r, hr⟩
      · rw [if_neg e] at hr'; exact ⟨r', hr'⟩
    | sub k' i' j' =>
      obtain ⟨r', sz, n, g, hr', a1, a2, hg⟩ := hp
      rw [hlk] at hr'
      by_cases e : k = k'
      · subst e
        rw [if_pos rfl] at hr'; cases hr'
        rw [hqn] at a1; rw [hqsz] at a2
        exact ⟨r, sz, n, g, hr, a1, a2, (hsub i' j' sz n g a1 a2 hg).1⟩
      · rw [if_neg e] at hr'; exact ⟨r', sz, n, g, hr', a1, a2, hg⟩
  have hne : ∀ p b', Live st.bx st.ob p → p ≠ .top k → G.blk p = some b' → b' ≠ b := by
    intro p b' hp hpe hbp e
    subst e
    exact hpe (h.ob.inj p (.top k) _ hp ⟨r, hr⟩ hbp hbase)
  have hok := (h.ob.okb (.top k) b ⟨r, hr⟩ hbase).1
  obtain ⟨hset, hfit⟩ := row_set (cr' := fun i' j' v' => Cont (w.setRow b (cur.toList.take ((G.top k).off + (i * r.sz + o')) ++ v.cells.toList ++ cur.toList.drop ((G.top k).off + (i * r.sz + o') + v.cells.toList.length)).toArray) C.w0 C.I G k q.deep i' j' v' (q.get i' j'))
    hR hbase (vs := v.cells.toList) (o' := o') hi (by omega) hb
    (fun j u hu => by
      have hj : j < ys.length := by have := (List.getElem?_eq_some_iff.1 hu).1; omega
      rw [hget i (o' + j) hi (by omega), wrG_in (by omega)]
      rw [show o' + j - o' = j by omega]
      have h1 := hv.2 j u (by simpa using hu)
      have h2 := allC_nth hpl hj
      cases e2 : nth ys j <;> rw [e2] at h1 h2 <;> first | exact ⟨h1, h2⟩ | cases h2)
    (fun i' j' v' a1 a2 hc hcr => by
      rw [hvl] at hc
      rw [hget i' j' a1 a2, wrG_out hc, hqd]
      cases e2 : r.get i' j' with
      | fr sz n g =>
        rw [e2] at hcr
        exact ⟨hcr.1, hcr.2.1, hcr.2.2.imp (fun b' hb' => setRow_other w _ _ _ (hne (.sub k i' j') b' ⟨r, sz, n, g, hr, a1, a2, e2⟩ (by simp) hb')) (fun _ _ _ _ _ h => h)⟩
      | _ => rw [e2] at hcr; exact hcr)
  refine ⟨Rel.remake h (k' := k) (r' := q) (p := Cell.isDeep k) (φ := id) (new := fun _ => False) rfl rfl rfl (by show lk (up st.ob k q) k = _; rw [hlk, if_pos rfl]) ?_ ?_ ?_ ?_ ?_ (h.keep.setRow hok) (by simp) (fun _ => ⟨rfl, r, hr⟩) rfl, hfit⟩
  · intro k' r' hne' hr'
    have hr' : lk (up st.ob k q) k' = some r' := hr'
    rw [hlk, if_neg (Ne.symm hne')] at hr'
    exact ⟨hr', rfl, rfl⟩
  · intro c k' r' hp hk hr'
    by_cases e : k' = k
    · subst e
      rw [hr] at hr'; cases hr'
      exact .inr ⟨rfl, hqn, hqsz, rfl, hp⟩
    · exact .inl ⟨e, by show lk (up st.ob k q) k' = _; rw [hlk, if_neg (Ne.symm e)]; exact hr'⟩
  · rw [hqsz, hqn]; exact hset
  · exact ⟨fun p b hp _ hb => ⟨live p hp, hb⟩, fun p q _ _ _ _ e => e, fun _ _ _ h => h.elim, fun _ _ _ _ _ h => h.elim⟩
  · intro p b' hp hpe _ hbp
    exact setRow_other w _ _ _ (hne p b' (live p hp) hpe hbp)
end
end Go.Proofs.YtjnpnpkjmlihdaaDoor.Ab
namespace Go.Proofs.YtjnpnpkjmlihdaaDoor.Ab
open Go Go.RowKit

section
variable {C : Cx} {G : Gh} {st : St} {a : Act} {w : World}

theorem length_repl (l : List Cell) (j : Nat) (x : Cell) : (repl l j x).length = l.length := by
  induction l generalizing j with
  | nil => rfl
  | cons c l ih => cases j <;> simp [repl, ih]
theorem nth_repl (l : List Cell) (j : Nat) (x : Cell) (i : Nat) : nth (repl l j x) i = if i = j ∧ j < l.length then x else nth l i := by
  induction l generalizing j i with
  | nil => simp [repl, nth]
  | cons c l ih =>
    cases j with
    | zero => cases i <;> simp [repl, nth]
    | succ j => cases i with
      | zero => simp [repl, nth]
      | succ i => simp [repl, nth, ih]
theorem ownAt_spec {l : List Cell} {j k : Nat} (h : ownAt l = some (j, k)) : j < l.length ∧ ∃ n, nth l j = .own k n := by
  induction l generalizing j k with
  | nil => cases h
  | cons c l ih =>
    unfold ownAt at h
    split at h
    · cases h; exact ⟨by simp, _, rfl⟩
    · split at h
      · rename_i j' k' h'
        cases h
        obtain ⟨h1, n, h2⟩ := ih h'
        exact ⟨by simpa using h1, n, h2⟩
      · cases h

/-- the content of a flat row, as a row that lies in another -/
theorem flat_row (h : Rel C G st a w) {k : Nat} {r : Row} (hr : lk st.ob k = some r) (hd : r.deep = false) : RowAt w (G.top k) r.sz r.n (fun i j v => CRep C.w0 C.I v (r.get i j) ∧ (r.get i j).plain = true) := by
  refine (h.ob.obr k r hr).imp (fun _ _ => rfl) (fun i j v _ _ hc => ?_)
  cases e : r.get i j with
  | fr sz n g => rw [e] at hc; rw [hd] at hc; cases hc.1
  | _ => rw [e] at hc; exact hc

/-- a store into an element of a row, by which a row of the frame's own is moved into it -/
theorem Rel.putM (h : Rel C G st a w) {k k2 i o' j0 b : Nat} {r r2 q : Row} {ys : List Cell} {v : Value} {cur : Array Value} {ty : TypeId} (hr : lk st.ob k = some r) (hi : i < r.n) (hbase : (G.top k).base = some b)
    (hb : w.heap[b]? = some (.cells cur ty (0, 0))) (hv : v.cells.size = ys.length ∧ ∀ (j : Nat) (u : Value), v.cells[j]? = some u → SRep C.w0 C.I G st.bx st.ob u (nth ys j))
    (hown : ownAt ys = some (j0, k2)) (hr2 : lk st.ob k2 = some r2) (hne2 : k ≠ k2) (hdp : r.deep = true) (hfl : r2.deep = false)
    (hpl : allC Cell.plain (repl ys j0 (.bool true)) = true) (ho : o' + ys.length ≤ r.sz) (hq : RowEq ⟨r.deep, r.sz, r.n, wrG r.get i o' (repl ys j0 (.fr r2.sz r2.n r2.get))⟩ q) :
    ∃ G', Rel C G' (({ st with ob := up (rm st.ob k2) k q } : St).kill (fun c => c.isKey k2 || c.isDeep k)) a (w.setRow b (cur.toList.take ((G.top k).off + (i * r.sz + o')) ++ v.cells.toList ++ cur.toList.drop ((G.top k).off + (i * r.sz + o') + v.cells.toList.length)).toArray) ∧ (G.top k).off + (i * r.sz + o') + v.cells.toList.length ≤ cur.size := by
  obtain ⟨hj0, n2, hj0o⟩ := ownAt_spec hown
  have hvl : v.cells.toList.length = ys.length := by simpa using hv.1
  have hR := h.ob.obr k r hr
  have hR2 := flat_row h hr2 hfl
  have hlk : ∀ k', lk (up (rm st.ob k2) k q) k' = if k = k' then some q else if k2 = k' then none else lk st.ob k' := by
    intro k'
    rw [lk_up, lk_rm]
    by_cases e : k = k'
    · subst e; simp [hr, lk_rm, Ne.symm hne2]
    · simp [e, lk_rm]
  have hqsz : q.sz = r.sz := hq.sz.symm
  have hqn : q.n = r.n := hq.n.symm
  have hqd : q.deep = r.deep := hq.deep.symm
  let ys' := repl ys j0 (.fr r2.sz r2.n r2.get)
  have hysl : ys'.length = ys.length := length_repl _ _ _
  have hget : ∀ i' j', i' < r.n → j' < r.sz → q.get i' j' = wrG r.get i o' ys' i' j' := fun i' j' a1 a2 => (hq.get i' j' a1 a2).symm
  have hplain : ∀ j, j < ys.length → j ≠ j0 → (nth ys j).plain = true := by
    intro j hj hne
    have := allC_nth hpl (j := j) (by rw [length_repl]; exact hj)
    rw [nth_repl, if_neg (by omega)] at this
    exact this
  have hsub : ∀ i' j' sz n g, i' < r.n → j' < r.sz → q.get i' j' = .fr sz n g → (i' = i ∧ j' = o' + j0 ∧ Cell.fr sz n g = .fr r2.sz r2.n r2.get) ∨ (r.get i' j' = .fr sz n g ∧ ¬ (i' = i ∧ o' ≤ j' ∧ j' < o' + ys.length)) := by
    intro i' j' sz n g a1 a2 hg
    rw [hget i' j' a1 a2] at hg
    by_cases c : i' = i ∧ o' ≤ j' ∧ j' < o' + ys.length
    · obtain ⟨rfl, c⟩ := c
      rw [wrG_in (by rw [hysl]; exact c)] at hg
      by_cases e : j' - o' = j0
      · left
        refine ⟨rfl, by omega, ?_⟩
        rw [← hg]
        show nth (repl ys j0 _) (j' - o') = _
        rw [nth_repl, if_pos ⟨e, hj0⟩]
      · have h1 := hplain (j' - o') (by omega) e
        have h2 : nth ys' (j' - o') = nth ys (j' - o') := by show nth (repl ys j0 _) _ = _; rw [nth_repl, if_neg (by omega)]
        rw [h2] at hg; rw [hg] at h1; cases h1
    · rw [wrG_out (by rw [hysl]; exact c)] at hg; exact .inr ⟨hg, c⟩
  let G' : Gh := { bx := G.bx, top := G.top, sub := fun k' i' j' => if k' = k ∧ i' = i ∧ j' = o' + j0 then G.top k2 else G.sub k' i' j' }
  let φ : Pos → Pos := fun p => match p with
    | .sub k' i' j' => if k' = k ∧ i' = i ∧ j' = o' + j0 then .top k2 else .sub k' i' j'
    | p => p
  let p : Cell → Bool := fun c => c.isKey k2 || c.isDeep k
  have live : ∀ x, Live (killB p st.bx) (up (rm st.ob k2) k q) x → Live st.bx st.ob (φ x) ∧ G'.blk x = G.blk (φ x) ∧ (x ≠ .top k2) := by
    intro x hx
    cases x with
    | bx s =>
      obtain ⟨cs, hs⟩ := hx
      rw [lk_killB] at hs
      obtain ⟨cs', h1, _⟩ := Option.map_eq_some_iff.1 hs
      exact ⟨⟨cs', h1⟩, rfl, by simp⟩
    | top k' =>
      obtain ⟨r', hr'⟩ := hx
      rw [hlk] at hr'
      by_cases e : k = k'
      · subst e; exact ⟨⟨r, hr⟩, rfl, by simpa using hne2⟩
      · rw [if_neg e] at hr'
        by_cases e2 : k2 = k'
        · rw [if_pos e2] at hr'; cases hr'
        · rw [if_neg e2] at hr'; exact ⟨⟨r', hr'⟩, rfl, by simpa using Ne.symm e2⟩
    | sub k' i' j' =>
      obtain ⟨r', sz, n, g, hr', a1, a2, hg⟩ := hx
      rw [hlk] at hr'
      by_cases e : k = k'
      · subst e
        rw [if_pos rfl] at hr'; cases hr'
        rw [hqn] at a1; rw [hqsz] at a2
        rcases hsub i' j' sz n g a1 a2 hg with ⟨rfl, rfl, _⟩ | ⟨h1, h2⟩
        · have hφ : φ (.sub k i' (o' + j0)) = .top k2 := by simp [φ]
          rw [hφ]
          exact ⟨⟨r2, hr2⟩, by simp [Gh.blk, G'], by simp⟩
        · have hc : ¬ (k = k ∧ i' = i ∧ j' = o' + j0) := fun hc => h2 ⟨hc.2.1, by omega, by omega⟩
          have hφ : φ (.sub k i' j') = .sub k i' j' := by simp only [φ, if_neg hc]
          rw [hφ]
          exact ⟨⟨r, sz, n, g, hr, a1, a2, h1⟩, by show (if k = k ∧ i' = i ∧ j' = o' + j0 then G.top k2 else G.sub k i' j').base = _; rw [if_neg hc]; rfl, by simp⟩
      · rw [if_neg e] at hr'
        by_cases e2 : k2 = k'
        · rw [if_pos e2] at hr'; cases hr'
        · rw [if_neg e2] at hr'
          have hc : ¬ (k' = k ∧ i' = i ∧ j' = o' + j0) := fun hc => e hc.1.symm
          have hφ : φ (.sub k' i' j') = .sub k' i' j' := by simp only [φ, if_neg hc]
          rw [hφ]
          exact ⟨⟨r', sz, n, g, hr', a1, a2, hg⟩, by simp only [Gh.blk, G', if_neg hc], by simp⟩
  have hinj : ∀ x y, x ≠ .top k2 → y ≠ .top k2 → φ x = φ y → x = y := by
    intro x y hx hy e
    have hsubφ : ∀ k' i' j', (φ (.sub k' i' j') = .top k2 ∧ k' = k ∧ i' = i ∧ j' = o' + j0) ∨ φ (.sub k' i' j') = .sub k' i' j' := by
      intro k' i' j'
      by_cases hc : k' = k ∧ i' = i ∧ j' = o' + j0
      · left; exact ⟨by show (if k' = k ∧ i' = i ∧ j' = o' + j0 then Pos.top k2 else .sub k' i' j') = _; rw [if_pos hc], hc⟩
      · right; show (if k' = k ∧ i' = i ∧ j' = o' + j0 then Pos.top k2 else .sub k' i' j') = _; rw [if_neg hc]
    cases x with
    | bx s => cases y with
      | bx s' => exact e
      | top k' => cases e
      | sub k' i' j' => rcases hsubφ k' i' j' with ⟨h1, _⟩ | h1 <;> rw [h1] at e <;> cases e
    | top k' => cases y with
      | bx s' => cases e
      | top k'' => exact e
      | sub k'' i' j' =>
        rcases hsubφ k'' i' j' with ⟨h1, _⟩ | h1
        · rw [h1] at e; exact absurd e hx
        · rw [h1] at e; cases e
    | sub k' i' j' =>
      cases y with
      | bx s' => rcases hsubφ k' i' j' with ⟨h1, _⟩ | h1 <;> rw [h1] at e <;> cases e
      | top k'' =>
        rcases hsubφ k' i' j' with ⟨h1, _⟩ | h1
        · rw [h1] at e; exact absurd e.symm hy
        · rw [h1] at e; cases e
      | sub k'' i'' j'' =>
        rcases hsubφ k' i' j' with ⟨h1, c1⟩ | h1 <;> rcases hsubφ k'' i'' j'' with ⟨h2, c2⟩ | h2 <;> rw [h1, h2] at e
        · obtain ⟨rfl, rfl, rfl⟩ := c1; obtain ⟨rfl, rfl, rfl⟩ := c2; rfl
        · cases e
        · cases e
        · exact e
  have hne : ∀ x b', Live st.bx st.ob x → x ≠ .top k → G.blk x = some b' → b' ≠ b := by
    intro x b' hp hpe hbp e
    subst e
    exact hpe (h.ob.inj x (.top k) _ hp ⟨r, hr⟩ hbp hbase)
  have hok := (h.ob.okb (.top k) b ⟨r, hr⟩ hbase).1
  obtain ⟨hset, hfit⟩ := row_set (cr' := fun i' j' v' => Cont (w.setRow b (cur.toList.take ((G.top k).off + (i * r.sz + o')) ++ v.cells.toList ++ cur.toList.drop ((G.top k).off + (i * r.sz + o') + v.cells.toList.length)).toArray) C.w0 C.I G' k q.deep i' j' v' (q.get i' j'))
    hR hbase (vs := v.cells.toList) (o' := o') hi (by omega) hb
    (fun j u hu => by
      have hj : j < ys.length := by have := (List.getElem?_eq_some_iff.1 hu).1; omega
      rw [hget i (o' + j) hi (by omega), wrG_in (by rw [hysl]; omega)]
      rw [show o' + j - o' = j by omega]
      have h1 := hv.2 j u (by simpa using hu)
      by_cases e : j = j0
      · subst e
        have : nth ys' j = .fr r2.sz r2.n r2.get := by show nth (repl ys j _) j = _; rw [nth_repl, if_pos ⟨rfl, hj⟩]
        rw [this]
        rw [hj0o] at h1
        obtain ⟨r', k1, k2', k3⟩ := h1
        rw [hr2] at k1; cases k1
        have hs : G'.sub k i (o' + j) = G.top k2 := by simp [G']
        refine ⟨hqd.trans hdp, by rw [hs, k2']; exact k3, ?_⟩
        rw [hs]
        exact hR2.imp (fun b' hb' => setRow_other w _ _ _ (hne (.top k2) b' ⟨r2, hr2⟩ (by simpa using Ne.symm hne2) hb')) (fun _ _ _ _ _ h => h)
      · have h2 := hplain j hj e
        have : nth ys' j = nth ys j := by show nth (repl ys j0 _) j = _; rw [nth_repl, if_neg (by omega)]
        rw [this]
        have h1 := h1.plain h2
        cases e2 : nth ys j <;> rw [e2] at h1 h2 <;> first | exact ⟨h1, h2⟩ | cases h2)
    (fun i' j' v' a1 a2 hc hcr => by
      rw [hvl] at hc
      rw [hget i' j' a1 a2, wrG_out (by rw [hysl]; exact hc), hqd]
      cases e2 : r.get i' j' with
      | fr sz n g =>
        rw [e2] at hcr
        have hs : G'.sub k i' j' = G.sub k i' j' := by simp only [G']; rw [if_neg (fun hh => hc ⟨hh.2.1, by omega, by omega⟩)]
        refine ⟨hcr.1, by rw [hs]; exact hcr.2.1, ?_⟩
        rw [hs]
        exact hcr.2.2.imp (fun b' hb' => setRow_other w _ _ _ (hne (.sub k i' j') b' ⟨r, sz, n, g, hr, a1, a2, e2⟩ (by simp) hb')) (fun _ _ _ _ _ h => h)
      | _ => rw [e2] at hcr; exact hcr)
  refine ⟨G', Rel.remake h (k' := k) (r' := q) (p := p) (φ := φ) (new := fun _ => False) rfl rfl rfl (by show lk (up (rm st.ob k2) k q) k = _; rw [hlk, if_pos rfl]) ?_ ?_ ?_ ?_ ?_ (h.keep.setRow hok) (by simp) (fun _ => ⟨rfl, r, hr⟩) rfl, hfit⟩
  · intro k' r' hne' hr'
    have hr' : lk (up (rm st.ob k2) k q) k' = some r' := hr'
    rw [hlk, if_neg (Ne.symm hne')] at hr'
    by_cases e2 : k2 = k'
    · rw [if_pos e2] at hr'; cases hr'
    · rw [if_neg e2] at hr'
      refine ⟨hr', rfl, ?_⟩
      funext i' j'
      simp only [G']
      rw [if_neg (fun hh => hne' hh.1)]
  · intro c k' r' hp hk hr'
    simp only [p, Bool.or_eq_false_iff] at hp
    by_cases e : k' = k
    · subst e
      rw [hr] at hr'; cases hr'
      exact .inr ⟨rfl, hqn, hqsz, rfl, hp.2⟩
    · have e2 : k2 ≠ k' := fun e2 => by subst e2; rw [hk] at hp; cases hp.1
      exact .inl ⟨e, by show lk (up (rm st.ob k2) k q) k' = _; rw [hlk, if_neg (Ne.symm e), if_neg e2]; exact hr'⟩
  · rw [hqsz, hqn]; exact hset
  · exact ⟨fun x b hx _ hb => ⟨(live x hx).1, by rw [← (live x hx).2.1]; exact hb⟩, fun x y hx hy _ _ e => hinj x y (live x hx).2.2 (live y hy).2.2 e, fun _ _ _ h => h.elim, fun _ _ _ _ _ h => h.elim⟩
  · intro x b' hx hxe hxs hbx
    refine setRow_other w _ _ _ (hne (φ x) b' (live x hx).1 ?_ (by rw [← (live x hx).2.1]; exact hbx))
    intro e
    cases x with
    | bx s => cases e
    | top k' => exact hxe e
    | sub k' i' j' =>
      by_cases hc : k' = k ∧ i' = i ∧ j' = o' + j0
      · exact hxs i' j' (by rw [hc.1])
      · simp only [φ, if_neg hc] at e; cases e
end
end Go.Proofs.YtjnpnpkjmlihdaaDoor.Ab
namespace Go.Proofs.YtjnpnpkjmlihdaaDoor.Ab
open Go Go.RowKit

section
variable {C : Cx} {G : Gh} {st : St} {a : Act} {w : World}

/-- a name falls -/
theorem Rel.drop (h : Rel C G st a w) (k : Nat) : Rel C G (st.drop k) a w := by
  have hlk : ∀ k' r, lk (rm st.ob k) k' = some r → k' ≠ k ∧ lk st.ob k' = some r := by
    intro k' r hr
    rw [lk_rm] at hr
    by_cases e : k = k'
    · rw [if_pos e] at hr; cases hr
    · rw [if_neg e] at hr; exact ⟨Ne.symm e, hr⟩
  have hS : ∀ v c, SRep C.w0 C.I G st.bx st.ob v c → SRep C.w0 C.I G (killB (Cell.isKey k) st.bx) (rm st.ob k) v (killC (Cell.isKey k) c) := by
    intro v c hv
    refine hv.toKill (fun s cs hs => ⟨⟨killL (Cell.isKey k) cs, by rw [lk_killB, hs]; rfl⟩, rfl⟩) (fun k' r hp hk hr => ?_)
    have hne : k ≠ k' := fun e => by subst e; rw [hk] at hp; cases hp
    exact ⟨r, by rw [lk_rm, if_neg hne]; exact hr, rfl, rfl, rfl, fun _ i j sz n g _ _ hg => ⟨hg, rfl⟩⟩
  have live : ∀ p, Live (killB (Cell.isKey k) st.bx) (rm st.ob k) p → Live st.bx st.ob p := by
    intro p hp
    cases p with
    | bx s =>
      obtain ⟨cs, hs⟩ := hp
      rw [lk_killB] at hs
      obtain ⟨cs', h1, _⟩ := Option.map_eq_some_iff.1 hs
      exact ⟨cs', h1⟩
    | top k' => obtain ⟨r, hr⟩ := hp; exact ⟨r, (hlk k' r hr).2⟩
    | sub k' i j => obtain ⟨r, sz, n, g, hr, x⟩ := hp; exact ⟨r, sz, n, g, (hlk k' r hr).2, x⟩
  refine ⟨h.df, by show _ = (killTs _ _).length; rw [length_killTs]; exact h.sz, fun s => ?_, ⟨?_, ?_, ?_, ?_⟩, h.keep, fun k' r hp hr => h.pk k' r hp (hlk k' r hr).2⟩
  · show TRep _ _ _ _ _ _ (getL (killTs _ _) s)
    by_cases hs : s < st.tm.length
    · rw [getL_killTs _ _ _ hs]; exact (h.tm s).kill hS
    · rw [getL_out _ _ (by rw [length_killTs]; omega)]; exact TRep.u
  · intro s cs' hs
    have hs' := hs
    change lk (killB (Cell.isKey k) st.bx) s = some cs' at hs'
    rw [lk_killB] at hs'
    obtain ⟨cs, h1, h2⟩ := Option.map_eq_some_iff.1 hs'
    obtain ⟨arr, t, b1, b2, b3⟩ := h.ob.bxr s cs h1
    refine ⟨arr, t, b1, by rw [b2, ← h2, length_killL], fun j u hu => ?_⟩
    have hj : j < cs.length := by have := (Array.getElem?_eq_some_iff.1 hu).1; omega
    rw [← h2, nth_killL _ _ _ hj]
    exact ⟨hS _ _ (b3 j u hu).1, trivial⟩
  · intro k' r hr
    exact h.ob.obr k' r (hlk k' r hr).2
  · intro p q b hp hq
    exact h.ob.inj p q b (live p hp) (live q hq)
  · intro p b hp
    exact h.ob.okb p b (live p hp)

theorem View.self (h : Rel C G st a w) (xs : List CA) : View C G st st a xs := ⟨fun s _ => h.tm s, fun _ _ h => h, fun _ _ h => h⟩

end
end Go.Proofs.YtjnpnpkjmlihdaaDoor.Ab
namespace Go.Proofs.YtjnpnpkjmlihdaaDoor.Ab
open Go Go.RowKit

section
variable {C : Cx} {G : Gh} {st : St} {a : Act} {w : World}

def drops (st : St) : List Nat → St
  | [] => st
  | k :: l => drops (st.drop k) l
def isKeys : List Nat → Cell → Bool
  | [], _ => false
  | k :: l, c => c.isKey k || isKeys l c

theorem killC_comp (p q : Cell → Bool) (c : Cell) : killC q (killC p c) = killC (fun c => p c || q c) c := by
  unfold killC
  cases h1 : p c with
  | true => cases h2 : q .u <;> simp [h1, h2]
  | false => cases h2 : q c <;> simp [h1, h2]
theorem killL_comp (p q : Cell → Bool) (l : List Cell) : killL q (killL p l) = killL (fun c => p c || q c) l := by
  induction l with
  | nil => rfl
  | cons c l ih => simp [killL, ih, killC_comp]
theorem killV_comp (p q : Cell → Bool) (x : V) : killV q (killV p x) = killV (fun c => p c || q c) x := by
  cases x <;> simp [killV, killC_comp, killL_comp]
theorem killVs_comp (p q : Cell → Bool) (l : List V) : killVs q (killVs p l) = killVs (fun c => p c || q c) l := by
  induction l with
  | nil => rfl
  | cons c l ih => simp [killVs, ih, killV_comp]
theorem killTs_comp (p q : Cell → Bool) (l : List T) : killTs q (killTs p l) = killTs (fun c => p c || q c) l := by
  induction l with
  | nil => rfl
  | cons c l ih => cases c <;> simp [killTs, ih, killT, killV_comp, killVs_comp]
theorem killB_comp (p q : Cell → Bool) (l : Bx) : killB q (killB p l) = killB (fun c => p c || q c) l := by
  induction l with
  | nil => rfl
  | cons c l ih => obtain ⟨s, cs⟩ := c; simp [killB, ih, killL_comp]
theorem killL_no (l : List Cell) : killL (fun _ => false) l = l := by
  induction l with
  | nil => rfl
  | cons c l ih => simp [killL, ih, killC]
theorem killV_no (x : V) : killV (fun _ => false) x = x := by
  cases x <;> simp [killV, killC, killL_no]
theorem killVs_no (l : List V) : killVs (fun _ => false) l = l := by
  induction l with
  | nil => rfl
  | cons c l ih => simp [killVs, ih, killV_no]
theorem killTs_no (l : List T) : killTs (fun _ => false) l = l := by
  induction l with
  | nil => rfl
  | cons c l ih => cases c <;> simp [killTs, ih, killT, killV_no, killVs_no]
theorem killB_no (l : Bx) : killB (fun _ => false) l = l := by
  induction l with
  | nil => rfl
  | cons c l ih => obtain ⟨s, cs⟩ := c; simp [killB, ih, killL_no]
theorem drops_tm (st : St) (ks : List Nat) : (drops st ks).tm = killTs (isKeys ks) st.tm := by
  induction ks generalizing st with
  | nil => exact (killTs_no _).symm
  | cons k l ih => simp only [drops, ih, St.drop, killTs_comp]; rfl
theorem drops_bx (st : St) (ks : List Nat) : (drops st ks).bx = killB (isKeys ks) st.bx := by
  induction ks generalizing st with
  | nil => exact (killB_no _).symm
  | cons k l ih => simp only [drops, ih, St.drop, killB_comp]; rfl
theorem lk_drops (st : St) (ks : List Nat) (k : Nat) : lk (drops st ks).ob k = if k ∈ ks then none else lk st.ob k := by
  induction ks generalizing st with
  | nil => simp [drops]
  | cons k' l ih =>
    simp only [drops, ih, St.drop, lk_rm]
    by_cases e : k = k'
    · subst e; simp
    · simp [e, Ne.symm e]
theorem isKeys_of {ks : List Nat} {c : Cell} (h : isKeys ks c = false) {k : Nat} (hk : c.isKey k = true) : k ∉ ks := by
  induction ks with
  | nil => simp
  | cons k' l ih =>
    simp only [isKeys, Bool.or_eq_false_iff] at h
    intro hm
    rcases List.mem_cons.1 hm with e | e
    · subst e; rw [hk] at h; cases h.1
    · exact ih h.2 e

theorem isKeys_u : ∀ ks : List Nat, isKeys ks .u = false
  | [] => rfl
  | _ :: l => isKeys_u l

def Pos.key : Pos → Option Nat
  | .bx _ => none
  | .top k => some k
  | .sub k _ _ => some k

def topOr : Option Nat → Nat → Pos
  | some k, _ => .top k
  | none, k => .top k
def Gh.set (G : Gh) (kn : Nat) (d : Hd) (sb : Nat → Nat → Hd) : Gh :=
  { bx := G.bx, top := fun k => if k = kn then d else G.top k, sub := fun k => if k = kn then sb else G.sub k }

/-- a row is made out of rows that are used up -/
theorem Rel.renew (h : Rel C G st a w) {ks : List Nat} {kn : Nat} {q : Row} {d' : Hd} {sb : Nat → Nat → Hd} {ψ : Nat → Nat → Pos} {kt : Option Nat} {w' : World}
    (hks : ∀ k ∈ ks, ∃ r, lk st.ob k = some r) (hnew : newK (drops st ks).ob kn = true)
    (hrow : RowAt w' d' q.sz q.n (fun i j v => Cont w' C.w0 C.I (G.set kn d' sb) kn q.deep i j v (q.get i j)))
    (hkt : ∀ k, kt = some k → k ∈ ks ∧ d'.base = (G.top k).base) (hkf : kt = none → ∀ b, d'.base = some b → w.heap.size ≤ b)
    (hsub : ∀ i j sz n g, i < q.n → j < q.sz → q.get i j = .fr sz n g → Live st.bx st.ob (ψ i j) ∧ (∃ k, (ψ i j).key = some k ∧ k ∈ ks) ∧ (sb i j).base = G.blk (ψ i j) ∧ ∀ k, kt = some k → ψ i j ≠ .top k)
    (hinj : ∀ i j i' j', i < q.n → j < q.sz → i' < q.n → j' < q.sz → (q.get i j).isFr = true → (q.get i' j').isFr = true → ψ i j = ψ i' j' → i = i' ∧ j = j')
    (hheap : ∀ b, b < w.heap.size → (∀ k ∈ ks, (G.top k).base ≠ some b) → w'.heap[b]? = w.heap[b]?)
    (hos : w'.os = w.os) (hta : w'.tape = w.tape) (hou : w'.output = w.output) (hsz : w.heap.size ≤ w'.heap.size) :
    Rel C (G.set kn d' sb) ((drops st ks).add [(kn, q)] []) a w' ∧ SRep C.w0 C.I (G.set kn d' sb) ((drops st ks).add [(kn, q)] []).bx ((drops st ks).add [(kn, q)] []).ob (d'.val q.n) (.own kn q.n) := by
  simp only [newK, Bool.and_eq_true, Bool.not_eq_true'] at hnew
  have hfk := freshK_none hnew.1
  have hlk : ∀ k, lk ((drops st ks).add [(kn, q)] []).ob k = if kn = k then some q else if k ∈ ks then none else lk st.ob k := by
    intro k
    show lk ((kn, q) :: (drops st ks).ob) k = _
    rw [lk_cons, lk_drops]
  have hkn : lk ((drops st ks).add [(kn, q)] []).ob kn = some q := by rw [hlk, if_pos rfl]
  have hne : ∀ k r, k ∉ ks → lk st.ob k = some r → k ≠ kn := by
    intro k r hk hr e
    subst e
    rw [lk_drops, if_neg hk, hr] at hfk; cases hfk
  have hbx : ((drops st ks).add [(kn, q)] []).bx = killB (isKeys ks) st.bx := by
    show [] ++ (drops st ks).bx = _
    rw [drops_bx]; rfl
  let φ : Pos → Pos := fun p => match p with
    | .top k => if k = kn then topOr kt k else .top k
    | .sub k i j => if k = kn then ψ i j else .sub k i j
    | p => p
  let new : Pos → Prop := fun p => p = .top kn ∧ kt = none
  have live : ∀ p, Live ((drops st ks).add [(kn, q)] []).bx ((drops st ks).add [(kn, q)] []).ob p →
      p = .top kn ∨ (∃ i j sz n g, p = .sub kn i j ∧ i < q.n ∧ j < q.sz ∧ q.get i j = .fr sz n g) ∨
      (Live st.bx st.ob p ∧ (∀ k, p.key = some k → k ∉ ks ∧ k ≠ kn) ∧ (G.set kn d' sb).blk p = G.blk p ∧ φ p = p) := by
    intro p hp
    cases p with
    | bx s =>
      right; right
      obtain ⟨cs, hs⟩ := hp
      rw [hbx, lk_killB] at hs
      obtain ⟨cs', h1, _⟩ := Option.map_eq_some_iff.1 hs
      exact ⟨⟨cs', h1⟩, fun k hk => (by cases hk), rfl, rfl⟩
    | top k =>
      by_cases e : k = kn
      · left; rw [e]
      · right; right
        obtain ⟨r, hr⟩ := hp
        rw [hlk, if_neg (Ne.symm e)] at hr
        by_cases m : k ∈ ks
        · rw [if_pos m] at hr; cases hr
        · rw [if_neg m] at hr
          exact ⟨⟨r, hr⟩, fun k' hk => by cases hk; exact ⟨m, e⟩, by simp [Gh.blk, Gh.set, e], by simp [φ, e]⟩
    | sub k i j =>
      obtain ⟨r, sz, n, g, hr, hi, hj, hg⟩ := hp
      by_cases e : k = kn
      · subst e
        rw [hkn] at hr; cases hr
        exact .inr (.inl ⟨i, j, sz, n, g, rfl, hi, hj, hg⟩)
      · right; right
        rw [hlk, if_neg (Ne.symm e)] at hr
        by_cases m : k ∈ ks
        · rw [if_pos m] at hr; cases hr
        · rw [if_neg m] at hr
          exact ⟨⟨r, sz, n, g, hr, hi, hj, hg⟩, fun k' hk => by cases hk; exact ⟨m, e⟩, by simp [Gh.blk, Gh.set, e], by simp [φ, e]⟩
  have htop : (G.set kn d' sb).top kn = d' := by simp [Gh.set]
  refine ⟨?_, ⟨q, hkn, rfl, by rw [htop]⟩⟩
  refine Rel.remake h (k' := kn) (r' := q) (p := isKeys ks) (φ := φ) (new := new) ?_ hbx rfl hkn ?_ ?_ ?_ ?_ ?_ ?_ hsz ?_ ?_
  · exact drops_tm st ks
  · intro k r hk hr
    rw [hlk, if_neg (Ne.symm hk)] at hr
    by_cases m : k ∈ ks
    · rw [if_pos m] at hr; cases hr
    · rw [if_neg m] at hr
      exact ⟨hr, by simp [Gh.set, hk], by simp [Gh.set, hk]⟩
  · intro c k r hp hk hr
    have m := isKeys_of hp hk
    left
    exact ⟨hne k r m hr, by rw [hlk, if_neg (Ne.symm (hne k r m hr)), if_neg m]; exact hr⟩
  · have : (G.set kn d' sb).top kn = d' := by simp [Gh.set]
    rw [this]; exact hrow
  · refine ⟨?_, ?_, ?_, ?_⟩
    · intro p b hp hn hb
      rcases live p hp with rfl | ⟨i, j, sz, n, g, rfl, hi, hj, hg⟩ | ⟨l1, l2, l3, l4⟩
      · cases hk : kt with
        | none => exact absurd ⟨rfl, hk⟩ hn
        | some k =>
          obtain ⟨h1, h2⟩ := hkt k hk
          have hφ : φ (.top kn) = .top k := by show (if kn = kn then topOr kt kn else Pos.top kn) = _; rw [if_pos rfl, hk]; rfl
          rw [hφ]
          refine ⟨hks k h1, ?_⟩
          have : d'.base = some b := by simpa [Gh.blk, Gh.set] using hb
          simp only [Gh.blk]; rw [← h2]; exact this
      · obtain ⟨h1, h2, h3, _⟩ := hsub i j sz n g hi hj hg
        have hφ : φ (.sub kn i j) = ψ i j := by simp [φ]
        rw [hφ]
        refine ⟨h1, ?_⟩
        rw [← h3]
        simpa [Gh.blk, Gh.set] using hb
      · rw [l4]; exact ⟨l1, by rw [← l3]; exact hb⟩
    · intro p p2 hp hp2 hn hn2 e
      rcases live p hp with rfl | ⟨i, j, sz, n, g, rfl, hi, hj, hg⟩ | ⟨l1, l2, l3, l4⟩
      · cases hk : kt with
        | none => exact absurd ⟨rfl, hk⟩ hn
        | some k =>
          obtain ⟨h1, h2⟩ := hkt k hk
          have hφ : φ (.top kn) = .top k := by show (if kn = kn then topOr kt kn else Pos.top kn) = _; rw [if_pos rfl, hk]; rfl
          rw [hφ] at e
          rcases live p2 hp2 with rfl | ⟨i, j, sz, n, g, rfl, hi, hj, hg⟩ | ⟨l1, l2, l3, l4⟩
          · rfl
          · have hφ2 : φ (.sub kn i j) = ψ i j := by simp [φ]
            rw [hφ2] at e
            exact absurd e.symm ((hsub i j sz n g hi hj hg).2.2.2 k hk)
          · rw [l4] at e
            rw [← e] at l2
            exact absurd h1 (l2 k rfl).1
      · have hφ : φ (.sub kn i j) = ψ i j := by simp [φ]
        rw [hφ] at e
        obtain ⟨h1, ⟨k1, h2, h2'⟩, h3, h4⟩ := hsub i j sz n g hi hj hg
        rcases live p2 hp2 with rfl | ⟨i2, j2, sz2, n2, g2, rfl, hi2, hj2, hg2⟩ | ⟨l1, l2, l3, l4⟩
        · cases hk : kt with
          | none => exact absurd ⟨rfl, hk⟩ hn2
          | some k =>
            have hφ2 : φ (.top kn) = .top k := by show (if kn = kn then topOr kt kn else Pos.top kn) = _; rw [if_pos rfl, hk]; rfl
            rw [hφ2] at e
            exact absurd e (h4 k hk)
        · have hφ2 : φ (.sub kn i2 j2) = ψ i2 j2 := by simp [φ]
          rw [hφ2] at e
          obtain ⟨rfl, rfl⟩ := hinj i j i2 j2 hi hj hi2 hj2 (by rw [hg]; rfl) (by rw [hg2]; rfl) e
          rfl
        · rw [l4] at e
          rw [← e] at l2
          exact absurd h2' (l2 k1 h2).1
      · rw [l4] at e
        rcases live p2 hp2 with rfl | ⟨i2, j2, sz2, n2, g2, rfl, hi2, hj2, hg2⟩ | ⟨m1, m2, m3, m4⟩
        · cases hk : kt with
          | none => exact absurd ⟨rfl, hk⟩ hn2
          | some k =>
            have hφ2 : φ (.top kn) = .top k := by show (if kn = kn then topOr kt kn else Pos.top kn) = _; rw [if_pos rfl, hk]; rfl
            rw [hφ2] at e
            rw [e] at l2
            exact absurd (hkt k hk).1 (l2 k rfl).1
        · have hφ2 : φ (.sub kn i2 j2) = ψ i2 j2 := by simp [φ]
          rw [hφ2] at e
          obtain ⟨h1, ⟨k1, h2, h2'⟩, h3, h4⟩ := hsub i2 j2 sz2 n2 g2 hi2 hj2 hg2
          rw [e] at l2
          exact absurd h2' (l2 k1 h2).1
        · rw [m4] at e; exact e
    · rintro p b hp ⟨rfl, hk⟩ hb
      exact hkf hk b (by simpa [Gh.blk, Gh.set] using hb)
    · rintro p p2 b hp hp2 ⟨rfl, _⟩ ⟨rfl, _⟩ _ _
      rfl
  · intro p b hp hp1 hp2 hb
    rcases live p hp with rfl | ⟨i, j, sz, n, g, rfl, hi, hj, hg⟩ | ⟨l1, l2, l3, l4⟩
    · exact absurd rfl hp1
    · exact absurd rfl (hp2 i j)
    · rw [l3] at hb
      refine hheap b (h.ob.lt l1 hb) (fun k hk e => ?_)
      have := h.ob.inj p (.top k) b l1 (hks k hk) hb e
      rw [this] at l2
      exact absurd hk (l2 k rfl).1
  · refine ⟨hos.trans h.keep.os, hta.trans h.keep.tape, hou.trans h.keep.output, Nat.le_trans h.keep.size hsz, fun b hb hd => ?_⟩
    rw [hheap b (Nat.lt_of_lt_of_le hb h.keep.size) (fun k hk e => ?_)]
    · exact h.keep.block b hb hd
    · rcases (h.ob.okb (.top k) b (hks k hk) e).1 with h1 | h1
      · omega
      · exact hd h1
  · intro hp; rw [hnew.2] at hp; cases hp
  · exact isKeys_u ks
end
end Go.Proofs.YtjnpnpkjmlihdaaDoor.Ab
namespace Go.Proofs.YtjnpnpkjmlihdaaDoor.Ab
open Go Go.RowKit

section
variable {C : Cx} {G : Gh} {st : St} {a : Act} {w : World}

/-- what an operation owes that may write -/
def Did (C : Cx) (a : Act) (w : World) (o : Oper) (Q : St → Prop) : Prop :=
  ∀ (next : Act → World → Prop) (QQ : Exit → Act → World → Prop), (∀ v w' G' st', Rel C G' st' (a.put o.dst v) w' → Q st' → next (a.put o.dst v) w') → o.wp C.E.P a w next QQ

theorem Cont.move {w w' w0 : World} {I : Nat → Prop} {G G' : Gh} {k k' : Nat} {deep deep' : Bool} {i j i' j' : Nat} {v : Value} {c : Cell} (h : Cont w w0 I G k deep i j v c)
    (hd : deep = true → deep' = true) (hs : ∀ sz n g, c = .fr sz n g → G'.sub k' i' j' = G.sub k i j ∧ ∀ b, (G.sub k i j).base = some b → w'.heap[b]? = w.heap[b]?) : Cont w' w0 I G' k' deep' i' j' v c := by
  cases c with
  | fr sz n g =>
    obtain ⟨h1, h2, h3⟩ := h
    obtain ⟨e, hb⟩ := hs sz n g rfl
    refine ⟨hd h1, by rw [e]; exact h2, ?_⟩
    rw [e]
    exact h3.imp hb (fun _ _ _ _ _ h => h)
  | _ => exact h

theorem Cont.one {w w0 : World} {I : Nat → Prop} {G : Gh} {k : Nat} {deep : Bool} {i j : Nat} {v : Value} {c : Cell} (h : Cont w w0 I G k deep i j v c) : v.oneCell' = true := by
  cases c with
  | fr sz n g => obtain ⟨_, rfl, _⟩ := h; unfold Hd.val; split <;> rfl
  | u => cases h.2
  | sk => cases h.2
  | int k n => have h := h.1; cases h; rfl
  | bool b => have h := h.1; cases h; rfl
  | str s => have h := h.1; cases h; rfl
  | ro sz n g => have h := h.1; cases h <;> rfl
  | own k n => cases h.2
  | own1 k i j n => cases h.2
  | box s o => cases h.2
  | elt k i o => cases h.2
  | elt1 k i j i2 o => cases h.2
  | pro m g => cases h.2
  | fn f bs => cases h.2
  | fnp f m sz g => cases h.2
  | emp => cases h.2
  | pv φ => cases h.2
  | pb k n => cases h.2
  | fnx f k n i m sz get => cases h.2

/-- the cells that are appended -/
theorem src_ok (h : Rel C G st a w) {sz : Nat} {t : T} {v : Value} {K : Nat → (Nat → Nat → Cell) → Option Nat → Prop} (hs : srcK st sz t K) (hv : TRep C.w0 C.I G st.bx st.ob v t) :
    ∃ n g k2 b' c, K n g k2 ∧ v = .slice b' n c ∧ (∀ kk, k2 = some kk → ∃ r2, lk st.ob kk = some r2 ∧ r2.n = n ∧ r2.sz = sz ∧ r2.get = g) ∧
      (0 < n → ∃ p o, b' = some ⟨p, o, none⟩ ∧ ∀ i j, i < n → j < sz → ∃ u, w.cell? ⟨p, o + (i * sz + j), none⟩ = some u ∧ Cont w C.w0 C.I G (k2.getD 0) k2.isSome i j u (g i j)) := by
  have val : ∀ (d : Hd) (n : Nat) (P : Nat → Nat → Value → Prop), RowAt w d sz n P → ∃ b' c, d.val n = .slice b' n c ∧
      (0 < n → ∃ p o, b' = some ⟨p, o, none⟩ ∧ ∀ i j, i < n → j < sz → ∃ u, w.cell? ⟨p, o + (i * sz + j), none⟩ = some u ∧ P i j u) := by
    intro d n P hr
    cases hb : d.base with
    | none =>
      refine ⟨d.jk, d.cap, by unfold Hd.val; rw [hb], fun hn => ?_⟩
      have := hr.2.1 hb; have := hr.1; omega
    | some b =>
      obtain ⟨cs, t, h1, h2, h3⟩ := hr.2.2 b hb
      refine ⟨some ⟨b, d.off, none⟩, d.cap, by unfold Hd.val; rw [hb], fun hn => ⟨b, d.off, rfl, fun i j hi hj => ?_⟩⟩
      obtain ⟨u, hu, hc⟩ := h3 i j hi hj
      exact ⟨u, by rw [cell_of_heap h1]; exact hu, hc⟩
  unfold srcK at hs
  split at hs
  · rename_i sz' n g
    cases e1 : Nat.beq sz sz' || Nat.beq n 0 with
    | false => rw [e1] at hs; exact hs.elim
    | true =>
      rw [e1] at hs
      have hv : CRep C.w0 C.I v (.ro sz' n g) := hv
      cases hv with
      | ro0 b c sz g => exact ⟨0, g, none, b, c, hs, rfl, fun _ h => (by cases h), fun h => by omega⟩
      | ro b o c sz n g vals hn hpl hI hc hr =>
        refine ⟨n, g, none, _, c, hs, rfl, fun _ h => (by cases h), fun hn0 => ⟨b, o, rfl, fun i j hi hj => ?_⟩⟩
        have : sz = sz' := by
          rcases Bool.or_eq_true_iff.1 e1 with e | e
          · exact Nat.eq_of_beq_eq_true e
          · have := Nat.eq_of_beq_eq_true e; omega
        subst this
        refine ⟨vals i j, by rw [h.cellI hI]; exact hc i j hi hj, ?_⟩
        have h1 := hr i j hi hj
        have h2 := hpl i j hi hj
        cases e2 : g i j <;> rw [e2] at h1 h2 <;> first | exact ⟨h1, h2⟩ | cases h2
  · rename_i k m
    split at hs
    · rename_i r hr
      cases e1 : Nat.beq sz r.sz with
      | false => rw [e1] at hs; exact hs.elim
      | true =>
        rw [e1] at hs
        have e1 := Nat.eq_of_beq_eq_true e1
        obtain ⟨r', h1, h2, h3⟩ := hv
        rw [hr] at h1; cases h1
        have hR := h.ob.obr k r hr
        rw [← e1] at hR
        obtain ⟨b', c, k1, k2⟩ := val _ _ _ hR
        refine ⟨_, _, _, b', c, hs, by rw [h3, ← h2, k1], fun kk hk => ?_, fun hn => ?_⟩
        · cases hd : r.deep with
          | false => rw [hd] at hk; cases hk
          | true => rw [hd] at hk; cases hk; exact ⟨r, hr, rfl, e1.symm, rfl⟩
        · obtain ⟨p, o, p1, p2⟩ := k2 hn
          refine ⟨p, o, p1, fun i j hi hj => ?_⟩
          obtain ⟨u, hu, hc⟩ := p2 i j hi hj
          refine ⟨u, hu, ?_⟩
          cases hd : r.deep with
          | true => rw [hd] at hc; exact hc
          | false =>
            rw [hd] at hc
            refine hc.move (fun h => h) (fun sz n g e => ?_)
            rw [e] at hc; cases hc.1
    · exact hs.elim
  · rename_i k i' j' m
    split at hs
    · rename_i r hr
      split at hs
      · rename_i sz' n g hg
        cases e1 : Nat.beq sz sz' with
        | false => rw [e1] at hs; exact hs.elim
        | true =>
          rw [e1] at hs
          have e1 := Nat.eq_of_beq_eq_true e1
          subst e1
          obtain ⟨r', sz2, g2, h1, h2, h3, h4, h5⟩ := hv
          rw [hr] at h1; cases h1
          rw [hg] at h4; cases h4
          obtain ⟨b', c, k1, k2⟩ := val _ _ _ (h.ob.sub hr h2 h3 hg).2
          refine ⟨_, _, _, b', c, hs, by rw [h5, k1], fun kk hk => (by cases hk), fun hn => ?_⟩
          obtain ⟨p, o, p1, p2⟩ := k2 hn
          refine ⟨p, o, p1, fun i j hi hj => ?_⟩
          obtain ⟨u, hu, hc⟩ := p2 i j hi hj
          refine ⟨u, hu, ?_⟩
          cases e2 : g i j <;> rw [e2] at hc <;> first | exact hc | cases hc.2
      · exact hs.elim
    · exact hs.elim
  · exact hs.elim

/-- append -/
theorem app_ok (h : Rel C G st a w) (o : Oper) {c : Call} {sz bytes : Nat} {x' y' : CA} (hop : o.op = .call c) (hchk : chkOp C.E.P (.call c) (.app sz bytes x' y') = true) {Q : St → Prop}
    (hQ : wo C.E o.dst (.app sz bytes x' y') st Q) : Did C a w o Q := by
  simp only [chkOp, Bool.and_eq_true] at hchk
  obtain ⟨⟨hc1, hc2⟩, hc3⟩ := hchk
  split at hc1
  case h_2 => cases hc1
  rename_i hcal
  split at hc2
  case h_2 => cases hc2
  rename_i x y hxy
  simp only [Bool.and_eq_true] at hc2
  have hargs : c.args = #[x, y] := by apply Array.ext'; simpa using hxy
  split at hc3
  case h_2 => cases hc3
  rename_i t u htu
  have hty : c.argTypes = #[t, u] := by apply Array.ext'; simpa using htu
  simp only [Bool.and_eq_true] at hc3
  obtain ⟨hc3, htu'⟩ := hc3
  have htu' := Nat.eq_of_beq_eq_true htu'
  subst htu'
  split at hc3
  case h_2 => cases hc3
  rename_i e hte
  simp only [Bool.and_eq_true] at hc3
  obtain ⟨⟨⟨hs1, hs2⟩, hs3⟩, hs4⟩ := hc3
  have hs1 := eqopt hs1
  have hs2 := eqopt hs2
  have hs4 := Nat.le_of_ble_eq_true hs4
  split at hs3
  case h_2 => cases hs3
  rename_i i hi
  split at hs3
  case h_2 => cases hs3
  rename_i z hz
  have hs3 := Nat.eq_of_beq_eq_true hs3
  have hsz : i.size = sz := by simpa [sizeT, hi] using hs1
  have hby : i.bytes = bytes := by simpa [bytesT, hi] using hs2
  simp only [wo] at hQ
  cases hd : o.dst with
  | none => rw [hd] at hQ; exact hQ.elim
  | some s =>
    rw [hd] at hQ
    simp only at hQ
    split at hQ
    case h_2 => exact hQ.elim
    rename_i k m hx
    split at hQ
    case h_2 => exact hQ.elim
    rename_i r hr
    cases hb : Nat.beq sz r.sz && Nat.blt bytes 65536 with
    | false => rw [hb] at hQ; exact hQ.elim
    | true =>
    rw [hb] at hQ
    simp only [Bool.and_eq_true] at hb
    have hrs := Nat.eq_of_beq_eq_true hb.1
    have hbl : bytes < 65536 := Nat.le_of_ble_eq_true hb.2
    simp only [cond_true] at hQ
    have hvx := (View.self h [x']).ev hc2.1 (by simp)
    rw [hx] at hvx
    obtain ⟨r', q1, q2, q3⟩ := hvx
    rw [hr] at q1; cases q1
    have h1 := h.drop k
    have hvy := (View.self h1 [y']).ev hc2.2 (by simp)
    obtain ⟨n, g, k2, b', cap, hK, hyv, hk2, hcells⟩ := src_ok h1 hQ hvy
    cases hb2 : (r.deep || noneB k2) && newK ((st.drop k).dropO k2).ob (dkey s 0) with
    | false => rw [hb2] at hK; exact hK.elim
    | true =>
    rw [hb2] at hK
    simp only [Bool.and_eq_true] at hb2
    obtain ⟨hb3, hnew⟩ := hb2
    obtain ⟨hsize, q, hq, hQ⟩ := hK
    let ks : List Nat := k :: k2.toList
    have hdr : drops st ks = (st.drop k).dropO k2 := by
      cases k2 <;> rfl
    have hkk : ∀ kk, k2 = some kk → kk ≠ k ∧ ∃ r2, lk st.ob kk = some r2 ∧ r2.n = n ∧ r2.sz = sz ∧ r2.get = g := by
      intro kk e
      obtain ⟨r2, l1, l2⟩ := hk2 kk e
      have l1 : lk (rm st.ob k) kk = some r2 := l1
      rw [lk_rm] at l1
      by_cases e2 : k = kk
      · rw [if_pos e2] at l1; cases l1
      · rw [if_neg e2] at l1; exact ⟨Ne.symm e2, r2, l1, l2⟩
    have hR := h.ob.obr k r hr
    rw [← hrs] at hR
    have hvy' : a.eval y = .slice b' n cap := hyv
    obtain ⟨w', d', hrun, hrow, hbase, hheap, hos, hta, hou, hwsz⟩ := run_app (P := C.E.P) (ty := o.type) (c := cap) hte hi hz hsz hby (by rw [hs3]) hs4 hR hcells (fun i j u hc => hc.one) hsize hbl
    have hrun2 : (execOp a.eval o).run C.E.P w = .ok (.value (d'.val (r.n + n))) w' := by
      simp only [execOp, hop]
      have : (do let d ← resolve a.eval c o.type; invoke d.target d.args : Sem Next).run C.E.P w = (do Pure.pure (Next.value (← Builtin.append_ c.argTypes o.type (c.args.map a.eval))) : Sem Next).run C.E.P w := run_builtin hcal (fun _ => rfl)
      rw [this]
      refine run_v ?_
      have e3 : (#[x, y].map a.eval) = #[a.eval x, a.eval y] := by simp
      rw [hargs, hty, e3, q3, hvy', ← q2]
      exact hrun
    let sb : Nat → Nat → Hd := fun i j => if i < r.n then G.sub k i j else G.sub (k2.getD 0) (i - r.n) j
    let ψ : Nat → Nat → Pos := fun i j => if i < r.n then .sub k i j else .sub (k2.getD 0) (i - r.n) j
    have hqn : q.n = r.n + n := hq.n.symm
    have hqs : q.sz = sz := hq.sz.symm.trans hrs.symm
    have hqd : q.deep = r.deep := hq.deep.symm
    have hget : ∀ i j, i < r.n + n → j < sz → q.get i j = if i < r.n then r.get i j else g (i - r.n) j := by
      intro i j hi' hj'
      rw [← hq.get i j hi' (by rw [hrs] at hj'; exact hj')]
      show (bif Nat.blt i r.n then r.get i j else g (i - r.n) j) = _
      by_cases e : i < r.n
      · have : Nat.blt i r.n = true := by simp [Nat.blt, Nat.ble_eq]; omega
        rw [this, if_pos e]; rfl
      · have : Nat.blt i r.n = false := by rw [Bool.eq_false_iff]; simp [Nat.blt, Nat.ble_eq]; omega
        rw [this, if_neg e]; rfl
    -- where the rows in it come from
    have hsub : ∀ i j sz' n' g', i < q.n → j < q.sz → q.get i j = .fr sz' n' g' → Live st.bx st.ob (ψ i j) ∧ (∃ k, (ψ i j).key = some k ∧ k ∈ ks) ∧ (sb i j).base = G.blk (ψ i j) ∧ (∀ k, ψ i j ≠ .top k) := by
      intro i j sz' n' g' hi' hj' hg'
      rw [hqn] at hi'; rw [hqs] at hj'
      rw [hget i j hi' hj'] at hg'
      by_cases e : i < r.n
      · rw [if_pos e] at hg'
        have hψ : ψ i j = .sub k i j := if_pos e
        have hsb : sb i j = G.sub k i j := if_pos e
        rw [hψ, hsb]
        exact ⟨⟨r, sz', n', g', hr, e, by rw [← hrs]; exact hj', hg'⟩, ⟨k, rfl, by simp [ks]⟩, rfl, fun _ h => by cases h⟩
      · rw [if_neg e] at hg'
        have hψ : ψ i j = .sub (k2.getD 0) (i - r.n) j := if_neg e
        have hsb : sb i j = G.sub (k2.getD 0) (i - r.n) j := if_neg e
        rw [hψ, hsb]
        cases hk : k2 with
        | none =>
          obtain ⟨p, o', _, p2⟩ := hcells (by omega)
          obtain ⟨u, _, hc⟩ := p2 (i - r.n) j (by omega) hj'
          rw [hg', hk] at hc
          cases hc.1
        | some kk =>
          obtain ⟨_, r2, l1, l2, l3, l4⟩ := hkk kk hk
          exact ⟨⟨r2, sz', n', g', l1, by omega, by omega, by rw [l4]; exact hg'⟩, ⟨kk, rfl, by simp [ks, hk]⟩, rfl, fun _ h => by cases h⟩
    have hbk : ∀ p b, Live st.bx st.ob p → (∀ k, p ≠ .top k) → G.blk p = some b → w'.heap[b]? = w.heap[b]? := by
      intro p b lp hp hbp
      exact hheap b (h.ob.lt lp hbp) (fun e => hp k (h.ob.inj p (.top k) b lp ⟨r, hr⟩ hbp e))
    have hren := Rel.renew h (ks := ks) (kn := dkey s 0) (q := q) (d' := d') (sb := sb) (ψ := ψ) (kt := if d'.base = (G.top k).base then some k else none) (w' := w')
      (fun k' hk' => by
        rcases List.mem_cons.1 hk' with e | e
        · exact ⟨r, by rw [e]; exact hr⟩
        · obtain ⟨_, r2, l1, _⟩ := hkk k' (by simpa using e)
          exact ⟨r2, l1⟩)
      (by rw [hdr]; exact hnew)
      (by
        rw [hqs, hqn]
        refine hrow.imp (fun _ _ => rfl) (fun i j v hi' hj' hc => ?_)
        have hg' := hget i j hi' hj'
        have hss : (G.set (dkey s 0) d' sb).sub (dkey s 0) i j = sb i j := by simp [Gh.set]
        rcases hc with ⟨c1, c2⟩ | ⟨c1, c2⟩
        · rw [if_pos c1] at hg'
          rw [hg']
          refine c2.move (fun e => by rw [hqd]; exact e) (fun sz' n' g' e => ⟨by rw [hss]; exact if_pos c1, fun b hb => ?_⟩)
          exact hbk (.sub k i j) b ⟨r, sz', n', g', hr, c1, by rw [← hrs]; exact hj', e⟩ (by simp) hb
        · have c1' : ¬ i < r.n := by omega
          rw [if_neg c1'] at hg'
          rw [hg']
          refine c2.move (fun e => ?_) (fun sz' n' g' e => ⟨by rw [hss]; exact if_neg c1', fun b hb => ?_⟩)
          · rw [hqd]
            cases hk : k2 with
            | none => rw [hk] at e; cases e
            | some kk => rw [hk] at hb3; simpa [noneB] using hb3
          · obtain ⟨l1, _⟩ := hsub i j sz' n' g' (by rw [hqn]; exact hi') (by rw [hqs]; exact hj') (by rw [hg']; exact e)
            have hψ : ψ i j = .sub (k2.getD 0) (i - r.n) j := if_neg c1'
            rw [hψ] at l1
            exact hbk _ b l1 (by simp) hb)
      (fun k' e => by
        split at e
        · rename_i e2; cases e; exact ⟨by simp [ks], e2⟩
        · cases e)
      (fun e b hb => by
        split at e
        · cases e
        · rename_i e2
          rcases hbase b hb with h3 | h3
          · exact absurd (hb.trans h3.symm) e2
          · exact h3)
      (fun i j sz' n' g' hi' hj' hg' => by
        obtain ⟨l1, l2, l3, l4⟩ := hsub i j sz' n' g' hi' hj' hg'
        exact ⟨l1, l2, l3, fun k _ => l4 k⟩)
      (fun i j i2 j2 hi' hj' hi2 hj2 hg' hg2 e => by
        by_cases e1 : i < r.n
        · by_cases e2 : i2 < r.n
          · have a1 : ψ i j = .sub k i j := if_pos e1
            have a2 : ψ i2 j2 = .sub k i2 j2 := if_pos e2
            rw [a1, a2] at e; cases e; exact ⟨rfl, rfl⟩
          · have a1 : ψ i j = .sub k i j := if_pos e1
            have a2 : ψ i2 j2 = .sub (k2.getD 0) (i2 - r.n) j2 := if_neg e2
            rw [a1, a2] at e
            obtain ⟨sz', n', g', hfr⟩ : ∃ sz' n' g', q.get i2 j2 = .fr sz' n' g' := by
              cases hh : q.get i2 j2 <;> rw [hh] at hg2 <;> first | exact ⟨_, _, _, rfl⟩ | cases hg2
            have hg3 := hget i2 j2 (by rw [← hqn]; exact hi2) (by rw [← hqs]; exact hj2)
            rw [if_neg e2, hfr] at hg3
            cases hk : k2 with
            | none =>
              obtain ⟨p, o', _, p2⟩ := hcells (by omega)
              obtain ⟨u, _, hc⟩ := p2 (i2 - r.n) j2 (by omega) (by rw [← hqs]; exact hj2)
              rw [← hg3, hk] at hc
              cases hc.1
            | some kk => rw [hk] at e; cases e; exact absurd rfl (hkk _ hk).1
        · by_cases e2 : i2 < r.n
          · have a1 : ψ i j = .sub (k2.getD 0) (i - r.n) j := if_neg e1
            have a2 : ψ i2 j2 = .sub k i2 j2 := if_pos e2
            rw [a1, a2] at e
            obtain ⟨sz', n', g', hfr⟩ : ∃ sz' n' g', q.get i j = .fr sz' n' g' := by
              cases hh : q.get i j <;> rw [hh] at hg' <;> first | exact ⟨_, _, _, rfl⟩ | cases hg'
            have hg3 := hget i j (by rw [← hqn]; exact hi') (by rw [← hqs]; exact hj')
            rw [if_neg e1, hfr] at hg3
            cases hk : k2 with
            | none =>
              obtain ⟨p, o', _, p2⟩ := hcells (by omega)
              obtain ⟨u, _, hc⟩ := p2 (i - r.n) j (by omega) (by rw [← hqs]; exact hj')
              rw [← hg3, hk] at hc
              cases hc.1
            | some kk => rw [hk] at e; cases e; exact absurd rfl (hkk _ hk).1
          · have a1 : ψ i j = .sub (k2.getD 0) (i - r.n) j := if_neg e1
            have a2 : ψ i2 j2 = .sub (k2.getD 0) (i2 - r.n) j2 := if_neg e2
            rw [a1, a2] at e
            simp only [Pos.sub.injEq] at e
            exact ⟨by omega, e.2.2⟩)
      (fun b hb hne => hheap b hb (hne k (by simp [ks])))
      hos hta hou hwsz
    obtain ⟨f1, f2⟩ := hren
    rw [hdr] at f1 f2
    intro next QQ hn
    unfold Oper.wp
    rw [hrun2]
    rw [hqn] at f2
    have f3 := f1.put (d := o.dst) (t := one (.own (dkey s 0) q.n)) (v := d'.val (r.n + n)) (by rw [hqn]; exact f2)
    exact hn _ _ _ _ f3 (by rw [hd]; exact hQ)
end
end Go.Proofs.YtjnpnpkjmlihdaaDoor.Ab
namespace Go.Proofs.YtjnpnpkjmlihdaaDoor.Ab
open Go Go.RowKit

section
variable {C : Cx} {G : Gh} {st : St} {a : Act} {w : World}

theorem hd_cells (d : Hd) (n : Nat) : (d.val n).cells = #[d.val n] := by unfold Hd.val; split <;> rfl

theorem bsl1_ok (h : Rel C G st a w) (o : Oper) {t : TypeId} {len : Nat} {ps : Array (Nat × Operand)} {y : CA} (hop : o.op = .buildSlice t len ps) (hchk : chkOp C.E.P (.buildSlice t len ps) (.bsl1 y) = true) {Q : St → Prop}
    (hQ : wo C.E o.dst (.bsl1 y) st Q) : Did C a w o Q := by
  simp only [chkOp, Bool.and_eq_true] at hchk
  obtain ⟨⟨ht, hl⟩, hi⟩ := hchk
  have hl := Nat.eq_of_beq_eq_true hl
  subst hl
  split at ht
  case h_2 => cases ht
  rename_i e he
  simp only [Bool.and_eq_true] at ht
  have hs := eqopt ht.1
  obtain ⟨zv, hzv⟩ := Option.isSome_iff_exists.1 ht.2
  obtain ⟨ei, hei, hz⟩ := Option.bind_eq_some_iff.1 hzv
  obtain ⟨x, hps, hx⟩ : ∃ x, ps = #[(0, x)] ∧ chkA x y = true := by
    have : ∃ x, ps.toList = [(0, x)] ∧ chkA x y = true := by
      cases hp : ps.toList with
      | nil => rw [hp] at hi; cases hi
      | cons p l =>
        obtain ⟨j, x⟩ := p
        rw [hp] at hi
        simp only [chkIdx, Bool.and_eq_true] at hi
        have := Nat.eq_of_beq_eq_true hi.1.1
        subst this
        cases l with
        | nil => exact ⟨x, rfl, hi.1.2⟩
        | cons _ _ => cases hi.2
    obtain ⟨x, h1, h2⟩ := this
    exact ⟨x, by apply Array.ext'; simpa using h1, h2⟩
  subst hps
  simp only [wo] at hQ
  cases hd : o.dst with
  | none => rw [hd] at hQ; exact hQ.elim
  | some s =>
    rw [hd] at hQ
    simp only at hQ
    split at hQ
    case h_2 => exact hQ.elim
    rename_i k m hxv
    split at hQ
    case h_2 => exact hQ.elim
    rename_i r hr
    cases hb : newK (st.drop k).ob (dkey s 0) && !r.deep with
    | false => rw [hb] at hQ; exact hQ.elim
    | true =>
    rw [hb] at hQ
    simp only [Bool.and_eq_true, Bool.not_eq_true'] at hb
    obtain ⟨hnew, hdeep⟩ := hb
    obtain ⟨q, hq, hQ⟩ := hQ
    have hvx := (View.self h [y]).ev hx (by simp)
    rw [hxv] at hvx
    obtain ⟨r', q1, q2, q3⟩ := hvx
    rw [hr] at q1; cases q1
    have hqn : q.n = 1 := hq.n.symm
    have hqs : q.sz = 1 := hq.sz.symm
    have hqd : q.deep = true := hq.deep.symm
    have hget : q.get 0 0 = .fr r.sz r.n r.get := (hq.get 0 0 (by show 0 < 1; omega) (by show 0 < 1; omega)).symm
    have hrun : (execOp a.eval o).run C.E.P w = .ok (.value ((⟨some w.heap.size, 1, none, 0⟩ : Hd).val 1)) { w with heap := w.heap.push (.cells #[(G.top k).val r.n] e) } := by
      simp only [execOp, hop]
      refine run_v ?_
      have hv1 : a.eval x = (G.top k).val r.n := by rw [q3, q2]
      simp only [Instr.buildSlice, Sem.run_bind, run_underlying he, Result.andThen_ok, run_sizeOf hs, if_neg (show ¬ 1 * 1 > 2 ^ 24 by omega), if_neg (show ¬ (1 * 1 = 0) by omega), run_zero hei hz, run_ok]
      have e2 : (#[(0, x)].map fun (x : Nat × Operand) => (x.1, a.eval x.2)).toList = [(0, (G.top k).val r.n)] := by simp [hv1]
      rw [e2]
      simp only [Instr.fill, hd_cells]
      have e5 : ∀ (v : Value) (A : Array Value), A.size = 1 → (#[v].zipIdx.foldl (fun cs (x : Value × Nat) => cs.setIfInBounds (0 * 1 + x.2) x.1) A) = #[v] := by
        intro v A hA
        obtain ⟨l⟩ := A
        match l, hA with
        | [u], _ => rfl
      rw [if_neg (by simp), e5 _ _ (by simp)]
      rfl
    have hgrow := Grow.push w (.cells #[(G.top k).val r.n] e)
    have hflat := flat_row h hr hdeep
    obtain ⟨f1, f2⟩ := Rel.renew h (ks := [k]) (kn := dkey s 0) (q := q) (d' := ⟨some w.heap.size, 1, none, 0⟩) (sb := fun _ _ => G.top k) (ψ := fun _ _ => .top k) (kt := none) (w' := { w with heap := w.heap.push (.cells #[(G.top k).val r.n] e) })
      (fun k' hk' => by
        have : k' = k := by simpa using hk'
        exact ⟨r, by rw [this]; exact hr⟩)
      hnew
      (by
        rw [hqs, hqn]
        refine ⟨Nat.le_refl _, fun e => (by cases e), fun b hb => ?_⟩
        cases hb
        refine ⟨#[(G.top k).val r.n], e, by show (w.heap.push _)[w.heap.size]? = _; simp, by show 0 + 1 * 1 ≤ 1; omega, fun i j hi' hj' => ?_⟩
        obtain rfl : i = 0 := by omega
        obtain rfl : j = 0 := by omega
        refine ⟨(G.top k).val r.n, rfl, ?_⟩
        show Cont _ _ _ _ _ _ _ _ _ (q.get 0 0)
        rw [hget]
        have hss : (G.set (dkey s 0) ⟨some w.heap.size, 1, none, 0⟩ (fun _ _ => G.top k)).sub (dkey s 0) 0 0 = G.top k := by simp [Gh.set]
        refine ⟨hqd, by rw [hss], ?_⟩
        rw [hss]
        exact hflat.imp (fun b hb => hgrow.block b (h.ob.lt (p := .top k) ⟨r, hr⟩ hb)) (fun _ _ _ _ _ h => h))
      (fun k' e => by cases e)
      (fun _ b hb => by cases hb; exact Nat.le_refl _)
      (fun i j sz n g _ _ _ => ⟨⟨r, hr⟩, ⟨k, rfl, by simp⟩, rfl, fun k' e => (by cases e)⟩)
      (fun i j i' j' a1 a2 a3 a4 _ _ _ => ⟨by omega, by omega⟩)
      (fun b hb _ => hgrow.block b hb)
      rfl rfl rfl hgrow.size
    intro next QQ hn
    unfold Oper.wp
    rw [hrun]
    have f3 := f1.put (d := o.dst) (t := one (.own (dkey s 0) q.n)) (v := (⟨some w.heap.size, 1, none, 0⟩ : Hd).val 1) (by rw [← hqn]; rw [← hqn] at f2; exact f2)
    exact hn _ _ _ _ f3 (by rw [hd]; exact hQ)

theorem slcO_ok (h : Rel C G st a w) (o : Oper) {t : TypeId} {x : Operand} {lo hi : Option Operand} {sz' : Nat} {y : CA} {lo' hi' : Option CA} (hop : o.op = .slice t x lo hi none)
    (hchk : chkOp C.E.P (.slice t x lo hi none) (.slcO sz' y lo' hi') = true) {Q : St → Prop} (hQ : wo C.E o.dst (.slcO sz' y lo' hi') st Q) : Did C a w o Q := by
  simp only [chkOp, Bool.and_eq_true] at hchk
  obtain ⟨⟨⟨h1, h2⟩, h3⟩, h4⟩ := hchk
  split at h4
  case h_2 => cases h4
  rename_i el hel
  have hes := eqopt h4
  simp only [wo] at hQ
  cases hd : o.dst with
  | none => rw [hd] at hQ; exact hQ.elim
  | some s =>
    rw [hd] at hQ
    simp only at hQ
    split at hQ
    case h_2 => exact hQ.elim
    rename_i k n hxv
    split at hQ
    case h_2 => exact hQ.elim
    rename_i r hr
    have V := View.self h (COp.slcO sz' y lo' hi').args
    have hvx := V.ev h1 (by simp [COp.args])
    rw [hxv] at hvx
    obtain ⟨r', q1, q2, q3⟩ := hvx
    rw [hr] at q1; cases q1
    have hR := h.ob.obr k r hr
    obtain ⟨l, hh, hK, c1, c2, c3⟩ := cut_ok V (P := C.E.P) (cap := (G.top k).cap) true (by rw [← q2]; exact hR.1) h2 h3 (by intro y' hy'; subst hy'; simp [COp.args, optA]) (by intro y' hy'; subst hy'; simp [COp.args, optA]) hQ
    cases hb : newK (st.drop k).ob (dkey s 0) && (Nat.beq sz' r.sz && (Nat.beq l 0 || !r.deep)) with
    | false => rw [hb] at hK; exact hK.elim
    | true =>
    rw [hb] at hK
    simp only [Bool.and_eq_true] at hb
    obtain ⟨hnew, hs0, hl0⟩ := hb
    have hs0 := Nat.eq_of_beq_eq_true hs0
    obtain ⟨q, hq, hQ⟩ := hK
    have hqn : q.n = hh - l := hq.n.symm
    have hqs : q.sz = r.sz := hq.sz.symm
    have hqd : q.deep = r.deep := hq.deep.symm
    have hget : ∀ i j, i < hh - l → j < r.sz → q.get i j = r.get (i + l) j := fun i j a1 a2 => (hq.get i j a1 a2).symm
    by_cases hlz : l = 0
    · subst hlz
      have hrun : (execOp a.eval o).run C.E.P w = .ok (.value ((G.top k).val hh)) w := by
        simp only [execOp, hop]
        refine run_v ?_
        have hv1 : ∃ b, a.eval x = .slice b n (G.top k).cap ∧ (G.top k).val hh = .slice (if (G.top k).cap = 0 then b else b.map (·.add (0 * sz'))) (hh - 0) ((G.top k).cap - 0) := by
          rw [q3]
          unfold Hd.val
          cases hbs : (G.top k).base with
          | none =>
            have := hR.2.1 hbs
            refine ⟨(G.top k).jk, rfl, ?_⟩
            rw [if_pos this]; rfl
          | some b =>
            refine ⟨some ⟨b, (G.top k).off, none⟩, rfl, ?_⟩
            simp [addr_add]
        obtain ⟨b, e1, e2⟩ := hv1
        rw [e1, e2]
        simp only [Instr.sliceAt, Sem.run_bind, run_underlying hel, Result.andThen_ok, Instr.slice, Option.map_none, run_sizeOf hes]
        rw [c3]
        rfl
      obtain ⟨f1, f2⟩ := Rel.renew h (ks := [k]) (kn := dkey s 0) (q := q) (d' := G.top k) (sb := G.sub k) (ψ := fun i j => .sub k i j) (kt := some k) (w' := w)
        (fun k' hk' => by
          have : k' = k := by simpa using hk'
          exact ⟨r, by rw [this]; exact hr⟩)
        hnew
        (by
          rw [hqs, hqn]
          refine ⟨by have := hR.1; omega, hR.2.1, fun b hb => ?_⟩
          obtain ⟨cs, t', b1, b2, b3⟩ := hR.2.2 b hb
          refine ⟨cs, t', b1, b2, fun i j hi' hj' => ?_⟩
          obtain ⟨v, v1, v2⟩ := b3 i j (by omega) hj'
          refine ⟨v, v1, ?_⟩
          show Cont _ _ _ _ _ _ _ _ _ (q.get i j)
          rw [hget i j hi' hj']
          exact v2.move (fun e => by rw [hqd]; exact e) (fun sz n g e => ⟨by simp [Gh.set], fun _ _ => rfl⟩))
        (fun k' e => by cases e; exact ⟨by simp, rfl⟩)
        (fun e => by cases e)
        (fun i j sz n g a1 a2 a3 => by
          rw [hqn] at a1; rw [hqs] at a2
          rw [hget i j a1 a2] at a3
          exact ⟨⟨r, sz, n, g, hr, by omega, a2, a3⟩, ⟨k, rfl, by simp⟩, rfl, fun k' _ e => by cases e⟩)
        (fun i j i' j' _ _ _ _ _ _ e => by cases e; exact ⟨rfl, rfl⟩)
        (fun b _ _ => rfl)
        rfl rfl rfl (Nat.le_refl _)
      intro next QQ hn
      unfold Oper.wp
      rw [hrun]
      have f3 := f1.put (d := o.dst) (t := one (.own (dkey s 0) q.n)) (v := (G.top k).val hh) (by rw [hqn] at f2 ⊢; exact f2)
      exact hn _ _ _ _ f3 (by rw [hd]; exact hQ)
    · have hdp : r.deep = false := by
        simp only [Bool.or_eq_true, Bool.not_eq_true'] at hl0
        rcases hl0 with hl0 | hl0
        · exact absurd (Nat.eq_of_beq_eq_true hl0) hlz
        · exact hl0
      have hcap := hR.1
      obtain ⟨b, hbs⟩ : ∃ b, (G.top k).base = some b := by
        cases hbs : (G.top k).base with
        | none => have := hR.2.1 hbs; omega
        | some b => exact ⟨b, rfl⟩
      by_cases hcl : (G.top k).cap = l
      · have hn0 : hh - l = 0 := by omega
        have hrun : (execOp a.eval o).run C.E.P w = .ok (.value ((⟨none, 0, some ⟨b, (G.top k).off, none⟩, 0⟩ : Hd).val 0)) w := by
          simp only [execOp, hop]
          refine run_v ?_
          have e1 : a.eval x = .slice (some ⟨b, (G.top k).off, none⟩) n (G.top k).cap := by rw [q3]; unfold Hd.val; rw [hbs]
          rw [e1]
          simp only [Instr.sliceAt, Sem.run_bind, run_underlying hel, Result.andThen_ok, Instr.slice, Option.map_none, run_sizeOf hes]
          rw [c3]
          simp only [Result.andThen_ok]
          rw [if_pos hcl, hn0, show (G.top k).cap - l = 0 by omega]
          rfl
        obtain ⟨f1, f2⟩ := Rel.renew h (ks := [k]) (kn := dkey s 0) (q := q) (d' := ⟨none, 0, some ⟨b, (G.top k).off, none⟩, 0⟩) (sb := G.sub k) (ψ := fun _ _ => .top k) (kt := none) (w' := w)
          (fun k' hk' => by
            have : k' = k := by simpa using hk'
            exact ⟨r, by rw [this]; exact hr⟩)
          hnew
          (by
            rw [hqn, hn0]
            exact ⟨Nat.le_refl _, fun _ => rfl, fun b hb => by cases hb⟩)
          (fun k' e => by cases e)
          (fun _ b hb => by cases hb)
          (fun i j sz n g a1 a2 a3 => by rw [hqn] at a1; omega)
          (fun i j i' j' a1 => by rw [hqn] at a1; omega)
          (fun b _ _ => rfl)
          rfl rfl rfl (Nat.le_refl _)
        intro next QQ hn
        unfold Oper.wp
        rw [hrun]
        have f3 := f1.put (d := o.dst) (t := one (.own (dkey s 0) q.n)) (v := (⟨none, 0, some ⟨b, (G.top k).off, none⟩, 0⟩ : Hd).val 0) (by rw [hqn, hn0] at f2 ⊢; exact f2)
        exact hn _ _ _ _ f3 (by rw [hd]; exact hQ)
      have hrun : (execOp a.eval o).run C.E.P w = .ok (.value ((⟨some b, (G.top k).cap - l, none, (G.top k).off + l * sz'⟩ : Hd).val (hh - l))) w := by
        simp only [execOp, hop]
        refine run_v ?_
        have e1 : a.eval x = .slice (some ⟨b, (G.top k).off, none⟩) n (G.top k).cap := by rw [q3]; unfold Hd.val; rw [hbs]
        rw [e1]
        simp only [Instr.sliceAt, Sem.run_bind, run_underlying hel, Result.andThen_ok, Instr.slice, Option.map_none, run_sizeOf hes]
        rw [c3]
        simp only [Result.andThen_ok]
        rw [if_neg hcl]
        simp only [Option.map_some, addr_add]
        rfl
      have nofr : ∀ i j sz n g, i < r.n → j < r.sz → r.get i j ≠ .fr sz n g := by
        intro i j sz n g a1 a2 e
        obtain ⟨cs, t', b1, b2, b3⟩ := hR.2.2 b hbs
        obtain ⟨v, v1, v2⟩ := b3 i j a1 a2
        rw [e] at v2
        have := v2.1
        rw [hdp] at this; cases this
      obtain ⟨f1, f2⟩ := Rel.renew h (ks := [k]) (kn := dkey s 0) (q := q) (d' := ⟨some b, (G.top k).cap - l, none, (G.top k).off + l * sz'⟩) (sb := G.sub k) (ψ := fun i j => .sub k i j) (kt := some k) (w' := w)
        (fun k' hk' => by
          have : k' = k := by simpa using hk'
          exact ⟨r, by rw [this]; exact hr⟩)
        hnew
        (by
          rw [hqs, hqn]
          refine ⟨by show hh - l ≤ (G.top k).cap - l; omega, fun e => (by cases e), fun b' hb' => ?_⟩
          cases hb'
          obtain ⟨cs, t', b1, b2, b3⟩ := hR.2.2 b hbs
          refine ⟨cs, t', b1, ?_, fun i j hi' hj' => ?_⟩
          · show (G.top k).off + l * sz' + ((G.top k).cap - l) * r.sz ≤ cs.size
            have : l * sz' + ((G.top k).cap - l) * r.sz = (G.top k).cap * r.sz := by
              rw [hs0, ← Nat.add_mul]; congr 1; omega
            omega
          obtain ⟨v, v1, v2⟩ := b3 (i + l) j (by omega) hj'
          refine ⟨v, ?_, ?_⟩
          · show cs[(G.top k).off + l * sz' + (i * r.sz + j)]? = some v
            rw [← v1, hs0, Nat.add_mul]
            congr 1
            omega
          · show Cont _ _ _ _ _ _ _ _ _ (q.get i j)
            rw [hget i j hi' hj']
            exact v2.move (fun e => by rw [hqd]; exact e) (fun sz n g e => absurd e (nofr _ _ _ _ _ (by omega) hj')))
        (fun k' e => by cases e; exact ⟨by simp, by show some b = _; rw [hbs]⟩)
        (fun e => by cases e)
        (fun i j sz n g a1 a2 a3 => by
          rw [hqn] at a1; rw [hqs] at a2
          rw [hget i j a1 a2] at a3
          exact absurd a3 (nofr _ _ _ _ _ (by omega) a2))
        (fun i j i' j' _ _ _ _ _ _ e => by cases e; exact ⟨rfl, rfl⟩)
        (fun b _ _ => rfl)
        rfl rfl rfl (Nat.le_refl _)
      intro next QQ hn
      unfold Oper.wp
      rw [hrun]
      have f3 := f1.put (d := o.dst) (t := one (.own (dkey s 0) q.n)) (v := (⟨some b, (G.top k).cap - l, none, (G.top k).off + l * sz'⟩ : Hd).val (hh - l)) (by rw [hqn] at f2 ⊢; exact f2)
      exact hn _ _ _ _ f3 (by rw [hd]; exact hQ)
end
end Go.Proofs.YtjnpnpkjmlihdaaDoor.Ab
namespace Go.Proofs.YtjnpnpkjmlihdaaDoor.Ab
open Go Go.RowKit

section
variable {E : Env} {st : St}

/-- the temporaries that are looked at stand as they stood -/
def Same (st st2 : St) (xs : List CA) : Prop := ∀ s, CA.t s ∈ xs → getL st2.tm s = getL st.tm s
/-- what both memories tell, they tell alike -/
structure Agree (st st2 : St) : Prop where
  ob : ∀ k r r', lk st.ob k = some r → lk st2.ob k = some r' → r' = r
  bx : ∀ s c c', lk st.bx s = some c → lk st2.bx s = some c' → c' = c
/-- what a cell leads to is there -/
def Alive0 (st : St) : Cell → Prop
  | .own k _ | .own1 k _ _ _ | .elt k _ _ | .elt1 k _ _ _ _ | .pb k _ | .fnx _ k .. => ∃ r, lk st.ob k = some r
  | .box s _ => ∃ cs, lk st.bx s = some cs
  | _ => True
def AliveC (st : St) : Cell → Prop
  | .fn _ bs => ∀ s ∈ bs, ∃ cs, lk st.bx s = some cs ∧ ∀ j, j < cs.length → Alive0 st (nth cs j)
  | c => Alive0 st c
def AliveT (st : St) : T → Prop
  | .v (.one c) => AliveC st c
  | .v (.agg cs) => ∀ j, j < cs.length → AliveC st (nth cs j)
  | .tup _ => True
theorem AliveC.zero {c : Cell} (h : AliveC st c) : Alive0 st c := by
  cases c <;> first | exact h | exact True.intro

theorem Same.ev {st2 : St} {xs : List CA} (h : Same st st2 xs) {x : CA} (hx : x ∈ xs) : Ab.ev E st2 x = Ab.ev E st x := by
  cases x with
  | t s => exact h s hx
  | k c => rfl
  | g n => rfl
theorem Same.evs {st2 : St} {xs : List CA} (h : Same st st2 xs) : ∀ {l : List CA}, (∀ x ∈ l, x ∈ xs) → Ab.evs E st2 l = Ab.evs E st l
  | [], _ => rfl
  | x :: l, hm => by
    simp only [Ab.evs]
    rw [h.ev (hm x (by simp)), h.evs (l := l) (fun y hy => hm y (by simp [hy]))]

theorem intK_pt {x : T} {K : IntKind → Int → Prop} (h : intK x K) : ∃ k n, x = .v (.one (.int k n)) ∧ K k n := intK_ok h

section ag
variable {st2 : St} (A : Agree st st2)
include A
theorem Agree.row {k : Nat} {r : Row} (h : lk st.ob k = some r) (ha : ∃ r, lk st2.ob k = some r) : lk st2.ob k = some r := by
  obtain ⟨r', h'⟩ := ha
  rw [h', A.ob k r r' h h']
theorem Agree.box {s : Nat} {c : List Cell} (h : lk st.bx s = some c) (ha : ∃ c, lk st2.bx s = some c) : lk st2.bx s = some c := by
  obtain ⟨r', h'⟩ := ha
  rw [h', A.bx s c r' h h']

theorem snapC_ag {c c' : Cell} (h : snapC st c = some c') (ha : Alive0 st2 c) : snapC st2 c = some c' := by
  cases c with
  | own k n =>
    simp only [snapC] at h ⊢
    split at h
    · rename_i r hr
      rw [A.row hr ha]; exact h
    · cases h
  | own1 k i j n =>
    simp only [snapC] at h ⊢
    split at h
    · rename_i r hr
      rw [A.row hr ha]; exact h
    · cases h
  | _ => exact h
theorem snapL_ag : ∀ {l l' : List Cell}, snapL st l = some l' → (∀ j, j < l.length → Alive0 st2 (nth l j)) → snapL st2 l = some l'
  | [], _, h, _ => h
  | c :: l, l', h, ha => by
    simp only [snapL] at h ⊢
    split at h
    · rename_i c1 h1
      split at h
      · rename_i l1 h2
        rw [snapC_ag A h1 (ha 0 (by simp)), snapL_ag h2 (fun j hj => ha (j + 1) (by simpa using hj))]
        exact h
      · cases h
    · cases h
theorem caught_ag : ∀ {l : List Nat} {l' : List (List Cell)}, caught st l = some l' → (∀ s ∈ l, ∃ cs, lk st2.bx s = some cs ∧ ∀ j, j < cs.length → Alive0 st2 (nth cs j)) → caught st2 l = some l'
  | [], _, h, _ => h
  | b :: l, l', h, ha => by
    simp only [caught] at h ⊢
    split at h
    · rename_i cs hcs
      obtain ⟨cs2, k1, k2⟩ := ha b (by simp)
      have e := A.box hcs ⟨cs2, k1⟩
      rw [k1] at e; cases e
      split at h
      · rename_i cs' h1
        split at h
        · rename_i l1 h2
          rw [k1]
          simp only
          rw [snapL_ag A h1 k2]
          simp only
          rw [caught_ag h2 (fun s hs => ha s (by simp [hs]))]
          exact h
        · cases h
      · cases h
    · cases h
theorem snapF_ag {c c' : Cell} (h : snapF st c = some c') (ha : AliveC st2 c) : snapF st2 c = some c' := by
  by_cases hf : ∃ f bs, c = .fn f bs
  · obtain ⟨f, bs, rfl⟩ := hf
    simp only [snapF] at h ⊢
    split at h
    · rename_i l hl
      rw [caught_ag A hl ha]; exact h
    · cases h
  · by_cases hx : ∃ f k n i m sz get, c = .fnx f k n i m sz get
    · obtain ⟨f, k, n, i, m, sz, get, rfl⟩ := hx
      simp only [snapF] at h ⊢
      split at h
      · rename_i r hr
        rw [A.row hr ha]
        exact h
      · cases h
    have e1 : snapF st c = snapC st c := by cases c <;> first | rfl | exact absurd ⟨_, _, rfl⟩ hf | exact absurd ⟨_, _, _, _, _, _, _, rfl⟩ hx
    have e2 : snapF st2 c = snapC st2 c := by cases c <;> first | rfl | exact absurd ⟨_, _, rfl⟩ hf | exact absurd ⟨_, _, _, _, _, _, _, rfl⟩ hx
    rw [e1] at h
    rw [e2]; exact snapC_ag A h ha.zero
theorem snapV_ag {x : T} {y : V} (h : snapV st x = some y) (ha : AliveT st2 x) : snapV st2 x = some y := by
  cases x with
  | tup xs => cases h
  | v x =>
    cases x with
    | one c =>
      simp only [snapV] at h ⊢
      split at h
      · rename_i c' hc
        rw [snapF_ag A hc ha]; exact h
      · cases h
    | agg cs =>
      simp only [snapV] at h ⊢
      split at h
      · rename_i c' hc
        rw [snapL_ag A hc (fun j hj => (ha j hj).zero)]; exact h
      · cases h
theorem snapVs_ag : ∀ {l : List T} {l' : List V}, snapVs st l = some l' → (∀ x ∈ l, AliveT st2 x) → snapVs st2 l = some l'
  | [], _, h, _ => h
  | x :: l, l', h, ha => by
    simp only [snapVs] at h ⊢
    split at h
    · rename_i x1 h1
      split at h
      · rename_i l1 h2
        rw [snapV_ag A h1 (ha x (by simp)), snapVs_ag h2 (fun y hy => ha y (by simp [hy]))]
        exact h
      · cases h
    · cases h
end ag
theorem evs_alive {st2 : St} : ∀ {l : List CA}, (∀ x ∈ l, AliveT st2 (Ab.ev E st2 x)) → ∀ t ∈ Ab.evs E st2 l, AliveT st2 t
  | [], _, t, ht => (by cases ht)
  | x :: l, h, t, ht => by
    simp only [Ab.evs] at ht
    rcases List.mem_cons.1 ht with e | e
    · subst e; exact h x (by simp)
    · exact evs_alive (fun y hy => h y (by simp [hy])) t e
theorem lk_one {α : Type} (k : Nat) (x : α) : lk [(k, x)] k = some x := by rw [lk_cons, if_pos rfl]
theorem freshK_of {α : Type} {l : List (Nat × α)} {k : Nat} (h : lk l k = none) : freshK l k = true := by unfold freshK; rw [h]
theorem freshL_of {α β : Type} {l : List (Nat × α)} : ∀ {ob : List (Nat × β)}, (∀ k r, lk ob k = some r → lk l k = none) → freshL l ob = true
  | [], _ => rfl
  | (k, q) :: ob, h => by
    simp only [freshL, Bool.and_eq_true]
    refine ⟨by rw [h k q (by simp [lk_cons])], freshL_of (fun k' r hr => ?_)⟩
    by_cases e : k = k'
    · subst e; exact h k q (by simp [lk_cons])
    · exact h k' r (by rw [lk_cons, if_neg e]; exact hr)

theorem ldK_pt {n : Nat} {x : T} {K : List Cell → Prop} (h : ldK st n x K) : ∃ cs, K cs ∧ ∀ (st2 : St) (K' : List Cell → Prop), Agree st st2 → AliveT st2 x → K' cs → ldK st2 n x K' := by
  unfold ldK at h
  split at h
  · split at h
    · rename_i e
      exact ⟨_, h.2, fun st2 K' A ha hk => by unfold ldK; simp only; rw [A.box e ha]; exact ⟨h.1, hk⟩⟩
    · exact h.elim
  · split at h
    · rename_i e
      exact ⟨_, h.2, fun st2 K' A ha hk => by unfold ldK; simp only; rw [A.row e ha]; exact ⟨h.1, hk⟩⟩
    · exact h.elim
  · split at h
    · rename_i e
      split at h
      · rename_i e2
        exact ⟨_, h.2, fun st2 K' A ha hk => by unfold ldK; simp only; rw [A.row e ha]; simp only [e2]; exact ⟨h.1, hk⟩⟩
      · exact h.elim
    · exact h.elim
  · exact ⟨_, h.2, fun st2 K' A ha hk => ⟨h.1, hk⟩⟩
  · rename_i k m
    cases e : Nat.beq n 1 with
    | false => rw [e] at h; exact h.elim
    | true =>
      rw [e] at h
      exact ⟨_, h, fun st2 K' A ha hk => by simp only [ldK, e]; exact hk⟩
  · exact h.elim

theorem kk_iff {k k' : IntKind} {A B : Prop} (h : kk k k' A) (hb : B) : A ∧ kk k k' B := by
  cases k <;> cases k' <;> first | exact ⟨h, hb⟩ | exact h.elim

theorem bin_pt {op : BinOp} {x y : T} {K : Cell → Prop} (h : bin op x y K) : ∃ c, K c ∧ ∀ K' : Cell → Prop, K' c → bin op x y K' := by
  unfold bin at h
  split at h
  · rename_i k a k' b
    have h0 := (kk_iff h (B := True) trivial).1
    have key : ∃ c, K c ∧ ∀ K' : Cell → Prop, K' c → binI op k a b K' := by
      cases op <;> simp only [binI] at h0 <;> first
        | exact ⟨_, h0, fun K' hk => hk⟩
        | exact ⟨_, h0.2, fun K' hk => ⟨h0.1, hk⟩⟩
        | exact h0.elim
    obtain ⟨c, h1, h2⟩ := key
    exact ⟨c, h1, fun K' hk => (kk_iff h (h2 K' hk)).2⟩
  · rename_i a b
    cases op <;> simp only [binS] at h <;> first
      | exact ⟨_, h, fun K' hk => hk⟩
      | exact ⟨_, h.2, fun K' hk => ⟨h.1, hk⟩⟩
      | exact h.elim
  · exact h.elim

theorem cutK_pt {xs : List CA} {n : Nat} {lo hi : Option CA} {K : Nat → Nat → Prop} (hl : ∀ x, lo = some x → x ∈ xs) (hh : ∀ x, hi = some x → x ∈ xs) (h : cutK E st n lo hi K) :
    ∃ a b, K a b ∧ ∀ (st2 : St) (K' : Nat → Nat → Prop), Same st st2 xs → K' a b → cutK E st2 n lo hi K' := by
  unfold cutK at h
  cases lo with
  | none =>
    cases hi with
    | none => exact ⟨_, _, h.2, fun st2 K' _ hk => ⟨h.1, hk⟩⟩
    | some y =>
      obtain ⟨k, m, e, h1, h2⟩ := intK_pt h
      refine ⟨_, _, h2, fun st2 K' hs hk => ?_⟩
      show intK (Ab.ev E st2 y) _
      rw [hs.ev (hh y rfl), e]
      exact ⟨h1, hk⟩
  | some x =>
    cases hi with
    | none =>
      obtain ⟨k, m, e, h1, h2⟩ := intK_pt h
      refine ⟨_, _, h2, fun st2 K' hs hk => ?_⟩
      show intK (Ab.ev E st2 x) _
      rw [hs.ev (hl x rfl), e]
      exact ⟨h1, hk⟩
    | some y =>
      obtain ⟨k, m, e, h⟩ := intK_pt h
      obtain ⟨k2, m2, e2, h1, h2⟩ := intK_pt h
      refine ⟨_, _, h2, fun st2 K' hs hk => ?_⟩
      show intK (Ab.ev E st2 x) _
      rw [hs.ev (hl x rfl), e]
      show intK (Ab.ev E st2 y) _
      rw [hs.ev (hh y rfl), e2]
      exact ⟨h1, hk⟩

theorem addr_pt {sz : Nat} {x : T} {i : Int} {K : Cell → Prop} (h : addr sz st x i K) : ∃ c, K c ∧ ∀ (st2 : St) (K' : Cell → Prop), Agree st st2 → AliveT st2 x → K' c → addr sz st2 x i K' := by
  unfold addr at h
  split at h
  · rename_i sz' n g
    cases e : Nat.beq sz sz' with
    | false => rw [e] at h; exact h.elim
    | true => rw [e] at h; exact ⟨_, h.2, fun st2 K' A ha hk => by unfold addr; simp only [e]; exact ⟨h.1, hk⟩⟩
  · split at h
    · rename_i r e0
      cases e : Nat.beq sz r.sz with
      | false => rw [e] at h; exact h.elim
      | true => rw [e] at h; exact ⟨_, h.2, fun st2 K' A ha hk => by unfold addr; simp only; rw [A.row e0 ha]; simp only [e]; exact ⟨h.1, hk⟩⟩
    · exact h.elim
  · split at h
    · rename_i r e0
      split at h
      · rename_i sz' _ _ e1
        cases e : Nat.beq sz sz' with
        | false => rw [e] at h; exact h.elim
        | true => rw [e] at h; exact ⟨_, h.2, fun st2 K' A ha hk => by unfold addr; simp only; rw [A.row e0 ha]; simp only [e1, e]; exact ⟨h.1, hk⟩⟩
      · exact h.elim
    · exact h.elim
  · exact h.elim

theorem addrA_pt {len sz : Nat} {x : T} {i : Int} {K : Cell → Prop} (h : addrA len sz x i K) : ∃ c, K c ∧ ∀ K' : Cell → Prop, K' c → addrA len sz x i K' := by
  unfold addrA at h
  split at h
  · rename_i m g
    cases e : Nat.ble (len * sz) m with
    | false => rw [e] at h; exact h.elim
    | true => rw [e] at h; exact ⟨_, h.2, fun K' hk => by unfold addrA; simp only [e]; exact ⟨h.1, hk⟩⟩
  · exact ⟨_, h.2, fun K' hk => ⟨h.1, hk⟩⟩
  · exact ⟨_, h.2, fun K' hk => ⟨h.1, hk⟩⟩
  · exact h.elim
theorem fieldA_pt {off : Nat} {x : T} {K : Cell → Prop} (h : fieldA off x K) : ∃ c, K c ∧ ∀ K' : Cell → Prop, K' c → fieldA off x K' := by
  unfold fieldA at h
  split at h
  · rename_i m g
    cases e : Nat.ble off m with
    | false => rw [e] at h; exact h.elim
    | true => rw [e] at h; exact ⟨_, h, fun K' hk => by unfold fieldA; simp only [e]; exact hk⟩
  · exact ⟨_, h, fun K' hk => hk⟩
  · exact ⟨_, h, fun K' hk => hk⟩
  · exact ⟨_, h, fun K' hk => hk⟩
  · exact h.elim

theorem fillP_tmp {st2 : St} {xs : List CA} (hs : Same st st2 xs) : ∀ {l : List (Nat × Nat × CA)} {z : List Cell}, (∀ p ∈ l, p.2.2 ∈ xs) → fillP E st2 z l = fillP E st z l
  | [], z, _ => rfl
  | (o, n, x) :: l, z, hm => by
    simp only [fillP]
    have e : Ab.ev E st2 x = Ab.ev E st x := hs.ev (hm (o, n, x) (by simp))
    rw [e]
    split
    · rw [fillP_tmp hs (l := l) (fun p hp => hm p (by simp [hp]))]
    · rfl
theorem partsP_tmp {st2 : St} {xs : List CA} (hs : Same st st2 xs) {sz : Nat} : ∀ {l : List CA}, (∀ x ∈ l, x ∈ xs) → partsP E st2 sz l = partsP E st sz l
  | [], _ => rfl
  | x :: l, hm => by
    simp only [partsP]
    rw [hs.ev (hm x (by simp))]
    split
    · rw [partsP_tmp hs (l := l) (fun y hy => hm y (by simp [hy]))]
    · rfl

theorem CallQ_pt {f : Nat} {as : List V} {hot : Bool} {b : Option Nat} {ob : Ob} {K : T → Ob → Prop} (h : CallQ E f as hot b ob K) : ∃ t o, K t o ∧ ∀ (ob2 : Ob) (K' : T → Ob → Prop), (∀ k r, lk o k = some r → lk ob2 k = none) → K' t o → CallQ E f as hot b ob2 K' := by
  obtain ⟨r, obr, h1, h2, h3⟩ := h
  cases b with
  | none => exact ⟨_, _, h3.2, fun ob2 K' _ hk => ⟨r, obr, h1, h2, h3.1, hk⟩⟩
  | some d =>
    refine ⟨_, _, h3.2, fun ob2 K' hf hk => ⟨r, obr, h1, h2, ?_, hk⟩⟩
    have h4 := h3.1
    simp only [newL, Bool.and_eq_true] at h4 ⊢
    exact ⟨freshL_of hf, h4.2⟩

theorem btsK_pt {x : T} {K : Cell → Prop} (h : btsK st x K) : ∃ c, K c ∧ ∀ (st2 : St) (K' : Cell → Prop), Agree st st2 → AliveT st2 x → K' c → btsK st2 x K' := by
  unfold btsK at h
  split at h
  · rename_i sz n g
    cases e : Nat.beq sz 1 with
    | false => rw [e] at h; exact h.elim
    | true =>
      rw [e] at h
      obtain ⟨l, h1, h2, h3, h4⟩ := h
      refine ⟨_, h4, fun st2 K' A ha hk => ?_⟩
      simp only [btsK, e]
      exact ⟨l, h1, h2, h3, hk⟩
  · rename_i k n
    split at h
    case h_2 => exact h.elim
    rename_i r hr
    cases e : Nat.beq r.sz 1 with
    | false => rw [e] at h; exact h.elim
    | true =>
      rw [e] at h
      obtain ⟨l, h1, h2, h3, h4⟩ := h
      refine ⟨_, h4, fun st2 K' A ha hk => ?_⟩
      have := A.row hr ha
      simp only [btsK, this, e]
      exact ⟨l, h1, h2, h3, hk⟩
  · exact h.elim
theorem ncK_pt {x : T} {K : Cell → Prop} (h : ncK x K) : ∃ c, K c ∧ ∀ K' : Cell → Prop, K' c → ncK x K' := by
  unfold ncK at h
  split at h
  · exact ⟨_, h, fun K' hk => hk⟩
  · exact ⟨_, h, fun K' hk => hk⟩
  · exact ⟨_, h, fun K' hk => hk⟩
  · exact h.elim

/-- the outcome of an operation that changes nothing -/
theorem val_pt {d : Option Nat} {o : COp} {K : T → Ob → Bx → Prop} (h : val E st d o K) :
    ∃ t ob bx, K t ob bx ∧ ∀ (st2 : St) (K' : T → Ob → Bx → Prop), Same st st2 o.args → Agree st st2 → (∀ x ∈ o.args, AliveT st2 (Ab.ev E st2 x)) → (∀ k r, lk ob k = some r → lk st2.ob k = none) →
      (∀ s cs, lk bx s = some cs → lk st2.bx s = none) → K' t ob bx → val E st2 d o K' := by
  cases o with
  | dead => exact (h : False).elim
  | emp => exact ⟨_, _, _, h, fun st2 K' hs A ha hf1 hf2 hk => hk⟩
  | mv x => exact ⟨_, _, _, h, fun st2 K' hs A ha hf1 hf2 hk => by simp only [val]; rw [hs.ev (by simp [COp.args])]; exact hk⟩
  | alloc z =>
    cases d with
    | none => exact h.elim
    | some s =>
      simp only [val] at h
      cases e : freshK st.bx s && allC Cell.plain z with
      | false => rw [e] at h; exact h.elim
      | true =>
        rw [e] at h
        refine ⟨_, _, _, h, fun st2 K' hs A ha hf1 hf2 hk => ?_⟩
        simp only [Bool.and_eq_true] at e
        simp only [val]
        rw [freshK_of (hf2 s _ (lk_one s _)), e.2]; exact hk
  | box x =>
    cases d with
    | none => exact h.elim
    | some s =>
      simp only [val] at h
      split at h
      · rename_i y e0
        cases e : freshK st.bx s && allC Cell.stor y.cells with
        | false => rw [e] at h; exact h.elim
        | true =>
          rw [e] at h
          refine ⟨_, _, _, h, fun st2 K' hs A ha hf1 hf2 hk => ?_⟩
          simp only [val]
          rw [hs.ev (by simp [COp.args]), e0]
          simp only [Bool.and_eq_true] at e
          simp only
          rw [freshK_of (hf2 s _ (lk_one s _)), e.2]; exact hk
      · exact h.elim
  | build z ps =>
    simp only [val] at h
    split at h
    · rename_i cs e
      refine ⟨_, _, _, h, fun st2 K' hs A ha hf1 hf2 hk => ?_⟩
      simp only [val]
      rw [fillP_tmp hs (fun p hp => by simp only [COp.args, List.mem_map]; exact ⟨p, hp, rfl⟩), e]
      exact hk
    · exact h.elim
  | buildO z off sz ps =>
    cases d with
    | none => exact h.elim
    | some s =>
      simp only [val] at h
      split at h
      · rename_i cs e
        split at h
        · rename_i e3
          cases e2 : newK st.ob (dkey s 0) && Nat.blt off cs.length with
          | false => rw [e2] at h; exact h.elim
          | true =>
            rw [e2] at h
            obtain ⟨r, h1, h2⟩ := h
            refine ⟨_, _, _, h2, fun st2 K' hs A ha hf1 hf2 hk => ?_⟩
            simp only [val]
            rw [fillP_tmp hs (fun p hp => by simp only [COp.args, List.mem_map]; exact ⟨p, hp, rfl⟩), e]
            simp only [newK, Bool.and_eq_true] at e2
            simp only [e3]
            simp only [newK]
            rw [freshK_of (hf1 (dkey s 0) _ (lk_one _ _)), e2.1.2, e2.2]
            exact ⟨r, h1, hk⟩
        · exact h.elim
      · exact h.elim
  | bslice deep sz ps =>
    cases d with
    | none => exact h.elim
    | some s =>
      simp only [val] at h
      split at h
      · rename_i ys e
        cases e2 : newK st.ob (dkey s 0) with
        | false => rw [e2] at h; exact h.elim
        | true =>
          rw [e2] at h
          obtain ⟨r, h1, h2⟩ := h
          refine ⟨_, _, _, h2, fun st2 K' hs A ha hf1 hf2 hk => ?_⟩
          simp only [val]
          rw [partsP_tmp hs (fun p hp => by simpa [COp.args] using hp), e]
          simp only [newK, Bool.and_eq_true] at e2
          simp only [newK]
          rw [freshK_of (hf1 (dkey s 0) _ (lk_one _ _)), e2.2]; exact ⟨r, h1, hk⟩
      · exact h.elim
  | bsl1 x => exact h.elim
  | nilO deep sz j =>
    cases d with
    | none => exact h.elim
    | some s =>
      simp only [val] at h
      cases e2 : newK st.ob (dkey s j) with
      | false => rw [e2] at h; exact h.elim
      | true =>
        rw [e2] at h
        obtain ⟨r, h1, h2⟩ := h
        refine ⟨_, _, _, h2, fun st2 K' hs A ha hf1 hf2 hk => ?_⟩
        simp only [newK, Bool.and_eq_true] at e2
        simp only [val, newK]
        rw [freshK_of (hf1 (dkey s j) _ (lk_one _ _)), e2.2]; exact ⟨r, h1, hk⟩
  | ld n agg x =>
    simp only [val] at h
    obtain ⟨cs, h1, h2⟩ := ldK_pt h
    refine ⟨_, _, _, h1, fun st2 K' hs A ha hf1 hf2 hk => ?_⟩
    simp only [val]
    have e := hs.ev (E := E) (x := x) (by simp [COp.args])
    have ha' := ha x (by simp [COp.args])
    rw [e] at ha' ⊢
    exact h2 st2 _ A ha' hk
  | st n x y => exact h.elim
  | bin op x y =>
    simp only [val] at h
    obtain ⟨c, h1, h2⟩ := bin_pt h
    refine ⟨_, _, _, h1, fun st2 K' hs A ha hf1 hf2 hk => ?_⟩
    simp only [val]
    rw [hs.ev (x := x) (by simp [COp.args]), hs.ev (x := y) (by simp [COp.args])]
    exact h2 _ hk
  | eqB neq x y =>
    simp only [val] at h
    split at h
    · rename_i a b e1 e2
      refine ⟨_, _, _, h, fun st2 K' hs A ha hf1 hf2 hk => ?_⟩
      simp only [val]
      rw [hs.ev (x := x) (by simp [COp.args]), hs.ev (x := y) (by simp [COp.args]), e1, e2]
      exact hk
    · exact h.elim
  | neg x =>
    obtain ⟨k, n, e, h1⟩ := intK_pt h
    refine ⟨_, _, _, h1, fun st2 K' hs A ha hf1 hf2 hk => ?_⟩
    simp only [val]
    rw [hs.ev (x := x) (by simp [COp.args]), e]
    exact hk
  | half x =>
    obtain ⟨k, n, e, h1⟩ := intK_pt h
    refine ⟨_, _, _, h1, fun st2 K' hs A ha hf1 hf2 hk => ?_⟩
    simp only [val]
    rw [hs.ev (x := x) (by simp [COp.args]), e]
    exact hk
  | not x =>
    simp only [val] at h
    split at h
    · rename_i b e
      refine ⟨_, _, _, h, fun st2 K' hs A ha hf1 hf2 hk => ?_⟩
      simp only [val]
      rw [hs.ev (x := x) (by simp [COp.args]), e]
      exact hk
    · exact h.elim
  | conv k x =>
    obtain ⟨k', n, e, h1⟩ := intK_pt h
    refine ⟨_, _, _, h1, fun st2 K' hs A ha hf1 hf2 hk => ?_⟩
    simp only [val]
    rw [hs.ev (x := x) (by simp [COp.args]), e]
    exact hk
  | mkS deep sz bytes z x =>
    cases d with
    | none => exact h.elim
    | some s =>
      obtain ⟨k', n, e, h1⟩ := intK_pt h
      cases e2 : newK st.ob (dkey s 0) && allC Cell.plain z && Nat.beq z.length sz with
      | false => rw [e2] at h1; exact h1.elim
      | true =>
        rw [e2] at h1
        obtain ⟨h1, r, h2, h3⟩ := h1
        refine ⟨_, _, _, h3, fun st2 K' hs A ha hf1 hf2 hk => ?_⟩
        simp only [val]
        rw [hs.ev (x := x) (by simp [COp.args]), e]
        simp only [newK, Bool.and_eq_true] at e2
        show (bif newK st2.ob (dkey s 0) && allC Cell.plain z && Nat.beq z.length sz then _ else False)
        have e3 : (newK st2.ob (dkey s 0) && allC Cell.plain z && Nat.beq z.length sz) = true := by
          simp only [newK, Bool.and_eq_true]
          exact ⟨⟨⟨freshK_of (hf1 (dkey s 0) _ (lk_one _ _)), e2.1.1.2⟩, e2.1.2⟩, e2.2⟩
        rw [e3]
        exact ⟨h1, r, h2, hk⟩
  | slc sz' x lo hi =>
    simp only [val] at h
    split at h
    · rename_i sz n g e
      cases e2 : Nat.beq sz' sz with
      | false => rw [e2] at h; exact h.elim
      | true =>
        rw [e2] at h
        simp only [cond_true] at h
        obtain ⟨a, b, h1, h2⟩ := cutK_pt (xs := (COp.slc sz' x lo hi).args) (by intro y hy; subst hy; simp [COp.args, optA]) (by intro y hy; subst hy; simp [COp.args, optA]) h
        refine ⟨_, _, _, h1, fun st2 K' hs A ha hf1 hf2 hk => ?_⟩
        simp only [val]
        rw [hs.ev (x := x) (by simp [COp.args]), e]
        simp only [e2]
        exact h2 st2 (fun l h => K' (one (.ro sz (h - l) fun i j => g (i + l) j)) [] []) hs hk
    · exact h.elim
  | slcO sz' x lo hi => exact h.elim
  | slcS x lo hi =>
    simp only [val] at h
    split at h
    · rename_i s e
      obtain ⟨a, b, h1, h2⟩ := cutK_pt (xs := (COp.slcS x lo hi).args) (by intro y hy; subst hy; simp [COp.args, optA]) (by intro y hy; subst hy; simp [COp.args, optA]) h
      refine ⟨_, _, _, h1, fun st2 K' hs A ha hf1 hf2 hk => ?_⟩
      simp only [val]
      rw [hs.ev (x := x) (by simp [COp.args]), e]
      exact h2 st2 _ hs hk
    · exact h.elim
  | fa off x =>
    simp only [val] at h
    obtain ⟨c, h1, h2⟩ := fieldA_pt h
    refine ⟨_, _, _, h1, fun st2 K' hs A ha hf1 hf2 hk => ?_⟩
    simp only [val]
    rw [hs.ev (x := x) (by simp [COp.args])]
    exact h2 _ hk
  | fld off sz agg x =>
    simp only [val] at h
    split at h
    · rename_i cs e
      cases e2 : Nat.ble (off + sz) cs.length with
      | false => rw [e2] at h; exact h.elim
      | true =>
        rw [e2] at h
        refine ⟨_, _, _, h, fun st2 K' hs A ha hf1 hf2 hk => ?_⟩
        simp only [val]
        rw [hs.ev (x := x) (by simp [COp.args]), e]
        simp only [e2]
        exact hk
    · exact h.elim
  | ia sz x i =>
    obtain ⟨k, n, e, h1⟩ := intK_pt h
    obtain ⟨c, h1, h2⟩ := addr_pt h1
    refine ⟨_, _, _, h1, fun st2 K' hs A ha hf1 hf2 hk => ?_⟩
    simp only [val]
    have e9 := hs.ev (E := E) (x := x) (by simp [COp.args])
    have ha' := ha x (by simp [COp.args])
    rw [e9] at ha'
    rw [e9, hs.ev (x := i) (by simp [COp.args]), e]
    exact h2 st2 (fun c => K' (one c) [] []) A ha' hk
  | iaA len sz x i =>
    obtain ⟨k, n, e, h1⟩ := intK_pt h
    obtain ⟨c, h1, h2⟩ := addrA_pt h1
    refine ⟨_, _, _, h1, fun st2 K' hs A ha hf1 hf2 hk => ?_⟩
    simp only [val]
    rw [hs.ev (x := x) (by simp [COp.args]), hs.ev (x := i) (by simp [COp.args]), e]
    exact h2 (fun c => K' (one c) [] []) hk
  | idxS x i =>
    simp only [val] at h
    split at h
    · rename_i s e
      obtain ⟨k, n, e2, h1, h2⟩ := intK_pt h
      refine ⟨_, _, _, h2, fun st2 K' hs A ha hf1 hf2 hk => ?_⟩
      simp only [val]
      rw [hs.ev (x := x) (by simp [COp.args]), hs.ev (x := i) (by simp [COp.args]), e, e2]
      exact ⟨h1, hk⟩
    · exact h.elim
  | ext j x =>
    simp only [val] at h
    split at h
    · rename_i xs e
      split at h
      · rename_i y e2
        refine ⟨_, _, _, h, fun st2 K' hs A ha hf1 hf2 hk => ?_⟩
        simp only [val]
        rw [hs.ev (x := x) (by simp [COp.args]), e]
        simp only [e2]; exact hk
      · exact h.elim
    · exact h.elim
  | len x =>
    simp only [val] at h
    split at h <;> first
      | exact h.elim
      | (rename_i e
         refine ⟨_, _, _, h, fun st2 K' hs A ha hf1 hf2 hk => ?_⟩
         simp only [val]
         rw [hs.ev (x := x) (by simp [COp.args]), e]
         exact hk)
  | lenS x =>
    simp only [val] at h
    split at h
    · rename_i s e
      refine ⟨_, _, _, h, fun st2 K' hs A ha hf1 hf2 hk => ?_⟩
      simp only [val]
      rw [hs.ev (x := x) (by simp [COp.args]), e]
      exact hk
    · exact h.elim
  | app sz bytes x y =>
    cases d with
    | none => exact h.elim
    | some s =>
      simp only [val] at h
      split at h
      case h_2 => exact h.elim
      rename_i e1
      split at h
      case h_2 => exact h.elim
      rename_i sz' n g e2
      cases e : Nat.beq sz sz' && Nat.blt bytes 65536 with
      | false => rw [e] at h; exact h.elim
      | true =>
        rw [e] at h
        simp only [cond_true] at h
        by_cases hn : n = 0
        · refine ⟨_, _, _, h.1 hn, fun st2 K' hs A ha hf1 hf2 hk => ?_⟩
          simp only [val]
          rw [hs.ev (x := x) (by simp [COp.args]), hs.ev (x := y) (by simp [COp.args]), e1, e2]
          simp only [e, cond_true]
          exact ⟨fun _ => hk, fun h => absurd hn h⟩
        · have h0 := h.2 hn
          cases e3 : newK st.ob (dkey s 0) with
          | false => rw [e3] at h0; exact h0.elim
          | true =>
            rw [e3] at h0
            obtain ⟨h1, r, h2, h3⟩ := h0
            refine ⟨_, _, _, h3, fun st2 K' hs A ha hf1 hf2 hk => ?_⟩
            simp only [newK, Bool.and_eq_true] at e3
            simp only [val]
            rw [hs.ev (x := x) (by simp [COp.args]), hs.ev (x := y) (by simp [COp.args]), e1, e2]
            simp only [newK, e, cond_true]
            rw [freshK_of (hf1 (dkey s 0) _ (lk_one _ _)), e3.2]
            exact ⟨fun h => absurd h hn, fun _ => ⟨h1, r, h2, hk⟩⟩
  | mx x y =>
    simp only [val] at h
    split at h
    · rename_i k a k' b e1 e2
      refine ⟨_, _, _, (kk_iff h (B := True) trivial).1, fun st2 K' hs A ha hf1 hf2 hk => ?_⟩
      simp only [val]
      rw [hs.ev (x := x) (by simp [COp.args]), hs.ev (x := y) (by simp [COp.args]), e1, e2]
      exact (kk_iff h hk).2
    · exact h.elim
  | mn x y =>
    simp only [val] at h
    split at h
    · rename_i k a k' b e1 e2
      refine ⟨_, _, _, (kk_iff h (B := True) trivial).1, fun st2 K' hs A ha hf1 hf2 hk => ?_⟩
      simp only [val]
      rw [hs.ev (x := x) (by simp [COp.args]), hs.ev (x := y) (by simp [COp.args]), e1, e2]
      exact (kk_iff h hk).2
    · exact h.elim
  | call ref f xs =>
    cases ref with
    | true => exact h.elim
    | false =>
      simp only [val] at h
      split at h
      · rename_i as e
        obtain ⟨t, o, h1, h2⟩ := CallQ_pt h
        refine ⟨_, _, _, h1, fun st2 K' hs A ha hf1 hf2 hk => ?_⟩
        simp only [val]
        have e9 := hs.evs (E := E) (l := xs) (fun x hx => by simpa [COp.args] using hx)
        have ha' := evs_alive (E := E) (l := xs) (fun x hx => ha x (by simpa [COp.args] using hx))
        rw [e9] at ha' ⊢
        rw [snapVs_ag A e ha']
        exact h2 _ _ hf1 hk
      · exact h.elim
  | callv x xs =>
    simp only [val] at h
    split at h
    · rename_i f m sz get e0
      split at h
      · rename_i as e
        obtain ⟨t, o, h1, h2⟩ := CallQ_pt h
        refine ⟨_, _, _, h1, fun st2 K' hs A ha hf1 hf2 hk => ?_⟩
        simp only [val]
        have e8 := hs.ev (E := E) (x := x) (by simp [COp.args])
        have ha8 : AliveT st2 (Ab.ev E st2 x) := ha x (by simp [COp.args])
        rw [e8] at ha8 ⊢
        rw [snapV_ag A e0 ha8]
        simp only
        have e9 := hs.evs (E := E) (l := xs) (fun x hx => by simp [COp.args, hx])
        have ha' := evs_alive (E := E) (l := xs) (fun x hx => ha x (by simp [COp.args, hx]))
        rw [e9] at ha' ⊢
        rw [snapVs_ag A e ha']
        exact h2 _ _ hf1 hk
      · exact h.elim
    · exact h.elim
  | mkf f xs =>
    simp only [val] at h
    split at h
    · rename_i bs e
      refine ⟨_, _, _, h, fun st2 K' hs A ha hf1 hf2 hk => ?_⟩
      simp only [val]
      rw [hs.evs (l := xs) (fun x hx => by simpa [COp.args] using hx), e]
      exact hk
    · exact h.elim
  | pick c x y =>
    simp only [val] at h
    split at h
    · rename_i b e
      cases b with
      | true =>
        refine ⟨_, _, _, h.1 rfl, fun st2 K' hs A ha hf1 hf2 hk => ?_⟩
        simp only [val]
        rw [hs.ev (x := c) (by simp [COp.args]), hs.ev (x := x) (by simp [COp.args]), e]
        exact ⟨fun _ => hk, fun h => by cases h⟩
      | false =>
        refine ⟨_, _, _, h.2 rfl, fun st2 K' hs A ha hf1 hf2 hk => ?_⟩
        simp only [val]
        rw [hs.ev (x := c) (by simp [COp.args]), hs.ev (x := y) (by simp [COp.args]), e]
        exact ⟨fun h => (by cases h), fun _ => hk⟩
    · exact h.elim
  | bts x =>
    simp only [val] at h
    obtain ⟨c, h1, h2⟩ := btsK_pt h
    refine ⟨_, _, _, h1, fun st2 K' hs A ha hf1 hf2 hk => ?_⟩
    simp only [val]
    have e := hs.ev (E := E) (x := x) (by simp [COp.args])
    have ha' := ha x (by simp [COp.args])
    rw [e] at ha' ⊢
    exact h2 st2 _ A ha' hk
  | ncx x =>
    simp only [val] at h
    obtain ⟨c, h1, h2⟩ := ncK_pt h
    refine ⟨_, _, _, h1, fun st2 K' hs A ha hf1 hf2 hk => ?_⟩
    simp only [val]
    rw [hs.ev (x := x) (by simp [COp.args])]
    exact h2 _ hk
  | isn x => simp only [val] at h
end
end Go.Proofs.YtjnpnpkjmlihdaaDoor.Ab
namespace Go.Proofs.YtjnpnpkjmlihdaaDoor.Ab
open Go Go.RowKit

/-- a row that is lent: its name in the call, what it reads, where it comes from -/
abbrev Ln := Nat × (Row × Tgt)
def obOf (L : List Ln) : Ob := L.map fun x => (x.1, x.2.1)
def tsOf (L : List Ln) : List (Nat × Tgt) := L.map fun x => (x.1, x.2.2)
def Src (st : St) (r : Row) : Tgt → Prop
  | .top k => lk st.ob k = some r
  | .sub k i j => r.deep = false ∧ ∃ q, lk st.ob k = some q ∧ i < q.n ∧ j < q.sz ∧ q.get i j = .fr r.sz r.n r.get
def hdOf (G : Gh) : Tgt → Hd
  | .top k => G.top k
  | .sub k i j => G.sub k i j

section
variable {C : Cx} {G : Gh} {st : St} {a : Act} {w : World}

/-- a block that a captured variable lies in -/
def Bk (C : Cx) (G : Gh) (st : St) (b : Nat) : Prop := C.I b ∨ ∃ s cs, lk st.bx s = some cs ∧ b = G.bx s
/-- a captured variable that holds a row that is lent; a function value that has caught one -/
def PbX (C : Cx) (G : Gh) (st : St) (w : World) (x : Ln) (v : Value) (n : Nat) : Prop :=
  ∃ kk b, x.2.2 = .top kk ∧ n = x.2.1.n ∧ v = Value.pointer (some ⟨b, 0, none⟩) ∧ Bk C G st b ∧ w.cell? ⟨b, 0, none⟩ = some ((G.top kk).val n)
def FnX (C : Cx) (G : Gh) (st : St) (w : World) (x : Ln) (v : Value) (f n i m : Nat) (sz : Nat → Nat) (get : Nat → Nat → Cell) : Prop :=
  ∃ (kk : Nat) (caps : Array Value) (bs : Nat → Nat) (vals : Nat → Nat → Value), x.2.2 = .top kk ∧ n = x.2.1.n ∧ v = Value.func (.func f) #[] caps ∧ caps.size = m ∧ i < m ∧
    (∀ j, j < m → Bk C G st (bs j)) ∧ (∀ j : Nat, j < m → caps[j]? = some (Value.pointer (some ⟨bs j, 0, none⟩))) ∧
    (∀ j o, j < m → j ≠ i → o < sz j → w.cell? ⟨bs j, o, none⟩ = some (vals j o) ∧ CRep C.w0 C.I (vals j o) (get j o)) ∧ w.cell? ⟨bs i, 0, none⟩ = some ((G.top kk).val n)
def Arg (C : Cx) (G : Gh) (st : St) (w : World) (L : List Ln) (v : Value) (c : Cell) : Prop :=
  (CRep C.w0 C.I v c) ∨ (∃ x ∈ L, c = .own x.1 x.2.1.n ∧ v = (hdOf G x.2.2).val x.2.1.n) ∨ (∃ x ∈ L, ∃ n, c = .pb x.1 n ∧ PbX C G st w x v n) ∨
    ∃ x ∈ L, ∃ f n i m sz get, c = .fnx f x.1 n i m sz get ∧ FnX C G st w x v f n i m sz get
theorem Arg.mono {L L' : List Ln} (h : ∀ x ∈ L, x ∈ L') {v : Value} {c : Cell} (ha : Arg C G st w L v c) : Arg C G st w L' v c := by
  rcases ha with ha | ⟨x, hx, h1, h2⟩ | ⟨x, hx, h1⟩ | ⟨x, hx, h1⟩
  · exact .inl ha
  · exact .inr (.inl ⟨x, h x hx, h1, h2⟩)
  · exact .inr (.inr (.inl ⟨x, h x hx, h1⟩))
  · exact .inr (.inr (.inr ⟨x, h x hx, h1⟩))
def ArgV (C : Cx) (G : Gh) (st : St) (w : World) (L : List Ln) (v : Value) : V → Prop
  | .one c => Arg C G st w L v c
  | .agg cs => ∃ arr : Array Value, v = .agg arr ∧ arr.size = cs.length ∧ ∀ (j : Nat) (u : Value), arr[j]? = some u → Arg C G st w L u (nth cs j)
theorem ArgV.mono {L L' : List Ln} (h : ∀ x ∈ L, x ∈ L') {v : Value} {y : V} (ha : ArgV C G st w L v y) : ArgV C G st w L' v y := by
  cases y with
  | one c => exact Arg.mono h ha
  | agg cs =>
    obtain ⟨arr, h1, h2, h3⟩ := ha
    exact ⟨arr, h1, h2, fun j u hu => (h3 j u hu).mono h⟩

theorem caughtX_spec (h : Rel C G st a w) : ∀ {bs : List Nat} {q0 : Nat} {l : List (List Cell)} {x : Option (Nat × Nat × Nat)}, caughtX st q0 bs = some (l, x) →
    l.length = bs.length ∧ (∀ q, q < bs.length → x.map (·.1) ≠ some (q0 + q) → ∃ cs, lk st.bx (bs.getD q 0) = some cs ∧ nthL l q = cs ∧ allC Cell.plain cs = true) ∧
    ∀ i k n, x = some (i, k, n) → q0 ≤ i ∧ (i - q0 < bs.length ∧ True) ∧ lk st.bx (bs.getD (i - q0) 0) = some [.own k n]
  | [], q0, l, x, hc => by
    simp only [caughtX] at hc
    cases hc
    exact ⟨rfl, fun q hq => by simp at hq, fun i k n e => by cases e⟩
  | b :: bs, q0, l, x, hc => by
    simp only [caughtX] at hc
    split at hc
    case h_2 => cases hc
    rename_i cs hcs
    split at hc
    case h_2 => cases hc
    rename_i l' x' hx
    obtain ⟨a1, a2, a3⟩ := caughtX_spec h hx
    split at hc
    · rename_i k n
      split at hc
      case h_2 => cases hc
      cases hc
      refine ⟨by simp [a1], fun q hq hne => ?_, fun i k' n' e => ?_⟩
      · cases q with
        | zero => exact absurd rfl hne
        | succ q =>
          obtain ⟨cs', b1, b2, b3⟩ := a2 q (by simpa using hq) (by simp)
          exact ⟨cs', by simpa using b1, b2, b3⟩
      · cases e
        exact ⟨Nat.le_refl _, ⟨by simp, trivial⟩, by simpa using hcs⟩
    · cases hp : allC Cell.plain cs with
      | false => rw [hp] at hc; cases hc
      | true =>
        rw [hp] at hc
        cases hc
        refine ⟨by simp [a1], fun q hq hne => ?_, fun i k' n' e => ?_⟩
        · cases q with
          | zero => exact ⟨cs, by simpa using hcs, rfl, hp⟩
          | succ q =>
            obtain ⟨cs', b1, b2, b3⟩ := a2 q (by simpa using hq) (fun e => hne (by rw [e]; congr 1; omega))
            exact ⟨cs', by simpa using b1, b2, b3⟩
        · obtain ⟨c1, c2, c3⟩ := a3 i k' n' e
          refine ⟨by omega, ⟨by simp; omega, trivial⟩, ?_⟩
          rw [show i - q0 = (i - (q0 + 1)) + 1 by omega]
          simpa using c3
theorem lendC_spec (h : Rel C G st a w) {c c' : Cell} {o : Ob} {g : List (Nat × Tgt)} {x j : Nat} {v : Value} (hl : lendC st x j c = some (c', o, g)) (hv : SRep C.w0 C.I G st.bx st.ob v c) :
    ∃ L : List Ln, o = obOf L ∧ g = tsOf L ∧ (∀ y ∈ L, Src st y.2.1 y.2.2) ∧ Arg C G st w L v c' := by
  cases c with
  | own k n =>
    simp only [lendC] at hl
    split at hl
    · rename_i r hr
      cases hl
      obtain ⟨r', h1, h2, h3⟩ := hv
      rw [hr] at h1; cases h1
      exact ⟨[(pkey x j, (r, .top k))], rfl, rfl, fun y hy => by simp only [List.mem_singleton] at hy; subst hy; exact hr, .inr (.inl ⟨_, List.mem_singleton.2 rfl, by rw [h2], by rw [h3, ← h2]; rfl⟩)⟩
    · cases hl
  | own1 k i j' n =>
    simp only [lendC] at hl
    split at hl
    · rename_i r hr
      split at hl
      · rename_i sz m g' hg
        cases hl
        obtain ⟨r', sz', g2, h1, h2, h3, h4, h5⟩ := hv
        rw [hr] at h1; cases h1
        rw [hg] at h4; cases h4
        exact ⟨[(pkey x j, (⟨false, sz, n, g'⟩, .sub k i j'))], rfl, rfl, fun y hy => by simp only [List.mem_singleton] at hy; subst hy; exact ⟨rfl, r, hr, h2, h3, hg⟩, .inr (.inl ⟨_, List.mem_singleton.2 rfl, rfl, h5⟩)⟩
      · cases hl
    · cases hl
  | fr sz n g' => exact hv.elim
  | box s o' => simp only [lendC, snapC] at hl; cases hl
  | elt k i o' => simp only [lendC, snapC] at hl; cases hl
  | elt1 k i j' i2 o' => simp only [lendC, snapC] at hl; cases hl
  | pb k n =>
    simp only [lendC] at hl
    split at hl
    · rename_i r hr
      cases hl
      obtain ⟨r', b, h1, h2, h3, h4, h5⟩ := hv
      rw [hr] at h1; cases h1
      exact ⟨[(pkey x j, (r, .top k))], rfl, rfl, fun y hy => by simp only [List.mem_singleton] at hy; subst hy; exact hr,
        .inr (.inr (.inl ⟨_, List.mem_singleton.2 rfl, n, rfl, k, b, rfl, h2.symm, h3, .inl h4, by rw [h.cellI h4]; exact h5⟩))⟩
    · cases hl
  | fnx f k n i m sz get =>
    simp only [lendC] at hl
    split at hl
    · rename_i r hr
      cases hl
      obtain ⟨r', caps, bs, vals, h1, h2, h3, h4, h5, h6, h7, h8, h9⟩ := hv
      rw [hr] at h1; cases h1
      exact ⟨[(pkey x j, (r, .top k))], rfl, rfl, fun y hy => by simp only [List.mem_singleton] at hy; subst hy; exact hr,
        .inr (.inr (.inr ⟨_, List.mem_singleton.2 rfl, f, n, i, m, sz, get, rfl, k, caps, bs, vals, rfl, h2.symm, h3, h4, h5, fun q hq => .inl (h6 q hq), h7,
          fun q p hq hne hp => by
            obtain ⟨b1, b2⟩ := h8 q p hq hne hp
            exact ⟨by rw [h.cellI (h6 q hq)]; exact b1, b2⟩, by rw [h.cellI (h6 i h5)]; exact h9⟩))⟩
    · cases hl
  | fn f bs =>
    simp only [lendC] at hl
    split at hl
    case h_2 => cases hl
    rename_i l i k n hc
    split at hl
    case h_2 => cases hl
    rename_i r hr
    cases hl
    obtain ⟨caps, h1, h2, h3⟩ := hv
    obtain ⟨c1, c2, c3⟩ := caughtX_spec h hc
    obtain ⟨d1, d2, d3⟩ := c3 i k n rfl
    rw [Nat.sub_zero] at d2 d3
    have hci := h3 i (bs.getD i 0) (by rw [List.getD_eq_getElem?_getD, List.getElem?_eq_getElem d2.1]; rfl)
    have hbx := h.ob.bxr _ _ d3
    obtain ⟨arr, ty, e1, e2, e3⟩ := hbx
    have e20 : arr.size = 1 := e2
    have he : arr[0]? = some (arr[0]'(by omega)) := Array.getElem?_eq_getElem _
    have hs := (e3 0 _ he).1
    obtain ⟨r', f1, f2, f3⟩ := hs
    rw [hr] at f1; cases f1
    refine ⟨[(pkey x j, (r, .top k))], rfl, rfl, fun y hy => by simp only [List.mem_singleton] at hy; subst hy; exact hr,
        .inr (.inr (.inr ⟨_, List.mem_singleton.2 rfl, f, n, i, bs.length, _, _, rfl, k, caps, fun q => G.bx (bs.getD q 0), fun q p => (w.cell? ⟨G.bx (bs.getD q 0), p, none⟩).getD undef, rfl, f2.symm, h1, h2, d2.1, fun q hq => ?_, fun q hq => ?_, fun q p hq hne hp => ?_, ?_⟩))⟩
    · obtain ⟨⟨cs, g1⟩, _⟩ := h3 q (bs.getD q 0) (by rw [List.getD_eq_getElem?_getD, List.getElem?_eq_getElem hq]; rfl)
      exact .inr ⟨_, cs, g1, rfl⟩
    · exact (h3 q (bs.getD q 0) (by rw [List.getD_eq_getElem?_getD, List.getElem?_eq_getElem hq]; rfl)).2
    · obtain ⟨cs, g1, g2, g3⟩ := c2 q hq (by rw [Nat.zero_add]; exact fun e => hne (Option.some.inj (show some i = some q from e)).symm)
      have hp : p < (nthL l q).length := hp
      rw [g2] at hp
      show _ ∧ CRep C.w0 C.I _ (nth (nthL l q) p)
      rw [g2]
      obtain ⟨arr2, ty2, k1, k2, k3⟩ := h.ob.bxr _ _ g1
      have hp2 : p < arr2.size := by omega
      have hc3 : w.cell? ⟨G.bx (bs.getD q 0), p, none⟩ = some (arr2[p]'hp2) := by rw [cell_of_heap k1]; simp [hp2]
      have hv3 : ((w.cell? ⟨G.bx (bs.getD q 0), p, none⟩).getD undef) = arr2[p]'hp2 := by rw [hc3]; rfl
      refine ⟨by show w.cell? ⟨G.bx (bs.getD q 0), p, none⟩ = some ((w.cell? ⟨G.bx (bs.getD q 0), p, none⟩).getD undef); rw [hc3]; rfl, ?_⟩
      show CRep C.w0 C.I ((w.cell? ⟨G.bx (bs.getD q 0), p, none⟩).getD undef) (nth cs p)
      rw [hv3]
      have := (k3 p _ (Array.getElem?_eq_getElem hp2)).1
      have hpl := allC_nth g3 (show p < cs.length by omega)
      show CRep C.w0 C.I (arr2[p]'hp2) (nth cs p)
      generalize arr2[p]'hp2 = u at this
      generalize nth cs p = c at this hpl
      cases c <;> first | exact this | cases hpl
    · rw [cell_of_heap e1]
      show arr[0]? = some ((G.top k).val n)
      rw [he, f3]
  | _ =>
    simp only [lendC, snapC] at hl
    cases hl
    exact ⟨[], rfl, rfl, fun y hy => (by cases hy), .inl hv⟩

theorem lendL_spec (h : Rel C G st a w) : ∀ {cs cs' : List Cell} {o : Ob} {g : List (Nat × Tgt)} {x j : Nat} {arr : List Value}, lendL st x j cs = some (cs', o, g) → arr.length = cs.length →
    (∀ (i : Nat) (u : Value), arr[i]? = some u → SRep C.w0 C.I G st.bx st.ob u (nth cs i)) →
    ∃ L : List Ln, o = obOf L ∧ g = tsOf L ∧ (∀ y ∈ L, Src st y.2.1 y.2.2) ∧ cs'.length = cs.length ∧ ∀ (i : Nat) (u : Value), arr[i]? = some u → Arg C G st w L u (nth cs' i)
  | [], cs', o, g, x, j, arr, hl, ha, hv => by
    simp only [lendL] at hl
    cases hl
    exact ⟨[], rfl, rfl, fun y hy => (by cases hy), rfl, fun i u hu => by simp at ha; subst ha; simp at hu⟩
  | c :: cs, cs', o, g, x, j, arr, hl, ha, hv => by
    simp only [lendL] at hl
    split at hl
    case h_2 => cases hl
    rename_i c1 o1 g1 e1
    split at hl
    case h_2 => cases hl
    rename_i l2 o2 g2 e2
    cases hl
    cases arr with
    | nil => simp at ha
    | cons v arr =>
      obtain ⟨L1, a1, a2, a3, a4⟩ := lendC_spec h e1 (hv 0 v rfl)
      obtain ⟨L2, b1, b2, b3, b4, b5⟩ := lendL_spec h (arr := arr) e2 (by simpa using ha) (fun i u hu => hv (i + 1) u (by simpa using hu))
      refine ⟨L1 ++ L2, by simp [obOf, a1, b1], by simp [tsOf, a2, b2], fun y hy => ?_, by simp [b4], fun i u hu => ?_⟩
      · rcases List.mem_append.1 hy with h | h
        · exact a3 y h
        · exact b3 y h
      · cases i with
        | zero => simp at hu; subst hu; exact a4.mono fun y hy => List.mem_append_left _ hy
        | succ i => exact (b5 i u (by simpa using hu)).mono fun y hy => List.mem_append_right _ hy

theorem lendV_spec (h : Rel C G st a w) {t : T} {y : V} {o : Ob} {g : List (Nat × Tgt)} {x : Nat} {v : Value} (hl : lendV st x t = some (y, o, g)) (hv : TRep C.w0 C.I G st.bx st.ob v t) :
    ∃ L : List Ln, o = obOf L ∧ g = tsOf L ∧ (∀ y ∈ L, Src st y.2.1 y.2.2) ∧ ArgV C G st w L v y := by
  cases t with
  | tup xs => simp only [lendV] at hl; cases hl
  | v z =>
    cases z with
    | one c =>
      simp only [lendV] at hl
      split at hl
      case h_2 => cases hl
      rename_i c1 o1 g1 e1
      cases hl
      exact lendC_spec h e1 hv
    | agg cs =>
      simp only [lendV] at hl
      split at hl
      case h_2 => cases hl
      rename_i c1 o1 g1 e1
      cases hl
      obtain ⟨arr, rfl, h2, h3⟩ := hv
      obtain ⟨L, a1, a2, a3, a4, a5⟩ := lendL_spec h (arr := arr.toList) e1 (by simpa using h2) (fun i u hu => h3 i u (by simpa using hu))
      exact ⟨L, a1, a2, a3, arr, rfl, by omega, fun j u hu => a5 j u (by simpa using hu)⟩

theorem lendVs_spec (h : Rel C G st a w) : ∀ {ts : List T} {as : List V} {o : Ob} {g : List (Nat × Tgt)} {x : Nat} {vs : List Value}, lendVs st x ts = some (as, o, g) → vs.length = ts.length →
    (∀ (i : Nat) (u : Value), vs[i]? = some u → TRep C.w0 C.I G st.bx st.ob u (nthT ts i)) →
    ∃ L : List Ln, o = obOf L ∧ g = tsOf L ∧ (∀ y ∈ L, Src st y.2.1 y.2.2) ∧ as.length = ts.length ∧ ∀ (i : Nat) (u : Value), vs[i]? = some u → ArgV C G st w L u (nthV as i)
  | [], as, o, g, x, vs, hl, ha, hv => by
    simp only [lendVs] at hl
    cases hl
    exact ⟨[], rfl, rfl, fun y hy => (by cases hy), rfl, fun i u hu => by simp at ha; subst ha; simp at hu⟩
  | t :: ts, as, o, g, x, vs, hl, ha, hv => by
    simp only [lendVs] at hl
    split at hl
    case h_2 => cases hl
    rename_i c1 o1 g1 e1
    split at hl
    case h_2 => cases hl
    rename_i l2 o2 g2 e2
    cases hl
    cases vs with
    | nil => simp at ha
    | cons v vs =>
      obtain ⟨L1, a1, a2, a3, a4⟩ := lendV_spec h e1 (hv 0 v rfl)
      obtain ⟨L2, b1, b2, b3, b4, b5⟩ := lendVs_spec h (vs := vs) e2 (by simpa using ha) (fun i u hu => hv (i + 1) u (by simpa using hu))
      refine ⟨L1 ++ L2, by simp [obOf, a1, b1], by simp [tsOf, a2, b2], fun y hy => ?_, by simp [b4], fun i u hu => ?_⟩
      · rcases List.mem_append.1 hy with h | h
        · exact a3 y h
        · exact b3 y h
      · cases i with
        | zero => simp at hu; subst hu; exact a4.mono fun y hy => List.mem_append_left _ hy
        | succ i => exact (b5 i u (by simpa using hu)).mono fun y hy => List.mem_append_right _ hy

/-! ### each row is lent once -/
theorem onceKey_inj : ∀ {L : List Ln}, onceKey (tsOf L) = true → ∀ x ∈ L, ∀ y ∈ L, x.2.2.key = y.2.2.key → x = y
  | [], _, x, hx, _, _, _ => by cases hx
  | z :: L, h, x, hx, y, hy, e => by
    simp only [tsOf, List.map_cons, onceKey, Bool.and_eq_true, Bool.not_eq_true', List.any_eq_false] at h
    have hz : ∀ u ∈ L, u.2.2.key ≠ z.2.2.key := by
      intro u hu e
      have := h.1 (u.1, u.2.2) (List.mem_map.2 ⟨u, hu, rfl⟩)
      rw [e] at this
      simp at this
    rcases List.mem_cons.1 hx with hx1 | hx1
    · rcases List.mem_cons.1 hy with hy1 | hy1
      · rw [hx1, hy1]
      · rw [hx1] at e; exact absurd e.symm (hz y hy1)
    · rcases List.mem_cons.1 hy with hy1 | hy1
      · rw [hy1] at e; exact absurd e (hz x hx1)
      · exact onceKey_inj h.2 x hx1 y hy1 e

theorem lk_obOf {L : List Ln} (h : onceL (obOf L) = true) {p : Nat} {r : Row} : lk (obOf L) p = some r ↔ ∃ t, (p, (r, t)) ∈ L := by
  induction L with
  | nil => simp [obOf, lk]
  | cons x L ih =>
    obtain ⟨p0, r0, t0⟩ := x
    simp only [obOf, List.map_cons, onceL, Bool.and_eq_true] at h
    have hf := freshK_none h.1
    have ih := ih h.2
    show lk ((p0, r0) :: obOf L) p = some r ↔ _
    rw [lk_cons]
    by_cases e : p0 = p
    · subst e
      rw [if_pos rfl]
      constructor
      · intro e; cases e; exact ⟨t0, List.mem_cons_self⟩
      · rintro ⟨t, hm⟩
        rcases List.mem_cons.1 hm with e | hm
        · cases e; rfl
        · have := ih.2 ⟨t, hm⟩
          have hf : lk (obOf L) p0 = none := hf
          rw [hf] at this; cases this
    · rw [if_neg e, ih]
      constructor
      · rintro ⟨t, hm⟩; exact ⟨t, List.mem_cons_of_mem _ hm⟩
      · rintro ⟨t, hm⟩
        rcases List.mem_cons.1 hm with e2 | hm
        · cases e2; exact absurd rfl e
        · exact ⟨t, hm⟩
theorem once_fst {L : List Ln} (h : onceL (obOf L) = true) {x y : Ln} (hx : x ∈ L) (hy : y ∈ L) (e : x.1 = y.1) : x = y := by
  induction L with
  | nil => cases hx
  | cons z L ih =>
    obtain ⟨p0, r0, t0⟩ := z
    simp only [obOf, List.map_cons, onceL, Bool.and_eq_true] at h
    have hf : lk (obOf L) p0 = none := freshK_none h.1
    have no : ∀ u ∈ L, u.1 ≠ p0 := by
      rintro ⟨p, r, t⟩ hu e
      have e : p = p0 := e
      subst e
      rw [(lk_obOf h.2).2 ⟨t, hu⟩] at hf; cases hf
    rcases List.mem_cons.1 hx with rfl | hx
    · rcases List.mem_cons.1 hy with rfl | hy
      · rfl
      · exact absurd e.symm (no y hy)
    · rcases List.mem_cons.1 hy with rfl | hy
      · exact absurd e (no x hx)
      · exact ih h.2 hx hy

theorem Shape.lk : ∀ {L : List Ln} {obo : Ob}, Shape (obOf L) obo → onceL (obOf L) = true → ∀ x ∈ L, ∃ r', lk obo x.1 = some r' ∧ r'.deep = x.2.1.deep ∧ r'.sz = x.2.1.sz ∧ r'.n = x.2.1.n
  | [], _, _, _, x, hx => by cases hx
  | z :: L, [], h, _, _, _ => h.elim
  | z :: L, (k', r') :: l, h, ho, x, hx => by
    obtain ⟨h1, h2, h3, h4, h5⟩ := h
    simp only [obOf, List.map_cons, onceL, Bool.and_eq_true] at ho
    have hf : Ab.lk (obOf L) z.1 = none := freshK_none ho.1
    rw [lk_cons]
    rcases List.mem_cons.1 hx with rfl | hx
    · rw [if_pos h1.symm]
      exact ⟨r', rfl, h2, h3, h4⟩
    · have : z.1 ≠ x.1 := by
        intro e
        rw [e, (lk_obOf ho.2).2 ⟨x.2.2, hx⟩] at hf; cases hf
      have h1 : z.1 = k' := h1
      rw [if_neg (by rw [← h1]; exact this)]
      exact Shape.lk h5 ho.2 x hx
theorem Shape.keys : ∀ {L : List Ln} {obo : Ob}, Shape (obOf L) obo → ∀ p r, Ab.lk obo p = some r → ∃ x ∈ L, x.1 = p
  | [], [], _, p, r, h => by cases h
  | [], _ :: _, h, _, _, _ => h.elim
  | z :: L, [], h, _, _, _ => h.elim
  | z :: L, (k', r') :: l, h, p, r, hl => by
    obtain ⟨h1, h2, h3, h4, h5⟩ := h
    rw [lk_cons] at hl
    by_cases e : k' = p
    · exact ⟨z, List.mem_cons_self, by rw [← e]; exact h1⟩
    · rw [if_neg e] at hl
      obtain ⟨x, hx, hx2⟩ := Shape.keys h5 p r hl
      exact ⟨x, List.mem_cons_of_mem _ hx, hx2⟩

/-! ### what stands after the call -/
def isDeeps : List Nat → Cell → Bool
  | [], _ => false
  | k :: l, c => c.isDeep k || isDeeps l c
theorem isDeeps_u : ∀ ks : List Nat, isDeeps ks .u = false
  | [] => rfl
  | _ :: l => isDeeps_u l
theorem isDeeps_no {ks : List Nat} {c : Cell} (h : isDeeps ks c = false) {k : Nat} (hk : k ∈ ks) : c.isDeep k = false := by
  induction ks with
  | nil => cases hk
  | cons k' l ih =>
    simp only [isDeeps, Bool.or_eq_false_iff] at h
    rcases List.mem_cons.1 hk with rfl | hk
    · exact h.1
    · exact ih h.2 hk
def keysOf (L : List Ln) : List Nat := L.map fun x => x.2.2.key
/-- a row after the call -/
def After (st : St) (obo : Ob) (x : Ln) (r : Row) : Prop :=
  match x.2.2 with
  | .top _ => lk obo x.1 = some r
  | .sub k i j => ∃ q p, lk st.ob k = some q ∧ lk obo x.1 = some p ∧ r = { q with get := setCell q.get i j (.fr p.sz p.n p.get) }

theorem back_spec {obo : Ob} : ∀ {L : List Ln} {st st' : St}, back obo (tsOf L) st = some st' → onceKey (tsOf L) = true → (∀ x ∈ L, ∃ q, lk st.ob x.2.2.key = some q) →
    st'.tm = killTs (isDeeps (keysOf L)) st.tm ∧ st'.bx = killB (isDeeps (keysOf L)) st.bx ∧
    (∀ k, (∀ x ∈ L, x.2.2.key ≠ k) → lk st'.ob k = lk st.ob k) ∧ ∀ x ∈ L, ∃ r, lk st'.ob x.2.2.key = some r ∧ After st obo x r
  | [], st, st', h, _, _ => by
    simp only [tsOf, List.map_nil, back] at h
    cases h
    exact ⟨(killTs_no _).symm, (killB_no _).symm, fun _ _ => rfl, fun x hx => by cases hx⟩
  | (p, r0, t) :: L, st, st', h, ho, hex => by
    simp only [tsOf, List.map_cons, back] at h
    split at h
    case h_2 => cases h
    rename_i r hr
    have ho' := ho
    simp only [tsOf, List.map_cons, onceKey, Bool.and_eq_true, Bool.not_eq_true', List.any_eq_false] at ho
    have hz : ∀ u ∈ L, u.2.2.key ≠ t.key := by
      intro u hu e
      have := ho.1 (u.1, u.2.2) (List.mem_map.2 ⟨u, hu, rfl⟩)
      rw [e] at this
      simp at this
    obtain ⟨q0, hq0⟩ := hex _ List.mem_cons_self
    have hq0 : lk st.ob t.key = some q0 := hq0
    have hob : ∀ k, lk (backOb st.ob r t) k = if k = t.key then lk (backOb st.ob r t) k else lk st.ob k := by
      intro k
      by_cases e : k = t.key
      · rw [if_pos e]
      · rw [if_neg e]
        cases t with
        | top k1 =>
          have e : ¬ k1 = k := fun e' => e e'.symm
          simp only [backOb, lk_up]; rw [if_neg e]
        | sub k1 i j =>
          have hq0 : lk st.ob k1 = some q0 := hq0
          have e : ¬ k1 = k := fun e' => e e'.symm
          simp only [backOb, hq0, lk_up]; rw [if_neg e]
    have hex2 : ∀ x ∈ L, ∃ q, lk (({ st with ob := backOb st.ob r t } : St).kill (Cell.isDeep t.key)).ob x.2.2.key = some q := by
      intro x hx
      obtain ⟨q, hq⟩ := hex x (List.mem_cons_of_mem _ hx)
      refine ⟨q, ?_⟩
      show lk (backOb st.ob r t) _ = _
      rw [hob, if_neg (hz x hx)]; exact hq
    obtain ⟨a1, a2, a3, a4⟩ := back_spec (L := L) h ho.2 hex2
    have hself : ∃ r', lk (backOb st.ob r t) t.key = some r' ∧ After st obo (p, r0, t) r' := by
      cases t with
      | top k1 =>
        have hq0 : lk st.ob k1 = some q0 := hq0
        refine ⟨r, by simp only [backOb, Tgt.key, lk_up, hq0]; simp, hr⟩
      | sub k1 i j =>
        have hq0 : lk st.ob k1 = some q0 := hq0
        refine ⟨{ q0 with get := setCell q0.get i j (.fr r.sz r.n r.get) }, by simp only [backOb, Tgt.key, hq0, lk_up]; simp, q0, r, hq0, hr, rfl⟩
    refine ⟨?_, ?_, fun k hk => ?_, fun x hx => ?_⟩
    · rw [a1]
      show killTs _ (killTs _ _) = _
      rw [killTs_comp]; rfl
    · rw [a2]
      show killB _ (killB _ _) = _
      rw [killB_comp]; rfl
    · rw [a3 k (fun x hx => hk x (List.mem_cons_of_mem _ hx))]
      show lk (backOb st.ob r t) _ = _
      rw [hob, if_neg (Ne.symm (hk _ List.mem_cons_self))]
    · rcases List.mem_cons.1 hx with rfl | hx
      · obtain ⟨r', h1, h2⟩ := hself
        refine ⟨r', ?_, h2⟩
        rw [a3 _ (fun x hx => hz x hx)]
        exact h1
      · obtain ⟨r', h1, h2⟩ := a4 x hx
        refine ⟨r', h1, ?_⟩
        obtain ⟨px, rx, tx⟩ := x
        cases tx with
        | top k1 => exact h2
        | sub k1 i j =>
          obtain ⟨q, p1, b1, b2, b3⟩ := h2
          refine ⟨q, p1, ?_, b2, b3⟩
          have b1 : lk (backOb st.ob r t) k1 = some q := b1
          have hne : ¬ k1 = t.key := hz _ hx
          rw [hob, if_neg hne] at b1
          exact b1

/-! ### the memory that is lent -/
theorem lk_tsOf : ∀ {L : List Ln}, onceL (obOf L) = true → ∀ x ∈ L, lk (tsOf L) x.1 = some x.2.2
  | [], _, x, hx => by cases hx
  | z :: L, h, x, hx => by
    have h' := h
    simp only [obOf, List.map_cons, onceL, Bool.and_eq_true] at h
    show lk ((z.1, z.2.2) :: tsOf L) x.1 = _
    rw [lk_cons]
    by_cases e : z.1 = x.1
    · rw [if_pos e, once_fst h' List.mem_cons_self hx e]
    · rw [if_neg e]
      rcases List.mem_cons.1 hx with hx1 | hx1
      · rw [hx1] at e; exact absurd rfl e
      · exact lk_tsOf h.2 x hx1
def posOf : Tgt → Pos
  | .top k => .top k
  | .sub k i j => .sub k i j
def IsL (L : List Ln) (q : Pos) : Prop := (∃ x ∈ L, q = posOf x.2.2) ∨ ∃ x ∈ L, ∃ k i j, x.2.2 = .top k ∧ q = .sub k i j
theorem IsL.key {L : List Ln} {q : Pos} (h : IsL L q) : ∃ x ∈ L, q.key = some x.2.2.key := by
  rcases h with ⟨x, hx, rfl⟩ | ⟨x, hx, k, i, j, e, rfl⟩
  · refine ⟨x, hx, ?_⟩
    cases x.2.2 <;> rfl
  · refine ⟨x, hx, ?_⟩
    rw [e]; rfl
def lentG (G : Gh) (L : List Ln) : Gh where
  bx := G.bx
  top := fun p => match lk (tsOf L) p with
    | some t => hdOf G t
    | none => ⟨none, 0, none, 0⟩
  sub := fun p i j => match lk (tsOf L) p with
    | some (.top k) => G.sub k i j
    | _ => ⟨none, 0, none, 0⟩
def topOf : List Ln → Nat → Option Nat
  | [], _ => none
  | (p, _, .top k') :: l, k => if k' = k then some p else topOf l k
  | (_, _, .sub ..) :: l, k => topOf l k
theorem topOf_mem : ∀ {L : List Ln} {k p : Nat}, topOf L k = some p → ∃ r, (p, (r, .top k)) ∈ L
  | (p0, r0, .top k0) :: L, k, p, h => by
    simp only [topOf] at h
    split at h
    · rename_i e
      cases h; subst e; exact ⟨r0, List.mem_cons_self⟩
    · obtain ⟨r, hr⟩ := topOf_mem h; exact ⟨r, List.mem_cons_of_mem _ hr⟩
  | (p0, r0, .sub ..) :: L, k, p, h => by
    simp only [topOf] at h
    obtain ⟨r, hr⟩ := topOf_mem h; exact ⟨r, List.mem_cons_of_mem _ hr⟩
theorem topOf_none : ∀ {L : List Ln} {k : Nat}, topOf L k = none → ∀ p r, (p, (r, .top k)) ∉ L
  | [], k, _, p, r, h => by cases h
  | (p0, r0, .top k0) :: L, k, h, p, r, hm => by
    simp only [topOf] at h
    split at h
    · cases h
    · rename_i e
      rcases List.mem_cons.1 hm with h1 | h1
      · cases h1; exact e rfl
      · exact topOf_none h p r h1
  | (p0, r0, .sub ..) :: L, k, h, p, r, hm => by
    simp only [topOf] at h
    rcases List.mem_cons.1 hm with h1 | h1
    · cases h1
    · exact topOf_none h p r h1
theorem topOf_of {L : List Ln} (ho : onceKey (tsOf L) = true) {p k : Nat} {r : Row} (hm : (p, (r, .top k)) ∈ L) : topOf L k = some p := by
  cases e : topOf L k with
  | none => exact absurd hm (topOf_none e p r)
  | some p' =>
    obtain ⟨r', hr'⟩ := topOf_mem e
    have := onceKey_inj ho _ hr' _ hm rfl
    cases this; rfl

theorem Src.ex {L : List Ln} (hs : ∀ x ∈ L, Src st x.2.1 x.2.2) : ∀ x ∈ L, ∃ q, lk st.ob x.2.2.key = some q := by
  rintro ⟨p, r, t⟩ hx
  have := hs _ hx
  cases t with
  | top k => exact ⟨r, this⟩
  | sub k i j => obtain ⟨_, q, hq, _⟩ := this; exact ⟨q, hq⟩

/-- the rows that are lent, as the callee finds them -/
theorem lent_pos (h : Rel C G st a w) {L : List Ln} (hs : ∀ x ∈ L, Src st x.2.1 x.2.2) (hL : onceL (obOf L) = true) {p : Pos} (hp : Live [] (obOf L) p) :
    ∃ x ∈ L, (p = .top x.1 ∧ Live st.bx st.ob (posOf x.2.2) ∧ (lentG G L).blk p = G.blk (posOf x.2.2)) ∨
      ∃ k i j, x.2.2 = .top k ∧ p = .sub x.1 i j ∧ Live st.bx st.ob (.sub k i j) ∧ (lentG G L).blk p = G.blk (.sub k i j) := by
  cases p with
  | bx s => obtain ⟨cs, hcs⟩ := hp; cases hcs
  | top k =>
    obtain ⟨r, hr⟩ := hp
    obtain ⟨t, ht⟩ := (lk_obOf hL).1 hr
    refine ⟨_, ht, .inl ⟨rfl, ?_, ?_⟩⟩
    · have := hs _ ht
      cases t with
      | top k1 => exact ⟨r, this⟩
      | sub k1 i j => obtain ⟨_, q, h1, h2, h3, h4⟩ := this; exact ⟨q, _, _, _, h1, h2, h3, h4⟩
    · have e : lk (tsOf L) k = some t := lk_tsOf hL _ ht
      simp only [Gh.blk, lentG, e]
      cases t <;> rfl
  | sub k i j =>
    obtain ⟨r, sz, n, g, hr, hi, hj, hg⟩ := hp
    obtain ⟨t, ht⟩ := (lk_obOf hL).1 hr
    have hsx := hs _ ht
    have e : lk (tsOf L) k = some t := lk_tsOf hL _ ht
    cases t with
    | top k1 =>
      refine ⟨_, ht, .inr ⟨k1, i, j, rfl, rfl, ⟨r, sz, n, g, hsx, hi, hj, hg⟩, ?_⟩⟩
      simp only [Gh.blk, lentG, e]
    | sub k1 i1 j1 =>
      obtain ⟨_, q, h1, h2, h3, h4⟩ := hsx
      have hpl := h.ob.sub h1 h2 h3 h4
      obtain ⟨b, hb⟩ := hpl.2.base (show 0 < r.n from Nat.lt_of_le_of_lt (Nat.zero_le _) hi)
      obtain ⟨cs, ty, _, _, hc⟩ := hpl.2.2.2 b hb
      obtain ⟨v, _, _, hp⟩ := hc i j hi hj
      have hg : r.get i j = .fr sz n g := hg
      rw [hg] at hp; cases hp

theorem lent_objs (h : Rel C G st a w) {L : List Ln} (hs : ∀ x ∈ L, Src st x.2.1 x.2.2) (hL : onceL (obOf L) = true) (hK : onceKey (tsOf L) = true) :
    Objs w w C.I (fun _ => True) (lentG G L) [] (obOf L) := by
  have toW : ∀ {v : Value} {c : Cell}, CRep C.w0 C.I v c → CRep w C.I v c := fun hc => toI h (fun _ hb => hb) hc
  refine ⟨fun s cs hs => (by cases hs), fun k r hr => ?_, fun p q b hp hq hbp hbq => ?_, fun p b hp hb => ?_⟩
  · obtain ⟨t, ht⟩ := (lk_obOf hL).1 hr
    have e : lk (tsOf L) k = some t := lk_tsOf hL _ ht
    have hsx := hs _ ht
    cases t with
    | top k1 =>
      have e1 : (lentG G L).top k = G.top k1 := by simp only [lentG, e]; rfl
      have e2 : ∀ i j, (lentG G L).sub k i j = G.sub k1 i j := by intro i j; simp only [lentG, e]
      rw [e1]
      refine (h.ob.obr k1 r hsx).imp (fun _ _ => rfl) (fun i j v hi hj hc => ?_)
      cases eg : r.get i j with
      | fr sz n g =>
        rw [eg] at hc
        obtain ⟨c1, c2, c3⟩ := hc
        refine ⟨c1, by rw [e2]; exact c2, ?_⟩
        rw [e2]
        exact c3.imp (fun _ _ => rfl) (fun _ _ _ _ _ hc => ⟨toW hc.1, hc.2⟩)
      | _ => rw [eg] at hc; exact ⟨toW hc.1, hc.2⟩
    | sub k1 i1 j1 =>
      obtain ⟨hd, q, h1, h2, h3, h4⟩ := hsx
      have e1 : (lentG G L).top k = G.sub k1 i1 j1 := by simp only [lentG, e]; rfl
      rw [e1]
      refine (h.ob.sub h1 h2 h3 h4).2.imp (fun _ _ => rfl) (fun i j v hi hj hc => ?_)
      obtain ⟨c1, c2⟩ := hc
      cases eg : r.get i j with
      | fr sz n g =>
        have eg : r.get i j = .fr sz n g := eg
        rw [eg] at c2; cases c2
      | _ =>
        have c1 := c1; have c2 := c2
        simp only at c1 c2
        rw [eg] at c1 c2
        exact ⟨toW c1, c2⟩
  · obtain ⟨x, hx, hx2⟩ := lent_pos h hs hL hp
    obtain ⟨y, hy, hy2⟩ := lent_pos h hs hL hq
    rcases hx2 with ⟨rfl, l1, b1⟩ | ⟨k1, i1, j1, t1, rfl, l1, b1⟩
    · rcases hy2 with ⟨rfl, l2, b2⟩ | ⟨k2, i2, j2, t2, rfl, l2, b2⟩
      · have e := h.ob.inj _ _ b l1 l2 (b1 ▸ hbp) (b2 ▸ hbq)
        have : x.2.2.key = y.2.2.key := by
          cases hh : x.2.2 <;> cases hh2 : y.2.2 <;> rw [hh, hh2] at e <;> cases e <;> rfl
        rw [onceKey_inj hK x hx y hy this]
      · have e := h.ob.inj _ _ b l1 l2 (b1 ▸ hbp) (b2 ▸ hbq)
        have : x.2.2.key = y.2.2.key := by
          cases hh : x.2.2 <;> rw [hh] at e <;> cases e
          rw [t2]; rfl
        have e3 := onceKey_inj hK x hx y hy this
        rw [e3, t2] at e; cases e
    · rcases hy2 with ⟨rfl, l2, b2⟩ | ⟨k2, i2, j2, t2, rfl, l2, b2⟩
      · have e := h.ob.inj _ _ b l1 l2 (b1 ▸ hbp) (b2 ▸ hbq)
        have : x.2.2.key = y.2.2.key := by
          cases hh : y.2.2 <;> rw [hh] at e <;> cases e
          rw [t1]; rfl
        have e3 := onceKey_inj hK x hx y hy this
        rw [← e3, t1] at e; cases e
      · have e := h.ob.inj _ _ b l1 l2 (b1 ▸ hbp) (b2 ▸ hbq)
        cases e
        have : x.2.2.key = y.2.2.key := by rw [t1, t2]
        rw [onceKey_inj hK x hx y hy this]
  · obtain ⟨x, hx, hx2⟩ := lent_pos h hs hL hp
    rcases hx2 with ⟨rfl, l1, b1⟩ | ⟨k1, i1, j1, t1, rfl, l1, b1⟩
    · exact ⟨trivial, (h.ob.okb _ b l1 (b1 ▸ hb)).2⟩
    · exact ⟨trivial, (h.ob.okb _ b l1 (b1 ▸ hb)).2⟩

theorem lent_src (h : Rel C G st a w) {L : List Ln} (hs : ∀ x ∈ L, Src st x.2.1 x.2.2) (hL : onceL (obOf L) = true) {b : Nat} (hb : lent (lentG G L) (obOf L) b) :
    ∃ q, IsL L q ∧ Live st.bx st.ob q ∧ G.blk q = some b := by
  obtain ⟨p, hp, hbp⟩ := hb
  obtain ⟨x, hx, hx2⟩ := lent_pos h hs hL hp
  rcases hx2 with ⟨rfl, l1, b1⟩ | ⟨k1, i1, j1, t1, rfl, l1, b1⟩
  · exact ⟨_, .inl ⟨x, hx, rfl⟩, l1, b1 ▸ hbp⟩
  · exact ⟨_, .inr ⟨x, hx, k1, i1, j1, t1, rfl⟩, l1, b1 ▸ hbp⟩

theorem lk_in {α : Type} {k : Nat} {x : α} : ∀ {l : List (Nat × α)}, lk l k = some x → (k, x) ∈ l
  | [], h => by cases h
  | (k', y) :: l, h => by
    rw [lk_cons] at h
    split at h
    · rename_i e; cases h; subst e; exact List.mem_cons_self
    · exact List.mem_cons_of_mem _ (lk_in h)
theorem length_instLR (ts : List (Nat × Tgt)) (b : Nat) : ∀ l : List Cell, (instLR ts b l).length = l.length
  | [] => rfl
  | _ :: l => congrArg (· + 1) (length_instLR ts b l)
theorem nth_instLR (ts : List (Nat × Tgt)) (b : Nat) : ∀ (l : List Cell) (j : Nat), nth (instLR ts b l) j = instCR ts b (nth l j)
  | [], _ => rfl
  | _ :: _, 0 => rfl
  | _ :: l, j + 1 => nth_instLR ts b l j
theorem length_instVsR (ts : List (Nat × Tgt)) (b : Nat) : ∀ l : List V, (instVsR ts b l).length = l.length
  | [] => rfl
  | _ :: l => congrArg (· + 1) (length_instVsR ts b l)
theorem nthV_instVsR (ts : List (Nat × Tgt)) (b : Nat) : ∀ (l : List V) (j : Nat), nthV (instVsR ts b l) j = instVR ts b (nthV l j)
  | [], _ => rfl
  | _ :: _, 0 => rfl
  | _ :: l, j + 1 => nthV_instVsR ts b l j

/-- what was lent comes back; what the callee made becomes the frame's own -/
theorem Rel.back (h : Rel C G st a w) {L : List Ln} (hs : ∀ x ∈ L, Src st x.2.1 x.2.2) (hL : onceL (obOf L) = true) (hK : onceKey (tsOf L) = true) {w' : World} {G' : Gh} {obr obo : Ob} {b0 : Nat} {v : Value} {r : T} {st' : St}
    (hk : Keep w w' (lent (lentG G L) (obOf L))) (ho : Objs w' w C.I (fun b => w.heap.size ≤ b ∨ lent (lentG G L) (obOf L) b) G' [] (obr ++ obo)) (hr : TRep w C.I G' [] (obr ++ obo) v r)
    (htop : ∀ k q, lk obo k = some q → G'.top k = (lentG G L).top k) (hsh : Shape (obOf L) obo) (hres : (!(r.any fun c => !c.resR (tsOf L) obr)) = true) (hfr : freshL obr obo = true)
    (hb : Ab.back obo (tsOf L) st = some st') (hnew : newL st.ob (shift b0 obr) = true) :
    ∃ G2, Rel C G2 (st'.add (shift b0 obr) []) a w' ∧ TRep C.w0 C.I G2 (st'.add (shift b0 obr) []).bx (st'.add (shift b0 obr) []).ob v (instTR (tsOf L) b0 r) := by
  simp only [newL, Bool.and_eq_true] at hnew
  obtain ⟨a1, a2, a3, a4⟩ := back_spec hb hK (Src.ex hs)
  have ofW : ∀ {v : Value} {c : Cell}, CRep w C.I v c → CRep C.w0 C.I v c := fun hc => hc.mono (fun _ hb => hb) (fun b hb => (h.heapI hb).symm)
  have hfo : ∀ k q, lk obo k = some q → lk (obr ++ obo) k = some q := by
    intro k q hq
    rw [lk_append, freshL_none hfr hq]; simpa using hq
  have hsrc : ∀ b, lent (lentG G L) (obOf L) b → ∃ q, IsL L q ∧ Live st.bx st.ob q ∧ G.blk q = some b := fun b hb => lent_src h hs hL hb
  have hold : ∀ q b, Live st.bx st.ob q → ¬ IsL L q → G.blk q = some b → ¬ lent (lentG G L) (obOf L) b := by
    intro q b lq hq hbq hl
    obtain ⟨q2, i2, l2, b2⟩ := hsrc b hl
    have := h.ob.inj q q2 b lq l2 hbq b2
    exact hq (this ▸ i2)
  have hheap : ∀ q b, Live st.bx st.ob q → ¬ IsL L q → G.blk q = some b → w'.heap[b]? = w.heap[b]? := by
    intro q b lq hq hbq
    exact hk.block b (h.ob.lt lq hbq) (hold q b lq hq hbq)
  have hfresh : ∀ k q, lk (shift b0 obr) k = some q → lk st.ob k = none := fun k q hq => freshL_none hnew.1 hq
  let G2 : Gh := { bx := G.bx, top := fun k => (match lk (shift b0 obr) k with | some _ => G'.top (k - b0) | none => G.top k),
                   sub := fun k => (match lk (shift b0 obr) k with | some _ => G'.sub (k - b0) | none => (match topOf L k with | some p => G'.sub p | none => G.sub k)) }
  have hin : ∀ x ∈ L, ∃ q, lk st.ob x.2.2.key = some q := Src.ex hs
  have hnsh : ∀ k q, lk st.ob k = some q → lk (shift b0 obr) k = none := by
    intro k q hq
    cases e : lk (shift b0 obr) k with
    | none => rfl
    | some q' => rw [hfresh k q' e] at hq; cases hq
  -- the rows that stand
  have hrow : ∀ k q, lk st'.ob k = some q → ∃ q0, lk st.ob k = some q0 ∧ q.n = q0.n ∧ q.sz = q0.sz ∧ q.deep = q0.deep := by
    intro k q hq
    by_cases e : ∃ x ∈ L, x.2.2.key = k
    · obtain ⟨x, hx, rfl⟩ := e
      obtain ⟨r1, h1, h2⟩ := a4 x hx
      rw [hq] at h1; cases h1
      obtain ⟨r2, c1, c2, c3, c4⟩ := hsh.lk hL x hx
      have hsx := hs x hx
      obtain ⟨p, rx, t⟩ := x
      cases t with
      | top k1 =>
        have h2 : lk obo p = some q := h2
        rw [h2] at c1; cases c1
        exact ⟨rx, hsx, c4, c3, c2⟩
      | sub k1 i j =>
        obtain ⟨q1, p1, d1, d2, rfl⟩ := h2
        exact ⟨q1, d1, rfl, rfl, rfl⟩
    · rw [a3 k (fun x hx he => e ⟨x, hx, he⟩)] at hq
      exact ⟨q, hq, rfl, rfl, rfl⟩
  have hlk : ∀ k q, lk (shift b0 obr ++ st'.ob) k = some q → (∃ k0, k = b0 + k0 ∧ lk obr k0 = some q ∧ G2.top k = G'.top k0 ∧ G2.sub k = G'.sub k0) ∨
      (lk (shift b0 obr) k = none ∧ lk st'.ob k = some q ∧ G2.top k = G.top k) := by
    intro k q hq
    rw [lk_append] at hq
    cases e : lk (shift b0 obr) k with
    | some q' =>
      rw [e] at hq
      have hq : some q' = some q := hq
      cases hq
      obtain ⟨k0, rfl, hk0⟩ := lk_shift_some e
      exact .inl ⟨k0, rfl, hk0, by simp [G2, e], by simp [G2, e]⟩
    | none =>
      rw [e] at hq
      exact .inr ⟨rfl, by simpa using hq, by simp [G2, e]⟩
  have hexN : ∀ k q0, lk st.ob k = some q0 → ∃ q, lk (shift b0 obr ++ st'.ob) k = some q ∧ lk st'.ob k = some q ∧ q.n = q0.n ∧ q.sz = q0.sz ∧ G2.top k = G.top k := by
    intro k q0 hq0
    have e := hnsh k q0 hq0
    have : ∃ q, lk st'.ob k = some q := by
      by_cases e : ∃ x ∈ L, x.2.2.key = k
      · obtain ⟨x, hx, rfl⟩ := e
        obtain ⟨r1, h1, _⟩ := a4 x hx
        exact ⟨r1, h1⟩
      · exact ⟨q0, by rw [a3 k (fun x hx he => e ⟨x, hx, he⟩)]; exact hq0⟩
    obtain ⟨q, hq⟩ := this
    obtain ⟨q1, c1, c2, c3, _⟩ := hrow k q hq
    rw [hq0] at c1; cases c1
    exact ⟨q, by rw [lk_append, e]; simpa using hq, hq, c2, c3, by simp [G2, e]⟩
  -- a cell that is not struck reads as it did
  have hext : ∀ v c, SRep C.w0 C.I G st.bx st.ob v c → SRep C.w0 C.I G2 (st'.add (shift b0 obr) []).bx (st'.add (shift b0 obr) []).ob v (killC (isDeeps (keysOf L)) c) := by
    intro v c hv
    refine hv.toKill (fun s cs hs => ⟨⟨killL (isDeeps (keysOf L)) cs, ?_⟩, rfl⟩) (fun k q0 hp hkk hq0 => ?_)
    · show lk ([] ++ st'.bx) s = _
      rw [List.nil_append, a2, lk_killB, hs]; rfl
    · obtain ⟨q, c1, c2, c3, c4, c5⟩ := hexN k q0 hq0
      refine ⟨q, c1, c3, c4, c5, fun hd i j sz n g hi hj hg => ?_⟩
      have hnk : ∀ x ∈ L, x.2.2.key ≠ k := by
        intro x hx e
        have := isDeeps_no hp (k := k) (List.mem_map.2 ⟨x, hx, e⟩)
        rw [this] at hd; cases hd
      rw [a3 k hnk, hq0] at c2; cases c2
      refine ⟨hg, ?_⟩
      have e := hnsh k q0 hq0
      have et : topOf L k = none := by
        cases et : topOf L k with
        | none => rfl
        | some p => obtain ⟨r1, hr1⟩ := topOf_mem et; exact absurd rfl (hnk _ hr1)
      simp [G2, e, et]
  -- where what stands now lies
  let nm : Pos → Pos := fun p0 => match p0 with
    | .bx s => .bx s
    | .top k0 => (match lk obr k0 with | some _ => .top (b0 + k0) | none => (match lk (tsOf L) k0 with | some t => posOf t | none => .top k0))
    | .sub k0 i j => (match lk obr k0 with | some _ => .sub (b0 + k0) i j | none => (match lk (tsOf L) k0 with | some (.top k) => .sub k i j | _ => .sub k0 i j))
  have hobr : ∀ k q, lk obr k = some q → lk (obr ++ obo) k = some q := by
    intro k q hq; rw [lk_append, hq]; rfl
  have cls : ∀ p, Live (st'.add (shift b0 obr) []).bx (st'.add (shift b0 obr) []).ob p →
      (∃ p0, Live [] (obr ++ obo) p0 ∧ (∀ x, G2.blk p = some x → G'.blk p0 = some x) ∧ p = nm p0) ∨ (Live st.bx st.ob p ∧ ¬ IsL L p ∧ G2.blk p = G.blk p) := by
    intro p hp
    cases p with
    | bx s =>
      right
      obtain ⟨cs, hcs⟩ := hp
      have hcs : lk ([] ++ st'.bx) s = some cs := hcs
      rw [List.nil_append, a2, lk_killB] at hcs
      obtain ⟨cs', h1, _⟩ := Option.map_eq_some_iff.1 hcs
      refine ⟨⟨cs', h1⟩, fun hl => ?_, rfl⟩
      obtain ⟨x, _, hx⟩ := hl.key
      cases hx
    | top k =>
      obtain ⟨q, hq⟩ := hp
      rcases hlk k q hq with ⟨k0, rfl, h1, h2, h3⟩ | ⟨h1, h2, h3⟩
      · refine .inl ⟨.top k0, ⟨q, hobr _ _ h1⟩, fun x hx => by simpa [Gh.blk, h2] using hx, ?_⟩
        simp only [nm, h1]
      · by_cases e : ∃ x ∈ L, x.2.2 = .top k
        · obtain ⟨x, hx, ex⟩ := e
          obtain ⟨r1, c1, c2⟩ := a4 x hx
          obtain ⟨p, rx, t⟩ := x
          have ex : t = .top k := ex
          subst ex
          have c1 : lk st'.ob k = some r1 := c1
          rw [h2] at c1; cases c1
          have c2 : lk obo p = some q := c2
          have et : lk (tsOf L) p = some (.top k) := lk_tsOf hL _ hx
          refine .inl ⟨.top p, ⟨q, hfo _ _ c2⟩, fun x hxx => ?_, ?_⟩
          · simp only [Gh.blk] at hxx ⊢
            rw [htop p q c2]
            have : (lentG G L).top p = G.top k := by simp only [lentG, et]; rfl
            rw [this, ← h3]; exact hxx
          · simp only [nm, freshL_none hfr c2, et]; rfl
        · right
          obtain ⟨q0, d1, _⟩ := hrow k q h2
          refine ⟨⟨q0, d1⟩, fun hl => ?_, by simp only [Gh.blk, h3]⟩
          rcases hl with ⟨x, hx, hp⟩ | ⟨x, hx, k1, i, j, hp, hp2⟩
          · refine e ⟨x, hx, ?_⟩
            cases hh : x.2.2 <;> rw [hh] at hp <;> cases hp; rfl
          · cases hp2
    | sub k i j =>
      obtain ⟨q, sz, n, g, hq, hi, hj, hg⟩ := hp
      rcases hlk k q hq with ⟨k0, rfl, h1, h2, h3⟩ | ⟨h1, h2, h3⟩
      · refine .inl ⟨.sub k0 i j, ⟨q, sz, n, g, hobr _ _ h1, hi, hj, hg⟩, fun x hx => by simpa [Gh.blk, h3] using hx, ?_⟩
        simp only [nm, h1]
      · by_cases e : ∃ x ∈ L, x.2.2.key = k
        · obtain ⟨x, hx, ex⟩ := e
          obtain ⟨r1, c1, c2⟩ := a4 x hx
          rw [ex, h2] at c1; cases c1
          have hsx := hs x hx
          obtain ⟨p, rx, t⟩ := x
          have et : lk (tsOf L) p = some t := lk_tsOf hL _ hx
          cases t with
          | top k1 =>
            have ex : k1 = k := ex
            subst ex
            have c2 : lk obo p = some q := c2
            refine .inl ⟨.sub p i j, ⟨q, sz, n, g, hfo _ _ c2, hi, hj, hg⟩, fun x hxx => ?_, ?_⟩
            · have : G2.sub k1 = G'.sub p := by simp [G2, h1, topOf_of hK hx]
              simp only [Gh.blk, this] at hxx ⊢; exact hxx
            · simp only [nm, freshL_none hfr c2, et]
          | sub k1 i1 j1 =>
            have ex : k1 = k := ex
            subst ex
            obtain ⟨q1, p1, d1, d2, rfl⟩ := c2
            have d1 : lk st.ob k1 = some q1 := d1
            have et0 : topOf L k1 = none := by
              cases et0 : topOf L k1 with
              | none => rfl
              | some p' =>
                obtain ⟨r1, hr1⟩ := topOf_mem et0
                have := onceKey_inj hK _ hr1 _ hx rfl
                cases this
            have hsub : G2.sub k1 = G.sub k1 := by simp [G2, h1, et0]
            have d2 : lk obo p = some p1 := d2
            by_cases eij : i = i1 ∧ j = j1
            · obtain ⟨rfl, rfl⟩ := eij
              refine .inl ⟨.top p, ⟨p1, hfo _ _ d2⟩, fun x hxx => ?_, ?_⟩
              · simp only [Gh.blk, hsub] at hxx ⊢
                rw [htop p p1 d2]
                have : (lentG G L).top p = G.sub k1 i j := by simp only [lentG, et]; rfl
                rw [this]; exact hxx
              · simp only [nm, freshL_none hfr d2, et]; rfl
            · right
              have hg : setCell q1.get i1 j1 (.fr p1.sz p1.n p1.get) i j = .fr sz n g := hg
              have hne : (Nat.beq i i1 && Nat.beq j j1) = false := by
                cases hb : (Nat.beq i i1 && Nat.beq j j1) with
                | false => rfl
                | true =>
                  simp only [Bool.and_eq_true] at hb
                  exact absurd ⟨Nat.eq_of_beq_eq_true hb.1, Nat.eq_of_beq_eq_true hb.2⟩ eij
              simp only [setCell, hne, cond_false] at hg
              refine ⟨⟨q1, sz, n, g, d1, hi, hj, hg⟩, fun hl => ?_, by simp only [Gh.blk, hsub]⟩
              rcases hl with ⟨y, hy, hp⟩ | ⟨y, hy, k2, i2, j2, hp, hp2⟩
              · have hyk : y.2.2 = .sub k1 i j := by cases hh : y.2.2 <;> rw [hh] at hp <;> cases hp; rfl
                have := onceKey_inj hK y hy _ hx (by rw [hyk]; rfl)
                subst this
                cases hyk
                exact eij ⟨rfl, rfl⟩
              · cases hp2
                have := onceKey_inj hK y hy _ hx (by rw [hp]; rfl)
                subst this
                cases hp
        · right
          have hnk : ∀ x ∈ L, x.2.2.key ≠ k := fun x hx he => e ⟨x, hx, he⟩
          rw [a3 k hnk] at h2
          have et0 : topOf L k = none := by
            cases et0 : topOf L k with
            | none => rfl
            | some p' => obtain ⟨r1, hr1⟩ := topOf_mem et0; exact absurd rfl (hnk _ hr1)
          refine ⟨⟨q, sz, n, g, h2, hi, hj, hg⟩, fun hl => ?_, by simp [Gh.blk, G2, h1, et0]⟩
          obtain ⟨x, hx, hx2⟩ := hl.key
          have : k = x.2.2.key := by simpa [Pos.key] using hx2
          exact hnk x hx this.symm
  have hnL : ∀ k, (∀ x ∈ L, x.2.2.key ≠ k) → ¬ IsL L (.top k) ∧ ∀ i j, ¬ IsL L (.sub k i j) := by
    intro k hk
    refine ⟨fun hl => ?_, fun i j hl => ?_⟩ <;>
    · obtain ⟨x, hx, hx2⟩ := hl.key
      have : k = x.2.2.key := by simpa [Pos.key] using hx2
      exact hk x hx this.symm
  refine ⟨G2, ⟨h.df, ?_, fun s => ?_, ⟨?_, ?_, ?_, ?_⟩, ?_, ?_⟩, ?_⟩
  · show a.tmps.size = st'.tm.length
    rw [a1, length_killTs]; exact h.sz
  · show TRep C.w0 C.I G2 _ _ _ (getL st'.tm s)
    rw [a1]
    by_cases hs : s < st.tm.length
    · rw [getL_killTs _ _ _ hs]; exact (h.tm s).kill hext
    · rw [getL_out _ _ (by rw [length_killTs]; omega)]; exact TRep.u
  · intro s cs hs
    have hs' : lk ([] ++ st'.bx) s = some cs := hs
    rw [List.nil_append, a2, lk_killB] at hs'
    obtain ⟨cs', h1, h2⟩ := Option.map_eq_some_iff.1 hs'
    obtain ⟨arr, t, b1, b2, b3⟩ := h.ob.bxr s cs' h1
    refine ⟨arr, t, ?_, by rw [b2, ← h2, length_killL], fun j u hu => ?_⟩
    · rw [hheap (.bx s) _ ⟨cs', h1⟩ (fun hl => by obtain ⟨x, _, hx⟩ := hl.key; cases hx) rfl]; exact b1
    · have hj : j < cs'.length := by have := (Array.getElem?_eq_some_iff.1 hu).1; omega
      rw [← h2, nth_killL _ _ _ hj]
      exact ⟨hext _ _ (b3 j u hu).1, trivial⟩
  · intro k q hq
    have hq' : lk (shift b0 obr ++ st'.ob) k = some q := hq
    rcases hlk k q hq' with ⟨k0, rfl, h1, h2, h3⟩ | ⟨h1, h2, h3⟩
    · rw [h2]
      refine (ho.obr k0 q (hobr _ _ h1)).imp (fun _ _ => rfl) (fun i j v' hi hj hc => ?_)
      cases eg : q.get i j with
      | fr sz n g =>
        rw [eg] at hc
        obtain ⟨c1, c2, c3⟩ := hc
        refine ⟨c1, by rw [h3]; exact c2, ?_⟩
        rw [h3]
        exact c3.imp (fun _ _ => rfl) (fun _ _ _ _ _ hc => ⟨ofW hc.1, hc.2⟩)
      | _ => rw [eg] at hc; exact ⟨ofW hc.1, hc.2⟩
    · rw [h3]
      by_cases e : ∃ x ∈ L, x.2.2.key = k
      · obtain ⟨x, hx, ex⟩ := e
        obtain ⟨r1, c1, c2⟩ := a4 x hx
        rw [ex, h2] at c1; cases c1
        obtain ⟨r2, s1, s2, s3, s4⟩ := hsh.lk hL x hx
        have hsx := hs x hx
        obtain ⟨p, rx, t⟩ := x
        have et : lk (tsOf L) p = some t := lk_tsOf hL _ hx
        cases t with
        | top k1 =>
          have ex : k1 = k := ex
          subst ex
          have c2 : lk obo p = some q := c2
          have ht : G'.top p = G.top k1 := by rw [htop p q c2]; simp only [lentG, et]; rfl
          have hsub : G2.sub k1 = G'.sub p := by simp [G2, h1, topOf_of hK hx]
          rw [← ht]
          refine (ho.obr p q (hfo _ _ c2)).imp (fun _ _ => rfl) (fun i j v' hi hj hc => ?_)
          cases eg : q.get i j with
          | fr sz n g =>
            rw [eg] at hc
            obtain ⟨c1, c2, c3⟩ := hc
            refine ⟨c1, by rw [hsub]; exact c2, ?_⟩
            rw [hsub]
            exact c3.imp (fun _ _ => rfl) (fun _ _ _ _ _ hc => ⟨ofW hc.1, hc.2⟩)
          | _ => rw [eg] at hc; exact ⟨ofW hc.1, hc.2⟩
        | sub k1 i1 j1 =>
          have ex : k1 = k := ex
          subst ex
          obtain ⟨q1, p1, d1, d2, rfl⟩ := c2
          have d1 : lk st.ob k1 = some q1 := d1
          have d2 : lk obo p = some p1 := d2
          have s1 : lk obo p = some r2 := s1
          have e12 : r2 = p1 := by rw [d2] at s1; exact (Option.some.inj s1).symm
          rw [e12] at s2 s3 s4
          obtain ⟨hdp, q2, g1, g2, g3, g4⟩ := hsx
          rw [d1] at g1; cases g1
          have et0 : topOf L k1 = none := by
            cases et0 : topOf L k1 with
            | none => rfl
            | some p' =>
              obtain ⟨r1, hr1⟩ := topOf_mem et0
              have := onceKey_inj hK _ hr1 _ hx rfl
              cases this
          have hsub : G2.sub k1 = G.sub k1 := by simp [G2, h1, et0]
          have hnt : ¬ IsL L (.top k1) := by
            rintro (⟨y, hy, hp⟩ | ⟨y, hy, k2, i2, j2, hp, hp2⟩)
            · have hyk : y.2.2 = .top k1 := by cases hh : y.2.2 <;> rw [hh] at hp <;> cases hp; rfl
              have := onceKey_inj hK y hy _ hx (by rw [hyk]; rfl)
              subst this
              cases hyk
            · cases hp2
          refine (h.ob.obr k1 q1 d1).imp (fun b hb => hheap (.top k1) b ⟨q1, d1⟩ hnt hb) (fun i j v' hi hj hc => ?_)
          show Cont w' C.w0 C.I G2 k1 q1.deep i j v' (setCell q1.get i1 j1 (.fr p1.sz p1.n p1.get) i j)
          by_cases eij : i = i1 ∧ j = j1
          · obtain ⟨rfl, rfl⟩ := eij
            have e1 : setCell q1.get i j (.fr p1.sz p1.n p1.get) i j = .fr p1.sz p1.n p1.get := by simp [setCell]
            rw [e1]
            rw [g4] at hc
            obtain ⟨c1, c2, c3⟩ := hc
            have ht : G'.top p = G.sub k1 i j := by rw [htop p p1 d2]; simp only [lentG, et]; rfl
            refine ⟨c1, by rw [hsub, s4]; exact c2, ?_⟩
            rw [hsub, ← ht]
            refine (ho.obr p p1 (hfo _ _ d2)).imp (fun _ _ => rfl) (fun i' j' v2 hi' hj' hc => ?_)
            cases eg : p1.get i' j' with
            | fr sz n g =>
              rw [eg] at hc
              have hh := hc.1
              rw [s2, hdp] at hh; cases hh
            | _ => rw [eg] at hc; exact ⟨ofW hc.1, hc.2⟩
          · have hne : (Nat.beq i i1 && Nat.beq j j1) = false := by
              cases hb : (Nat.beq i i1 && Nat.beq j j1) with
              | false => rfl
              | true =>
                simp only [Bool.and_eq_true] at hb
                exact absurd ⟨Nat.eq_of_beq_eq_true hb.1, Nat.eq_of_beq_eq_true hb.2⟩ eij
            have e1 : setCell q1.get i1 j1 (.fr p1.sz p1.n p1.get) i j = q1.get i j := by simp [setCell, hne]
            rw [e1]
            cases eg : q1.get i j with
            | fr sz n g =>
              rw [eg] at hc
              obtain ⟨c1, c2, c3⟩ := hc
              refine ⟨c1, by rw [hsub]; exact c2, ?_⟩
              rw [hsub]
              refine c3.imp (fun b hb => hheap (.sub k1 i j) b ⟨q1, sz, n, g, d1, hi, hj, eg⟩ ?_ hb) (fun _ _ _ _ _ hc => hc)
              rintro (⟨y, hy, hp⟩ | ⟨y, hy, k2, i2, j2, hp, hp2⟩)
              · have hyk : y.2.2 = .sub k1 i j := by cases hh : y.2.2 <;> rw [hh] at hp <;> cases hp; rfl
                have := onceKey_inj hK y hy _ hx (by rw [hyk]; rfl)
                subst this
                cases hyk
                exact eij ⟨rfl, rfl⟩
              · cases hp2
                have := onceKey_inj hK y hy _ hx (by rw [hp]; rfl)
                subst this
                cases hp
            | _ => rw [eg] at hc; exact hc
      · have hnk : ∀ x ∈ L, x.2.2.key ≠ k := fun x hx he => e ⟨x, hx, he⟩
        rw [a3 k hnk] at h2
        have et0 : topOf L k = none := by
          cases et0 : topOf L k with
          | none => rfl
          | some p' => obtain ⟨r1, hr1⟩ := topOf_mem et0; exact absurd rfl (hnk _ hr1)
        have hsub : G2.sub k = G.sub k := by simp [G2, h1, et0]
        obtain ⟨n1, n2⟩ := hnL k hnk
        refine (h.ob.obr k q h2).imp (fun b hb => hheap (.top k) b ⟨q, h2⟩ n1 hb) (fun i j v' hi hj hc => ?_)
        cases eg : q.get i j with
        | fr sz n g =>
          rw [eg] at hc
          obtain ⟨c1, c2, c3⟩ := hc
          refine ⟨c1, by rw [hsub]; exact c2, ?_⟩
          rw [hsub]
          exact c3.imp (fun b hb => hheap (.sub k i j) b ⟨q, sz, n, g, h2, hi, hj, eg⟩ (n2 i j) hb) (fun _ _ _ _ _ hc => hc)
        | _ => rw [eg] at hc; exact hc
  · intro p q x hp hq hbp hbq
    rcases cls p hp with ⟨p0, lp, gp, rfl⟩ | ⟨lp, np, gp⟩
    · rcases cls q hq with ⟨q0, lq, gq, rfl⟩ | ⟨lq, nq, gq⟩
      · rw [ho.inj p0 q0 x lp lq (gp x hbp) (gq x hbq)]
      · rcases (ho.okb p0 x lp (gp x hbp)).1 with h1 | h1
        · have h2 := h.ob.lt lq (gq ▸ hbq)
          omega
        · exact absurd h1 (hold q x lq nq (gq ▸ hbq))
    · rcases cls q hq with ⟨q0, lq, gq, rfl⟩ | ⟨lq, nq, gq⟩
      · rcases (ho.okb q0 x lq (gq x hbq)).1 with h1 | h1
        · have h2 := h.ob.lt lp (gp ▸ hbp)
          omega
        · exact absurd h1 (hold p x lp np (gp ▸ hbp))
      · exact h.ob.inj p q x lp lq (gp ▸ hbp) (gq ▸ hbq)
  · intro p x hp hbp
    rcases cls p hp with ⟨p0, lp, gp, rfl⟩ | ⟨lp, np, gp⟩
    · obtain ⟨h1, h2⟩ := ho.okb p0 x lp (gp x hbp)
      refine ⟨?_, h2⟩
      rcases h1 with h1 | h1
      · have := h.keep.size; exact .inl (by omega)
      · obtain ⟨q, _, lq, bq⟩ := hsrc x h1
        exact (h.ob.okb q x lq bq).1
    · exact h.ob.okb p x lp (gp ▸ hbp)
  · refine ⟨hk.os.trans h.keep.os, hk.tape.trans h.keep.tape, hk.output.trans h.keep.output, Nat.le_trans h.keep.size hk.size, fun b hb hd => ?_⟩
    rw [hk.block b (Nat.lt_of_lt_of_le hb h.keep.size) (fun hl => ?_)]
    · exact h.keep.block b hb hd
    · obtain ⟨q, _, lq, bq⟩ := hsrc b hl
      rcases (h.ob.okb q b lq bq).1 with h1 | h1
      · omega
      · exact hd h1
  · intro k q hp hq
    have hq' : lk (shift b0 obr ++ st'.ob) k = some q := hq
    rcases hlk k q hq' with ⟨k0, rfl, h1, h2, h3⟩ | ⟨h1, h2, h3⟩
    · have : lk (shift b0 obr) (b0 + k0) = some q := by rw [lk_shift]; exact h1
      rw [noP_isP hnew.2 this] at hp; cases hp
    · obtain ⟨q0, d1, _⟩ := hrow k q h2
      rw [h3]; exact h.pk k q0 hp d1
  · have inst : ∀ v c, c.resR (tsOf L) obr = true → SRep w C.I G' [] (obr ++ obo) v c → SRep C.w0 C.I G2 (st'.add (shift b0 obr) []).bx (st'.add (shift b0 obr) []).ob v (instCR (tsOf L) b0 c) := by
      intro v c hc hv
      cases c with
      | own k n =>
        obtain ⟨q, c1, c2, c3⟩ := hv
        cases et : lk (tsOf L) k with
        | some t =>
          cases t with
          | sub k1 i j => simp only [Cell.resR, et] at hc; cases hc
          | top k' =>
            have ei : instCR (tsOf L) b0 (.own k n) = .own k' n := by simp only [instCR, et]
            rw [ei]
            obtain ⟨x, hx, ex⟩ := List.mem_map.1 (lk_in et)
            obtain ⟨p, rx, t⟩ := x
            cases ex
            obtain ⟨r1, d1, d2⟩ := a4 _ hx
            have d1 : lk st'.ob k' = some r1 := d1
            have d2 : lk obo p = some r1 := d2
            have e9 : q = r1 := by
              have := hfo p r1 d2
              rw [this] at c1; exact (Option.some.inj c1).symm
            subst e9
            obtain ⟨q0, f1, _⟩ := hrow k' q d1
            obtain ⟨q2, g1, g2, _, _, g5⟩ := hexN k' q0 f1
            rw [d1] at g2; cases g2
            refine ⟨q, g1, c2, ?_⟩
            rw [g5, c3, htop p q d2]
            have : (lentG G L).top p = G.top k' := by simp only [lentG, et]; rfl
            rw [this]
        | none =>
        have ei : instCR (tsOf L) b0 (.own k n) = .own (b0 + k) n := by simp only [instCR, et]
        rw [ei]
        have hc : (!(freshK obr k)) = true := by simpa only [Cell.resR, et] using hc
        have : ∃ q', lk obr k = some q' := by
          unfold freshK at hc
          cases e : lk obr k with
          | none => rw [e] at hc; cases hc
          | some q' => exact ⟨q', rfl⟩
        obtain ⟨q', hq'⟩ := this
        have e12 : q = q' := by rw [hobr k q' hq'] at c1; exact (Option.some.inj c1).symm
        rw [e12] at c2
        have e : lk (shift b0 obr) (b0 + k) = some q' := by rw [lk_shift]; exact hq'
        refine ⟨q', by show lk (shift b0 obr ++ st'.ob) (b0 + k) = _; rw [lk_append, e]; rfl, c2, ?_⟩
        have : G2.top (b0 + k) = G'.top k := by simp [G2, e]
        rw [this]; exact c3
      | ro sz n g =>
        have hc : Nat.beq n 0 = true := hc
        have hv : CRep w C.I v (.ro sz n g) := hv
        exact SRep.of_crep (c := .ro sz n g) (hv.free hc)
      | u => exact CRep.u _
      | int k n => have hv : CRep w C.I v (.int k n) := hv; exact hv.free rfl
      | bool k => have hv : CRep w C.I v (.bool k) := hv; exact hv.free rfl
      | str k => have hv : CRep w C.I v (.str k) := hv; exact hv.free rfl
      | _ => cases hc
    simp only [Bool.not_eq_true'] at hres
    have instV : ∀ v (x : V), VRep w C.I G' [] (obr ++ obo) v x → x.any (fun c => !c.resR (tsOf L) obr) = false → VRep C.w0 C.I G2 (st'.add (shift b0 obr) []).bx (st'.add (shift b0 obr) []).ob v (Ab.instVR (tsOf L) b0 x) := by
      intro v x hv hx
      cases x with
      | one c => exact inst v c (by simpa [V.any] using hx) hv
      | agg cs =>
        obtain ⟨arr, h1, h2, h3⟩ := hv
        refine ⟨arr, h1, by rw [h2, length_instLR], fun j u hu => ?_⟩
        have hj : j < cs.length := by have := (Array.getElem?_eq_some_iff.1 hu).1; omega
        rw [nth_instLR]
        refine inst u _ ?_ (h3 j u hu)
        simpa using anyC_nth hx hj
    cases r with
    | v x => exact instV v x hr hres
    | tup xs =>
      obtain ⟨arr, h1, h2, h3⟩ := hr
      refine ⟨arr, h1, by rw [h2, length_instVsR], fun j u hu => ?_⟩
      have hj : j < xs.length := by have := (Array.getElem?_eq_some_iff.1 hu).1; omega
      rw [nthV_instVsR]
      exact instV u _ (h3 j u hu) (anyV_nth hres hj)

theorem Cont.up {w w0 : World} {I I' : Nat → Prop} {G : Gh} {k : Nat} {deep : Bool} {i j : Nat} {v : Value} {c : Cell} (hI : ∀ b, I b → I' b) (h : Cont w w0 I G k deep i j v c) : Cont w w0 I' G k deep i j v c := by
  cases c with
  | fr sz n g =>
    obtain ⟨c1, c2, c3⟩ := h
    exact ⟨c1, c2, c3.imp (fun _ _ => rfl) (fun _ _ _ _ _ hc => ⟨hc.1.mono hI (fun _ _ => rfl), hc.2⟩)⟩
  | _ => exact ⟨h.1.mono hI (fun _ _ => rfl), h.2⟩
theorem Objs.up {w w0 : World} {I I' ok : Nat → Prop} {G : Gh} {ob : Ob} (h : Objs w w0 I ok G [] ob) (hI : ∀ b, I b → I' b) (hn : ∀ p b, Live [] ob p → G.blk p = some b → ¬ I' b) : Objs w w0 I' ok G [] ob :=
  ⟨fun s cs hs => (by cases hs), fun k r hr => (h.obr k r hr).imp (fun _ _ => rfl) (fun i j v hi hj hc => hc.up hI), h.inj, fun p b lp hp => ⟨(h.okb p b lp hp).1, hn p b lp hp⟩⟩
theorem Objs.down {w w0 : World} {I I' ok : Nat → Prop} {G : Gh} {ob : Ob} (h : Objs w w0 I' ok G [] ob) (hI : ∀ b, I b → I' b) (hno : ∀ k q, lk ob k = some q → NoRo q) : Objs w w0 I ok G [] ob := by
  refine ⟨fun s cs hs => (by cases hs), fun k r hr => (h.obr k r hr).imp (fun _ _ => rfl) (fun i j v hi hj hc => ?_), h.inj, fun p b lp hp => ⟨(h.okb p b lp hp).1, fun hb => (h.okb p b lp hp).2 (hI _ hb)⟩⟩
  have hn := hno k r hr i j hi hj
  cases e : r.get i j with
  | fr sz n g =>
    rw [e] at hc hn
    obtain ⟨c1, c2, c3⟩ := hc
    exact ⟨c1, c2, c3.imp (fun _ _ => rfl) (fun i' j' _ hi' hj' hc => ⟨hc.1.free (hn i' j' hi' hj'), hc.2⟩)⟩
  | _ =>
    rw [e] at hc hn
    exact ⟨hc.1.free hn, hc.2⟩
theorem resR_down {w : World} {I I' : Nat → Prop} {G : Gh} {ob : Ob} {ts : List (Nat × Tgt)} {obr : Ob} {v : Value} {c : Cell} (hc : c.resR ts obr = true) (h : SRep w I' G [] ob v c) : SRep w I G [] ob v c := by
  cases c with
  | own k n => exact h
  | u => exact CRep.u _
  | int k n => exact CRep.free h rfl
  | bool b => exact CRep.free h rfl
  | str s => exact CRep.free h rfl
  | ro sz n g => exact CRep.free h hc
  | _ => cases hc
theorem trep_down {w : World} {I I' : Nat → Prop} {G : Gh} {ob : Ob} {ts : List (Nat × Tgt)} {obr : Ob} {v : Value} {r : T} (hc : (!(r.any fun c => !c.resR ts obr)) = true) (h : TRep w I' G [] ob v r) : TRep w I G [] ob v r := by
  have hc : r.any (fun c => !c.resR ts obr) = false := by simpa using hc
  have key : ∀ (v : Value) (y : V), y.any (fun c => !c.resR ts obr) = false → VRep w I' G [] ob v y → VRep w I G [] ob v y := by
    intro v y hy hv
    cases y with
    | one c => exact resR_down (by simpa [V.any] using hy) hv
    | agg cs =>
      obtain ⟨arr, h1, h2, h3⟩ := hv
      refine ⟨arr, h1, h2, fun j u hj => ?_⟩
      have hlt : j < cs.length := by have := (Array.getElem?_eq_some_iff.1 hj).1; omega
      have hn : ∀ (l : List Cell) (j : Nat), anyC (fun c => !c.resR ts obr) l = false → j < l.length → (!(nth l j).resR ts obr) = false := by
        intro l
        induction l with
        | nil => intro j _ hj; simp at hj
        | cons c l ih =>
          intro j ha hj
          simp only [anyC, Bool.or_eq_false_iff] at ha
          cases j with
          | zero => exact ha.1
          | succ j => exact ih j ha.2 (by simpa using hj)
      exact resR_down (by simpa using hn cs j hy hlt) (h3 j u hj)
  cases r with
  | v y => exact key v y hc h
  | tup ys =>
    obtain ⟨arr, h1, h2, h3⟩ := h
    refine ⟨arr, h1, h2, fun j u hj => ?_⟩
    have hlt : j < ys.length := by have := (Array.getElem?_eq_some_iff.1 hj).1; omega
    have hn : ∀ (l : List V) (j : Nat), anyV (fun c => !c.resR ts obr) l = false → j < l.length → (nthV l j).any (fun c => !c.resR ts obr) = false := by
      intro l
      induction l with
      | nil => intro j _ hj; simp at hj
      | cons c l ih =>
        intro j ha hj
        simp only [anyV, Bool.or_eq_false_iff] at ha
        cases j with
        | zero => exact ha.1
        | succ j => exact ih j ha.2 (by simpa using hj)
    exact key _ _ (hn ys j hc hlt) (h3 j u hj)

/-- the call of a function that is lent rows that function values have caught -/
theorem callX_core (h : Rel C G st a w) {o : Oper} {f : Nat} {as : List V} {vs : Array Value} {L : List Ln} (hsrc : ∀ x ∈ L, Src st x.2.1 x.2.2) (hon1 : onceKey (tsOf L) = true) (hon2 : onceL (obOf L) = true)
    (hrun : isBody C.E.P f = true → (execOp a.eval o).run C.E.P w = .ok (.enter f vs) w) (hlen : vs.size = as.length) (harg : ∀ (j : Nat) (v : Value), vs[j]? = some v → ArgV C G st w L v (nthV as j)) {Q : St → Prop}
    (hQ : CallRX C.E f as (obOf L) (tsOf L) o.dst st Q) : Did C a w o Q := by
  obtain ⟨Φ, ⟨hbody, hF⟩, hQ⟩ := hQ
  let I' : Nat → Prop := fun b => b < w.heap.size ∧ ¬ lent (lentG G L) (obOf L) b
  have hCI : ∀ b, C.I b → I' b := fun b hb => ⟨Nat.lt_of_lt_of_le (C.imm b hb).1 h.keep.size, fun hl => by
    obtain ⟨q, _, l2, b2⟩ := lent_src h hsrc hon2 hl
    exact (h.ob.okb q b l2 b2).2 hb⟩
  have hBk : ∀ b, Bk C G st b → I' b := by
    rintro b (hb | ⟨s, cs, hs, rfl⟩)
    · exact hCI b hb
    · refine ⟨h.ob.lt (p := .bx s) ⟨cs, hs⟩ rfl, fun hl => ?_⟩
      obtain ⟨q, i2, l2, b2⟩ := lent_src h hsrc hon2 hl
      have e := h.ob.inj q (.bx s) (G.bx s) l2 ⟨cs, hs⟩ b2 rfl
      subst e
      rcases i2 with ⟨x, _, e⟩ | ⟨x, _, k, i, j, _, e⟩
      · revert e; cases x.2.2 <;> intro e <;> cases e
      · cases e
  have toW : ∀ {v : Value} {c : Cell}, CRep C.w0 C.I v c → CRep w I' v c := fun hc => hc.mono hCI (fun b hb => h.heapI hb)
  have hobj : Objs w w I' (fun _ => True) (lentG G L) [] (obOf L) := (lent_objs h hsrc hon2 hon1).up hCI (fun p b lp hp hb => hb.2 ⟨p, lp, hp⟩)
  have htopL : ∀ x ∈ L, ∀ kk, x.2.2 = .top kk → (lentG G L).top x.1 = G.top kk := fun x hx kk e => by
    simp only [lentG, lk_tsOf hon2 x hx, e]; rfl
  have hlkL : ∀ x ∈ L, lk (obOf L) x.1 = some x.2.1 := fun x hx => (lk_obOf hon2).2 ⟨x.2.2, hx⟩
  have hcall := hF w I' (lentG G L) vs (fun b hb => hb.1) (Env.gok_mono hCI (fun b hb => h.heapI hb) C.glob) hlen (fun j v hj => by
      have key : ∀ u c, Arg C G st w L u c → SRep w I' (lentG G L) [] (obOf L) u c := by
        intro u c hu
        rcases hu with hu | ⟨x, hx, rfl, rfl⟩ | ⟨x, hx, n, rfl, kk, b, e1, e2, e3, e4, e5⟩ | ⟨x, hx, f', n, i, m, sz, get, rfl, kk, caps, bs, vals, e1, e2, e3, e4, e5, e6, e7, e8, e9⟩
        · exact SRep.of_crep (toW hu)
        · refine ⟨x.2.1, hlkL x hx, rfl, ?_⟩
          simp only [lentG, lk_tsOf hon2 x hx]
        · exact ⟨x.2.1, b, hlkL x hx, e2.symm, e3, hBk b e4, by rw [htopL x hx kk e1]; exact e5⟩
        · refine ⟨x.2.1, caps, bs, vals, hlkL x hx, e2.symm, e3, e4, e5, fun j hj => hBk _ (e6 j hj), e7, fun j o hj hne ho => ?_, by rw [htopL x hx kk e1]; exact e9⟩
          obtain ⟨b1, b2⟩ := e8 j o hj hne ho
          exact ⟨b1, toW b2⟩
      have := harg j v hj
      generalize nthV as j = y at this
      cases y with
      | one c => exact key _ _ this
      | agg cs =>
        obtain ⟨arr, h1, h2, h3⟩ := this
        exact ⟨arr, h1, h2, fun j u hu => key _ _ (h3 j u hu)⟩)
    hobj
  intro next QQ hn
  unfold Oper.wp
  rw [hrun hbody]
  refine hcall.mono ?_
  rintro e w' ⟨r, obr, obo, hΦ, v, G', rfl, hr, ho, htop, hk⟩
  obtain ⟨hno, hsh, hres, hfr, hQ⟩ := hQ r obr obo hΦ
  have ho := ho.down hCI hno
  have hr : TRep w C.I G' [] (obr ++ obo) v r := trep_down hres hr
  split at hQ
  case h_2 => exact hQ.elim
  rename_i st' hb
  cases hd : o.dst with
  | none =>
    rw [hd] at hQ
    obtain ⟨rfl, hQ⟩ := hQ
    obtain ⟨G2, h1, _⟩ := h.back hsrc hon2 hon1 hk ho hr htop hsh hres hfr hb (b0 := 0) rfl
    have := hn v w' G2 st'
    rw [hd] at this
    exact this h1 hQ
  | some s =>
    rw [hd] at hQ
    obtain ⟨hnew, hQ⟩ := hQ
    obtain ⟨G2, h1, h2⟩ := h.back hsrc hon2 hon1 hk ho hr htop hsh hres hfr hb hnew
    have := hn v w' G2 ((st'.add (shift (dkey s 0) obr) []).put (some s) (instTR (tsOf L) (dkey s 0) r))
    rw [hd] at this
    exact this (h1.put h2) hQ
theorem nthT_append : ∀ (l l' : List T) (j : Nat), nthT (l ++ l') j = if j < l.length then nthT l j else nthT l' (j - l.length)
  | [], l', j => by simp
  | x :: l, l', j => by
    cases j with
    | zero => rfl
    | succ j =>
      show nthT (l ++ l') j = _
      rw [nthT_append l l' j]
      by_cases e : j < l.length
      · rw [if_pos e, if_pos (by simpa using e)]; rfl
      · rw [if_neg e, if_neg (by simpa using e), List.length_cons, Nat.add_sub_add_right]
theorem nthT_map {g : Nat → T} : ∀ (l : List Nat) (j q : Nat), l[j]? = some q → nthT (l.map g) j = g q
  | [], j, q, h => by simp at h
  | x :: l, 0, q, h => by simp at h; subst h; rfl
  | x :: l, j + 1, q, h => nthT_map l j q (by simpa using h)
theorem nthT_fnxA {k n i m : Nat} {sz : Nat → Nat} {get : Nat → Nat → Cell} {j : Nat} (hj : j < m) : nthT (fnxA k n i m sz get) j = if j = i then T.v (.one (.pb k n)) else T.v (.one (.pro (sz j) (get j))) := by
  unfold fnxA
  rw [nthT_map (List.range m) j j (by simp [hj])]
  by_cases e : j = i
  · subst e; rw [if_pos rfl, show Nat.beq j j = true from beq_self j]; rfl
  · rw [if_neg e, show Nat.beq j i = false from beq_ne e]; rfl
theorem callR_ok (h : Rel C G st a w) (o : Oper) {c : Call} {f : Nat} {xs : List CA} (hop : o.op = .call c) (hchk : chkOp C.E.P (.call c) (.call true f xs) = true) {Q : St → Prop}
    (hQ : wo C.E o.dst (.call true f xs) st Q) : Did C a w o Q := by
  simp only [chkOp, Bool.and_eq_true] at hchk
  obtain ⟨hc1, hc2⟩ := hchk
  simp only [wo] at hQ
  split at hQ
  case h_2 => exact hQ.elim
  rename_i as ob ts hl
  cases hon : onceKey ts && onceL ob with
  | false => rw [hon] at hQ; exact hQ.elim
  | true =>
  rw [hon] at hQ
  simp only [cond_true] at hQ
  simp only [Bool.and_eq_true] at hon
  split at hc1
  case h_2 => cases hc1
  rename_i g hcal
  have hc1 := Nat.eq_of_beq_eq_true hc1
  subst hc1
  have hal := chkAs_len hc2
  obtain ⟨L, rfl, rfl, hsrc, hal2, harg⟩ := lendVs_spec h (vs := (c.args.map a.eval).toList) hl (by simp [length_evs]; omega) (fun i u hu => by
    have hV := View.evs (View.self h xs) hc2 (fun y hy => hy) i
    simp only [Array.toList_map, List.getElem?_map] at hu
    obtain ⟨x, hx, rfl⟩ := Option.map_eq_some_iff.1 hu
    exact hV x hx)
  cases hX : anyV Cell.isX as with
  | true =>
    rw [hX] at hQ
    refine callX_core h hsrc hon.1 hon.2 (vs := c.args.map a.eval) (fun hbody => ?_) (by simp [hal2, length_evs]; simpa using hal) (fun j v hj => harg j v (by simpa using hj)) hQ
    have := run_call (P := C.E.P) (w := w) (a := a) (c := c) (f := g) (caps := #[]) (x := .func g) (ty := o.type) hcal rfl hbody
    simp only [execOp, hop]
    simpa using this
  | false =>
  rw [hX] at hQ
  obtain ⟨Φ, ⟨hbody, hF⟩, hQ⟩ := hQ
  have hrun : (execOp a.eval o).run C.E.P w = .ok (.enter g (c.args.map a.eval)) w := by
    have := run_call (P := C.E.P) (w := w) (a := a) (c := c) (f := g) (caps := #[]) (x := .func g) (ty := o.type) hcal rfl hbody
    simp only [execOp, hop]
    simpa using this
  have hcall := hF w C.I (lentG G L) (c.args.map a.eval) (fun b hb => Nat.lt_of_lt_of_le (C.imm b hb).1 h.keep.size) (Env.gok_mono (fun b hb => hb) (fun b hb => h.heapI hb) C.glob)
    (by simp [hal2, length_evs]; simpa using hal) (fun j v hj => by
      have toW : ∀ {v : Value} {c : Cell}, CRep C.w0 C.I v c → CRep w C.I v c := fun hc => toI h (fun _ hb => hb) hc
      have key : ∀ u c, c.isX = false → Arg C G st w L u c → SRep w C.I (lentG G L) [] (obOf L) u c := by
        intro u c hc hu
        rcases hu with hu | ⟨x, hx, rfl, rfl⟩ | ⟨x, hx, n, rfl, _⟩ | ⟨x, hx, f', n, i, m, sz, get, rfl, _⟩
        · exact SRep.of_crep (toW hu)
        · refine ⟨x.2.1, (lk_obOf hon.2).2 ⟨x.2.2, hx⟩, rfl, ?_⟩
          simp only [lentG, lk_tsOf hon.2 x hx]
        · cases hc
        · cases hc
      have hjl : j < as.length := by
        have h1 := (Array.getElem?_eq_some_iff.1 hj).1
        have h2 : (c.args.map a.eval).size = as.length := by simp [hal2, length_evs]; simpa using hal
        omega
      have hnX := anyV_nth hX hjl
      have := harg j v (by simpa using hj)
      generalize nthV as j = y at this hnX
      cases y with
      | one c => exact key _ _ hnX this
      | agg cs =>
        obtain ⟨arr, h1, h2, h3⟩ := this
        exact ⟨arr, h1, h2, fun j u hu => key _ _ (anyC_nth hnX (by have := (Array.getElem?_eq_some_iff.1 hu).1; omega)) (h3 j u hu)⟩)
    (lent_objs h hsrc hon.2 hon.1)
  intro next QQ hn
  unfold Oper.wp
  rw [hrun]
  refine hcall.mono ?_
  rintro e w' ⟨r, obr, obo, hΦ, v, G', rfl, hr, ho, htop, hk⟩
  obtain ⟨hsh, hres, hfr, hQ⟩ := hQ r obr obo hΦ
  split at hQ
  case h_2 => exact hQ.elim
  rename_i st' hb
  cases hd : o.dst with
  | none =>
    rw [hd] at hQ
    obtain ⟨rfl, hQ⟩ := hQ
    obtain ⟨G2, h1, _⟩ := h.back hsrc hon.2 hon.1 hk ho hr htop hsh hres hfr hb (b0 := 0) rfl
    have := hn v w' G2 st'
    rw [hd] at this
    exact this h1 hQ
  | some s =>
    rw [hd] at hQ
    obtain ⟨hnew, hQ⟩ := hQ
    obtain ⟨G2, h1, h2⟩ := h.back hsrc hon.2 hon.1 hk ho hr htop hsh hres hfr hb hnew
    have := hn v w' G2 ((st'.add (shift (dkey s 0) obr) []).put (some s) (instTR (tsOf L) (dkey s 0) r))
    rw [hd] at this
    exact this (h1.put h2) hQ
theorem chk_callv {P : Program} {op : Op} {y : CA} {ys : List CA} (h : chkOp P op (.callv y ys) = true) : ∃ c, op = .call c := by
  cases op <;> first | exact ⟨_, rfl⟩ | (simp [chkOp] at h)
theorem callvX_ok (h : Rel C G st a w) (o : Oper) {y : CA} {ys : List CA} (hchk : chkOp C.E.P o.op (.callv y ys) = true) {f k n i m : Nat} {sz : Nat → Nat} {get : Nat → Nat → Cell} (he : ev C.E st y = .v (.one (.fnx f k n i m sz get))) {Q : St → Prop}
    {as : List V} {ob : Ob} {ts : List (Nat × Tgt)} (hl : lendVs st 0 (evs C.E st ys ++ fnxA k n i m sz get) = some (as, ob, ts)) (hon : (onceKey ts && onceL ob) = true) (hQ : CallRX C.E f as ob ts o.dst st Q) : Did C a w o Q := by
  obtain ⟨c, hop⟩ := chk_callv hchk
  rw [hop] at hchk
  simp only [chkOp, Bool.and_eq_true] at hchk hon
  obtain ⟨h1, h2⟩ := hchk
  split at h1
  case h_2 => cases h1
  rename_i x hcal
  have V := View.self h (y :: ys)
  have k1 := V.ev h1 (by simp)
  rw [he] at k1
  obtain ⟨r, caps, bs, vals, e1, e2, e3, e4, e5, e6, e7, e8, e9⟩ := k1
  have hlen := chkAs_len h2
  have hal : c.args.toList.length = c.args.size := by simp
  obtain ⟨L, rfl, rfl, hsrc, hal2, harg⟩ := lendVs_spec h (vs := (c.args.map a.eval ++ caps).toList) hl (by simp [length_evs, fnxA]; omega) (fun q u hu => by
    rw [nthT_append, length_evs]
    by_cases hq : q < ys.length
    · rw [if_pos hq]
      have hx : c.args.toList[q]? = some c.args[q] := by simp [show q < c.args.size by omega]
      have huu : u = a.eval c.args[q] := by
        rw [Array.toList_append, List.getElem?_append_left (by simp; omega)] at hu
        simp [show q < c.args.size by omega] at hu; exact hu.symm
      rw [huu]
      exact V.evs h2 (fun z hz => by simp [hz]) q _ hx
    · rw [if_neg hq]
      have hu2 : caps[q - ys.length]? = some u := by
        rw [Array.toList_append, List.getElem?_append_right (by simp; omega)] at hu
        simpa [show c.args.size = ys.length by omega] using hu
      have hqm : q - ys.length < m := by have := (Array.getElem?_eq_some_iff.1 hu2).1; omega
      rw [nthT_fnxA hqm]
      have := e7 _ hqm
      rw [hu2] at this
      cases this
      by_cases ei : q - ys.length = i
      · rw [if_pos ei, ei]
        exact ⟨r, bs i, e1, e2, rfl, e6 i e5, e9⟩
      · rw [if_neg ei]
        exact CRep.pro _ 0 _ _ (fun p => vals (q - ys.length) p) (e6 _ hqm) (fun p hp => by rw [Nat.zero_add]; exact (e8 _ p hqm ei hp).1) (fun p hp => (e8 _ p hqm ei hp).2))
  refine callX_core h hsrc hon.1 hon.2 (vs := c.args.map a.eval ++ caps) (fun hbody => ?_) (by rw [hal2]; simp [length_evs, fnxA]; omega) (fun j v hj => harg j v (by rw [Array.getElem?_toList]; exact hj)) hQ
  simp only [execOp, hop]
  exact run_call (w := w) (a := a) (ty := o.type) hcal e3 hbody
end
end Go.Proofs.YtjnpnpkjmlihdaaDoor.Ab
