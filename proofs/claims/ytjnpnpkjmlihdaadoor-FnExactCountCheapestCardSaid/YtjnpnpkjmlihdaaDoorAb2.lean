/- An abstract machine over the model, proved sound once: by-value states, weakest preconditions, contracts of functions (part 2).
   Conditions: none. -/
import Derived.Test.YtjnpnpkjmlihdaaDoorAb1
set_option linter.unusedVariables false
set_option linter.unusedSimpArgs false
namespace Go.Proofs.YtjnpnpkjmlihdaaDoor.Ab
open Go Go.RowKit

section
variable {C : Cx} {G : Gh} {st : St} {a : Act} {w : World}

theorem stor_all {ys : List Cell} {v : Value} {y : V} (hv : VRep C.w0 C.I G st.bx st.ob v y) (hs : allC Cell.stor y.cells = true) :
    ∀ u ∈ v.cells.toList, u.oneCell' = true := by
  obtain ⟨h1, h2⟩ := vcells hv (.inl hs)
  intro u hu
  obtain ⟨j, hj⟩ := List.mem_iff_getElem?.1 hu
  have hl : j < y.cells.length := by
    have := (List.getElem?_eq_some_iff.1 hj).1
    simp at this; omega
  exact oneCell_of (h2 j u (by simpa using hj)) (allC_nth hs hl)

theorem st_ok (h : Rel C G st a w) (o : Oper) {t : TypeId} {x y : Operand} {n : Nat} {x' y' : CA} (hop : o.op = .store t x y) (hchk : chkOp C.E.P (.store t x y) (.st n x' y') = true) {Q : St → Prop}
    (hQ : wo C.E o.dst (.st n x' y') st Q) : Did C a w o Q := by
  simp only [chkOp, Bool.and_eq_true] at hchk
  obtain ⟨⟨hc1, hc2⟩, hc3⟩ := hchk
  have hn := eqopt hc3
  have hvx := (View.self h [x']).ev hc1 (by simp)
  have hvy := (View.self h [y']).ev hc2 (by simp)
  simp only [wo] at hQ
  cases hd : o.dst with
  | some s => rw [hd] at hQ; exact hQ.elim
  | none =>
    rw [hd] at hQ
    simp only at hQ
    split at hQ
    case h_2 => exact hQ.elim
    rename_i yv hy
    rw [hy] at hvy
    cases hb : Nat.beq yv.cells.length n with
    | false => rw [hb] at hQ; exact hQ.elim
    | true =>
    rw [hb] at hQ
    simp only [cond_true] at hQ
    have hb := Nat.eq_of_beq_eq_true hb
    have fin : ∀ (w' : World) (G' : Gh) (st' : St), (Instr.storeAt t (a.eval x) (a.eval y)).run C.E.P w = .ok () w' → Rel C G' st' a w' → Q st' → Did C a w o Q := by
      intro w' G' st' hrun hR hq next QQ hnx
      unfold Oper.wp
      have : (execOp a.eval o).run C.E.P w = .ok .skip w' ∨ (execOp a.eval o).run C.E.P w = .ok (.value undef) w' := by
        simp only [execOp, hop]
        first
          | (left; simp only [Sem.run_bind, hrun, Result.andThen_ok]; rfl)
          | (right; simp only [Sem.run_bind, hrun, Result.andThen_ok]; rfl)
      have hput : ∀ v, a.put o.dst v = a := by intro v; rw [hd]; rfl
      have hnx2 := hnx undef w' G' st'
      rw [hput] at hnx2
      rcases this with e | e <;> rw [e] <;> simp only [Oper.upon] <;> rw [hput] <;> exact hnx2 hR hq
    split at hQ
    · rename_i s o' hx
      rw [hx] at hvx
      split at hQ
      · rename_i cs hs
        cases hb2 : allC Cell.stor yv.cells with
        | false => rw [hb2] at hQ; exact hQ.elim
        | true =>
          rw [hb2] at hQ
          obtain ⟨hle, hQ⟩ := hQ
          have hle := Nat.le_of_ble_eq_true hle
          obtain ⟨cs', h1, h2⟩ := hvx
          rw [hs] at h1; cases h1
          obtain ⟨arr, ty, b1, b2, b3⟩ := h.ob.bxr s cs hs
          have hc := vcells hvy (.inl hb2)
          refine fin _ G _ ?_ (h.putB hs b1 hc (by omega)) hQ
          rw [h2]
          exact run_store hn (by rw [hc.1, hb]) b1 (by omega) (stor_all (ys := []) hvy hb2)
      · exact hQ.elim
    · rename_i k i o' hx
      rw [hx] at hvx
      obtain ⟨r0, b, g1, g2, g3, g4⟩ := hvx
      obtain ⟨arr, ty, b1, b2, b3⟩ := (h.ob.obr k r0 g1).2.2 b g3
      split at hQ
      · split at hQ
        · rename_i r hr
          rw [hr] at g1; cases g1
          cases hb2 : allC Cell.plain yv.cells with
          | false => rw [hb2] at hQ; exact hQ.elim
          | true =>
            rw [hb2] at hQ
            obtain ⟨hle, q, hq, hQ⟩ := hQ
            have hle := Nat.le_of_ble_eq_true hle
            have hst := allC_mono (fun _ => stor_of_plain) hb2
            have hc := vcells hvy (.inl hst)
            obtain ⟨hR, hfit⟩ := h.putE (o' := o') hr g2 g3 b1 ⟨hc.1, fun j u hj => SRep.plain (hc.2 j u hj) (allC_nth hb2 (by have := (Array.getElem?_eq_some_iff.1 hj).1; omega))⟩ hb2 (by omega) hq
            refine fin _ G _ ?_ hR hQ
            rw [g4]
            exact run_store hn (by rw [hc.1, hb]) b1 (by have : (a.eval y).cells.toList.length = n := by simp [hc.1, hb]
                                                         omega) (stor_all (ys := []) hvy hst)
        · exact hQ.elim
      · rename_i j k2 hown
        split at hQ
        · rename_i r2 hr2
          split at hQ
          · rename_i r hr
            rw [hr] at g1
            have e9 := Option.some.inj g1
            subst e9
            cases hb2 : allC Cell.plain (repl yv.cells j (.bool true)) && (r.deep && (!r2.deep && !(Nat.beq k k2))) with
            | false => rw [hb2] at hQ; exact hQ.elim
            | true =>
              rw [hb2] at hQ
              simp only [Bool.and_eq_true, Bool.not_eq_true'] at hb2
              obtain ⟨hb3, hdp, hfl, hne⟩ := hb2
              obtain ⟨hle, q, hq, hQ⟩ := hQ
              have hle := Nat.le_of_ble_eq_true hle
              have hne2 : k ≠ k2 := fun e => by subst e; rw [beq_self] at hne; cases hne
              obtain ⟨hj, m, hjo⟩ := ownAt_spec hown
              have hst : allC Cell.stor yv.cells = true := by
                have : ∀ (l : List Cell) (j : Nat) (m : Nat), allC Cell.plain (repl l j (.bool true)) = true → nth l j = .own k2 m → allC Cell.stor l = true := by
                  intro l
                  induction l with
                  | nil => intro _ _ _ _; rfl
                  | cons c l ih =>
                    intro j m h1 h2
                    cases j with
                    | zero =>
                      simp only [repl, allC, Bool.and_eq_true] at h1 ⊢
                      have : c = .own k2 m := h2
                      subst this
                      exact ⟨rfl, allC_mono (fun _ => stor_of_plain) h1.2⟩
                    | succ j =>
                      simp only [repl, allC, Bool.and_eq_true] at h1 ⊢
                      exact ⟨stor_of_plain h1.1, ih j m h1.2 h2⟩
                exact this _ j m hb3 hjo
              have hc := vcells hvy (.inl hst)
              obtain ⟨G', hR, hfit⟩ := h.putM (o' := o') hr g2 g3 b1 hc hown hr2 hne2 hdp hfl hb3 (by omega) hq
              refine fin _ G' _ ?_ hR hQ
              rw [g4]
              exact run_store hn (by rw [hc.1, hb]) b1 (by have : (a.eval y).cells.toList.length = n := by simp [hc.1, hb]
                                                           omega) (stor_all (ys := []) hvy hst)
          · exact hQ.elim
        · exact hQ.elim
    · exact hQ.elim

theorem Owes.did (h : Rel C G st a w) {o : Oper} {Q : St → Prop} (hO : Owes C st st a w o fun t ob bx => Q ((st.add ob bx).put o.dst t)) : Did C a w o Q := by
  obtain ⟨t, ob', bx', hK, h1, h2, h3⟩ := hO
  intro next QQ hn
  refine h3 h1 h2 next QQ (fun v w' G' hR ht => ?_)
  exact hn v w' G' _ (hR.put ht) hK

theorem chk_st {P : Program} {op : Op} {n : Nat} {x y : CA} (h : chkOp P op (.st n x y) = true) : ∃ t x' y', op = .store t x' y' := by
  cases op <;> first | exact ⟨_, _, _, rfl⟩ | (simp [chkOp] at h)
theorem chk_app {P : Program} {op : Op} {n m : Nat} {x y : CA} (h : chkOp P op (.app n m x y) = true) : ∃ c, op = .call c := by
  cases op <;> first | exact ⟨_, rfl⟩ | (simp [chkOp] at h)
theorem chk_call {P : Program} {op : Op} {b : Bool} {f : Nat} {x : List CA} (h : chkOp P op (.call b f x) = true) : ∃ c, op = .call c := by
  cases op <;> first | exact ⟨_, rfl⟩ | (simp [chkOp] at h)
theorem chk_bsl1 {P : Program} {op : Op} {x : CA} (h : chkOp P op (.bsl1 x) = true) : ∃ t len ps, op = .buildSlice t len ps := by
  cases op <;> first | exact ⟨_, _, _, rfl⟩ | (simp [chkOp] at h)
theorem chk_slcO {P : Program} {op : Op} {n : Nat} {x : CA} {lo hi : Option CA} (h : chkOp P op (.slcO n x lo hi) = true) : ∃ t x' lo' hi', op = .slice t x' lo' hi' none := by
  cases op with
  | slice t x' lo' hi' mx =>
    cases mx with
    | none => exact ⟨_, _, _, _, rfl⟩
    | some m => simp [chkOp] at h
  | _ => simp [chkOp] at h

theorem chk_isn {P : Program} {op : Op} {y : CA} (h : chkOp P op (.isn y) = true) : ∃ t x b c ty e, op = .binOp .eql t x (.const (.slice none b c)) ty ∧ chkA x y = true ∧ P.underlying t = some (.slice e) := by
  unfold chkOp at h
  split at h
  all_goals first
    | contradiction
    | (rename_i h2
       simp only [COp.isn.injEq] at h2
       subst h2
       simp only [Bool.and_eq_true] at h
       obtain ⟨h1, h3⟩ := h
       split at h3
       · exact ⟨_, _, _, _, _, _, rfl, h1, by assumption⟩
       · cases h3)
theorem run_eqNil {P : Program} {t e : TypeId} (hu : P.underlying t = some (.slice e)) {bs : Option Addr} {n c b' c' : Nat} (w : World) : ∀ d, d ≠ 0 → (Op.equalIn d t (.slice bs n c) (.slice none b' c')).run P w = .ok bs.isNone w
  | 0, h => (h rfl).elim
  | d + 1, _ => by
    simp only [Op.equalIn, Sem.run_bind, run_underlying hu, Result.andThen_ok]
    cases bs <;> rfl
theorem isn_ok (h : Rel C G st a w) (o : Oper) {y : CA} (hchk : chkOp C.E.P o.op (.isn y) = true) {Q : St → Prop} (hQ : wo C.E o.dst (.isn y) st Q) : Did C a w o Q := by
  obtain ⟨t, x, b, c, ty, e, hop, h1, hu⟩ := chk_isn hchk
  simp only [wo] at hQ
  split at hQ
  · rename_i sz n g he
    have V := View.self h [y]
    have k1 := V.ev h1 (by simp)
    rw [he] at k1
    have k1 : CRep C.w0 C.I (a.eval x) (.ro sz n g) := k1
    have key : ∀ bs m cp, a.eval x = .slice bs m cp → (bs = none → n = 0) → Did C a w o Q := by
      intro bs m cp e1 e2
      refine Owes.did h (Owes.pure h (t := one (.bool bs.isNone)) (v := .bool bs.isNone) ?_ ?_ mk_bool)
      · cases bs with
        | none => exact hQ.2 (e2 rfl)
        | some p => exact hQ.1
      · simp only [execOp, hop]
        refine run_v ?_
        rw [e1]
        have heq : ∀ w : World, (Op.equal t (.slice bs m cp) (.slice none b c)).run C.E.P w = .ok bs.isNone w := fun w => run_eqNil hu w Op.maxDepth (by decide)
        have he2 : a.eval (.const (.slice none b c)) = .slice none b c := rfl
        rw [he2]
        simp only [eqGuard, Go.binOp, Sem.run_bind]
        simp only [Bool.not_true, Bool.false_eq_true, if_false, heq, run_ok, Result.andThen_ok]
    generalize a.eval x = vv at k1 key
    cases k1 with
    | ro0 b' c' => exact key _ _ _ rfl fun _ => rfl
    | ro b' o' c' => exact key _ _ _ rfl fun hh => by cases hh
  · exact hQ.elim

theorem wo_ok (h : Rel C G st a w) (o : Oper) (co : COp) (hchk : chkOp C.E.P o.op co = true) {Q : St → Prop} (hQ : wo C.E o.dst co st Q) : Did C a w o Q := by
  have other : val C.E st o.dst co (fun t ob bx => Q ((st.add ob bx).put o.dst t)) → Did C a w o Q :=
    fun hv => Owes.did h (val_ok h o co hchk (View.self h _) hv)
  cases co with
  | st n x y =>
    obtain ⟨t, x', y', hop⟩ := chk_st hchk
    exact st_ok h o hop (by rw [hop] at hchk; exact hchk) hQ
  | app sz bytes x y =>
    obtain ⟨c, hop⟩ := chk_app hchk
    exact app_ok h o hop (by rw [hop] at hchk; exact hchk) hQ
  | bsl1 x =>
    obtain ⟨t, len, ps, hop⟩ := chk_bsl1 hchk
    exact bsl1_ok h o hop (by rw [hop] at hchk; exact hchk) hQ
  | slcO sz x lo hi =>
    obtain ⟨t, x', lo', hi', hop⟩ := chk_slcO hchk
    exact slcO_ok h o hop (by rw [hop] at hchk; exact hchk) hQ
  | call ref f xs =>
    cases ref with
    | false => exact other hQ
    | true =>
      obtain ⟨c, hop⟩ := chk_call hchk
      exact callR_ok h o hop (by rw [hop] at hchk; exact hchk) hQ
  | isn y => exact isn_ok h o hchk hQ
  | callv y ys =>
    simp only [wo] at hQ
    split at hQ
    · rename_i f k n i m sz get e
      split at hQ
      case h_2 => exact hQ.elim
      rename_i as ob ts hl
      cases hon : onceKey ts && onceL ob with
      | false => rw [hon] at hQ; exact hQ.elim
      | true => rw [hon] at hQ; exact callvX_ok h o hchk e hl hon hQ
    · exact other hQ
  | _ => exact other hQ

/-! ### the operations of a region -/
def chkI (P : Program) (ops : Array Oper) (o : Oper) (i : CI) : Bool :=
  decide (o.dst = i.dst) && chkOp P o.op i.op && match o.guard, i.guard with
    | none, none => true
    | some (j, b), some (s, b') => (b == b') && decide ((ops[j]?).bind (·.dst) = some s)
    | _, _ => false

theorem yielded_of (h : Rel C G st a w) {ops : Array Oper} {j s : Nat} (hj : (ops[j]?).bind (·.dst) = some s) :
    (∀ c, getL st.tm s = .v (.one (.bool c)) → yielded ops a.tmps j = some c) ∧ (getL st.tm s = .v (.one .sk) → yielded ops a.tmps j = none) := by
  have hs := h.tm s
  refine ⟨fun c e => ?_, fun e => ?_⟩
  · rw [e] at hs
    have hs := rep_bool hs
    have hlt : s < a.tmps.size := by
      by_cases hlt : s < a.tmps.size
      · exact hlt
      · rw [getL_out _ _ (by rw [← h.sz]; omega)] at e; cases e
    have : a.tmps[s]? = some (.bool c) := by
      rw [Array.getD_eq_getD_getElem?] at hs
      simp [hlt] at hs ⊢; exact hs
    simp only [yielded, hj, Option.bind_some, this]
  · rw [e] at hs
    have hs := rep_sk hs
    simp only [yielded, hj, Option.bind_some]
    cases hx : a.tmps[s]? with
    | none => rfl
    | some u =>
      rw [Array.getD_eq_getD_getElem?, hx] at hs
      simp only [Option.getD_some] at hs
      subst hs; rfl

theorem wi_ok (h : Rel C G st a w) {ops : Array Oper} {k : Nat} {o : Oper} (hk : ops[k]? = some o) {i : CI} (hc : chkI C.E.P ops o i = true) {Q : St → Prop} (hQ : wi C.E i st Q)
    {K : Act → World → Prop} {QQ : Exit → Act → World → Prop} (hn : ∀ a' w' G' st', Rel C G' st' a' w' → Q st' → K a' w') : wpOp C.E.P ops QQ k K a w := by
  simp only [chkI, Bool.and_eq_true, decide_eq_true_eq] at hc
  obtain ⟨⟨hd, ho⟩, hg⟩ := hc
  have run : wo C.E i.dst i.op st Q → o.wp C.E.P a w K QQ := by
    intro hq
    rw [← hd] at hq
    exact wo_ok h o i.op ho hq K QQ (fun v w' G' st' hR hq => hn _ w' G' st' hR hq)
  have skip : Q (st.put i.dst (one .sk)) → K (a.put o.dst undef) w := by
    intro hq
    refine hn _ w G _ (h.put (d := o.dst) (t := one .sk) (v := undef) CRep.sk) (by rw [hd]; exact hq)
  unfold wpOp
  rw [hk]
  simp only
  unfold wi at hQ
  split at hg
  · rename_i e1 e2
    rw [e2] at hQ
    have : Region.wanted o (yielded ops a.tmps) = true := by unfold Region.wanted; rw [e1]
    rw [if_pos this]
    exact .inl (run hQ)
  · rename_i j b s b' e1 e2
    simp only [Bool.and_eq_true, beq_iff_eq, decide_eq_true_eq] at hg
    obtain ⟨rfl, hj⟩ := hg
    obtain ⟨y1, y2⟩ := yielded_of h hj
    rw [e2] at hQ
    cases b with
    | true =>
      simp only at hQ
      split at hQ
      · rename_i c e
        cases c with
        | true =>
          have : Region.wanted o (yielded ops a.tmps) = true := by unfold Region.wanted; rw [e1]; simp [y1 _ e]
          rw [if_pos this]; exact .inl (run (hQ.1 rfl))
        | false =>
          have : ¬ Region.wanted o (yielded ops a.tmps) = true := by unfold Region.wanted; rw [e1]; simp [y1 _ e]
          rw [if_neg this]; exact skip (hQ.2 rfl)
      · rename_i e
        have : ¬ Region.wanted o (yielded ops a.tmps) = true := by unfold Region.wanted; rw [e1]; simp [y2 e]
        rw [if_neg this]; exact skip hQ
      · exact hQ.elim
    | false =>
      simp only at hQ
      split at hQ
      · rename_i c e
        cases c with
        | false =>
          have : Region.wanted o (yielded ops a.tmps) = true := by unfold Region.wanted; rw [e1]; simp [y1 _ e]
          rw [if_pos this]; exact .inl (run (hQ.2 rfl))
        | true =>
          have : ¬ Region.wanted o (yielded ops a.tmps) = true := by unfold Region.wanted; rw [e1]; simp [y1 _ e]
          rw [if_neg this]; exact skip (hQ.1 rfl)
      · rename_i e
        have : ¬ Region.wanted o (yielded ops a.tmps) = true := by unfold Region.wanted; rw [e1]; simp [y2 e]
        rw [if_neg this]; exact skip hQ
      · exact hQ.elim
  · cases hg

/-- the check of operations `k`, `k + 1`, .. -/
def chkIs (P : Program) (ops : Array Oper) : Nat → List CI → Bool
  | k, [] => Nat.beq k ops.size
  | k, i :: l => (match ops[k]? with
    | some o => chkI P ops o i
    | none => false) && chkIs P ops (k + 1) l

theorem wis_ok {ops : Array Oper} {QQ : Exit → Act → World → Prop} {Q : St → Prop} (hn : ∀ a' w' G' st', Rel C G' st' a' w' → Q st' → QQ .normal a' w') :
    ∀ (l : List CI) (k : Nat) (G : Gh) (st : St) (a : Act) (w : World), chkIs C.E.P ops k l = true → Rel C G st a w → wis C.E l st Q → wpOps C.E.P ops QQ ((List.range (ops.size - k)).map (k + ·)) a w
  | [], k, G, st, a, w, hc, h, hQ => by
    have : ops.size - k = 0 := by have := Nat.eq_of_beq_eq_true hc; omega
    rw [this]
    exact hn a w G st h hQ
  | i :: l, k, G, st, a, w, hc, h, hQ => by
    simp only [chkIs, Bool.and_eq_true] at hc
    obtain ⟨h1, h2⟩ := hc
    split at h1
    case h_2 => cases h1
    rename_i o ho
    have hk : k < ops.size := (Array.getElem?_eq_some_iff.1 ho).1
    have e : (List.range (ops.size - k)).map (k + ·) = k :: (List.range (ops.size - (k + 1))).map (k + 1 + ·) := by
      rw [show ops.size - k = (ops.size - (k + 1)) + 1 by omega, List.range_succ_eq_map]
      simp only [List.map_cons, List.map_map, Nat.add_zero]
      congr 1
      apply List.map_congr_left
      intro x _
      simp only [Function.comp]; omega
    rw [e, wpOps_cons]
    exact wi_ok h ho h1 hQ (fun a' w' G' st' hR hq => wis_ok hn l (k + 1) G' st' a' w' h2 hR hq)
end
end Go.Proofs.YtjnpnpkjmlihdaaDoor.Ab
namespace Go.Proofs.YtjnpnpkjmlihdaaDoor.Ab
open Go Go.RowKit

/-! ### the check -/
def slots : List CA → List Nat
  | [] => []
  | .t s :: l => s :: slots l
  | _ :: l => slots l
def reads (i : CI) : List Nat := slots i.op.args ++ match i.guard with
  | some (s, _) => [s]
  | none => []
def memN (x : Nat) : List Nat → Bool
  | [] => false
  | y :: l => Nat.beq y x || memN x l
def dstIn (i : CI) (l : List Nat) : Bool := match i.dst with
  | some s => memN s l
  | none => false
def sameDst (i j : CI) : Bool := match i.dst, j.dst with
  | some s, some t => Nat.beq s t
  | _, _ => false
def afterOf (o : Oper) : List Nat := (o.after.toList.filter fun e => Region.binds .any e).map (·.on)
def confAt (ops : Array Oper) (is : List CI) (j i : Nat) : Bool :=
  match is[i]?, is[j]?, ops[j]? with
  | some x, some y, some o => (!(dstIn x (reads y) || dstIn y (reads x)) || memN i (afterOf o)) && !sameDst x y
  | _, _, _ => false
def chkD (ops : Array Oper) (is : List CI) : Bool := (List.range is.length).all fun j => (List.range j).all fun i => confAt ops is j i
def chkE (ops : Array Oper) : Bool := (List.range ops.size).all fun j => match ops[j]? with
  | some o => o.after.toList.all fun e => !(Region.binds .any e) || Nat.blt e.on j
  | none => false
/-- what an operation comes behind, however far -/
def addN (l S : List Nat) : List Nat := l.foldr (fun x S => bif memN x S then S else x :: S) S
def cloL (ops : Array Oper) : Nat → List Nat → List Nat
  | 0, S => S
  | n + 1, S => cloL ops n (bif memN n S then (match ops[n]? with
    | some o => addN (afterOf o) S
    | none => S) else S)
def chkTl (ops : Array Oper) (m : Nat) : Bool := (List.range ops.size).all fun j => Nat.blt j m || match ops[j]? with
  | some o => ((List.range j).all fun i => memN i (afterOf o)) || ((List.range j).all fun i => memN i (cloL ops j (afterOf o)))
  | none => false
def Cell.nokey : Cell → Bool
  | .own .. | .own1 .. | .box .. | .elt .. | .elt1 .. | .fn .. | .fr .. | .pb .. | .fnx .. => false
  | _ => true
def nokeyA : CA → Bool
  | .k (.v (.one c)) => c.nokey
  | .k (.v (.agg cs)) => allC Cell.nokey cs
  | _ => true
def nokeyAs : List CA → Bool
  | [] => true
  | x :: l => nokeyA x && nokeyAs l
def chkKs : List CI → Bool
  | [] => true
  | i :: l => nokeyAs i.op.args && chkKs l
def chkDrw (P : Program) (ops : Array Oper) (is tl : List CI) : Bool :=
  P.follows .mixedOrders && chkIs P ops 0 (is ++ tl) && chkD ops is && chkE ops && chkTl ops is.length && chkKs is

theorem memN_mem {x : Nat} {l : List Nat} : memN x l = true ↔ x ∈ l := by
  induction l with
  | nil => simp [memN]
  | cons y l ih =>
    simp only [memN, Bool.or_eq_true, ih, List.mem_cons]
    constructor
    · rintro (h | h)
      · exact .inl (Nat.eq_of_beq_eq_true h).symm
      · exact .inr h
    · rintro (h | h)
      · exact .inl (by rw [h]; exact beq_self _)
      · exact .inr h
theorem mem_slots {l : List CA} {s : Nat} : CA.t s ∈ l → s ∈ slots l := by
  induction l with
  | nil => simp
  | cons x l ih =>
    intro h
    rcases List.mem_cons.1 h with h | h2
    · subst h; simp [slots]
    · cases x <;> simp [slots, ih h2]

structure ChkD (ops : Array Oper) (is : List CI) : Prop where
  conf : ∀ (i j : Nat) (x y : CI) (o : Oper) (s : Nat), i < j → is[i]? = some x → is[j]? = some y → ops[j]? = some o → (x.dst = some s ∧ s ∈ reads y ∨ y.dst = some s ∧ s ∈ reads x) → ∃ e ∈ o.after, e.on = i ∧ Region.binds .any e = true
  dist : ∀ (i j : Nat) (x y : CI) (s : Nat), i < j → is[i]? = some x → is[j]? = some y → x.dst = some s → y.dst ≠ some s

theorem chkD_spec {ops : Array Oper} {is : List CI} (h : chkD ops is = true) : ChkD ops is := by
  unfold chkD at h
  simp only [List.all_eq_true, List.mem_range] at h
  have key : ∀ (i j : Nat) (x y : CI), i < j → is[i]? = some x → is[j]? = some y → confAt ops is j i = true := by
    intro i j x y hij hi hj
    exact h j (List.getElem?_eq_some_iff.1 hj).1 i hij
  constructor
  · intro i j x y o s hij hi hj ho hc
    have hk := key i j x y hij hi hj
    unfold confAt at hk
    rw [hi, hj, ho] at hk
    simp only [Bool.and_eq_true, Bool.or_eq_true, Bool.not_eq_true'] at hk
    have hc' : (dstIn x (reads y) || dstIn y (reads x)) = true := by
      rcases hc with ⟨h1, h2⟩ | ⟨h1, h2⟩
      · simp [dstIn, h1, memN_mem.2 h2]
      · simp [dstIn, h1, memN_mem.2 h2]
    rcases hk.1 with h1 | h1
    · rw [hc'] at h1; cases h1
    · have := memN_mem.1 h1
      simp only [afterOf, List.mem_map, List.mem_filter] at this
      obtain ⟨e, he, h2⟩ := this
      exact ⟨e, by simpa using he.1, h2, he.2⟩
  · intro i j x y s hij hi hj hx hy
    have hk := key i j x y hij hi hj
    unfold confAt at hk
    rw [hi, hj] at hk
    cases ho : ops[j]? with
    | none => rw [ho] at hk; cases hk
    | some o =>
      rw [ho] at hk
      simp only [Bool.and_eq_true, Bool.not_eq_true'] at hk
      have := hk.2
      simp [sameDst, hx, hy] at this

/-! ### the outcomes, one after the other -/
structure Pt where
  t : T
  ob : Ob
  bx : Bx

section
variable {E : Env}

/-- `M`: what stood when it was told -/
def Good (E : Env) (M : St) (i : CI) (p : Pt) : Prop :=
  ∀ (st2 : St) (K' : T → Ob → Bx → Prop), (∀ s ∈ reads i, getL st2.tm s = getL M.tm s) → Agree M st2 → (∀ x ∈ i.op.args, AliveT st2 (ev E st2 x)) → (∀ k r, lk p.ob k = some r → lk st2.ob k = none) →
    (∀ s cs, lk p.bx s = some cs → lk st2.bx s = none) → K' p.t p.ob p.bx → vi E i st2 st2.tm K'

theorem vi_pt {i : CI} {tm : List T} {bx : Bx} {ob : Ob} {K : T → Ob → Bx → Prop} (h : vi E i ⟨[], bx, ob⟩ tm K) : ∃ p : Pt, K p.t p.ob p.bx ∧ Good E ⟨tm, bx, ob⟩ i p := by
  have run : val E ⟨tm, bx, ob⟩ i.dst i.op K → ∃ p : Pt, K p.t p.ob p.bx ∧ ∀ (st2 : St) (K' : T → Ob → Bx → Prop), (∀ s ∈ reads i, getL st2.tm s = getL tm s) → Agree ⟨tm, bx, ob⟩ st2 → (∀ x ∈ i.op.args, AliveT st2 (ev E st2 x)) →
      (∀ k r, lk p.ob k = some r → lk st2.ob k = none) → (∀ s cs, lk p.bx s = some cs → lk st2.bx s = none) → K' p.t p.ob p.bx → val E st2 i.dst i.op K' := by
    intro hv
    obtain ⟨t, ob', bx', h1, h2⟩ := val_pt hv
    refine ⟨⟨t, ob', bx'⟩, h1, fun st2 K' hs A ha hf1 hf2 hk => h2 st2 K' (fun s hm => ?_) A ha hf1 hf2 hk⟩
    exact hs s (by unfold reads; exact List.mem_append_left _ (mem_slots hm))
  have hin : ∀ s b, i.guard = some (s, b) → s ∈ reads i := by
    intro s b e
    unfold reads
    rw [e]; simp
  unfold vi at h
  split at h
  · rename_i e
    obtain ⟨p, h1, h2⟩ := run h
    refine ⟨p, h1, fun st2 K' hs A ha hf1 hf2 hk => ?_⟩
    unfold vi; rw [e]; exact h2 st2 K' hs A ha hf1 hf2 hk
  · rename_i s e
    split at h
    · rename_i c e2
      cases c with
      | true =>
        obtain ⟨p, h1, h2⟩ := run (h.1 rfl)
        refine ⟨p, h1, fun st2 K' hs A ha hf1 hf2 hk => ?_⟩
        unfold vi; rw [e]; simp only; rw [hs s (hin s _ e)]; simp only; rw [e2]
        exact ⟨fun _ => h2 st2 K' hs A ha hf1 hf2 hk, fun h => (by cases h)⟩
      | false =>
        refine ⟨⟨one .sk, [], []⟩, h.2 rfl, fun st2 K' hs A ha hf1 hf2 hk => ?_⟩
        unfold vi; rw [e]; simp only; rw [hs s (hin s _ e)]; simp only; rw [e2]
        exact ⟨fun h => (by cases h), fun _ => hk⟩
    · rename_i e2
      refine ⟨⟨one .sk, [], []⟩, h, fun st2 K' hs A ha hf1 hf2 hk => ?_⟩
      unfold vi; rw [e]; simp only; rw [hs s (hin s _ e)]; simp only; rw [e2]
      exact hk
    · exact h.elim
  · rename_i s e
    split at h
    · rename_i c e2
      cases c with
      | false =>
        obtain ⟨p, h1, h2⟩ := run (h.2 rfl)
        refine ⟨p, h1, fun st2 K' hs A ha hf1 hf2 hk => ?_⟩
        unfold vi; rw [e]; simp only; rw [hs s (hin s _ e)]; simp only; rw [e2]
        exact ⟨fun h => (by cases h), fun _ => h2 st2 K' hs A ha hf1 hf2 hk⟩
      | true =>
        refine ⟨⟨one .sk, [], []⟩, h.1 rfl, fun st2 K' hs A ha hf1 hf2 hk => ?_⟩
        unfold vi; rw [e]; simp only; rw [hs s (hin s _ e)]; simp only; rw [e2]
        exact ⟨fun _ => hk, fun h => (by cases h)⟩
    · rename_i e2
      refine ⟨⟨one .sk, [], []⟩, h, fun st2 K' hs A ha hf1 hf2 hk => ?_⟩
      unfold vi; rw [e]; simp only; rw [hs s (hin s _ e)]; simp only; rw [e2]
      exact hk
    · exact h.elim

def setO (tm : List T) (d : Option Nat) (t : T) : List T := match d with
  | some s => setL tm s t
  | none => tm
theorem length_setO (tm : List T) (d : Option Nat) (t : T) : (setO tm d t).length = tm.length := by
  cases d with
  | none => rfl
  | some s => exact length_setL _ _ _
theorem getL_setO (tm : List T) (d : Option Nat) (t : T) (s : Nat) : getL (setO tm d t) s = if d = some s ∧ s < tm.length then t else getL tm s := by
  cases d with
  | none => simp [setO]
  | some s' =>
    simp only [setO, getL_setL, Option.some.injEq]
    by_cases e : s' = s
    · subst e; rfl
    · simp [e]

/-- the outcomes `ps` of the operations `is`; `tmF`, `obF`, `bxF`: what stands then -/
inductive Tr (E : Env) : List CI → List T → Ob → Bx → List Pt → List T → Ob → Bx → Prop
  | nil (tm : List T) (ob : Ob) (bx : Bx) : Tr E [] tm ob bx [] tm ob bx
  | cons (i : CI) (l : List CI) (tm : List T) (ob : Ob) (bx : Bx) (p : Pt) (ps : List Pt) (tmF : List T) (obF : Ob) (bxF : Bx) (hg : Good E ⟨tm, bx, ob⟩ i p) (hf : freshL ob p.ob = true) (hf2 : freshL bx p.bx = true)
      (ht : Tr E l (setO tm i.dst p.t) (p.ob ++ ob) (p.bx ++ bx) ps tmF obF bxF) : Tr E (i :: l) tm ob bx (p :: ps) tmF obF bxF

theorem vis_tr : ∀ {is : List CI} {tm : List T} {ob : Ob} {bx : Bx} {Q : List T → Ob → Bx → Prop}, vis E is tm ob bx Q → ∃ ps tmF obF bxF, Tr E is tm ob bx ps tmF obF bxF ∧ Q tmF obF bxF
  | [], tm, ob, bx, Q, h => ⟨[], tm, ob, bx, .nil _ _ _, h⟩
  | i :: l, tm, ob, bx, Q, h => by
    simp only [vis] at h
    obtain ⟨p, h1, h2⟩ := vi_pt h
    cases e : freshL ob p.ob && freshL bx p.bx with
    | false => rw [e] at h1; exact h1.elim
    | true =>
      rw [e] at h1
      simp only [Bool.and_eq_true] at e
      obtain ⟨ps, tmF, obF, bxF, h3, h4⟩ := vis_tr h1
      exact ⟨p :: ps, tmF, obF, bxF, .cons _ _ _ _ _ _ _ _ _ _ h2 e.1 e.2 h3, h4⟩

theorem Tr.len {is : List CI} {tm : List T} {ob : Ob} {bx : Bx} {ps : List Pt} {tmF : List T} {obF : Ob} {bxF : Bx} (h : Tr E is tm ob bx ps tmF obF bxF) : ps.length = is.length ∧ tmF.length = tm.length := by
  induction h with
  | nil => exact ⟨rfl, rfl⟩
  | cons i l tm ob bx p ps tmF obF bxF hg hf hf2 ht ih => exact ⟨by simp [ih.1], by rw [ih.2, length_setO]⟩

/-- the temporaries before the j-th, and at the end (`j`: their number) -/
def Upto (is : List CI) (ps : List Pt) (tm tmj : List T) (j : Nat) : Prop :=
  tmj.length = tm.length ∧ (∀ s, (∀ (k : Nat) x, k < j → is[k]? = some x → x.dst ≠ some s) → getL tmj s = getL tm s) ∧
  (∀ (k : Nat) x p s, k < j → is[k]? = some x → ps[k]? = some p → x.dst = some s → s < tm.length → (∀ (k' : Nat) x', k < k' → k' < j → is[k']? = some x' → x'.dst ≠ some s) → getL tmj s = p.t)

theorem Upto.step {i : CI} {is : List CI} {p : Pt} {ps : List Pt} {tm tmj : List T} {j : Nat} (h : Upto is ps (setO tm i.dst p.t) tmj j) : Upto (i :: is) (p :: ps) tm tmj (j + 1) := by
  obtain ⟨h1, h2, h3⟩ := h
  rw [length_setO] at h1 h3
  refine ⟨h1, fun s hs => ?_, fun k x q s hk hx hq hd hlt hlast => ?_⟩
  · rw [h2 s (fun k x hk hx => hs (k + 1) x (by omega) (by simpa using hx)), getL_setO]
    rw [if_neg]
    intro hh
    exact hs 0 i (by omega) (by simp) hh.1
  · cases k with
    | zero =>
      simp only [List.getElem?_cons_zero, Option.some.injEq] at hx hq
      subst hx; subst hq
      rw [h2 s (fun k' x' hk' hx' => hlast (k' + 1) x' (by omega) (by omega) (by simpa using hx')), getL_setO, if_pos ⟨hd, hlt⟩]
    | succ k =>
      exact h3 k x q s (by omega) (by simpa using hx) (by simpa using hq) hd hlt (fun k' x' a1 a2 a3 => hlast (k' + 1) x' (by omega) (by omega) (by simpa using a3))

theorem lk_app_some {α : Type} {a b : List (Nat × α)} {k : Nat} {x : α} (h : lk (a ++ b) k = some x) : lk a k = some x ∨ (lk a k = none ∧ lk b k = some x) := by
  rw [lk_append] at h
  cases e : lk a k with
  | some y => rw [e] at h; exact .inl h
  | none => rw [e] at h; exact .inr ⟨rfl, h⟩
theorem lk_app_left {α : Type} {a b : List (Nat × α)} {k : Nat} {x : α} (h : lk a k = some x) : lk (a ++ b) k = some x := by
  rw [lk_append, h]; rfl
theorem lk_app_right {α : Type} {a b : List (Nat × α)} {k : Nat} {x : α} (ha : lk a k = none) (h : lk b k = some x) : lk (a ++ b) k = some x := by
  rw [lk_append, ha, h]; rfl

theorem Tr.at {is : List CI} {tm : List T} {ob : Ob} {bx : Bx} {ps : List Pt} {tmF : List T} {obF : Ob} {bxF : Bx} (h : Tr E is tm ob bx ps tmF obF bxF) :
    (∀ (j : Nat) i p, is[j]? = some i → ps[j]? = some p → ∃ tmj obj bxj, Good E ⟨tmj, bxj, obj⟩ i p ∧ Upto is ps tm tmj j ∧
      (∀ k r, lk obj k = some r → lk ob k = some r ∨ ∃ (j' : Nat) (p' : Pt), ps[j']? = some p' ∧ lk p'.ob k = some r) ∧
      ∀ k r, lk bxj k = some r → lk bx k = some r ∨ ∃ (j' : Nat) (p' : Pt), ps[j']? = some p' ∧ lk p'.bx k = some r) ∧ Upto is ps tm tmF is.length := by
  induction h with
  | nil tm ob bx => exact ⟨fun j i p hi => (by simp at hi), rfl, fun _ _ => rfl, fun k x p s hk => (by simp at hk)⟩
  | cons i l tm ob bx p ps tmF obF bxF hg hf hf2 ht ih =>
    refine ⟨fun j i' p' hi hp => ?_, ih.2.step⟩
    cases j with
    | zero =>
      simp only [List.getElem?_cons_zero, Option.some.injEq] at hi hp
      subst hi; subst hp
      exact ⟨tm, ob, bx, hg, ⟨rfl, fun _ _ => rfl, fun k x p s hk => by omega⟩, fun k r hr => .inl hr, fun k r hr => .inl hr⟩
    | succ j =>
      obtain ⟨tmj, obj, bxj, h1, h2, h3, h4⟩ := ih.1 j i' p' (by simpa using hi) (by simpa using hp)
      refine ⟨tmj, obj, bxj, h1, h2.step, fun k r hr => ?_, fun k r hr => ?_⟩
      · rcases h3 k r hr with e | ⟨j', p2, q1, q2⟩
        · rcases lk_app_some e with e | ⟨_, e⟩
          · exact .inr ⟨0, p, by simp, e⟩
          · exact .inl e
        · exact .inr ⟨j' + 1, p2, by simpa using q1, q2⟩
      · rcases h4 k r hr with e | ⟨j', p2, q1, q2⟩
        · rcases lk_app_some e with e | ⟨_, e⟩
          · exact .inr ⟨0, p, by simp, e⟩
          · exact .inl e
        · exact .inr ⟨j' + 1, p2, by simpa using q1, q2⟩

/-- what is made has names of its own -/
theorem Tr.names {is : List CI} {tm : List T} {ob : Ob} {bx : Bx} {ps : List Pt} {tmF : List T} {obF : Ob} {bxF : Bx} (h : Tr E is tm ob bx ps tmF obF bxF) :
    (∀ (j : Nat) p k r, ps[j]? = some p → lk p.ob k = some r → lk ob k = none ∧ ∀ (j' : Nat) p', j' ≠ j → ps[j']? = some p' → lk p'.ob k = none) ∧
    (∀ (j : Nat) p k r, ps[j]? = some p → lk p.bx k = some r → lk bx k = none ∧ ∀ (j' : Nat) p', j' ≠ j → ps[j']? = some p' → lk p'.bx k = none) ∧
    (∀ k r, lk obF k = some r ↔ lk ob k = some r ∨ ∃ (j : Nat) (p : Pt), ps[j]? = some p ∧ lk p.ob k = some r) ∧
    (∀ k r, lk bxF k = some r ↔ lk bx k = some r ∨ ∃ (j : Nat) (p : Pt), ps[j]? = some p ∧ lk p.bx k = some r) := by
  induction h with
  | nil tm ob bx =>
    refine ⟨fun j p k r h => (by simp at h), fun j p k r h => (by simp at h), fun k r => ⟨.inl, ?_⟩, fun k r => ⟨.inl, ?_⟩⟩
    · rintro (h | ⟨j, p, h, _⟩)
      · exact h
      · simp at h
    · rintro (h | ⟨j, p, h, _⟩)
      · exact h
      · simp at h
  | cons i l tm ob bx p ps tmF obF bxF hg hf hf2 ht ih =>
    obtain ⟨i1, i2, i3, i4⟩ := ih
    have fr1 : ∀ k r, lk p.ob k = some r → lk ob k = none := fun k r h => freshL_none hf h
    have fr2 : ∀ k r, lk p.bx k = some r → lk bx k = none := fun k r h => freshL_none hf2 h
    have none_app : ∀ {α : Type} {a b : List (Nat × α)} {k : Nat}, lk (a ++ b) k = none → lk a k = none ∧ lk b k = none := by
      intro α a b k h
      rw [lk_append] at h
      cases e : lk a k with
      | some y => rw [e] at h; cases h
      | none => rw [e] at h; exact ⟨rfl, h⟩
    refine ⟨fun j q k r hq hk => ?_, fun j q k r hq hk => ?_, fun k r => ⟨fun h => ?_, ?_⟩, fun k r => ⟨fun h => ?_, ?_⟩⟩
    · cases j with
      | zero =>
        simp only [List.getElem?_cons_zero, Option.some.injEq] at hq
        subst hq
        refine ⟨fr1 k r hk, fun j' p' hne hp' => ?_⟩
        cases j' with
        | zero => exact absurd rfl hne
        | succ j' =>
          cases e : lk p'.ob k with
          | none => rfl
          | some r' =>
            have := (none_app (i1 j' p' k r' (by simpa using hp') e).1).1
            rw [hk] at this; cases this
      | succ j =>
        obtain ⟨h1, h2⟩ := i1 j q k r (by simpa using hq) hk
        refine ⟨(none_app h1).2, fun j' p' hne hp' => ?_⟩
        cases j' with
        | zero => simp only [List.getElem?_cons_zero, Option.some.injEq] at hp'; subst hp'; exact (none_app h1).1
        | succ j' => exact h2 j' p' (by omega) (by simpa using hp')
    · cases j with
      | zero =>
        simp only [List.getElem?_cons_zero, Option.some.injEq] at hq
        subst hq
        refine ⟨fr2 k r hk, fun j' p' hne hp' => ?_⟩
        cases j' with
        | zero => exact absurd rfl hne
        | succ j' =>
          cases e : lk p'.bx k with
          | none => rfl
          | some r' =>
            have := (none_app (i2 j' p' k r' (by simpa using hp') e).1).1
            rw [hk] at this; cases this
      | succ j =>
        obtain ⟨h1, h2⟩ := i2 j q k r (by simpa using hq) hk
        refine ⟨(none_app h1).2, fun j' p' hne hp' => ?_⟩
        cases j' with
        | zero => simp only [List.getElem?_cons_zero, Option.some.injEq] at hp'; subst hp'; exact (none_app h1).1
        | succ j' => exact h2 j' p' (by omega) (by simpa using hp')
    · rcases (i3 k r).1 h with h | ⟨j, q, h1, h2⟩
      · rcases lk_app_some h with h | ⟨_, h⟩
        · exact .inr ⟨0, p, by simp, h⟩
        · exact .inl h
      · exact .inr ⟨j + 1, q, by simpa using h1, h2⟩
    · rintro (h | ⟨j, q, h1, h2⟩)
      · exact (i3 k r).2 (.inl (lk_app_right (by cases e : lk p.ob k with | none => rfl | some r' => rw [fr1 k r' e] at h; cases h) h))
      · cases j with
        | zero =>
          simp only [List.getElem?_cons_zero, Option.some.injEq] at h1
          subst h1
          exact (i3 k r).2 (.inl (lk_app_left h2))
        | succ j => exact (i3 k r).2 (.inr ⟨j, q, by simpa using h1, h2⟩)
    · rcases (i4 k r).1 h with h | ⟨j, q, h1, h2⟩
      · rcases lk_app_some h with h | ⟨_, h⟩
        · exact .inr ⟨0, p, by simp, h⟩
        · exact .inl h
      · exact .inr ⟨j + 1, q, by simpa using h1, h2⟩
    · rintro (h | ⟨j, q, h1, h2⟩)
      · exact (i4 k r).2 (.inl (lk_app_right (by cases e : lk p.bx k with | none => rfl | some r' => rw [fr2 k r' e] at h; cases h) h))
      · cases j with
        | zero =>
          simp only [List.getElem?_cons_zero, Option.some.injEq] at h1
          subst h1
          exact (i4 k r).2 (.inl (lk_app_left h2))
        | succ j => exact (i4 k r).2 (.inr ⟨j, q, by simpa using h1, h2⟩)
end
end Go.Proofs.YtjnpnpkjmlihdaaDoor.Ab
namespace Go.Proofs.YtjnpnpkjmlihdaaDoor.Ab
open Go Go.RowKit

section
variable {C : Cx} {G : Gh} {st : St} {a : Act} {w : World}

theorem live_ext {bx bx' : Bx} {ob ob' : Ob} (hb : ∀ s, lk bx' s = lk bx s) (ho : ∀ k, lk ob' k = lk ob k) (p : Pos) : Live bx' ob' p ↔ Live bx ob p := by
  cases p with
  | bx s => simp only [Live, hb]
  | top k => simp only [Live, ho]
  | sub k i j => simp only [Live, ho]

theorem Rel.ext (h : Rel C G st a w) {st' : St} (hl : st'.tm.length = st.tm.length) (ht : ∀ s, getL st'.tm s = getL st.tm s) (hb : ∀ s, lk st'.bx s = lk st.bx s) (ho : ∀ k, lk st'.ob k = lk st.ob k) : Rel C G st' a w := by
  have hS : ∀ v c, SRep C.w0 C.I G st.bx st.ob v c → SRep C.w0 C.I G st'.bx st'.ob v c := by
    intro v c hv
    exact hv.to (fun _ h => h) (fun _ _ => rfl) (fun s cs hs => ⟨⟨cs, by rw [hb]; exact hs⟩, rfl⟩) (fun k r _ hr => ⟨r, by rw [ho]; exact hr, rfl, rfl, rfl, fun _ i j sz n g _ _ hg => ⟨hg, rfl⟩⟩)
  refine ⟨h.df, by rw [hl]; exact h.sz, fun s => by rw [ht]; exact (h.tm s).same hS, ⟨?_, ?_, ?_, ?_⟩, h.keep, fun k r hp hr => h.pk k r hp (by rw [← ho]; exact hr)⟩
  · intro s cs hs
    obtain ⟨arr, t, b1, b2, b3⟩ := h.ob.bxr s cs (by rw [← hb]; exact hs)
    exact ⟨arr, t, b1, b2, fun j u hu => ⟨hS _ _ (b3 j u hu).1, trivial⟩⟩
  · intro k r hr
    exact h.ob.obr k r (by rw [← ho]; exact hr)
  · intro p q b hp hq
    exact h.ob.inj p q b ((live_ext hb ho p).1 hp) ((live_ext hb ho q).1 hq)
  · intro p b hp
    exact h.ob.okb p b ((live_ext hb ho p).1 hp)

/-- what stands while a region runs whose order is open; `L`: the operations that have run -/
structure DInv (C : Cx) (st0 : St) (is : List CI) (ps : List Pt) (L : Nat → Prop) (G : Gh) (st : St) (a : Act) (w : World) : Prop where
  rel : Rel C G st a w
  len : st.tm.length = st0.tm.length
  new : ∀ (k : Nat) i p s, is[k]? = some i → ps[k]? = some p → L k → i.dst = some s → s < st0.tm.length → getL st.tm s = p.t
  old : ∀ s, (∀ (k : Nat) i, is[k]? = some i → L k → i.dst ≠ some s) → getL st.tm s = getL st0.tm s
  ob : ∀ k r, lk st.ob k = some r ↔ lk st0.ob k = some r ∨ ∃ (j : Nat) (p : Pt), ps[j]? = some p ∧ L j ∧ lk p.ob k = some r
  bx : ∀ k r, lk st.bx k = some r ↔ lk st0.bx k = some r ∨ ∃ (j : Nat) (p : Pt), ps[j]? = some p ∧ L j ∧ lk p.bx k = some r

theorem alive_cell (h : Rel C G st a w) {v : Value} {c : Cell} (hv : SRep C.w0 C.I G st.bx st.ob v c) : AliveC st c := by
  have zero : ∀ {v : Value} {c : Cell}, SRep C.w0 C.I G st.bx st.ob v c → Alive0 st c := by
    intro v c hv
    cases c with
    | own k n => obtain ⟨r, h1, _⟩ := hv; exact ⟨r, h1⟩
    | own1 k i j n => obtain ⟨r, _, _, h1, _⟩ := hv; exact ⟨r, h1⟩
    | elt k i o => obtain ⟨r, _, h1, _⟩ := hv; exact ⟨r, h1⟩
    | elt1 k i j i2 o => obtain ⟨r, _, _, _, _, h1, _⟩ := hv; exact ⟨r, h1⟩
    | box s o => obtain ⟨cs, h1, _⟩ := hv; exact ⟨cs, h1⟩
    | pb k n => obtain ⟨r, _, h1, _⟩ := hv; exact ⟨r, h1⟩
    | fnx f k n i m sz get => obtain ⟨r, _, _, _, h1, _⟩ := hv; exact ⟨r, h1⟩
    | _ => exact True.intro
  cases c with
  | fn f bs =>
    intro s hs
    obtain ⟨caps, _, _, h3⟩ := hv
    obtain ⟨j, hj⟩ := List.mem_iff_getElem?.1 hs
    obtain ⟨⟨cs, h4⟩, _⟩ := h3 j s hj
    obtain ⟨arr, t, _, b2, b3⟩ := h.ob.bxr s cs h4
    refine ⟨cs, h4, fun i hi => ?_⟩
    have hi' : i < arr.size := by omega
    exact zero (b3 i arr[i] (by simp [hi'])).1
  | _ => exact zero hv
theorem alive_t (h : Rel C G st a w) {v : Value} {t : T} (hv : TRep C.w0 C.I G st.bx st.ob v t) : AliveT st t := by
  cases t with
  | tup xs => exact True.intro
  | v x =>
    cases x with
    | one c => exact alive_cell h hv
    | agg cs =>
      obtain ⟨arr, _, h2, h3⟩ := hv
      intro j hj
      have hj' : j < arr.size := by omega
      exact alive_cell h (h3 j arr[j] (by simp [hj']))
theorem alive_nokey {c : Cell} (hc : c.nokey = true) : AliveC st c := by cases c <;> first | exact True.intro | cases hc
theorem alive_ev (h : Rel C G st a w) {x : CA} (hx : nokeyA x = true) : AliveT st (ev C.E st x) := by
  cases x with
  | t s => exact alive_t h (h.tm s)
  | g n =>
    simp only [Ab.ev]
    split <;> exact True.intro
  | k t =>
    cases t with
    | tup xs => exact True.intro
    | v y =>
      cases y with
      | one c => exact alive_nokey hx
      | agg cs => exact fun j hj => alive_nokey (allC_nth hx hj)
theorem nokeyAs_mem {l : List CA} (h : nokeyAs l = true) {x : CA} (hx : x ∈ l) : nokeyA x = true := by
  induction l with
  | nil => cases hx
  | cons y l ih =>
    simp only [nokeyAs, Bool.and_eq_true] at h
    rcases List.mem_cons.1 hx with e | e
    · subst e; exact h.1
    · exact ih h.2 e
theorem chkKs_mem {l : List CI} (h : chkKs l = true) {j : Nat} {i : CI} (hi : l[j]? = some i) : nokeyAs i.op.args = true := by
  induction l generalizing j with
  | nil => simp at hi
  | cons y l ih =>
    simp only [chkKs, Bool.and_eq_true] at h
    cases j with
    | zero => simp at hi; subst hi; exact h.1
    | succ j => exact ih h.2 (by simpa using hi)

theorem vi_ok (h : Rel C G st a w) {ops : Array Oper} {k : Nat} {o : Oper} (hk : ops[k]? = some o) {i : CI} (hc : chkI C.E.P ops o i = true) {p : Pt}
    (hv : vi C.E i st st.tm (fun t ob bx => t = p.t ∧ ob = p.ob ∧ bx = p.bx))
    {K : Act → World → Prop} {QQ : Exit → Act → World → Prop}
    (hn : ∀ a' w' G', (∀ k r, lk p.ob k = some r → lk st.ob k = none) → (∀ k r, lk p.bx k = some r → lk st.bx k = none) → Rel C G' ((st.add p.ob p.bx).put i.dst p.t) a' w' → K a' w') : wpOp C.E.P ops QQ k K a w := by
  simp only [chkI, Bool.and_eq_true, decide_eq_true_eq] at hc
  obtain ⟨⟨hd, ho⟩, hg⟩ := hc
  have run : val C.E st i.dst i.op (fun t ob bx => t = p.t ∧ ob = p.ob ∧ bx = p.bx) → o.wp C.E.P a w K QQ := by
    intro hq
    rw [← hd] at hq
    obtain ⟨t, ob', bx', ⟨rfl, rfl, rfl⟩, g1, g2, g3⟩ := val_ok h o i.op ho (View.self h _) hq
    refine g3 g1 g2 K QQ (fun v w' G' hR ht => ?_)
    refine hn _ w' G' g1 g2 ?_
    have := hR.put (d := o.dst) ht
    rw [hd] at this ⊢; exact this
  have skip : (one .sk = p.t ∧ [] = p.ob ∧ [] = p.bx) → K (a.put o.dst undef) w := by
    rintro ⟨e1, e2, e3⟩
    refine hn _ w G (fun k r hh => by rw [← e2] at hh; cases hh) (fun k r hh => by rw [← e3] at hh; cases hh) ?_
    rw [← e1, ← e2, ← e3, ← hd]
    exact h.put (d := o.dst) (t := one .sk) (v := undef) CRep.sk
  unfold wpOp
  rw [hk]
  simp only
  unfold vi at hv
  split at hg
  · rename_i e1 e2
    rw [e2] at hv
    have : Region.wanted o (yielded ops a.tmps) = true := by unfold Region.wanted; rw [e1]
    rw [if_pos this]
    exact .inl (run hv)
  · rename_i j b s b' e1 e2
    simp only [Bool.and_eq_true, beq_iff_eq, decide_eq_true_eq] at hg
    obtain ⟨rfl, hj⟩ := hg
    obtain ⟨y1, y2⟩ := yielded_of h hj
    rw [e2] at hv
    cases b with
    | true =>
      simp only at hv
      split at hv
      · rename_i c e
        cases c with
        | true =>
          have : Region.wanted o (yielded ops a.tmps) = true := by unfold Region.wanted; rw [e1]; simp [y1 _ e]
          rw [if_pos this]; exact .inl (run (hv.1 rfl))
        | false =>
          have : ¬ Region.wanted o (yielded ops a.tmps) = true := by unfold Region.wanted; rw [e1]; simp [y1 _ e]
          rw [if_neg this]; exact skip (hv.2 rfl)
      · rename_i e
        have : ¬ Region.wanted o (yielded ops a.tmps) = true := by unfold Region.wanted; rw [e1]; simp [y2 e]
        rw [if_neg this]; exact skip hv
      · exact hv.elim
    | false =>
      simp only at hv
      split at hv
      · rename_i c e
        cases c with
        | false =>
          have : Region.wanted o (yielded ops a.tmps) = true := by unfold Region.wanted; rw [e1]; simp [y1 _ e]
          rw [if_pos this]; exact .inl (run (hv.2 rfl))
        | true =>
          have : ¬ Region.wanted o (yielded ops a.tmps) = true := by unfold Region.wanted; rw [e1]; simp [y1 _ e]
          rw [if_neg this]; exact skip (hv.1 rfl)
      · rename_i e
        have : ¬ Region.wanted o (yielded ops a.tmps) = true := by unfold Region.wanted; rw [e1]; simp [y2 e]
        rw [if_neg this]; exact skip hv
      · exact hv.elim
  · cases hg

/-- one operation of such a region -/
theorem DInv.op {st0 : St} {is : List CI} {ps : List Pt} {L : Nat → Prop} {tmF : List T} {obF : Ob} {bxF : Bx} (h : DInv C st0 is ps L G st a w) (htr : Tr C.E is st0.tm st0.ob st0.bx ps tmF obF bxF) {ops : Array Oper} (hD : ChkD ops is) (hK : chkKs is = true)
    (hcl : ∀ (k : Nat) o, L k → ops[k]? = some o → ∀ e ∈ o.after, Region.binds .any e = true → L e.on)
    {j : Nat} {o : Oper} {i : CI} (hj : ¬ L j) (ho : ops[j]? = some o) (hi : is[j]? = some i) (hops : ∀ (k : Nat) x, is[k]? = some x → ∃ o, ops[k]? = some o) (hc : chkI C.E.P ops o i = true) (haf : ∀ e ∈ o.after, Region.binds .any e = true → L e.on)
    {K : Act → World → Prop} {QQ : Exit → Act → World → Prop} (hn : ∀ a' w' G' st', DInv C st0 is ps (fun k => k = j ∨ L k) G' st' a' w' → K a' w') : wpOp C.E.P ops QQ j K a w := by
  obtain ⟨hlen, _⟩ := htr.len
  have hjl : j < is.length := (List.getElem?_eq_some_iff.1 hi).1
  obtain ⟨p, hp⟩ : ∃ p, ps[j]? = some p := ⟨ps[j]'(by omega), by simp [hlen, hjl]⟩
  obtain ⟨tmj, obj, bxj, hG, ⟨hU1, hU2, hU3⟩, hobj, hbxj⟩ := htr.at.1 j i p hi hp
  obtain ⟨n1, n2, _, _⟩ := htr.names
  -- what it reads stands as it stood in the text's order
  have hread : ∀ s ∈ reads i, getL st.tm s = getL tmj s := by
    intro s hs
    by_cases hlt : s < st0.tm.length
    · by_cases hex : ∃ (k : Nat) (x : CI), k < j ∧ is[k]? = some x ∧ x.dst = some s
      · obtain ⟨k, x, hk, hx, hd⟩ := hex
        obtain ⟨e, he, hon, heb⟩ := hD.conf k j x i o s hk hx hi ho (.inl ⟨hd, hs⟩)
        have hLk : L k := by rw [← hon]; exact haf e he heb
        have hkl : k < is.length := (List.getElem?_eq_some_iff.1 hx).1
        have hq : ps[k]? = some (ps[k]'(by omega)) := by simp [hlen, hkl]
        rw [h.new k x _ s hx hq hLk hd hlt]
        refine (hU3 k x _ s hk hx hq hd hlt (fun k' x' a1 a2 a3 => ?_)).symm
        exact hD.dist k k' x x' s a1 hx a3 hd
      · have hno : ∀ (k : Nat) x, k < j → is[k]? = some x → x.dst ≠ some s := fun k x hk hx hd => hex ⟨k, x, hk, hx, hd⟩
        rw [hU2 s hno]
        refine h.old s (fun k x hx hLk hd => ?_)
        by_cases hkj : k < j
        · exact hno k x hkj hx hd
        · have hne : k ≠ j := fun e => by subst e; exact hj hLk
          obtain ⟨ok, hok⟩ := hops k x hx
          obtain ⟨e, he, hon, heb⟩ := hD.conf j k i x ok s (by omega) hi hx hok (.inr ⟨hd, hs⟩)
          exact hj (by rw [← hon]; exact hcl k ok hLk hok e he heb)
    · rw [getL_out _ _ (by rw [h.len]; omega), getL_out _ _ (by rw [hU1]; omega)]
  have hag : Agree ⟨tmj, bxj, obj⟩ st := by
    refine ⟨fun k r r' h1 h2 => ?_, fun k r r' h1 h2 => ?_⟩
    · rcases hobj k r h1 with e1 | ⟨j1, p1, q1, q2⟩ <;> rcases (h.ob k r').1 h2 with e2 | ⟨j2, p2, q3, q4, q5⟩
      · rw [e1] at e2; cases e2; rfl
      · rw [(n1 j2 p2 k r' q3 q5).1] at e1; cases e1
      · rw [(n1 j1 p1 k r q1 q2).1] at e2; cases e2
      · by_cases e : j1 = j2
        · subst e; rw [q1] at q3; cases q3; rw [q2] at q5; cases q5; rfl
        · rw [(n1 j1 p1 k r q1 q2).2 j2 p2 (Ne.symm e) q3] at q5; cases q5
    · rcases hbxj k r h1 with e1 | ⟨j1, p1, q1, q2⟩ <;> rcases (h.bx k r').1 h2 with e2 | ⟨j2, p2, q3, q4, q5⟩
      · rw [e1] at e2; cases e2; rfl
      · rw [(n2 j2 p2 k r' q3 q5).1] at e1; cases e1
      · rw [(n2 j1 p1 k r q1 q2).1] at e2; cases e2
      · by_cases e : j1 = j2
        · subst e; rw [q1] at q3; cases q3; rw [q2] at q5; cases q5; rfl
        · rw [(n2 j1 p1 k r q1 q2).2 j2 p2 (Ne.symm e) q3] at q5; cases q5
  have hf1 : ∀ k r, lk p.ob k = some r → lk st.ob k = none := by
    intro k r hr
    cases e : lk st.ob k with
    | none => rfl
    | some r' =>
      rcases (h.ob k r').1 e with e1 | ⟨j', p', q1, q2, q3⟩
      · rw [(n1 j p k r hp hr).1] at e1; cases e1
      · have hne : j' ≠ j := fun e => by subst e; exact hj q2
        rw [(n1 j p k r hp hr).2 j' p' hne q1] at q3; cases q3
  have hf2 : ∀ k r, lk p.bx k = some r → lk st.bx k = none := by
    intro k r hr
    cases e : lk st.bx k with
    | none => rfl
    | some r' =>
      rcases (h.bx k r').1 e with e1 | ⟨j', p', q1, q2, q3⟩
      · rw [(n2 j p k r hp hr).1] at e1; cases e1
      · have hne : j' ≠ j := fun e => by subst e; exact hj q2
        rw [(n2 j p k r hp hr).2 j' p' hne q1] at q3; cases q3
  have hv := hG st (fun t ob bx => t = p.t ∧ ob = p.ob ∧ bx = p.bx) hread hag (fun x hx => alive_ev h.rel (nokeyAs_mem (chkKs_mem hK hi) hx)) hf1 hf2 ⟨rfl, rfl, rfl⟩
  refine vi_ok h.rel ho hc hv ?_
  · intro a' w' G' f1 f2 hR
    refine hn a' w' G' _ ⟨hR, ?_, ?_, ?_, ?_, ?_⟩
    · show (St.put _ _ _).tm.length = _
      cases i.dst with
      | none => exact h.len
      | some s => exact (length_setL _ _ _).trans h.len
    · intro k x q s hx hq hL hd hlt
      have hget : getL ((st.add p.ob p.bx).put i.dst p.t).tm s = getL (setO st.tm i.dst p.t) s := by cases i.dst <;> rfl
      rw [hget, getL_setO]
      rcases hL with e | hL
      · subst e
        rw [hi] at hx; cases hx
        rw [hp] at hq; cases hq
        rw [if_pos ⟨hd, by rw [h.len]; exact hlt⟩]
      · rw [if_neg]
        · exact h.new k x q s hx hq hL hd hlt
        · rintro ⟨h1, _⟩
          have hne : k ≠ j := fun e => by subst e; exact hj hL
          by_cases hkj : k < j
          · exact hD.dist k j x i s hkj hx hi hd h1
          · exact hD.dist j k i x s (by omega) hi hx h1 hd
    · intro s hs
      have hget : getL ((st.add p.ob p.bx).put i.dst p.t).tm s = getL (setO st.tm i.dst p.t) s := by cases i.dst <;> rfl
      rw [hget, getL_setO, if_neg]
      · exact h.old s (fun k x hx hL => hs k x hx (.inr hL))
      · rintro ⟨h1, _⟩
        exact hs j i hi (.inl rfl) h1
    · intro k r
      have hob : ((st.add p.ob p.bx).put i.dst p.t).ob = p.ob ++ st.ob := by cases i.dst <;> rfl
      rw [hob]
      constructor
      · intro hh
        rcases lk_app_some hh with hh | ⟨_, hh⟩
        · exact .inr ⟨j, p, hp, .inl rfl, hh⟩
        · rcases (h.ob k r).1 hh with hh | ⟨j', p', q1, q2, q3⟩
          · exact .inl hh
          · exact .inr ⟨j', p', q1, .inr q2, q3⟩
      · intro hh
        have old : lk st.ob k = some r → lk (p.ob ++ st.ob) k = some r := by
          intro e
          refine lk_app_right ?_ e
          cases e2 : lk p.ob k with
          | none => rfl
          | some r' => rw [f1 k r' e2] at e; cases e
        rcases hh with hh | ⟨j', p', q1, q2, q3⟩
        · exact old ((h.ob k r).2 (.inl hh))
        · rcases q2 with e | q2
          · subst e
            rw [hp] at q1; cases q1
            exact lk_app_left q3
          · exact old ((h.ob k r).2 (.inr ⟨j', p', q1, q2, q3⟩))
    · intro k r
      have hob : ((st.add p.ob p.bx).put i.dst p.t).bx = p.bx ++ st.bx := by cases i.dst <;> rfl
      rw [hob]
      constructor
      · intro hh
        rcases lk_app_some hh with hh | ⟨_, hh⟩
        · exact .inr ⟨j, p, hp, .inl rfl, hh⟩
        · rcases (h.bx k r).1 hh with hh | ⟨j', p', q1, q2, q3⟩
          · exact .inl hh
          · exact .inr ⟨j', p', q1, .inr q2, q3⟩
      · intro hh
        have old : lk st.bx k = some r → lk (p.bx ++ st.bx) k = some r := by
          intro e
          refine lk_app_right ?_ e
          cases e2 : lk p.bx k with
          | none => rfl
          | some r' => rw [f2 k r' e2] at e; cases e
        rcases hh with hh | ⟨j', p', q1, q2, q3⟩
        · exact old ((h.bx k r).2 (.inl hh))
        · rcases q2 with e | q2
          · subst e
            rw [hp] at q1; cases q1
            exact lk_app_left q3
          · exact old ((h.bx k r).2 (.inr ⟨j', p', q1, q2, q3⟩))

theorem lk_ext_of {α : Type} {a b : List (Nat × α)} (h : ∀ k x, lk a k = some x ↔ lk b k = some x) (k : Nat) : lk a k = lk b k := by
  cases e : lk a k with
  | some x => exact ((h k x).1 e).symm
  | none =>
    cases e2 : lk b k with
    | none => rfl
    | some x => rw [(h k x).2 e2] at e; cases e

/-- when all have run, it stands as in the text's order -/
theorem DInv.done {st0 : St} {is : List CI} {ps : List Pt} {L : Nat → Prop} {tmF : List T} {obF : Ob} {bxF : Bx} (h : DInv C st0 is ps L G st a w) (htr : Tr C.E is st0.tm st0.ob st0.bx ps tmF obF bxF) {ops : Array Oper} (hD : ChkD ops is)
    (hL : ∀ k, k < is.length → L k) : Rel C G ⟨tmF, bxF, obF⟩ a w := by
  obtain ⟨hlen, hlF⟩ := htr.len
  obtain ⟨_, _, n3, n4⟩ := htr.names
  obtain ⟨u1, u2, u3⟩ := htr.at.2
  have hpL : ∀ (j : Nat) p, ps[j]? = some p → L j := fun j p hp => hL j (by rw [← hlen]; exact (List.getElem?_eq_some_iff.1 hp).1)
  refine h.rel.ext (by show tmF.length = _; rw [hlF, h.len]) (fun s => ?_) (fun s => lk_ext_of (fun k x => ?_) s) (fun s => lk_ext_of (fun k x => ?_) s)
  · show getL tmF s = _
    by_cases hlt : s < st0.tm.length
    · by_cases hex : ∃ (k : Nat) (x : CI), is[k]? = some x ∧ x.dst = some s
      · obtain ⟨k, x, hx, hd⟩ := hex
        have hkl : k < is.length := (List.getElem?_eq_some_iff.1 hx).1
        have hq : ps[k]? = some (ps[k]'(by omega)) := by simp [hlen, hkl]
        rw [h.new k x _ s hx hq (hL k hkl) hd hlt]
        exact u3 k x _ s hkl hx hq hd hlt (fun k' x' a1 _ a3 => hD.dist k k' x x' s a1 hx a3 hd)
      · rw [u2 s (fun k x _ hx hd => hex ⟨k, x, hx, hd⟩), h.old s (fun k x hx _ hd => hex ⟨k, x, hx, hd⟩)]
    · rw [getL_out _ _ (by rw [hlF]; omega), getL_out _ _ (by rw [h.len]; omega)]
  · show lk bxF k = some x ↔ _
    rw [h.bx k x, n4 k x]
    constructor
    · rintro (hh | ⟨j, p, q1, q2⟩)
      · exact .inl hh
      · exact .inr ⟨j, p, q1, hpL j p q1, q2⟩
    · rintro (hh | ⟨j, p, q1, _, q2⟩)
      · exact .inl hh
      · exact .inr ⟨j, p, q1, q2⟩
  · show lk obF k = some x ↔ _
    rw [h.ob k x, n3 k x]
    constructor
    · rintro (hh | ⟨j, p, q1, q2⟩)
      · exact .inl hh
      · exact .inr ⟨j, p, q1, hpL j p q1, q2⟩
    · rintro (hh | ⟨j, p, q1, _, q2⟩)
      · exact .inl hh
      · exact .inr ⟨j, p, q1, q2⟩
end
end Go.Proofs.YtjnpnpkjmlihdaaDoor.Ab
namespace Go.Proofs.YtjnpnpkjmlihdaaDoor.Ab
open Go Go.RowKit

def unl (L : Array Bool) : Nat → Nat
  | 0 => 0
  | n + 1 => (bif L.getD n false then 0 else 1) + unl L n

theorem getD_put (L : Array Bool) (i k : Nat) (hi : i < L.size) : (L.setIfInBounds i true).getD k false = if k = i then true else L.getD k false := by
  by_cases e : k = i
  · subst e
    rw [if_pos rfl, Array.getD_eq_getD_getElem?, Array.getElem?_setIfInBounds]
    simp [hi]
  · rw [if_neg e, Array.getD_eq_getD_getElem?, Array.getD_eq_getD_getElem?, Array.getElem?_setIfInBounds]
    simp [Ne.symm e]
theorem unl_put (L : Array Bool) (i : Nat) (hi : i < L.size) : ∀ n, unl (L.setIfInBounds i true) n ≤ unl L n ∧ (i < n → L.getD i false = false → unl (L.setIfInBounds i true) n < unl L n)
  | 0 => ⟨Nat.le_refl _, fun h => by omega⟩
  | n + 1 => by
    obtain ⟨h1, h2⟩ := unl_put L i hi n
    simp only [unl]
    rw [getD_put L i n hi]
    by_cases e : n = i
    · subst e
      rw [if_pos rfl]
      refine ⟨by simp only [cond_true]; omega, fun _ h => ?_⟩
      rw [h]
      simp only [cond_true, cond_false]; omega
    · rw [if_neg e]
      refine ⟨by omega, fun hlt h => ?_⟩
      have := h2 (by omega) h
      omega
theorem unl_zero (L : Array Bool) : ∀ n, unl L n = 0 → ∀ k, k < n → L.getD k false = true
  | 0, _, k, hk => by omega
  | n + 1, h, k, hk => by
    simp only [unl] at h
    by_cases e : k = n
    · subst e
      cases hh : L.getD k false with
      | true => rfl
      | false => rw [hh] at h; simp only [cond_false] at h; omega
    · exact unl_zero L n (by omega) k (by omega)
theorem unl_le (L : Array Bool) : ∀ n, unl L n ≤ n
  | 0 => Nat.le_refl _
  | n + 1 => by
    have := unl_le L n
    simp only [unl]
    cases L.getD n false <;> simp only [cond_true, cond_false] <;> omega

/-- an operation comes behind another, over others maybe -/
inductive Bef (ops : Array Oper) : Oper → Nat → Prop
  | dir {o : Oper} {e : Edge} (h : e ∈ o.after) (hb : Region.binds .any e = true) : Bef ops o e.on
  | step {o o' : Oper} {e : Edge} {i : Nat} (h : e ∈ o.after) (hb : Region.binds .any e = true) (ho : ops[e.on]? = some o') (hi : Bef ops o' i) : Bef ops o i
theorem Bef.snoc {ops : Array Oper} {o o' : Oper} {n : Nat} {e : Edge} (h : Bef ops o n) (ho : ops[n]? = some o') (he : e ∈ o'.after) (hb : Region.binds .any e = true) : Bef ops o e.on := by
  induction h with
  | dir h1 hb1 => exact .step h1 hb1 ho (.dir he hb)
  | step h1 hb1 ho1 _ ih => exact .step h1 hb1 ho1 (ih ho)
theorem Bef.run {ops : Array Oper} {R : Nat → Prop} (hcl : ∀ (k : Nat) o, R k → ops[k]? = some o → ∀ e ∈ o.after, Region.binds .any e = true → R e.on) {o : Oper} {i : Nat} (h : Bef ops o i)
    (ha : ∀ e ∈ o.after, Region.binds .any e = true → R e.on) : R i := by
  induction h with
  | dir h1 hb1 => exact ha _ h1 hb1
  | step h1 hb1 ho1 _ ih => exact ih fun e he hb => hcl _ _ (ha _ h1 hb1) ho1 e he hb
theorem addN_mem {x : Nat} {l S : List Nat} (h : x ∈ addN l S) : x ∈ l ∨ x ∈ S := by
  unfold addN at h
  induction l with
  | nil => exact .inr h
  | cons y l ih =>
    simp only [List.foldr_cons] at h
    cases e : memN y (l.foldr (fun x S => bif memN x S then S else x :: S) S) with
    | true =>
      rw [e] at h
      rcases ih h with a | a
      · exact .inl (List.mem_cons_of_mem _ a)
      · exact .inr a
    | false =>
      rw [e] at h
      rcases List.mem_cons.1 h with a | a
      · exact .inl (by rw [a]; simp)
      · rcases ih a with a | a
        · exact .inl (List.mem_cons_of_mem _ a)
        · exact .inr a
theorem afterOf_mem {o : Oper} {i : Nat} (h : i ∈ afterOf o) : ∃ e ∈ o.after, e.on = i ∧ Region.binds .any e = true := by
  simp only [afterOf, List.mem_map, List.mem_filter] at h
  obtain ⟨e, he, h2⟩ := h
  exact ⟨e, by simpa using he.1, h2, he.2⟩
theorem cloL_mem {ops : Array Oper} {o : Oper} : ∀ {n : Nat} {S : List Nat}, (∀ x ∈ S, Bef ops o x) → ∀ x ∈ cloL ops n S, Bef ops o x
  | 0, S, h, x, hx => h x hx
  | n + 1, S, h, x, hx => by
    unfold cloL at hx
    refine cloL_mem (fun y hy => ?_) x hx
    cases e : memN n S with
    | false => rw [e] at hy; exact h y hy
    | true =>
      rw [e, cond_true] at hy
      split at hy
      · rename_i o' ho'
        rcases addN_mem hy with a | a
        · obtain ⟨e1, b1, rfl, b3⟩ := afterOf_mem a
          exact (h n (memN_mem.1 e)).snoc ho' b1 b3
        · exact h y a
      · exact h y hy
structure ChkDrw (P : Program) (ops : Array Oper) (is tl : List CI) : Prop where
  mixed : P.follows .mixedOrders = true
  size : is.length + tl.length = ops.size
  each : ∀ (k : Nat) x, (is ++ tl)[k]? = some x → ∃ o, ops[k]? = some o ∧ chkI P ops o x = true
  conf : ChkD ops is
  edge : ∀ (j : Nat) o, ops[j]? = some o → ∀ e ∈ o.after, Region.binds .any e = true → e.on < j
  keys : chkKs is = true
  tail : ∀ (j : Nat) o, ops[j]? = some o → is.length ≤ j → ∀ i, i < j → Bef ops o i

theorem chkIs_spec {P : Program} {ops : Array Oper} : ∀ {l : List CI} {k : Nat}, chkIs P ops k l = true → k + l.length = ops.size ∧ ∀ (j : Nat) x, l[j]? = some x → ∃ o, ops[k + j]? = some o ∧ chkI P ops o x = true
  | [], k, h => ⟨by simpa using Nat.eq_of_beq_eq_true h, fun j x hj => by simp at hj⟩
  | i :: l, k, h => by
    simp only [chkIs, Bool.and_eq_true] at h
    obtain ⟨h1, h2⟩ := chkIs_spec h.2
    refine ⟨by simp only [List.length_cons]; omega, fun j x hj => ?_⟩
    cases j with
    | zero =>
      simp only [List.getElem?_cons_zero, Option.some.injEq] at hj
      subst hj
      have h3 := h.1
      split at h3
      · rename_i o ho
        exact ⟨o, by simpa using ho, h3⟩
      · cases h3
    | succ j =>
      obtain ⟨o, h4, h5⟩ := h2 j x (by simpa using hj)
      exact ⟨o, by rw [show k + (j + 1) = k + 1 + j by omega]; exact h4, h5⟩

theorem chkDrw_spec {P : Program} {ops : Array Oper} {is tl : List CI} (h : chkDrw P ops is tl = true) : ChkDrw P ops is tl := by
  simp only [chkDrw, Bool.and_eq_true] at h
  obtain ⟨⟨⟨⟨⟨h1, h2⟩, h3⟩, h4⟩, h5⟩, h6⟩ := h
  obtain ⟨g1, g2⟩ := chkIs_spec h2
  refine ⟨h1, by simpa using g1, fun k x hx => ?_, chkD_spec h3, ?_, h6, ?_⟩
  · obtain ⟨o, a1, a2⟩ := g2 k x hx
    exact ⟨o, by simpa using a1, a2⟩
  · intro j o ho e he heb
    unfold chkE at h4
    simp only [List.all_eq_true, List.mem_range] at h4
    have := h4 j (Array.getElem?_eq_some_iff.1 ho).1
    rw [ho] at this
    simp only [List.all_eq_true, Bool.or_eq_true, Bool.not_eq_true'] at this
    rcases this e (by simpa using he) with a1 | a1
    · rw [heb] at a1; cases a1
    · exact Nat.le_of_ble_eq_true a1
  · intro j o ho hj i hi
    unfold chkTl at h5
    simp only [List.all_eq_true, List.mem_range, Bool.or_eq_true] at h5
    rcases h5 j (Array.getElem?_eq_some_iff.1 ho).1 with h6 | h6
    · have := Nat.le_of_ble_eq_true h6; omega
    · rw [ho] at h6
      simp only [List.all_eq_true, List.mem_range, Bool.or_eq_true] at h6
      have h0 : ∀ x ∈ afterOf o, Bef ops o x := fun x hx => by
        obtain ⟨e1, b1, rfl, b3⟩ := afterOf_mem hx
        exact .dir b1 b3
      rcases h6 with h6 | h6
      · exact h0 _ (memN_mem.1 (h6 i hi))
      · exact cloL_mem h0 _ (memN_mem.1 (h6 i hi))

section
variable {C : Cx} {G : Gh} {st : St} {a : Act} {w : World}

/-- where such a region stands: among the operations whose order is open, or behind them -/
inductive Ph (C : Cx) (ops : Array Oper) (st0 : St) (is tl : List CI) (ps : List Pt) (Q : St → Prop) (L : Array Bool) (a : Act) (w : World) : Prop
  | mid (G : Gh) (st : St) (h1 : ∃ k, k < is.length ∧ L.getD k false = false) (h2 : ∀ k, is.length ≤ k → L.getD k false = false) (h : DInv C st0 is ps (fun k => L.getD k false = true) G st a w)
  | tail (t : Nat) (G : Gh) (st : St) (h1 : is.length ≤ t) (h2 : t ≤ ops.size) (h3 : ∀ k, L.getD k false = true ↔ k < t) (h : Rel C G st a w) (hq : wis C.E (tl.drop (t - is.length)) st Q)

theorem DInv.congr {st0 : St} {is : List CI} {ps : List Pt} {L L' : Nat → Prop} (h : DInv C st0 is ps L G st a w) (e : ∀ k, L k ↔ L' k) : DInv C st0 is ps L' G st a w := by
  have : L = L' := funext fun k => propext (e k)
  rw [← this]; exact h

theorem any_ok {ops : Array Oper} {is tl : List CI} {st0 : St} {ps : List Pt} {tmF : List T} {obF : Ob} {bxF : Bx} {Q : St → Prop} {QQ : Exit → Act → World → Prop} (hc : ChkDrw C.E.P ops is tl)
    (htr : Tr C.E is st0.tm st0.ob st0.bx ps tmF obF bxF) (hQ : wis C.E tl ⟨tmF, bxF, obF⟩ Q) (hn : ∀ a' w' G' st', Rel C G' st' a' w' → Q st' → QQ .normal a' w') :
    ∀ (fuel : Nat) (L : Array Bool) (a : Act) (w : World), L.size = ops.size → unl L ops.size ≤ fuel → (∀ (k : Nat) o, L.getD k false = true → ops[k]? = some o → ∀ e ∈ o.after, Region.binds .any e = true → L.getD e.on false = true) →
      Ph C ops st0 is tl ps Q L a w → wpAny C.E.P .any ops QQ fuel L a w := by
  intro fuel
  have hready : ∀ (L : Array Bool), L.size = ops.size → ∀ k, k < ops.size → L.getD k false = false → (∀ k', k' < k → L.getD k' false = true) → k ∈ Region.ready .any ops L := by
    intro L hs k hk hL hlow
    rw [mem_ready]
    have ho : ops[k]? = some ops[k] := by simp [hk]
    refine ⟨?_, ops[k], ho, fun e he heb => hlow _ (hc.edge k _ ho e he heb)⟩
    have hk' : k < L.size := by omega
    rw [Array.getD_eq_getD_getElem?] at hL ⊢
    simp [hk'] at hL ⊢; exact hL
  -- the least that has not run
  have least : ∀ (L : Array Bool) (k : Nat), L.getD k false = false → ∃ k0, k0 ≤ k ∧ L.getD k0 false = false ∧ ∀ k', k' < k0 → L.getD k' false = true := by
    intro L k
    induction k using Nat.strongRecOn with
    | _ k ih =>
      intro hk
      by_cases hex : ∃ k', k' < k ∧ L.getD k' false = false
      · obtain ⟨k', h1, h2⟩ := hex
        obtain ⟨k0, a1, a2, a3⟩ := ih k' h1 h2
        exact ⟨k0, by omega, a2, a3⟩
      · refine ⟨k, Nat.le_refl _, hk, fun k' hk' => ?_⟩
        cases e : L.getD k' false with
        | true => rfl
        | false => exact absurd ⟨k', hk', e⟩ hex
  have finish : ∀ (L : Array Bool) (a : Act) (w : World), L.size = ops.size → Ph C ops st0 is tl ps Q L a w → Region.ready .any ops L = [] → QQ .normal a w := by
    intro L a w hs hph hr
    cases hph with
    | mid G st h1 h2 h =>
      obtain ⟨k, hk, hL⟩ := h1
      obtain ⟨k0, a1, a2, a3⟩ := least L k hL
      have := hready L hs k0 (by have := hc.size; omega) a2 a3
      rw [hr] at this; cases this
    | tail t G st h1 h2 h3 h hq =>
      by_cases e : t = ops.size
      · have hd : tl.drop (t - is.length) = [] := by
          rw [List.drop_eq_nil_iff]; have := hc.size; omega
        rw [hd] at hq
        exact hn a w G st h hq
      · have hL : L.getD t false = false := by
          rw [Bool.eq_false_iff]; intro hh; have := (h3 t).1 hh; omega
        have := hready L hs t (by omega) hL (fun k' hk' => (h3 k').2 hk')
        rw [hr] at this; cases this
  induction fuel with
  | zero =>
    intro L a w hs hu hcl hph
    have hr : Region.ready .any ops L = [] := by
      cases hr : Region.ready .any ops L with
      | nil => rfl
      | cons j l =>
        have hj : j ∈ Region.ready .any ops L := by rw [hr]; simp
        rw [mem_ready] at hj
        obtain ⟨h1, o, ho, _⟩ := hj
        have hjl := (Array.getElem?_eq_some_iff.1 ho).1
        have h2 := unl_zero L ops.size (by omega) j hjl
        have hj' : j < L.size := by omega
        rw [Array.getD_eq_getD_getElem?] at h1 h2
        simp [hj'] at h1 h2
        rw [h1] at h2; cases h2
    exact ⟨hr, finish L a w hs hph hr⟩
  | succ fuel ih =>
    intro L a w hs hu hcl hph
    refine ⟨finish L a w hs hph, fun j hj => ?_⟩
    rw [mem_ready] at hj
    obtain ⟨h1, o, ho, haf⟩ := hj
    have hjl := (Array.getElem?_eq_some_iff.1 ho).1
    have hjL : j < L.size := by omega
    have hL : L.getD j false = false := by
      rw [Array.getD_eq_getD_getElem?] at h1 ⊢
      simp [hjL] at h1 ⊢; exact h1
    have haf' : ∀ e ∈ o.after, Region.binds .any e = true → L.getD e.on false = true := fun e he heb => haf e he heb
    have hs' : (L.setIfInBounds j true).size = ops.size := by simp [hs]
    have hu' : unl (L.setIfInBounds j true) ops.size ≤ fuel := by
      have := (unl_put L j hjL ops.size).2 hjl hL
      omega
    have hget := fun k => getD_put L j k hjL
    have hcl' : ∀ (k : Nat) o, (L.setIfInBounds j true).getD k false = true → ops[k]? = some o → ∀ e ∈ o.after, Region.binds .any e = true → (L.setIfInBounds j true).getD e.on false = true := by
      intro k o' hk ho' e he heb
      rw [hget] at hk ⊢
      by_cases e1 : e.on = j
      · rw [if_pos e1]
      · rw [if_neg e1]
        by_cases e2 : k = j
        · subst e2
          rw [ho] at ho'; cases ho'
          exact haf' e he heb
        · rw [if_neg e2] at hk
          exact hcl k o' hk ho' e he heb
    cases hph with
    | mid G st h1 h2 h =>
      by_cases hlt : j < is.length
      · obtain ⟨x, hx⟩ : ∃ x, is[j]? = some x := ⟨is[j], by simp [hlt]⟩
        obtain ⟨o', ho', hchk⟩ := hc.each j x (by rw [List.getElem?_append_left hlt]; exact hx)
        rw [ho] at ho'; cases ho'
        refine h.op htr hc.conf hc.keys (fun k o hk ho => hcl k o hk ho) (by rw [hL]; simp) ho hx (fun k x hx => ?_) hchk haf' (fun a' w' G' st' hI => ?_)
        · have hk : k < is.length := (List.getElem?_eq_some_iff.1 hx).1
          obtain ⟨o, ho, _⟩ := hc.each k x (by rw [List.getElem?_append_left hk]; exact hx)
          exact ⟨o, ho⟩
        · refine ih _ a' w' hs' hu' hcl' ?_
          have hI' : DInv C st0 is ps (fun k => (L.setIfInBounds j true).getD k false = true) G' st' a' w' := hI.congr (fun k => by
            rw [hget]
            by_cases e : k = j
            · simp [e]
            · simp [e])
          by_cases hex : ∃ k, k < is.length ∧ (L.setIfInBounds j true).getD k false = false
          · exact .mid G' st' hex (fun k hk => by rw [hget, if_neg (by omega)]; exact h2 k hk) hI'
          · have hall : ∀ k, k < is.length → (L.setIfInBounds j true).getD k false = true := by
              intro k hk
              cases e : (L.setIfInBounds j true).getD k false with
              | true => rfl
              | false => exact absurd ⟨k, hk, e⟩ hex
            refine .tail is.length G' _ (Nat.le_refl _) (by have := hc.size; omega) (fun k => ⟨fun hk => ?_, hall k⟩) (hI'.done htr hc.conf hall) (by rw [Nat.sub_self]; exact hQ)
            by_cases e : k < is.length
            · exact e
            · rw [hget, if_neg (by omega), h2 k (by omega)] at hk; cases hk
      · obtain ⟨k, hk, hkL⟩ := h1
        have := (hc.tail j o ho (by omega) k (by omega)).run hcl haf'
        rw [hkL] at this; cases this
    | tail t G st h1 h2 h3 h hq =>
      have hjt : j = t := by
        have a1 : ¬ j < t := fun hh => by rw [(h3 j).2 hh] at hL; cases hL
        by_cases e : j = t
        · exact e
        · have := (hc.tail j o ho (by omega) t (by omega)).run hcl haf'
          have := (h3 t).1 this; omega
      subst hjt
      have hsz := hc.size
      obtain ⟨x, hx⟩ : ∃ x, tl[j - is.length]? = some x := ⟨tl[j - is.length]'(by omega), by simp⟩
      obtain ⟨o', ho', hchk⟩ := hc.each j x (by rw [List.getElem?_append_right h1]; exact hx)
      rw [ho] at ho'; cases ho'
      have hdr : tl.drop (j - is.length) = x :: tl.drop (j + 1 - is.length) := by
        have hlt : j - is.length < tl.length := by omega
        rw [List.drop_eq_getElem_cons hlt]
        have : tl[j - is.length] = x := by simpa [hlt] using hx
        rw [this, show j - is.length + 1 = j + 1 - is.length by omega]
      rw [hdr] at hq
      refine wi_ok h ho hchk hq (fun a' w' G' st' hR hq' => ih _ a' w' hs' hu' hcl' ?_)
      refine .tail (j + 1) G' st' (by omega) (by omega) (fun k => ?_) hR hq'
      rw [hget]
      by_cases e : k = j
      · simp [e]
      · rw [if_neg e, h3 k]; omega

theorem drw_ok {ops : Array Oper} {is tl : List CI} (hchk : chkDrw C.E.P ops is tl = true) (h : Rel C G st a w) {Q : St → Prop} {QQ : Exit → Act → World → Prop}
    (hv : vis C.E is st.tm st.ob st.bx fun tm ob bx => wis C.E tl ⟨tm, bx, ob⟩ Q) (hn : ∀ a' w' G' st', Rel C G' st' a' w' → Q st' → QQ .normal a' w') {id : Nat} :
    (Code.region id ops true).wp C.E.P QQ a w := by
  have hc := chkDrw_spec hchk
  obtain ⟨ps, tmF, obF, bxF, htr, hq⟩ := vis_tr hv
  have h0 : Rel C G st a { w with drawn := w.drawn + 1 } := h.grow ⟨rfl, rfl, rfl, Nat.le_refl _, fun _ _ => rfl⟩
  refine wp_region_any hc.mixed (any_ok hc htr hq hn ops.size _ a _ (by simp) (unl_le _ _) (fun k o hk => ?_) ?_)
  · rw [Array.getD_eq_getD_getElem?, Array.getElem?_replicate] at hk
    split at hk <;> cases hk
  · have hno : ∀ k, (Array.replicate ops.size false).getD k false = false := by
      intro k
      rw [Array.getD_eq_getD_getElem?, Array.getElem?_replicate]
      split <;> rfl
    by_cases e : 0 < is.length
    · refine .mid G st ⟨0, e, hno 0⟩ (fun k _ => hno k) ⟨h0, rfl, fun k i p s _ _ hL => ?_, fun s _ => rfl, fun k r => ⟨.inl, ?_⟩, fun k r => ⟨.inl, ?_⟩⟩
      · rw [hno] at hL; cases hL
      · rintro (hh | ⟨j, p, _, hL, _⟩)
        · exact hh
        · rw [hno] at hL; cases hL
      · rintro (hh | ⟨j, p, _, hL, _⟩)
        · exact hh
        · rw [hno] at hL; cases hL
    · have hnil : is = [] := by cases is with
        | nil => rfl
        | cons x l => simp at e
      subst hnil
      cases htr
      exact .tail 0 G st (Nat.zero_le _) (Nat.zero_le _) (fun k => by rw [hno]; simp) h0 (by simpa using hq)
end
/-! ### a part of a result that may be read late -/
def lateOk (is : List CI) (x0 : CI) (k : Nat) : Bool :=
  match x0.dst, x0.guard, x0.op, is[k]? with
  | none, none, .st _ (.t b) y, some ⟨some s, .ext _ (.t sx), none⟩ =>
    !(Nat.beq s b) && (!(memN s (slots [y])) && (!(Nat.beq s sx) && is.any fun i => match i.dst, i.guard, i.op with
      | some d, none, .alloc _ => Nat.beq d b
      | _, _, _ => false))
  | _, _, _, _ => false
def chkTlL (ops : Array Oper) (m k : Nat) : Bool := (List.range ops.size).all fun j => Nat.blt j m || match ops[j]? with
  | some o => (List.range j).all fun i => memN i (cloL ops j (afterOf o)) || (Nat.beq j m && Nat.beq i k)
  | none => false
def chkLate (P : Program) (ops : Array Oper) (is tl : List CI) : Bool :=
  P.follows .mixedOrders && chkIs P ops 0 (is ++ tl) && chkD ops is && chkE ops && chkKs is && match tl with
    | x0 :: _ => (List.range is.length).any fun k => lateOk is x0 k && chkTlL ops is.length k
    | [] => false
structure LateK (is : List CI) (x0 : CI) (k s sx jx : Nat) : Prop where
  at' : is[k]? = some ⟨some s, .ext jx (.t sx), none⟩
  ne : s ≠ sx
  st : ∃ (n b : Nat) (y : CA) (ka : Nat) (z : List Cell), x0 = (⟨none, .st n (.t b) y, none⟩ : CI) ∧ s ≠ b ∧ y ≠ .t s ∧ is[ka]? = some (⟨some b, .alloc z, none⟩ : CI)
structure ChkLate (P : Program) (ops : Array Oper) (is : List CI) (x0 : CI) (tl : List CI) (k s sx jx : Nat) : Prop where
  mixed : P.follows .mixedOrders = true
  size : is.length + (x0 :: tl).length = ops.size
  each : ∀ (k : Nat) x, (is ++ x0 :: tl)[k]? = some x → ∃ o, ops[k]? = some o ∧ chkI P ops o x = true
  conf : ChkD ops is
  edge : ∀ (j : Nat) o, ops[j]? = some o → ∀ e ∈ o.after, Region.binds .any e = true → e.on < j
  keys : chkKs is = true
  late : LateK is x0 k s sx jx
  tail : ∀ (j : Nat) o, ops[j]? = some o → is.length ≤ j → ∀ i, i < j → Bef ops o i ∨ (j = is.length ∧ i = k)
theorem lateOk_spec {is : List CI} {x0 : CI} {k : Nat} (h : lateOk is x0 k = true) : ∃ s sx jx, LateK is x0 k s sx jx := by
  unfold lateOk at h
  split at h
  · rename_i n b y s jx sx e1 e2 e3 e4
    simp only [Bool.and_eq_true, Bool.not_eq_true'] at h
    obtain ⟨h1, h2, h3, h4⟩ := h
    rw [List.any_eq_true] at h4
    obtain ⟨i, hi, h4⟩ := h4
    obtain ⟨ka, hka, hki⟩ := List.mem_iff_getElem.1 hi
    refine ⟨s, sx, jx, e4, fun e => ?_, n, b, y, ?_⟩
    · rw [e, beq_self] at h3; cases h3
    · obtain ⟨di, gi, oi⟩ := i
      obtain ⟨d0, g0, o0⟩ := x0
      cases e1; cases e2; cases e3
      split at h4
      · rename_i d z f1 f2 f3
        cases f1; cases f2; cases f3
        have := Nat.eq_of_beq_eq_true h4
        subst this
        refine ⟨ka, z, rfl, fun e => ?_, fun e => ?_, ?_⟩
        · rw [e, beq_self] at h1; cases h1
        · subst e
          simp [slots, memN, beq_self] at h2
        · rw [List.getElem?_eq_getElem hka, hki]
      · cases h4
  · cases h
theorem chkLate_spec {P : Program} {ops : Array Oper} {is tl : List CI} (h : chkLate P ops is tl = true) : ∃ x0 tl' k s sx jx, tl = x0 :: tl' ∧ ChkLate P ops is x0 tl' k s sx jx := by
  simp only [chkLate, Bool.and_eq_true] at h
  obtain ⟨⟨⟨⟨⟨h1, h2⟩, h3⟩, h4⟩, h6⟩, h5⟩ := h
  cases tl with
  | nil => cases h5
  | cons x0 tl =>
    simp only [List.any_eq_true, List.mem_range, Bool.and_eq_true] at h5
    obtain ⟨k, hk, hl, ht⟩ := h5
    obtain ⟨s, sx, jx, hL⟩ := lateOk_spec hl
    obtain ⟨g1, g2⟩ := chkIs_spec h2
    refine ⟨x0, tl, k, s, sx, jx, rfl, h1, by simpa using g1, fun k x hx => ?_, chkD_spec h3, ?_, h6, hL, ?_⟩
    · obtain ⟨o, a1, a2⟩ := g2 k x hx
      exact ⟨o, by simpa using a1, a2⟩
    · intro j o ho e he heb
      unfold chkE at h4
      simp only [List.all_eq_true, List.mem_range] at h4
      have := h4 j (Array.getElem?_eq_some_iff.1 ho).1
      rw [ho] at this
      simp only [List.all_eq_true, Bool.or_eq_true, Bool.not_eq_true'] at this
      rcases this e (by simpa using he) with a1 | a1
      · rw [heb] at a1; cases a1
      · exact Nat.le_of_ble_eq_true a1
    · intro j o ho hj i hi
      unfold chkTlL at ht
      simp only [List.all_eq_true, List.mem_range, Bool.or_eq_true] at ht
      rcases ht j (Array.getElem?_eq_some_iff.1 ho).1 with h7 | h7
      · have := Nat.le_of_ble_eq_true h7; omega
      · rw [ho] at h7
        simp only [List.all_eq_true, List.mem_range, Bool.or_eq_true, Bool.and_eq_true] at h7
        have h0 : ∀ x ∈ afterOf o, Bef ops o x := fun x hx => by
          obtain ⟨e1, b1, rfl, b3⟩ := afterOf_mem hx
          exact .dir b1 b3
        rcases h7 i hi with h7 | h7
        · exact .inl (cloL_mem h0 _ (memN_mem.1 h7))
        · exact .inr ⟨Nat.eq_of_beq_eq_true h7.1, Nat.eq_of_beq_eq_true h7.2⟩

section
variable {C : Cx} {G : Gh} {st : St} {a : Act} {w : World}

theorem DInv.vi_at {st0 : St} {is : List CI} {ps : List Pt} {L : Nat → Prop} {tmF : List T} {obF : Ob} {bxF : Bx} (h : DInv C st0 is ps L G st a w) (htr : Tr C.E is st0.tm st0.ob st0.bx ps tmF obF bxF) {ops : Array Oper} (hD : ChkD ops is) (hK : chkKs is = true)
    (hcl : ∀ (k : Nat) o, L k → ops[k]? = some o → ∀ e ∈ o.after, Region.binds .any e = true → L e.on)
    {j : Nat} {o : Oper} {i : CI} (hj : ¬ L j) (ho : ops[j]? = some o) (hi : is[j]? = some i) (hops : ∀ (k : Nat) x, is[k]? = some x → ∃ o, ops[k]? = some o) (hc : chkI C.E.P ops o i = true) (haf : ∀ e ∈ o.after, Region.binds .any e = true → L e.on)
    {p : Pt} (hp : ps[j]? = some p) : vi C.E i st st.tm (fun t ob bx => t = p.t ∧ ob = p.ob ∧ bx = p.bx) := by
  obtain ⟨hlen, _⟩ := htr.len
  have hjl : j < is.length := (List.getElem?_eq_some_iff.1 hi).1
  obtain ⟨tmj, obj, bxj, hG, ⟨hU1, hU2, hU3⟩, hobj, hbxj⟩ := htr.at.1 j i p hi hp
  obtain ⟨n1, n2, _, _⟩ := htr.names
  -- what it reads stands as it stood in the text's order
  have hread : ∀ s ∈ reads i, getL st.tm s = getL tmj s := by
    intro s hs
    by_cases hlt : s < st0.tm.length
    · by_cases hex : ∃ (k : Nat) (x : CI), k < j ∧ is[k]? = some x ∧ x.dst = some s
      · obtain ⟨k, x, hk, hx, hd⟩ := hex
        obtain ⟨e, he, hon, heb⟩ := hD.conf k j x i o s hk hx hi ho (.inl ⟨hd, hs⟩)
        have hLk : L k := by rw [← hon]; exact haf e he heb
        have hkl : k < is.length := (List.getElem?_eq_some_iff.1 hx).1
        have hq : ps[k]? = some (ps[k]'(by omega)) := by simp [hlen, hkl]
        rw [h.new k x _ s hx hq hLk hd hlt]
        refine (hU3 k x _ s hk hx hq hd hlt (fun k' x' a1 a2 a3 => ?_)).symm
        exact hD.dist k k' x x' s a1 hx a3 hd
      · have hno : ∀ (k : Nat) x, k < j → is[k]? = some x → x.dst ≠ some s := fun k x hk hx hd => hex ⟨k, x, hk, hx, hd⟩
        rw [hU2 s hno]
        refine h.old s (fun k x hx hLk hd => ?_)
        by_cases hkj : k < j
        · exact hno k x hkj hx hd
        · have hne : k ≠ j := fun e => by subst e; exact hj hLk
          obtain ⟨ok, hok⟩ := hops k x hx
          obtain ⟨e, he, hon, heb⟩ := hD.conf j k i x ok s (by omega) hi hx hok (.inr ⟨hd, hs⟩)
          exact hj (by rw [← hon]; exact hcl k ok hLk hok e he heb)
    · rw [getL_out _ _ (by rw [h.len]; omega), getL_out _ _ (by rw [hU1]; omega)]
  have hag : Agree ⟨tmj, bxj, obj⟩ st := by
    refine ⟨fun k r r' h1 h2 => ?_, fun k r r' h1 h2 => ?_⟩
    · rcases hobj k r h1 with e1 | ⟨j1, p1, q1, q2⟩ <;> rcases (h.ob k r').1 h2 with e2 | ⟨j2, p2, q3, q4, q5⟩
      · rw [e1] at e2; cases e2; rfl
      · rw [(n1 j2 p2 k r' q3 q5).1] at e1; cases e1
      · rw [(n1 j1 p1 k r q1 q2).1] at e2; cases e2
      · by_cases e : j1 = j2
        · subst e; rw [q1] at q3; cases q3; rw [q2] at q5; cases q5; rfl
        · rw [(n1 j1 p1 k r q1 q2).2 j2 p2 (Ne.symm e) q3] at q5; cases q5
    · rcases hbxj k r h1 with e1 | ⟨j1, p1, q1, q2⟩ <;> rcases (h.bx k r').1 h2 with e2 | ⟨j2, p2, q3, q4, q5⟩
      · rw [e1] at e2; cases e2; rfl
      · rw [(n2 j2 p2 k r' q3 q5).1] at e1; cases e1
      · rw [(n2 j1 p1 k r q1 q2).1] at e2; cases e2
      · by_cases e : j1 = j2
        · subst e; rw [q1] at q3; cases q3; rw [q2] at q5; cases q5; rfl
        · rw [(n2 j1 p1 k r q1 q2).2 j2 p2 (Ne.symm e) q3] at q5; cases q5
  have hf1 : ∀ k r, lk p.ob k = some r → lk st.ob k = none := by
    intro k r hr
    cases e : lk st.ob k with
    | none => rfl
    | some r' =>
      rcases (h.ob k r').1 e with e1 | ⟨j', p', q1, q2, q3⟩
      · rw [(n1 j p k r hp hr).1] at e1; cases e1
      · have hne : j' ≠ j := fun e => by subst e; exact hj q2
        rw [(n1 j p k r hp hr).2 j' p' hne q1] at q3; cases q3
  have hf2 : ∀ k r, lk p.bx k = some r → lk st.bx k = none := by
    intro k r hr
    cases e : lk st.bx k with
    | none => rfl
    | some r' =>
      rcases (h.bx k r').1 e with e1 | ⟨j', p', q1, q2, q3⟩
      · rw [(n2 j p k r hp hr).1] at e1; cases e1
      · have hne : j' ≠ j := fun e => by subst e; exact hj q2
        rw [(n2 j p k r hp hr).2 j' p' hne q1] at q3; cases q3
  exact hG st (fun t ob bx => t = p.t ∧ ob = p.ob ∧ bx = p.bx) hread hag (fun x hx => alive_ev h.rel (nokeyAs_mem (chkKs_mem hK hi) hx)) hf1 hf2 ⟨rfl, rfl, rfl⟩

theorem alloc_pt {M : St} {b : Nat} {z : List Cell} {p : Pt} (h : Good C.E M ⟨some b, .alloc z, none⟩ p) : p.t = one (.box b 0) := by
  have h1 := h ⟨M.tm, [], []⟩ (fun t _ _ => t = p.t) (fun _ _ => rfl) ⟨fun k r r' _ h2 => (by cases h2), fun k r r' _ h2 => (by cases h2)⟩ (fun x hx => by cases hx) (fun _ _ _ => rfl) (fun _ _ _ => rfl) rfl
  simp only [vi, val] at h1
  cases e : freshK ([] : Bx) b && allC Cell.plain z with
  | true => rw [e] at h1; exact h1.symm
  | false => rw [e] at h1; exact h1.elim
theorem ext_vi {b : Nat} {st : St} {tm : List T} {s jx sx : Nat} {p : Pt} (h : vi C.E ⟨some s, .ext jx (.t sx), none⟩ st tm (fun t ob bx => t = p.t ∧ ob = p.ob ∧ bx = p.bx)) : ∃ xs y, getL tm sx = .tup xs ∧ lkV xs jx = some y ∧ p.t = .v y ∧ p.ob = [] ∧ p.bx = [] := by
  simp only [vi, val, ev] at h
  split at h
  · rename_i xs e
    split at h
    · rename_i y e2
      exact ⟨xs, y, e, e2, h.1.symm, h.2.1.symm, h.2.2.symm⟩
    · exact h.elim
  · exact h.elim

/-- where such a region stands, when a read may come behind the store -/
inductive PhL (C : Cx) (ops : Array Oper) (st0 : St) (is : List CI) (x0 : CI) (tl : List CI) (ps : List Pt) (tmF : List T) (obF : Ob) (k s sx jx : Nat) (Q : St → Prop) (L : Array Bool) (a : Act) (w : World) : Prop
  | mid (G : Gh) (st : St) (h1 : ∃ k, k < is.length ∧ L.getD k false = false) (h2 : ∀ k, is.length ≤ k → L.getD k false = false) (h : DInv C st0 is ps (fun k => L.getD k false = true) G st a w)
  | gap (G : Gh) (old : T) (X : Bx) (xs : List V) (y : V) (h1 : ∀ i, L.getD i false = true ↔ i ≤ is.length ∧ i ≠ k) (h : Rel C G ⟨setL tmF s old, X, obF⟩ a w) (hx : getL (setL tmF s old) sx = .tup xs) (hy : lkV xs jx = some y)
      (ht : s < tmF.length → getL tmF s = .v y) (hq : wis C.E tl ⟨tmF, X, obF⟩ Q)
  | tail (t : Nat) (G : Gh) (st : St) (h1 : is.length ≤ t) (h2 : t ≤ ops.size) (h3 : ∀ k, L.getD k false = true ↔ k < t) (h : Rel C G st a w) (hq : wis C.E ((x0 :: tl).drop (t - is.length)) st Q)

theorem any_late {ops : Array Oper} {is : List CI} {x0 : CI} {tl : List CI} {k0 s sx jx : Nat} {st0 : St} {ps : List Pt} {tmF : List T} {obF : Ob} {bxF : Bx} {Q : St → Prop} {QQ : Exit → Act → World → Prop} (hc : ChkLate C.E.P ops is x0 tl k0 s sx jx)
    (htr : Tr C.E is st0.tm st0.ob st0.bx ps tmF obF bxF) (hQ : wis C.E (x0 :: tl) ⟨tmF, bxF, obF⟩ Q) (hn : ∀ a' w' G' st', Rel C G' st' a' w' → Q st' → QQ .normal a' w') :
    ∀ (fuel : Nat) (L : Array Bool) (a : Act) (w : World), L.size = ops.size → unl L ops.size ≤ fuel → (∀ (k : Nat) o, L.getD k false = true → ops[k]? = some o → ∀ e ∈ o.after, Region.binds .any e = true → L.getD e.on false = true) →
      PhL C ops st0 is x0 tl ps tmF obF k0 s sx jx Q L a w → wpAny C.E.P .any ops QQ fuel L a w := by
  intro fuel
  have hready : ∀ (L : Array Bool), L.size = ops.size → ∀ k, k < ops.size → L.getD k false = false → (∀ k', k' < k → L.getD k' false = true) → k ∈ Region.ready .any ops L := by
    intro L hs k hk hL hlow
    rw [mem_ready]
    have ho : ops[k]? = some ops[k] := by simp [hk]
    refine ⟨?_, ops[k], ho, fun e he heb => hlow _ (hc.edge k _ ho e he heb)⟩
    have hk' : k < L.size := by omega
    rw [Array.getD_eq_getD_getElem?] at hL ⊢
    simp [hk'] at hL ⊢; exact hL
  -- the least that has not run
  have least : ∀ (L : Array Bool) (k : Nat), L.getD k false = false → ∃ q0, q0 ≤ k ∧ L.getD q0 false = false ∧ ∀ k', k' < q0 → L.getD k' false = true := by
    intro L k
    induction k using Nat.strongRecOn with
    | _ k ih =>
      intro hk
      by_cases hex : ∃ k', k' < k ∧ L.getD k' false = false
      · obtain ⟨k', h1, h2⟩ := hex
        obtain ⟨q0, a1, a2, a3⟩ := ih k' h1 h2
        exact ⟨q0, by omega, a2, a3⟩
      · refine ⟨k, Nat.le_refl _, hk, fun k' hk' => ?_⟩
        cases e : L.getD k' false with
        | true => rfl
        | false => exact absurd ⟨k', hk', e⟩ hex
  have finish : ∀ (L : Array Bool) (a : Act) (w : World), L.size = ops.size → PhL C ops st0 is x0 tl ps tmF obF k0 s sx jx Q L a w → Region.ready .any ops L = [] → QQ .normal a w := by
    intro L a w hs hph hr
    cases hph with
    | mid G st h1 h2 h =>
      obtain ⟨k, hk, hL⟩ := h1
      obtain ⟨q0, a1, a2, a3⟩ := least L k hL
      have := hready L hs q0 (by have := hc.size; omega) a2 a3
      rw [hr] at this; cases this
    | gap G old X xs y h1 h hx hy ht hq =>
      have hkl : k0 < is.length := (List.getElem?_eq_some_iff.1 hc.late.at').1
      have hL : L.getD k0 false = false := by
        rw [Bool.eq_false_iff]; intro hh; exact ((h1 k0).1 hh).2 rfl
      have := hready L hs k0 (by have := hc.size; omega) hL (fun k' hk' => (h1 k').2 ⟨by omega, by omega⟩)
      rw [hr] at this; cases this
    | tail t G st h1 h2 h3 h hq =>
      by_cases e : t = ops.size
      · have hd : (x0 :: tl).drop (t - is.length) = [] := by
          rw [List.drop_eq_nil_iff]; have := hc.size; omega
        rw [hd] at hq
        exact hn a w G st h hq
      · have hL : L.getD t false = false := by
          rw [Bool.eq_false_iff]; intro hh; have := (h3 t).1 hh; omega
        have := hready L hs t (by omega) hL (fun k' hk' => (h3 k').2 hk')
        rw [hr] at this; cases this
  induction fuel with
  | zero =>
    intro L a w hs hu hcl hph
    have hr : Region.ready .any ops L = [] := by
      cases hr : Region.ready .any ops L with
      | nil => rfl
      | cons j l =>
        have hj : j ∈ Region.ready .any ops L := by rw [hr]; simp
        rw [mem_ready] at hj
        obtain ⟨h1, o, ho, _⟩ := hj
        have hjl := (Array.getElem?_eq_some_iff.1 ho).1
        have h2 := unl_zero L ops.size (by omega) j hjl
        have hj' : j < L.size := by omega
        rw [Array.getD_eq_getD_getElem?] at h1 h2
        simp [hj'] at h1 h2
        rw [h1] at h2; cases h2
    exact ⟨hr, finish L a w hs hph hr⟩
  | succ fuel ih =>
    intro L a w hs hu hcl hph
    refine ⟨finish L a w hs hph, fun j hj => ?_⟩
    rw [mem_ready] at hj
    obtain ⟨h1, o, ho, haf⟩ := hj
    have hjl := (Array.getElem?_eq_some_iff.1 ho).1
    have hjL : j < L.size := by omega
    have hL : L.getD j false = false := by
      rw [Array.getD_eq_getD_getElem?] at h1 ⊢
      simp [hjL] at h1 ⊢; exact h1
    have haf' : ∀ e ∈ o.after, Region.binds .any e = true → L.getD e.on false = true := fun e he heb => haf e he heb
    have hs' : (L.setIfInBounds j true).size = ops.size := by simp [hs]
    have hu' : unl (L.setIfInBounds j true) ops.size ≤ fuel := by
      have := (unl_put L j hjL ops.size).2 hjl hL
      omega
    have hget := fun k => getD_put L j k hjL
    have hcl' : ∀ (k : Nat) o, (L.setIfInBounds j true).getD k false = true → ops[k]? = some o → ∀ e ∈ o.after, Region.binds .any e = true → (L.setIfInBounds j true).getD e.on false = true := by
      intro k o' hk ho' e he heb
      rw [hget] at hk ⊢
      by_cases e1 : e.on = j
      · rw [if_pos e1]
      · rw [if_neg e1]
        by_cases e2 : k = j
        · subst e2
          rw [ho] at ho'; cases ho'
          exact haf' e he heb
        · rw [if_neg e2] at hk
          exact hcl k o' hk ho' e he heb
    cases hph with
    | mid G st h1 h2 h =>
      by_cases hlt : j < is.length
      · obtain ⟨x, hx⟩ : ∃ x, is[j]? = some x := ⟨is[j], by simp [hlt]⟩
        obtain ⟨o', ho', hchk⟩ := hc.each j x (by rw [List.getElem?_append_left hlt]; exact hx)
        rw [ho] at ho'; cases ho'
        refine h.op htr hc.conf hc.keys (fun k o hk ho => hcl k o hk ho) (by rw [hL]; simp) ho hx (fun k x hx => ?_) hchk haf' (fun a' w' G' st' hI => ?_)
        · have hk : k < is.length := (List.getElem?_eq_some_iff.1 hx).1
          obtain ⟨o, ho, _⟩ := hc.each k x (by rw [List.getElem?_append_left hk]; exact hx)
          exact ⟨o, ho⟩
        · refine ih _ a' w' hs' hu' hcl' ?_
          have hI' : DInv C st0 is ps (fun k => (L.setIfInBounds j true).getD k false = true) G' st' a' w' := hI.congr (fun k => by
            rw [hget]
            by_cases e : k = j
            · simp [e]
            · simp [e])
          by_cases hex : ∃ k, k < is.length ∧ (L.setIfInBounds j true).getD k false = false
          · exact .mid G' st' hex (fun k hk => by rw [hget, if_neg (by omega)]; exact h2 k hk) hI'
          · have hall : ∀ k, k < is.length → (L.setIfInBounds j true).getD k false = true := by
              intro k hk
              cases e : (L.setIfInBounds j true).getD k false with
              | true => rfl
              | false => exact absurd ⟨k, hk, e⟩ hex
            refine .tail is.length G' _ (Nat.le_refl _) (by have := hc.size; omega) (fun k => ⟨fun hk => ?_, hall k⟩) (hI'.done htr hc.conf hall) (by rw [Nat.sub_self]; exact hQ)
            by_cases e : k < is.length
            · exact e
            · rw [hget, if_neg (by omega), h2 k (by omega)] at hk; cases hk
      · obtain ⟨k, hk, hkL⟩ := h1
        have hjk : j = is.length ∧ k = k0 := by
          rcases hc.tail j o ho (by omega) k (by omega) with hb | hb
          · have := hb.run hcl haf'
            rw [hkL] at this; cases this
          · exact hb
        obtain ⟨rfl, rfl⟩ := hjk
        have hall : ∀ i, i < is.length → i ≠ k → L.getD i false = true := by
          intro i hi hne
          rcases hc.tail is.length o ho (Nat.le_refl _) i hi with hb | hb
          · exact hb.run hcl haf'
          · exact absurd hb.2 hne
        obtain ⟨hlat, hsx, n, b, y0, ka, z, rfl, hsb, hys, hka⟩ := hc.late
        obtain ⟨hlen, hlF⟩ := htr.len
        obtain ⟨n1, n2, n3, n4⟩ := htr.names
        obtain ⟨u1, u2, u3⟩ := htr.at.2
        have hpk : ps[k]? = some (ps[k]'(by omega)) := by simp [hlen, hk]
        obtain ⟨ok, hok, hck⟩ := hc.each k _ (by rw [List.getElem?_append_left hk]; exact hlat)
        have hvi := h.vi_at htr hc.conf hc.keys (fun k o hk ho => hcl k o hk ho) (by rw [hkL]; simp) hok hlat (fun k x hx => by
            have hk : k < is.length := (List.getElem?_eq_some_iff.1 hx).1
            obtain ⟨o, ho, _⟩ := hc.each k x (by rw [List.getElem?_append_left hk]; exact hx)
            exact ⟨o, ho⟩) hck (fun e he heb => by
            have := hc.edge k ok hok e he heb
            exact hall e.on (by omega) (by omega)) hpk
        generalize hpe : ps[k]'(by omega) = pk at hpk hvi
        obtain ⟨xs, y, x1, x2, x3, x4, x5⟩ := ext_vi (b := b) hvi
        have htm : ∀ s', s' ≠ s → getL tmF s' = getL st.tm s' := by
          intro s' hne
          by_cases hlt : s' < st0.tm.length
          · by_cases hex : ∃ (k' : Nat) (x : CI), is[k']? = some x ∧ x.dst = some s'
            · obtain ⟨k', x, hx, hd⟩ := hex
              have hkl : k' < is.length := (List.getElem?_eq_some_iff.1 hx).1
              have hkk : k' ≠ k := fun e => by
                subst e; rw [hlat] at hx; cases hx
                simp only [Option.some.injEq] at hd
                exact hne hd.symm
              have hq : ps[k']? = some (ps[k']'(by omega)) := by simp [hlen, hkl]
              rw [h.new k' x _ s' hx hq (hall k' hkl hkk) hd hlt]
              exact u3 k' x _ s' hkl hx hq hd hlt (fun k'' x' a1 _ a3 => hc.conf.dist k' k'' x x' s' a1 hx a3 hd)
            · rw [u2 s' (fun k x _ hx hd => hex ⟨k, x, hx, hd⟩), h.old s' (fun k x hx _ hd => hex ⟨k, x, hx, hd⟩)]
          · rw [getL_out _ _ (by rw [hlF]; omega), getL_out _ _ (by rw [h.len]; omega)]
        have hps : s < tmF.length → getL tmF s = .v y := by
          intro hlt
          rw [← x3]
          exact u3 k _ pk s hk hlat hpk rfl (by omega) (fun k'' x' a1 _ a3 => hc.conf.dist k k'' _ x' s a1 hlat a3 rfl)
        have hpL : ∀ (j' : Nat) p, ps[j']? = some p → j' ≠ k → L.getD j' false = true := fun j' p hp hne => hall j' (by rw [← hlen]; exact (List.getElem?_eq_some_iff.1 hp).1) hne
        have hst : Rel C G ⟨setL tmF s (getL st.tm s), bxF, obF⟩ a w := by
          refine h.rel.ext (by show (setL tmF s (getL st.tm s)).length = _; rw [length_setL, hlF, h.len]) (fun s' => ?_) (fun s' => lk_ext_of (fun k' x => ?_) s') (fun s' => lk_ext_of (fun k' x => ?_) s')
          · show getL (setL tmF s (getL st.tm s)) s' = _
            rw [getL_setL]
            split
            · rename_i e; rw [e.1]
            · rename_i e
              by_cases e2 : s' = s
              · subst e2
                rw [getL_out _ _ (by omega), getL_out _ _ (by rw [h.len, ← hlF]; omega)]
              · exact htm s' e2
          · show lk bxF k' = some x ↔ _
            rw [h.bx k' x, n4 k' x]
            constructor
            · rintro (hh | ⟨j', p, q1, q2⟩)
              · exact .inl hh
              · by_cases e : j' = k
                · subst e; rw [hpk] at q1; cases q1; rw [x5] at q2; cases q2
                · exact .inr ⟨j', p, q1, hpL j' p q1 e, q2⟩
            · rintro (hh | ⟨j', p, q1, _, q2⟩)
              · exact .inl hh
              · exact .inr ⟨j', p, q1, q2⟩
          · show lk obF k' = some x ↔ _
            rw [h.ob k' x, n3 k' x]
            constructor
            · rintro (hh | ⟨j', p, q1, q2⟩)
              · exact .inl hh
              · by_cases e : j' = k
                · subst e; rw [hpk] at q1; cases q1; rw [x4] at q2; cases q2
                · exact .inr ⟨j', p, q1, hpL j' p q1 e, q2⟩
            · rintro (hh | ⟨j', p, q1, _, q2⟩)
              · exact .inl hh
              · exact .inr ⟨j', p, q1, q2⟩
        obtain ⟨x', hx', hchk⟩ : ∃ o', ops[is.length]? = some o' ∧ chkI C.E.P ops o' ⟨none, .st n (.t b) y0, none⟩ = true := hc.each is.length _ (by simp)
        rw [ho] at hx'; cases hx'
        have hbt : b < tmF.length → getL tmF b = one (.box b 0) := by
          intro hlt
          have hkal : ka < is.length := (List.getElem?_eq_some_iff.1 hka).1
          have hpa : ps[ka]? = some (ps[ka]'(by omega)) := by simp [hlen, hkal]
          obtain ⟨_, _, _, hGa, _⟩ := htr.at.1 ka _ _ hka hpa
          rw [← alloc_pt hGa]
          exact u3 ka _ _ b hkal hka hpa rfl (by omega) (fun k'' x' a1 _ a3 => hc.conf.dist ka k'' _ x' b a1 hka a3 rfl)
        have hq' : wi C.E ⟨none, .st n (.t b) y0, none⟩ ⟨setL tmF s (getL st.tm s), bxF, obF⟩ (fun st' => ∃ X, st' = ⟨setL tmF s (getL st.tm s), X, obF⟩ ∧ wis C.E tl ⟨tmF, X, obF⟩ Q) := by
          have hey : ev C.E ⟨setL tmF s (getL st.tm s), bxF, obF⟩ y0 = ev C.E ⟨tmF, bxF, obF⟩ y0 := by
            cases y0 with
            | t sy =>
              show getL (setL tmF s (getL st.tm s)) sy = getL tmF sy
              rw [getL_setL, if_neg (fun e => hys (by rw [e.1]))]
            | k c => rfl
            | g m => rfl
          have heb : ev C.E ⟨setL tmF s (getL st.tm s), bxF, obF⟩ (.t b) = ev C.E ⟨tmF, bxF, obF⟩ (.t b) := by
            show getL (setL tmF s (getL st.tm s)) b = getL tmF b
            rw [getL_setL, if_neg (fun e => hsb e.1)]
          simp only [wis, wi, wo] at hQ ⊢
          rw [hey, heb]
          cases ey : ev C.E ⟨tmF, bxF, obF⟩ y0 with
          | tup ys => rw [ey] at hQ; exact hQ.elim
          | v yv =>
            rw [ey] at hQ
            simp only at hQ ⊢
            cases e1 : Nat.beq yv.cells.length n with
            | false => rw [e1] at hQ; exact hQ.elim
            | true =>
              rw [e1] at hQ
              simp only [cond_true] at hQ ⊢
              have eb : ev C.E ⟨tmF, bxF, obF⟩ (.t b) = one (.box b 0) := by
                by_cases hlt : b < tmF.length
                · exact hbt hlt
                · exfalso
                  have h9 : getL tmF b = .u := getL_out _ _ (by omega)
                  rw [show ev C.E ⟨tmF, bxF, obF⟩ (.t b) = .u from h9] at hQ; exact hQ
              rw [eb] at hQ ⊢
              simp only [one] at hQ ⊢
              cases e2 : lk bxF b with
              | none => rw [e2] at hQ; exact hQ.elim
              | some cs =>
                rw [e2] at hQ
                simp only at hQ ⊢
                cases e3 : allC Cell.stor yv.cells with
                | false => rw [e3] at hQ; exact hQ.elim
                | true =>
                  rw [e3] at hQ
                  simp only [cond_true] at hQ ⊢
                  exact ⟨hQ.1, _, rfl, hQ.2⟩
        refine wi_ok hst ho hchk hq' (fun a' w' G' st' hR hq'' => ih _ a' w' hs' hu' hcl' ?_)
        obtain ⟨X, rfl, hq3⟩ := hq''
        refine .gap G' (getL st.tm s) X xs y (fun i => ?_) hR ?_ x2 hps hq3
        · rw [hget]
          by_cases e : i = is.length
          · subst e; simp; omega
          · rw [if_neg e]
            constructor
            · intro hh
              refine ⟨?_, fun e2 => ?_⟩
              · by_cases e3 : i ≤ is.length
                · exact e3
                · rw [h2 i (by omega)] at hh; cases hh
              · subst e2; rw [hkL] at hh; cases hh
            · rintro ⟨h3, h4⟩
              exact hall i (by omega) h4
        · rw [getL_setL, if_neg (fun e => hsx e.1), htm sx (fun e => hsx e.symm)]
          exact x1
    | gap G old X xs y h1 h hx hy ht hq =>
      obtain ⟨hlat, hsx, _⟩ := hc.late
      have hkl : k0 < is.length := (List.getElem?_eq_some_iff.1 hlat).1
      have hjk : j = k0 := by
        by_cases e : j = k0
        · exact e
        · exfalso
          have hjm : is.length < j := by
            by_cases e2 : is.length < j
            · exact e2
            · have := (h1 j).2 ⟨by omega, e⟩
              rw [hL] at this; cases this
          rcases hc.tail j o ho (by omega) k0 (by omega) with hb | hb
          · exact ((h1 k0).1 (hb.run hcl haf')).2 rfl
          · omega
      subst hjk
      obtain ⟨o', ho', hchk⟩ := hc.each j _ (by rw [List.getElem?_append_left hkl]; exact hlat)
      rw [ho] at ho'; cases ho'
      have hv : vi C.E ⟨some s, .ext jx (.t sx), none⟩ ⟨setL tmF s old, X, obF⟩ (setL tmF s old) (fun t ob bx => t = (⟨.v y, [], []⟩ : Pt).t ∧ ob = (⟨.v y, [], []⟩ : Pt).ob ∧ bx = (⟨.v y, [], []⟩ : Pt).bx) := by
        simp only [vi, val, ev]
        rw [hx]
        simp only
        rw [hy]
        simp
      refine vi_ok h ho hchk hv (fun a' w' G' _ _ hR => ih _ a' w' hs' hu' hcl' ?_)
      refine .tail (is.length + 1) G' ⟨tmF, X, obF⟩ (by omega) (by have := hc.size; simp at this; omega) (fun i => ?_) ?_ (by rw [Nat.add_sub_cancel_left]; exact hq)
      · rw [hget]
        by_cases e : i = j
        · subst e; simp; omega
        · rw [if_neg e, h1 i]
          constructor
          · rintro ⟨h3, _⟩; omega
          · intro h3; exact ⟨by omega, e⟩
      · refine hR.ext (by show tmF.length = (setL (setL tmF s old) s (.v y)).length; rw [length_setL, length_setL]) (fun s' => ?_) (fun _ => rfl) (fun _ => rfl)
        show getL tmF s' = getL (setL (setL tmF s old) s (.v y)) s'
        rw [getL_setL, length_setL, getL_setL]
        split
        · rename_i e
          rw [← e.1]; exact ht (by have := e.2; rw [e.1] at *; omega)
        · rfl
    | tail t G st h1 h2 h3 h hq =>
      have hjt : j = t := by
        have a1 : ¬ j < t := fun hh => by rw [(h3 j).2 hh] at hL; cases hL
        by_cases e : j = t
        · exact e
        · rcases hc.tail j o ho (by omega) t (by omega) with hb | hb
          · have := hb.run hcl haf'
            have := (h3 t).1 this; omega
          · omega
      subst hjt
      have hsz := hc.size
      obtain ⟨x, hx⟩ : ∃ x, (x0 :: tl)[j - is.length]? = some x := ⟨(x0 :: tl)[j - is.length]'(by omega), by simp⟩
      obtain ⟨o', ho', hchk⟩ := hc.each j x (by rw [List.getElem?_append_right h1]; exact hx)
      rw [ho] at ho'; cases ho'
      have hdr : (x0 :: tl).drop (j - is.length) = x :: (x0 :: tl).drop (j + 1 - is.length) := by
        have hlt : j - is.length < (x0 :: tl).length := by omega
        rw [List.drop_eq_getElem_cons hlt]
        have : (x0 :: tl)[j - is.length] = x := by rw [List.getElem?_eq_getElem hlt] at hx; exact Option.some.inj hx
        rw [this, show j - is.length + 1 = j + 1 - is.length by omega]
      rw [hdr] at hq
      refine wi_ok h ho hchk hq (fun a' w' G' st' hR hq' => ih _ a' w' hs' hu' hcl' ?_)
      refine .tail (j + 1) G' st' (by omega) (by omega) (fun k => ?_) hR hq'
      rw [hget]
      by_cases e : k = j
      · simp [e]
      · rw [if_neg e, h3 k]; omega

theorem drwL_ok {ops : Array Oper} {is tl : List CI} (hchk : chkLate C.E.P ops is tl = true) (h : Rel C G st a w) {Q : St → Prop} {QQ : Exit → Act → World → Prop}
    (hv : vis C.E is st.tm st.ob st.bx fun tm ob bx => wis C.E tl ⟨tm, bx, ob⟩ Q) (hn : ∀ a' w' G' st', Rel C G' st' a' w' → Q st' → QQ .normal a' w') {id : Nat} :
    (Code.region id ops true).wp C.E.P QQ a w := by
  obtain ⟨x0, tl', k0, s, sx, jx, rfl, hc⟩ := chkLate_spec hchk
  obtain ⟨ps, tmF, obF, bxF, htr, hq⟩ := vis_tr hv
  have h0 : Rel C G st a { w with drawn := w.drawn + 1 } := h.grow ⟨rfl, rfl, rfl, Nat.le_refl _, fun _ _ => rfl⟩
  have hkl : k0 < is.length := (List.getElem?_eq_some_iff.1 hc.late.at').1
  refine wp_region_any hc.mixed (any_late hc htr hq hn ops.size _ a _ (by simp) (unl_le _ _) (fun k o hk => ?_) ?_)
  · rw [Array.getD_eq_getD_getElem?, Array.getElem?_replicate] at hk
    split at hk <;> cases hk
  · have hno : ∀ k, (Array.replicate ops.size false).getD k false = false := by
      intro k
      rw [Array.getD_eq_getD_getElem?, Array.getElem?_replicate]
      split <;> rfl
    refine .mid G st ⟨k0, hkl, hno k0⟩ (fun k _ => hno k) ⟨h0, rfl, fun k i p s _ _ hL => ?_, fun s _ => rfl, fun k r => ⟨.inl, ?_⟩, fun k r => ⟨.inl, ?_⟩⟩
    · rw [hno] at hL; cases hL
    · rintro (hh | ⟨j, p, _, hL, _⟩)
      · exact hh
      · rw [hno] at hL; cases hL
    · rintro (hh | ⟨j, p, _, hL, _⟩)
      · exact hh
      · rw [hno] at hL; cases hL
end
/-! ### several operations that may come behind the store -/
def freeI (i : CI) : Bool :=
  match i.op, i.guard with
  | .mv _, _ | .pick _ _ _, _ => true
  | .bin op _ _, none => match op with
    | .add | .sub => true
    | _ => false
  | _, _ => false
def isSt (x0 : CI) : Bool :=
  match x0.dst, x0.guard, x0.op with
  | none, none, .st _ (.t _) _ => true
  | _, _, _ => false
def lateM (is : List CI) (x0 : CI) (k : Nat) : Bool :=
  match x0.op, is[k]? with
  | .st _ (.t b) y, some i => (match i.dst with
    | some s => freeI i && (!(Nat.beq s b) && !(memN s (slots [y])))
    | none => false)
  | _, _ => false
def chkTlM (ops : Array Oper) (is : List CI) (x0 : CI) (m : Nat) : Bool := (List.range ops.size).all fun j => Nat.blt j m || match ops[j]? with
  | some o => (List.range j).all fun i => memN i (cloL ops j (afterOf o)) || (Nat.beq j m && lateM is x0 i)
  | none => false
def chkLateM (P : Program) (ops : Array Oper) (is tl : List CI) : Bool :=
  P.follows .mixedOrders && chkIs P ops 0 (is ++ tl) && chkD ops is && chkE ops && chkKs is && match tl with
    | x0 :: _ => isSt x0 && chkTlM ops is x0 is.length
    | [] => false
def LateAt (is : List CI) (b : Nat) (y : CA) (k : Nat) : Prop := ∃ s op g, is[k]? = some (⟨some s, op, g⟩ : CI) ∧ freeI ⟨some s, op, g⟩ = true ∧ s ≠ b ∧ y ≠ .t s
structure ChkLateM (P : Program) (ops : Array Oper) (is : List CI) (x0 : CI) (tl : List CI) (n b : Nat) (y : CA) : Prop where
  mixed : P.follows .mixedOrders = true
  size : is.length + (x0 :: tl).length = ops.size
  each : ∀ (k : Nat) x, (is ++ x0 :: tl)[k]? = some x → ∃ o, ops[k]? = some o ∧ chkI P ops o x = true
  conf : ChkD ops is
  edge : ∀ (j : Nat) o, ops[j]? = some o → ∀ e ∈ o.after, Region.binds .any e = true → e.on < j
  keys : chkKs is = true
  st : x0 = (⟨none, .st n (.t b) y, none⟩ : CI)
  tail : ∀ (j : Nat) o, ops[j]? = some o → is.length ≤ j → ∀ i, i < j → Bef ops o i ∨ (j = is.length ∧ LateAt is b y i)
theorem isSt_spec {x0 : CI} (h : isSt x0 = true) : ∃ n b y, x0 = (⟨none, .st n (.t b) y, none⟩ : CI) := by
  unfold isSt at h
  split at h
  · rename_i n b y e1 e2 e3
    obtain ⟨d0, g0, o0⟩ := x0
    cases e1; cases e2; cases e3
    exact ⟨_, _, _, rfl⟩
  · cases h
theorem lateM_spec {is : List CI} {n b : Nat} {y : CA} {k : Nat} (h : lateM is ⟨none, .st n (.t b) y, none⟩ k = true) : LateAt is b y k := by
  simp only [lateM] at h
  split at h
  · rename_i b' y' i e0 e
    cases e0
    obtain ⟨d, g, o⟩ := i
    simp only at h
    split at h
    · rename_i s
      simp only [Bool.and_eq_true, Bool.not_eq_true'] at h
      obtain ⟨h1, h2, h3⟩ := h
      refine ⟨s, _, _, e, h1, fun e => ?_, fun e => ?_⟩
      · rw [e, beq_self] at h2; cases h2
      · subst e
        simp [slots, memN, beq_self] at h3
    · cases h
  · cases h
theorem chkLateM_spec {P : Program} {ops : Array Oper} {is tl : List CI} (h : chkLateM P ops is tl = true) : ∃ x0 tl' n b y, tl = x0 :: tl' ∧ ChkLateM P ops is x0 tl' n b y := by
  simp only [chkLateM, Bool.and_eq_true] at h
  obtain ⟨⟨⟨⟨⟨h1, h2⟩, h3⟩, h4⟩, h6⟩, h5⟩ := h
  cases tl with
  | nil => cases h5
  | cons x0 tl =>
    simp only [Bool.and_eq_true] at h5
    obtain ⟨hs, ht⟩ := h5
    obtain ⟨n, b, y, e0⟩ := isSt_spec hs
    obtain ⟨g1, g2⟩ := chkIs_spec h2
    refine ⟨x0, tl, n, b, y, rfl, h1, by simpa using g1, fun k x hx => ?_, chkD_spec h3, ?_, h6, e0, ?_⟩
    · obtain ⟨o, a1, a2⟩ := g2 k x hx
      exact ⟨o, by simpa using a1, a2⟩
    · intro j o ho e he heb
      unfold chkE at h4
      simp only [List.all_eq_true, List.mem_range] at h4
      have := h4 j (Array.getElem?_eq_some_iff.1 ho).1
      rw [ho] at this
      simp only [List.all_eq_true, Bool.or_eq_true, Bool.not_eq_true'] at this
      rcases this e (by simpa using he) with a1 | a1
      · rw [heb] at a1; cases a1
      · exact Nat.le_of_ble_eq_true a1
    · intro j o ho hj i hi
      unfold chkTlM at ht
      simp only [List.all_eq_true, List.mem_range, Bool.or_eq_true] at ht
      rcases ht j (Array.getElem?_eq_some_iff.1 ho).1 with h7 | h7
      · have := Nat.le_of_ble_eq_true h7; omega
      · rw [ho] at h7
        simp only [List.all_eq_true, List.mem_range, Bool.or_eq_true, Bool.and_eq_true] at h7
        have h0 : ∀ x ∈ afterOf o, Bef ops o x := fun x hx => by
          obtain ⟨e1, b1, rfl, b3⟩ := afterOf_mem hx
          exact .dir b1 b3
        rcases h7 i hi with h7 | h7
        · exact .inl (cloL_mem h0 _ (memN_mem.1 h7))
        · subst e0
          exact .inr ⟨Nat.eq_of_beq_eq_true h7.1, lateM_spec h7.2⟩

theorem chk_mv {P : Program} {op : Op} {y : CA} (h : chkOp P op (.mv y) = true) : ∃ x, op = .move x ∨ op = .assign x := by
  cases op <;> first | exact ⟨_, .inl rfl⟩ | exact ⟨_, .inr rfl⟩ | (simp [chkOp] at h)
theorem chk_bin {P : Program} {op : Op} {b : BinOp} {x y : CA} (h : chkOp P op (.bin b x y) = true) : ∃ t x' y' t', op = .binOp b t x' y' t' ∧ chkA x' x = true ∧ chkA y' y = true := by
  cases op <;> first
    | (rename_i b' t x' y' t'
       simp only [chkOp, Bool.and_eq_true, decide_eq_true_eq] at h
       obtain ⟨⟨⟨e, h1⟩, h2⟩, _⟩ := h
       subst e
       exact ⟨_, _, _, _, rfl, h1, h2⟩)
    | (simp [chkOp] at h)
theorem chk_pick {P : Program} {op : Op} {c x y : CA} (h : chkOp P op (.pick c x y) = true) : ∃ c x y, op = .pick c x y := by
  cases op <;> first | exact ⟨_, _, _, rfl⟩ | (simp [chkOp] at h)
theorem freeI_bin {d : Option Nat} {op : BinOp} {x y : CA} {g : Option (Nat × Bool)} (h : freeI ⟨d, .bin op x y, g⟩ = true) : g = none ∧ (op = .add ∨ op = .sub) := by
  cases g with
  | none => cases op <;> first | exact ⟨rfl, .inl rfl⟩ | exact ⟨rfl, .inr rfl⟩ | (simp [freeI] at h)
  | some q => simp [freeI] at h
/-- a sum reads no memory -/
theorem bin_free {C : Cx} {G : Gh} {st : St} {P : Program} {op : BinOp} {tx : TypeId} {xo yo : Operand} {x y : Value} {tx' ty' : T} {K : Cell → Prop} (hop : op = .add ∨ op = .sub)
    (h : bin op tx' ty' K) (hx : TRep C.w0 C.I G st.bx st.ob x tx') (hy : TRep C.w0 C.I G st.bx st.ob y ty') :
    ∃ v, ∀ w, (do eqGuard op tx xo yo x y; Go.binOp op tx x y : Sem Value).run P w = .ok v w := by
  unfold bin at h
  split at h
  · rename_i k a k2 n2
    have hk : k = k2 := by cases k <;> cases k2 <;> first | rfl | exact h.elim
    subst hk
    have k1 := rep_int hx
    have k2 := rep_int hy
    rcases hop with rfl | rfl
    · exact ⟨.int k (k.wrap (a + n2)), fun w => by rw [k1, k2]; simp [eqGuard, Go.binOp, Op.intArith]⟩
    · exact ⟨.int k (k.wrap (a - n2)), fun w => by rw [k1, k2]; simp [eqGuard, Go.binOp, Op.intArith]⟩
  · rename_i a b
    have k1 := rep_str hx
    have k2 := rep_str hy
    rcases hop with rfl | rfl
    · simp only [binS] at h
      refine ⟨.string (a ++ b), fun w => ?_⟩
      have h1 := h.1
      have h2 : ¬ (((a.size + b.size : Nat) : Int) > IntKind.i64.max) := by
        simp only [show IntKind.i64.max = 9223372036854775807 from by decide]; omega
      rw [k1, k2]
      simp only [eqGuard, Go.binOp, Op.stringOp, if_neg h2]
      rfl
    · exact (h : False).elim
  · exact h.elim
/-- such an operation reads no memory -/
theorem free_op {C : Cx} {G : Gh} {st : St} {p : Pt} {ops : Array Oper} {j : Nat} {o : Oper} {i : CI} {a : Act} {w wr : World} {K : Act → World → Prop} (ho : ops[j]? = some o) (hc : chkI C.E.P ops o i = true) (hf : freeI i = true) (hR : Rel C G st a wr) (hvi : vi C.E i st st.tm (fun t ob bx => t = p.t ∧ ob = p.ob ∧ bx = p.bx))
    (h : wpOp C.E.P ops (fun _ _ _ => False) j K a w) : ∃ v, K (a.put o.dst v) w ∧ ∀ w' (K' : Act → World → Prop) (QQ : Exit → Act → World → Prop), K' (a.put o.dst v) w' → wpOp C.E.P ops QQ j K' a w' := by
  simp only [chkI, Bool.and_eq_true] at hc
  have ho2 := hc.1.2
  unfold wpOp at h ⊢
  rw [ho] at h ⊢
  simp only at h ⊢
  by_cases hw : Region.wanted o (yielded ops a.tmps) = true
  · rw [if_pos hw] at h
    simp only [if_pos hw]
    have h : o.wp C.E.P a w K (fun _ _ _ => False) := by
      rcases h with h | h
      · exact h
      · obtain ⟨_, _, hh⟩ := h.2; exact hh.elim
    have fin : ∀ v, (∀ w', (execOp a.eval o).run C.E.P w' = .ok (.value v) w') → ∃ v, K (a.put o.dst v) w ∧ ∀ w' (K' : Act → World → Prop) (QQ : Exit → Act → World → Prop), K' (a.put o.dst v) w' → (o.wp C.E.P a w' K' QQ ∨ o.asks C.E.P a w' ∧ LetsOut QQ) := by
      intro v hv
      refine ⟨v, ?_, fun w' K' QQ hk => .inl ?_⟩
      · unfold Oper.wp at h; rw [hv w] at h; exact h
      · unfold Oper.wp; rw [hv w']; exact hk
    cases hi : i.op with
    | mv y =>
      rw [hi] at ho2
      obtain ⟨x, hx | hx⟩ := chk_mv ho2
      · exact fin (a.eval x) (fun w' => by simp only [execOp, hx]; rfl)
      · exact fin (a.eval x) (fun w' => by simp only [execOp, hx]; rfl)
    | pick c x y =>
      rw [hi] at ho2
      obtain ⟨c, x, y, hx⟩ := chk_pick ho2
      cases hb : a.eval c with
      | bool b => exact fin (if b then a.eval x else a.eval y) (fun w' => by simp only [execOp, hx, hb]; rfl)
      | _ =>
        exfalso
        unfold Oper.wp at h
        simp only [execOp, hx, hb] at h
        exact h
    | bin op x y =>
      obtain ⟨d, op0, g⟩ := i
      cases hi
      have hf2 := freeI_bin hf
      obtain ⟨rfl, hop⟩ := hf2
      unfold vi at hvi
      simp only [val] at hvi
      obtain ⟨t, xo, yo, t', hxop, c1, c2⟩ := chk_bin ho2
      have V := View.self hR [x, y]
      obtain ⟨v, hv⟩ := bin_free (C := C) (G := G) (st := st) (P := C.E.P) (tx := t) (xo := xo) (yo := yo) hop hvi (V.ev c1 (by simp)) (V.ev c2 (by simp))
      exact fin v (fun w' => by simp only [execOp, hxop]; exact run_v (hv w'))
    | _ =>
      obtain ⟨d, op0, g⟩ := i
      cases hi
      cases hf
  · rw [if_neg hw] at h
    refine ⟨undef, h, fun w' K' QQ hk => ?_⟩
    rw [if_neg hw]; exact hk
/-- a store: what it does hangs on its two operands alone -/
theorem store_op {P : Program} {ops : Array Oper} {j : Nat} {o : Oper} {n : Nat} {x y : CA} (ho : ops[j]? = some o) (hc : chkI P ops o ⟨none, .st n x y, none⟩ = true) :
    ∃ (t : TypeId) (x' y' : Operand), chkA x' x = true ∧ chkA y' y = true ∧
      (∀ (a : Act) (w : World) (K : Act → World → Prop), wpOp P ops (fun _ _ _ => False) j K a w → ∃ w1, (Instr.storeAt t (a.eval x') (a.eval y')).run P w = .ok () w1 ∧ K a w1) ∧
      (∀ (a : Act) (w w1 : World) (K : Act → World → Prop) (QQ : Exit → Act → World → Prop), (Instr.storeAt t (a.eval x') (a.eval y')).run P w = .ok () w1 → K a w1 → wpOp P ops QQ j K a w) := by
  simp only [chkI, Bool.and_eq_true, decide_eq_true_eq] at hc
  obtain ⟨⟨hd, ho2⟩, hg⟩ := hc
  obtain ⟨t, x', y', hop⟩ := chk_st ho2
  have hgn : o.guard = none := by
    revert hg
    cases o.guard with
    | none => intro _; rfl
    | some p => intro hg; cases p; cases hg
  have hw : ∀ a : Act, Region.wanted o (yielded ops a.tmps) = true := fun a => by unfold Region.wanted; rw [hgn]
  have hput : ∀ (a : Act) v, a.put o.dst v = a := by intro a v; rw [hd]; rfl
  have hrun : ∀ (a : Act) (w w1 : World), (Instr.storeAt t (a.eval x') (a.eval y')).run P w = .ok () w1 → (execOp a.eval o).run P w = .ok .skip w1 := fun a w w1 h => by
    simp only [execOp, hop, Sem.run_bind, h, Result.andThen_ok]; rfl
  rw [hop] at ho2
  simp only [chkOp, Bool.and_eq_true] at ho2
  refine ⟨t, x', y', ho2.1.1, ho2.1.2, fun a w K h => ?_, fun a w w1 K QQ h1 h2 => ?_⟩
  · unfold wpOp at h
    rw [ho] at h
    simp only [if_pos (hw a)] at h
    have h : o.wp P a w K (fun _ _ _ => False) := by
      rcases h with h | h
      · exact h
      · obtain ⟨_, _, hh⟩ := h.2; exact hh.elim
    unfold Oper.wp at h
    cases e : (Instr.storeAt t (a.eval x') (a.eval y')).run P w with
    | ok u w1 =>
      cases u
      rw [hrun a w w1 e] at h
      rw [Oper.upon_skip, hput] at h
      exact ⟨w1, rfl, h⟩
    | halt z w1 =>
      exfalso
      have e2 : (execOp a.eval o).run P w = .halt z w1 := by
        simp only [execOp, hop, Sem.run_bind, e]; rfl
      rw [e2] at h
      cases z <;> exact h
  · unfold wpOp
    rw [ho]
    simp only [if_pos (hw a)]
    refine .inl ?_
    unfold Oper.wp
    rw [hrun a w w1 h1, Oper.upon_skip, hput]
    exact h2
section
variable {C : Cx} {G : Gh} {st : St} {a : Act} {w : World}
theorem LateAt.eval {is : List CI} {b : Nat} {y : CA} {k : Nat} (h : LateAt is b y k) {i : CI} (hi : is[k]? = some i) {o : Oper} {P : Program} {ops : Array Oper} (hc : chkI P ops o i = true) {x' y' : Operand} (hx : chkA x' (.t b) = true) (hy : chkA y' y = true) (a : Act) (v : Value) :
    (a.put o.dst v).eval x' = a.eval x' ∧ (a.put o.dst v).eval y' = a.eval y' := by
  obtain ⟨s, op, g, e, _, h1, h2⟩ := h
  rw [hi] at e; cases e
  simp only [chkI, Bool.and_eq_true, decide_eq_true_eq] at hc
  have hd := hc.1.1
  constructor
  · refine Act.eval_put (fun d hd' e => ?_)
    rw [hd] at hd'; cases hd'
    subst e
    exact h1 (Nat.eq_of_beq_eq_true hx)
  · refine Act.eval_put (fun d hd' e => ?_)
    rw [hd] at hd'; cases hd'
    subst e
    cases y with
    | t s' =>
      have := Nat.eq_of_beq_eq_true (show Nat.beq s s' = true from hy)
      exact h2 (by rw [this])
    | k c => cases hy
    | g n => cases hy

inductive PhM (C : Cx) (ops : Array Oper) (st0 : St) (is : List CI) (x0 : CI) (tl : List CI) (ps : List Pt) (b : Nat) (y : CA) (t : TypeId) (x' y' : Operand) (Q : St → Prop) (L : Array Bool) (a : Act) (w : World) : Prop
  | mid (G : Gh) (st : St) (h1 : ∃ k, k < is.length ∧ L.getD k false = false) (h2 : ∀ k, is.length ≤ k → L.getD k false = false) (h : DInv C st0 is ps (fun k => L.getD k false = true) G st a w)
  | gap (G : Gh) (st : St) (w0 : World) (h1 : ∃ k, k < is.length ∧ L.getD k false = false) (h2 : ∀ k, is.length < k → L.getD k false = false) (h3 : L.getD is.length false = true)
      (h4 : ∀ k, k < is.length → L.getD k false = false → LateAt is b y k) (h : DInv C st0 is ps (fun k => k < is.length ∧ L.getD k false = true) G st a w0)
      (hs : (Instr.storeAt t (a.eval x') (a.eval y')).run C.E.P w0 = .ok () w)
  | tail (t : Nat) (G : Gh) (st : St) (h1 : is.length ≤ t) (h2 : t ≤ ops.size) (h3 : ∀ k, L.getD k false = true ↔ k < t) (h : Rel C G st a w) (hq : wis C.E ((x0 :: tl).drop (t - is.length)) st Q)

/-- the operations that wait may run before the store, too -/
theorem late_run {ops : Array Oper} {is : List CI} {x0 : CI} {tl : List CI} {n b : Nat} {y : CA} {st0 : St} {ps : List Pt} {tmF : List T} {obF : Ob} {bxF : Bx} (hc : ChkLateM C.E.P ops is x0 tl n b y)
    (htr : Tr C.E is st0.tm st0.ob st0.bx ps tmF obF bxF) {x' y' : Operand} (hx : chkA x' (.t b) = true) (hy : chkA y' y = true) :
    ∀ (fuel : Nat) (M : Nat → Prop) (G : Gh) (st : St) (a : Act) (w : World), (∀ k, M k → k < is.length) → (∀ (k : Nat) o, M k → ops[k]? = some o → ∀ e ∈ o.after, Region.binds .any e = true → M e.on) →
      (∀ k, k < is.length → ¬ M k → LateAt is b y k) → DInv C st0 is ps M G st a w →
      (∃ m, m + fuel = is.length ∧ ∀ k, k < m → M k) →
      ∃ a' G' st', DInv C st0 is ps (fun k => k < is.length) G' st' a' w ∧ a'.eval x' = a.eval x' ∧ a'.eval y' = a.eval y' := by
  intro fuel
  induction fuel with
  | zero =>
    intro M G st a w hM hcl hL h ⟨m, hm, hall⟩
    exact ⟨a, G, st, h.congr fun k => ⟨hM k, fun hk => hall k (by omega)⟩, rfl, rfl⟩
  | succ fuel ih =>
    intro M G st a w hM hcl hL h ⟨m, hm, hall⟩
    by_cases hMm : M m
    · refine ih M G st a w hM hcl hL h ⟨m + 1, by omega, fun k hk => ?_⟩
      by_cases e : k < m
      · exact hall k e
      · rw [show k = m by omega]; exact hMm
    · have hml : m < is.length := by omega
      have hlate := hL m hml hMm
      have hlate' := hlate
      obtain ⟨s, op, g, hi, hfree, _, _⟩ := hlate'
      obtain ⟨o, ho, hchk⟩ := hc.each m _ (by rw [List.getElem?_append_left hml]; exact hi)
      have haf : ∀ e ∈ o.after, Region.binds .any e = true → M e.on := fun e he heb => hall _ (hc.edge m o ho e he heb)
      have hstep := h.op (K := fun a' w' => ∃ G' st', DInv C st0 is ps (fun k => k = m ∨ M k) G' st' a' w') (QQ := fun _ _ _ => False) htr hc.conf hc.keys hcl hMm ho hi (fun k x hx => by
        have hk : k < is.length := (List.getElem?_eq_some_iff.1 hx).1
        obtain ⟨o, ho, _⟩ := hc.each k x (by rw [List.getElem?_append_left hk]; exact hx)
        exact ⟨o, ho⟩) hchk haf (fun a' w' G' st' hI => ⟨G', st', hI⟩)
      obtain ⟨hlen, _⟩ := htr.len
      have hp : ps[m]? = some (ps[m]'(by omega)) := by simp [hlen, hml]
      have hvi := h.vi_at htr hc.conf hc.keys hcl hMm ho hi (fun k x hx => by
        have hk : k < is.length := (List.getElem?_eq_some_iff.1 hx).1
        obtain ⟨o, ho, _⟩ := hc.each k x (by rw [List.getElem?_append_left hk]; exact hx)
        exact ⟨o, ho⟩) hchk haf hp
      obtain ⟨v, ⟨G', st', hI⟩, _⟩ := free_op ho hchk hfree h.rel hvi hstep
      obtain ⟨e1, e2⟩ := hlate.eval hi hchk hx hy a v
      obtain ⟨a', G2, st2, r1, r2, r3⟩ := ih (fun k => k = m ∨ M k) G' st' (a.put o.dst v) w (fun k hk => by
          rcases hk with hk | hk
          · rw [hk]; exact hml
          · exact hM k hk)
        (fun k o' hk ho' e he heb => by
          rcases hk with rfl | hk
          · rw [ho] at ho'; cases ho'
            exact .inr (haf e he heb)
          · exact .inr (hcl k o' hk ho' e he heb))
        (fun k hk hnk => hL k hk fun hh => hnk (.inr hh)) hI ⟨m + 1, by omega, fun k hk => by
          by_cases e : k < m
          · exact .inr (hall k e)
          · exact .inl (by omega)⟩
      exact ⟨a', G2, st2, r1, r2.trans e1, r3.trans e2⟩

theorem any_lateM {ops : Array Oper} {is : List CI} {x0 : CI} {tl : List CI} {n b : Nat} {y : CA} {st0 : St} {ps : List Pt} {tmF : List T} {obF : Ob} {bxF : Bx} {Q : St → Prop} {QQ : Exit → Act → World → Prop} (hc : ChkLateM C.E.P ops is x0 tl n b y)
    (htr : Tr C.E is st0.tm st0.ob st0.bx ps tmF obF bxF) (hQ : wis C.E (x0 :: tl) ⟨tmF, bxF, obF⟩ Q) (hn : ∀ a' w' G' st', Rel C G' st' a' w' → Q st' → QQ .normal a' w')
    {t : TypeId} {x' y' : Operand} (hx : chkA x' (.t b) = true) (hy : chkA y' y = true)
    (hst1 : ∀ (a : Act) (w : World) (K : Act → World → Prop), wpOp C.E.P ops (fun _ _ _ => False) is.length K a w → ∃ w1, (Instr.storeAt t (a.eval x') (a.eval y')).run C.E.P w = .ok () w1 ∧ K a w1)
    (hst2 : ∀ (a : Act) (w w1 : World) (K : Act → World → Prop) (QQ : Exit → Act → World → Prop), (Instr.storeAt t (a.eval x') (a.eval y')).run C.E.P w = .ok () w1 → K a w1 → wpOp C.E.P ops QQ is.length K a w) :
    ∀ (fuel : Nat) (L : Array Bool) (a : Act) (w : World), L.size = ops.size → unl L ops.size ≤ fuel → (∀ (k : Nat) o, L.getD k false = true → ops[k]? = some o → ∀ e ∈ o.after, Region.binds .any e = true → L.getD e.on false = true) →
      PhM C ops st0 is x0 tl ps b y t x' y' Q L a w → wpAny C.E.P .any ops QQ fuel L a w := by
  have hops : ∀ (k : Nat) x, is[k]? = some x → ∃ o, ops[k]? = some o := fun k x hx => by
    have hk : k < is.length := (List.getElem?_eq_some_iff.1 hx).1
    obtain ⟨o, ho, _⟩ := hc.each k x (by rw [List.getElem?_append_left hk]; exact hx)
    exact ⟨o, ho⟩
  obtain ⟨o0, ho0, hchk0⟩ : ∃ o', ops[is.length]? = some o' ∧ chkI C.E.P ops o' x0 = true := hc.each is.length _ (by simp)
  intro fuel
  have hready : ∀ (L : Array Bool), L.size = ops.size → ∀ k, k < ops.size → L.getD k false = false → (∀ k', k' < k → L.getD k' false = true) → k ∈ Region.ready .any ops L := by
    intro L hs k hk hL hlow
    rw [mem_ready]
    have ho : ops[k]? = some ops[k] := by simp [hk]
    refine ⟨?_, ops[k], ho, fun e he heb => hlow _ (hc.edge k _ ho e he heb)⟩
    have hk' : k < L.size := by omega
    rw [Array.getD_eq_getD_getElem?] at hL ⊢
    simp [hk'] at hL ⊢; exact hL
  have least : ∀ (L : Array Bool) (k : Nat), L.getD k false = false → ∃ q0, q0 ≤ k ∧ L.getD q0 false = false ∧ ∀ k', k' < q0 → L.getD k' false = true := by
    intro L k
    induction k using Nat.strongRecOn with
    | _ k ih =>
      intro hk
      by_cases hex : ∃ k', k' < k ∧ L.getD k' false = false
      · obtain ⟨k', h1, h2⟩ := hex
        obtain ⟨q0, a1, a2, a3⟩ := ih k' h1 h2
        exact ⟨q0, by omega, a2, a3⟩
      · refine ⟨k, Nat.le_refl _, hk, fun k' hk' => ?_⟩
        cases e : L.getD k' false with
        | true => rfl
        | false => exact absurd ⟨k', hk', e⟩ hex
  have finish : ∀ (L : Array Bool) (a : Act) (w : World), L.size = ops.size → PhM C ops st0 is x0 tl ps b y t x' y' Q L a w → Region.ready .any ops L = [] → QQ .normal a w := by
    intro L a w hs hph hr
    have gone : (∃ k, k < is.length ∧ L.getD k false = false) → False := by
      rintro ⟨k, hk, hL⟩
      obtain ⟨q0, a1, a2, a3⟩ := least L k hL
      have := hready L hs q0 (by have := hc.size; omega) a2 a3
      rw [hr] at this; cases this
    cases hph with
    | mid G st h1 h2 h => exact (gone h1).elim
    | gap G st w0 h1 h2 h3 h4 h hs => exact (gone h1).elim
    | tail t G st h1 h2 h3 h hq =>
      by_cases e : t = ops.size
      · have hd : (x0 :: tl).drop (t - is.length) = [] := by
          rw [List.drop_eq_nil_iff]; have := hc.size; omega
        rw [hd] at hq
        exact hn a w G st h hq
      · have hL : L.getD t false = false := by
          rw [Bool.eq_false_iff]; intro hh; have := (h3 t).1 hh; omega
        have := hready L hs t (by omega) hL (fun k' hk' => (h3 k').2 hk')
        rw [hr] at this; cases this
  induction fuel with
  | zero =>
    intro L a w hs hu hcl hph
    have hr : Region.ready .any ops L = [] := by
      cases hr : Region.ready .any ops L with
      | nil => rfl
      | cons j l =>
        have hj : j ∈ Region.ready .any ops L := by rw [hr]; simp
        rw [mem_ready] at hj
        obtain ⟨h1, o, ho, _⟩ := hj
        have hjl := (Array.getElem?_eq_some_iff.1 ho).1
        have h2 := unl_zero L ops.size (by omega) j hjl
        have hj' : j < L.size := by omega
        rw [Array.getD_eq_getD_getElem?] at h1 h2
        simp [hj'] at h1 h2
        rw [h1] at h2; cases h2
    exact ⟨hr, finish L a w hs hph hr⟩
  | succ fuel ih =>
    intro L a w hs hu hcl hph
    refine ⟨finish L a w hs hph, fun j hj => ?_⟩
    rw [mem_ready] at hj
    obtain ⟨h1, o, ho, haf⟩ := hj
    have hjl := (Array.getElem?_eq_some_iff.1 ho).1
    have hjL : j < L.size := by omega
    have hL : L.getD j false = false := by
      rw [Array.getD_eq_getD_getElem?] at h1 ⊢
      simp [hjL] at h1 ⊢; exact h1
    have haf' : ∀ e ∈ o.after, Region.binds .any e = true → L.getD e.on false = true := fun e he heb => haf e he heb
    have hs' : (L.setIfInBounds j true).size = ops.size := by simp [hs]
    have hu' : unl (L.setIfInBounds j true) ops.size ≤ fuel := by
      have := (unl_put L j hjL ops.size).2 hjl hL
      omega
    have hget := fun k => getD_put L j k hjL
    have hcl' : ∀ (k : Nat) o, (L.setIfInBounds j true).getD k false = true → ops[k]? = some o → ∀ e ∈ o.after, Region.binds .any e = true → (L.setIfInBounds j true).getD e.on false = true := by
      intro k o' hk ho' e he heb
      rw [hget] at hk ⊢
      by_cases e1 : e.on = j
      · rw [if_pos e1]
      · rw [if_neg e1]
        by_cases e2 : k = j
        · subst e2
          rw [ho] at ho'; cases ho'
          exact haf' e he heb
        · rw [if_neg e2] at hk
          exact hcl k o' hk ho' e he heb
    cases hph with
    | mid G st h1 h2 h =>
      by_cases hlt : j < is.length
      · obtain ⟨x, hx⟩ : ∃ x, is[j]? = some x := ⟨is[j], by simp [hlt]⟩
        obtain ⟨o', ho', hchk⟩ := hc.each j x (by rw [List.getElem?_append_left hlt]; exact hx)
        rw [ho] at ho'; cases ho'
        refine h.op htr hc.conf hc.keys (fun k o hk ho => hcl k o hk ho) (by rw [hL]; simp) ho hx hops hchk haf' (fun a' w' G' st' hI => ?_)
        refine ih _ a' w' hs' hu' hcl' ?_
        have hI' : DInv C st0 is ps (fun k => (L.setIfInBounds j true).getD k false = true) G' st' a' w' := hI.congr (fun k => by
          rw [hget]
          by_cases e : k = j
          · simp [e]
          · simp [e])
        by_cases hex : ∃ k, k < is.length ∧ (L.setIfInBounds j true).getD k false = false
        · exact .mid G' st' hex (fun k hk => by rw [hget, if_neg (by omega)]; exact h2 k hk) hI'
        · have hall : ∀ k, k < is.length → (L.setIfInBounds j true).getD k false = true := by
            intro k hk
            cases e : (L.setIfInBounds j true).getD k false with
            | true => rfl
            | false => exact absurd ⟨k, hk, e⟩ hex
          refine .tail is.length G' _ (Nat.le_refl _) (by have := hc.size; omega) (fun k => ⟨fun hk => ?_, hall k⟩) (hI'.done htr hc.conf hall) (by rw [Nat.sub_self]; exact hQ)
          by_cases e : k < is.length
          · exact e
          · rw [hget, if_neg (by omega), h2 k (by omega)] at hk; cases hk
      · obtain ⟨k1, hk1, hkL1⟩ := h1
        have hj0 : j = is.length := by
          rcases hc.tail j o ho (by omega) k1 (by omega) with hb | hb
          · have := hb.run hcl haf'
            rw [hkL1] at this; cases this
          · exact hb.1
        subst hj0
        have hlate : ∀ k, k < is.length → L.getD k false = false → LateAt is b y k := by
          intro k hk hkL
          rcases hc.tail is.length o ho (Nat.le_refl _) k hk with hb | hb
          · have := hb.run hcl haf'
            rw [hkL] at this; cases this
          · exact hb.2
        have hI : DInv C st0 is ps (fun k => k < is.length ∧ L.getD k false = true) G st a w := h.congr fun k => by
          constructor
          · intro hk
            refine ⟨?_, hk⟩
            by_cases e : k < is.length
            · exact e
            · rw [h2 k (by omega)] at hk; cases hk
          · intro hk; exact hk.2
        obtain ⟨a', G', st', r1, r2, r3⟩ := late_run hc htr hx hy is.length (fun k => k < is.length ∧ L.getD k false = true) G st a w (fun k hk => hk.1)
          (fun k o' hk ho' e he heb => ⟨Nat.lt_trans (hc.edge k o' ho' e he heb) hk.1, hcl k o' hk.2 ho' e he heb⟩)
          (fun k hk hnk => hlate k hk (by
            rw [Bool.eq_false_iff]; intro hh; exact hnk ⟨hk, hh⟩)) hI ⟨0, by omega, fun k hk => by omega⟩
        have hR := r1.done htr hc.conf (fun k hk => hk)
        have hQ' := hQ
        simp only [wis] at hQ'
        obtain ⟨w1, s1, _⟩ := hst1 a' w (fun _ _ => True) (wi_ok hR ho0 hchk0 hQ' (fun _ _ _ _ _ _ => trivial))
        rw [r2, r3] at s1
        refine hst2 a w w1 _ QQ s1 (ih _ a w1 hs' hu' hcl' (.gap G st w ?_ (fun k hk => ?_) ?_ (fun k hk hkL => ?_) (hI.congr fun k => ?_) s1))
        · exact ⟨k1, hk1, by rw [hget, if_neg (by omega)]; exact hkL1⟩
        · rw [hget, if_neg (by omega)]; exact h2 k (by omega)
        · rw [hget, if_pos rfl]
        · rw [hget, if_neg (by omega)] at hkL
          exact hlate k hk hkL
        · constructor
          · rintro ⟨q1, q2⟩
            exact ⟨q1, by rw [hget, if_neg (by omega)]; exact q2⟩
          · rintro ⟨q1, q2⟩
            rw [hget, if_neg (by omega)] at q2
            exact ⟨q1, q2⟩
    | gap G st w0 h1 h2 h3 h4 h hs =>
      have hjl : j < is.length := by
        by_cases e : j < is.length
        · exact e
        · exfalso
          by_cases e2 : j = is.length
          · subst e2; rw [h3] at hL; cases hL
          · obtain ⟨k, hk, hkL⟩ := h1
            rcases hc.tail j o ho (by omega) k (by omega) with hb | hb
            · have := hb.run hcl haf'
              rw [hkL] at this; cases this
            · exact e2 hb.1
      have hlate := h4 j hjl hL
      have hlate' := hlate
      obtain ⟨s, op, g, hi, hfree, _, _⟩ := hlate'
      obtain ⟨o', ho', hchk⟩ := hc.each j _ (by rw [List.getElem?_append_left hjl]; exact hi)
      rw [ho] at ho'; cases ho'
      have hstep := h.op (K := fun a' w' => ∃ G' st', DInv C st0 is ps (fun k => k = j ∨ (k < is.length ∧ L.getD k false = true)) G' st' a' w') (QQ := fun _ _ _ => False) htr hc.conf hc.keys
        (fun k o' hk ho' e he heb => ⟨Nat.lt_trans (hc.edge k o' ho' e he heb) hk.1, hcl k o' hk.2 ho' e he heb⟩) (by rintro ⟨_, hh⟩; rw [hL] at hh; cases hh) ho hi hops hchk
        (fun e he heb => ⟨Nat.lt_trans (hc.edge j o ho e he heb) hjl, haf' e he heb⟩) (fun a' w' G' st' hI => ⟨G', st', hI⟩)
      obtain ⟨hlen, _⟩ := htr.len
      have hp : ps[j]? = some (ps[j]'(by omega)) := by simp [hlen, hjl]
      have hvi := h.vi_at htr hc.conf hc.keys
        (fun k o' hk ho' e he heb => ⟨Nat.lt_trans (hc.edge k o' ho' e he heb) hk.1, hcl k o' hk.2 ho' e he heb⟩) (by rintro ⟨_, hh⟩; rw [hL] at hh; cases hh) ho hi hops hchk
        (fun e he heb => ⟨Nat.lt_trans (hc.edge j o ho e he heb) hjl, haf' e he heb⟩) hp
      obtain ⟨v, ⟨G', st', hI⟩, hgo⟩ := free_op ho hchk hfree h.rel hvi hstep
      obtain ⟨e1, e2⟩ := hlate.eval hi hchk hx hy a v
      have hI' : DInv C st0 is ps (fun k => k < is.length ∧ (L.setIfInBounds j true).getD k false = true) G' st' (a.put o.dst v) w0 := hI.congr fun k => by
        rw [hget]
        by_cases e : k = j
        · subst e; simp [hjl]
        · simp [e]
      have hs1 : (Instr.storeAt t ((a.put o.dst v).eval x') ((a.put o.dst v).eval y')).run C.E.P w0 = .ok () w := by rw [e1, e2]; exact hs
      refine hgo w _ QQ (ih _ _ w hs' hu' hcl' ?_)
      by_cases hex : ∃ k, k < is.length ∧ (L.setIfInBounds j true).getD k false = false
      · refine .gap G' st' w0 hex (fun k hk => by rw [hget, if_neg (by omega)]; exact h2 k hk) (by rw [hget, if_neg (by omega)]; exact h3) (fun k hk hkL => ?_) hI' hs1
        by_cases e : k = j
        · subst e; rw [hget, if_pos rfl] at hkL; cases hkL
        · rw [hget, if_neg e] at hkL
          exact h4 k hk hkL
      · have hall : ∀ k, k < is.length → (L.setIfInBounds j true).getD k false = true := by
          intro k hk
          cases e : (L.setIfInBounds j true).getD k false with
          | true => rfl
          | false => exact absurd ⟨k, hk, e⟩ hex
        have hR := hI'.done htr hc.conf (fun k hk => ⟨hk, hall k hk⟩)
        have hQ' := hQ
        simp only [wis] at hQ'
        obtain ⟨w1, s1, G2, st2, q1, q2⟩ := hst1 (a.put o.dst v) w0 (fun a' w' => ∃ G' st', Rel C G' st' a' w' ∧ wis C.E tl st' Q) (wi_ok hR ho0 hchk0 hQ' (fun _ _ G' st' hR hq => ⟨G', st', hR, hq⟩))
        rw [hs1] at s1
        cases s1
        refine .tail (is.length + 1) G2 st2 (by omega) (by have := hc.size; simp at this; omega) (fun i => ?_) q1 (by rw [Nat.add_sub_cancel_left]; exact q2)
        constructor
        · intro hh
          by_cases e : i ≤ is.length
          · omega
          · rw [hget, if_neg (by omega), h2 i (by omega)] at hh; cases hh
        · intro hi
          by_cases e : i < is.length
          · exact hall i e
          · rw [show i = is.length by omega, hget, if_neg (by omega)]; exact h3
    | tail t G st h1 h2 h3 h hq =>
      have hjt : j = t := by
        have a1 : ¬ j < t := fun hh => by rw [(h3 j).2 hh] at hL; cases hL
        by_cases e : j = t
        · exact e
        · rcases hc.tail j o ho (by omega) t (by omega) with hb | hb
          · have := hb.run hcl haf'
            have := (h3 t).1 this; omega
          · omega
      subst hjt
      have hsz := hc.size
      obtain ⟨x, hx⟩ : ∃ x, (x0 :: tl)[j - is.length]? = some x := ⟨(x0 :: tl)[j - is.length]'(by omega), by simp⟩
      obtain ⟨o', ho', hchk⟩ := hc.each j x (by rw [List.getElem?_append_right h1]; exact hx)
      rw [ho] at ho'; cases ho'
      have hdr : (x0 :: tl).drop (j - is.length) = x :: (x0 :: tl).drop (j + 1 - is.length) := by
        have hlt : j - is.length < (x0 :: tl).length := by omega
        rw [List.drop_eq_getElem_cons hlt]
        have : (x0 :: tl)[j - is.length] = x := by rw [List.getElem?_eq_getElem hlt] at hx; exact Option.some.inj hx
        rw [this, show j - is.length + 1 = j + 1 - is.length by omega]
      rw [hdr] at hq
      refine wi_ok h ho hchk hq (fun a' w' G' st' hR hq' => ih _ a' w' hs' hu' hcl' ?_)
      refine .tail (j + 1) G' st' (by omega) (by omega) (fun k => ?_) hR hq'
      rw [hget]
      by_cases e : k = j
      · simp [e]
      · rw [if_neg e, h3 k]; omega

theorem drwM_ok {ops : Array Oper} {is tl : List CI} (hchk : chkLateM C.E.P ops is tl = true) (h : Rel C G st a w) {Q : St → Prop} {QQ : Exit → Act → World → Prop}
    (hv : vis C.E is st.tm st.ob st.bx fun tm ob bx => wis C.E tl ⟨tm, bx, ob⟩ Q) (hn : ∀ a' w' G' st', Rel C G' st' a' w' → Q st' → QQ .normal a' w') {id : Nat} :
    (Code.region id ops true).wp C.E.P QQ a w := by
  obtain ⟨x0, tl', n, b, y, rfl, hc⟩ := chkLateM_spec hchk
  obtain ⟨ps, tmF, obF, bxF, htr, hq⟩ := vis_tr hv
  have h0 : Rel C G st a { w with drawn := w.drawn + 1 } := h.grow ⟨rfl, rfl, rfl, Nat.le_refl _, fun _ _ => rfl⟩
  obtain ⟨o0, ho0, hchk0⟩ : ∃ o', ops[is.length]? = some o' ∧ chkI C.E.P ops o' x0 = true := hc.each is.length _ (by simp)
  rw [hc.st] at hchk0
  obtain ⟨t, x', y', hx, hy, hst1, hst2⟩ := store_op ho0 hchk0
  refine wp_region_any hc.mixed (any_lateM hc htr hq hn hx hy hst1 hst2 ops.size _ a _ (by simp) (unl_le _ _) (fun k o hk => ?_) ?_)
  · rw [Array.getD_eq_getD_getElem?, Array.getElem?_replicate] at hk
    split at hk <;> cases hk
  · have hno : ∀ k, (Array.replicate ops.size false).getD k false = false := by
      intro k
      rw [Array.getD_eq_getD_getElem?, Array.getElem?_replicate]
      split <;> rfl
    have hD : DInv C st is ps (fun k => (Array.replicate ops.size false).getD k false = true) G st a { w with drawn := w.drawn + 1 } := by
      refine ⟨h0, rfl, fun k i p s _ _ hL => ?_, fun s _ => rfl, fun k r => ⟨.inl, ?_⟩, fun k r => ⟨.inl, ?_⟩⟩
      · rw [hno] at hL; cases hL
      · rintro (hh | ⟨j, p, _, hL, _⟩)
        · exact hh
        · rw [hno] at hL; cases hL
      · rintro (hh | ⟨j, p, _, hL, _⟩)
        · exact hh
        · rw [hno] at hL; cases hL
    by_cases e : 0 < is.length
    · exact .mid G st ⟨0, e, hno 0⟩ (fun k _ => hno k) hD
    · have hnil : is = [] := by cases is with
        | nil => rfl
        | cons x l => simp at e
      subst hnil
      refine .tail 0 G _ (Nat.le_refl _) (Nat.zero_le _) (fun k => by rw [hno]; simp) (hD.done htr hc.conf (fun k hk => by simp at hk)) (by simpa using hq)
end
end Go.Proofs.YtjnpnpkjmlihdaaDoor.Ab
namespace Go.Proofs.YtjnpnpkjmlihdaaDoor.Ab
open Go Go.RowKit

section
variable {C : Cx} {G : Gh} {st : St} {a : Act} {w : World}

/-- a cell that leads to nothing of the frame's own -/
def Cell.free : Cell → Bool
  | .own .. | .own1 .. | .box .. | .elt .. | .elt1 .. | .fn .. | .fr .. | .pb .. | .fnx .. => false
  | _ => true
theorem SRep.free {w : World} {I : Nat → Prop} {G G' : Gh} {bx bx' : Bx} {ob ob' : Ob} {v : Value} {c : Cell} (h : SRep w I G bx ob v c) (hc : c.free = true) : SRep w I G' bx' ob' v c := by
  cases c <;> first | exact h | cases hc

def Cell.keyX : Cell → Option Nat
  | .pb k _ => some k
  | .fnx _ k .. => some k
  | _ => none
def CN (ρ : Nat → Nat) (bx' : Bx) (ob' : Ob) (c c' : Cell) : Prop :=
  c' = .u ∨ (c' = c ∧ c.free = true) ∨ (∃ k n r, c' = .own k n ∧ c = .own (ρ k) n ∧ lk ob' k = some r) ∨
  (∃ b o, c' = c ∧ c = .box b o ∧ ∃ cs, lk bx' b = some cs) ∨ (∃ f bs, c' = c ∧ c = .fn f bs ∧ ∀ b ∈ bs, ∃ cs, lk bx' b = some cs) ∨
  ∃ k r, c' = c ∧ c.keyX = some k ∧ ρ k = k ∧ lk ob' k = some r

def Gh.ren (G : Gh) (ρ : Nat → Nat) : Gh := { bx := G.bx, top := fun k => G.top (ρ k), sub := fun k => G.sub (ρ k) }

theorem CN.rep {ρ : Nat → Nat} {bx' : Bx} {ob' : Ob} {c c' : Cell} (hob : ∀ k r, lk ob' k = some r → lk st.ob (ρ k) = some r) {v : Value} (hv : SRep C.w0 C.I G st.bx st.ob v c) (h : CN ρ bx' ob' c c') : SRep C.w0 C.I (G.ren ρ) bx' ob' v c' := by
  rcases h with rfl | ⟨rfl, hf⟩ | ⟨k, n, r, rfl, rfl, hr⟩ | ⟨b, o, rfl, rfl, hb⟩ | ⟨f, bs, rfl, rfl, hb⟩ | ⟨k, r, rfl, hk, hρ, hr⟩
  · exact SRep.u
  · exact hv.free hf
  · obtain ⟨r', h1, h2, h3⟩ := hv
    rw [hob k r hr] at h1; cases h1
    exact ⟨r, hr, h2, h3⟩
  · obtain ⟨cs, h1, h2⟩ := hv
    obtain ⟨cs', hb⟩ := hb
    exact ⟨cs', hb, h2⟩
  · obtain ⟨caps, h1, h2, h3⟩ := hv
    exact ⟨caps, h1, h2, fun j s hj => ⟨hb s (List.mem_of_getElem? hj), (h3 j s hj).2⟩⟩
  · have hst := hob k r hr
    rw [hρ] at hst
    cases c' with
    | pb k' n =>
      obtain rfl : k' = k := Option.some.inj hk
      obtain ⟨r', b, h1, h2, h3, h4, h5⟩ := hv
      rw [hst] at h1; cases h1
      exact ⟨r, b, hr, h2, h3, h4, by simp only [Gh.ren, hρ]; exact h5⟩
    | fnx f k' n i m sz get =>
      obtain rfl : k' = k := Option.some.inj hk
      obtain ⟨r', caps, bs, vals, h1, h2, h3, h4, h5, h6, h7, h8, h9⟩ := hv
      rw [hst] at h1; cases h1
      exact ⟨r, caps, bs, vals, hr, h2, h3, h4, h5, h6, h7, h8, by simp only [Gh.ren, hρ]; exact h9⟩
    | _ => cases hk

/-- rows that get other names; what is not kept falls -/
theorem Rel.rename (h : Rel C G st a w) {st' : St} {ρ : Nat → Nat} (hl : st'.tm.length = st.tm.length)
    (hob : ∀ k r, lk st'.ob k = some r → lk st.ob (ρ k) = some r ∧ (isP k = true → ρ k = k))
    (hinj : ∀ k k' r r', lk st'.ob k = some r → lk st'.ob k' = some r' → ρ k = ρ k' → k = k')
    (htm : ∀ s, getL st'.tm s = .u ∨ ∃ c c', getL st.tm s = one c ∧ getL st'.tm s = one c' ∧ CN ρ st'.bx st'.ob c c')
    (hbx : ∀ s cs', lk st'.bx s = some cs' → ∃ cs, lk st.bx s = some cs ∧ cs'.length = cs.length ∧ ∀ j, j < cs.length → CN ρ st'.bx st'.ob (nth cs j) (nth cs' j)) :
    Rel C (G.ren ρ) st' a w := by
  have hob1 : ∀ k r, lk st'.ob k = some r → lk st.ob (ρ k) = some r := fun k r hr => (hob k r hr).1
  let φ : Pos → Pos := fun p => match p with
    | .bx s => .bx s
    | .top k => .top (ρ k)
    | .sub k i j => .sub (ρ k) i j
  have live : ∀ p, Live st'.bx st'.ob p → Live st.bx st.ob (φ p) ∧ (G.ren ρ).blk p = G.blk (φ p) := by
    intro p hp
    cases p with
    | bx s => obtain ⟨cs', hs⟩ := hp; obtain ⟨cs, h1, _⟩ := hbx s cs' hs; exact ⟨⟨cs, h1⟩, rfl⟩
    | top k => obtain ⟨r, hr⟩ := hp; exact ⟨⟨r, hob1 k r hr⟩, rfl⟩
    | sub k i j => obtain ⟨r, sz, n, g, hr, x⟩ := hp; exact ⟨⟨r, sz, n, g, hob1 k r hr, x⟩, rfl⟩
  have hφ : ∀ p q, Live st'.bx st'.ob p → Live st'.bx st'.ob q → φ p = φ q → p = q := by
    intro p q hp hq e
    cases p with
    | bx s => cases q <;> first | exact e | cases e
    | top k =>
      cases q with
      | bx s => cases e
      | top k' =>
        obtain ⟨r, hr⟩ := hp
        obtain ⟨r', hr'⟩ := hq
        have e : ρ k = ρ k' := by simpa [φ] using e
        rw [hinj k k' r r' hr hr' e]
      | sub k' i j => cases e
    | sub k i j =>
      cases q with
      | bx s => cases e
      | top k' => cases e
      | sub k' i' j' =>
        obtain ⟨r, _, _, _, hr, _⟩ := hp
        obtain ⟨r', _, _, _, hr', _⟩ := hq
        simp only [φ, Pos.sub.injEq] at e
        obtain ⟨e1, e2, e3⟩ := e
        rw [hinj k k' r r' hr hr' e1, e2, e3]
  refine ⟨h.df, by rw [hl]; exact h.sz, fun s => ?_, ⟨?_, ?_, ?_, ?_⟩, h.keep, ?_⟩
  · rcases htm s with e | ⟨c, c', e1, e2, hc⟩
    · rw [e]; exact TRep.u
    · have hs := h.tm s
      rw [e1] at hs
      rw [e2]
      exact CN.rep hob1 hs hc
  · intro s cs' hs
    obtain ⟨cs, h1, h2, h3⟩ := hbx s cs' hs
    obtain ⟨arr, t, b1, b2, b3⟩ := h.ob.bxr s cs h1
    refine ⟨arr, t, b1, by rw [b2, h2], fun j u hu => ⟨?_, trivial⟩⟩
    have hj : j < cs.length := by have := (Array.getElem?_eq_some_iff.1 hu).1; omega
    exact CN.rep hob1 (b3 j u hu).1 (h3 j hj)
  · intro k r hr
    refine (h.ob.obr (ρ k) r (hob1 k r hr)).imp (fun _ _ => rfl) (fun i j v _ _ hc => ?_)
    exact hc.move (fun e => e) (fun sz n g _ => ⟨rfl, fun _ _ => rfl⟩)
  · intro p q b hp hq hbp hbq
    obtain ⟨l1, l2⟩ := live p hp
    obtain ⟨l3, l4⟩ := live q hq
    rw [l2] at hbp
    rw [l4] at hbq
    exact hφ p q hp hq (h.ob.inj _ _ b l1 l3 hbp hbq)
  · intro p b hp hbp
    obtain ⟨l1, l2⟩ := live p hp
    rw [l2] at hbp
    exact h.ob.okb _ b l1 hbp
  · intro k r hp hr
    obtain ⟨h1, h2⟩ := hob k r hr
    show G.top (ρ k) = _
    rw [h2 hp] at h1 ⊢
    exact h.pk k r hp h1

/-! ### the names that are given -/
abbrev Pr := Nat × (Nat × Row)
def olds (ps : List Pr) : List Nat := ps.map (·.2.1)
def newOb (ps : List Pr) : Ob := ps.map fun p => (p.1, p.2.2)
structure PW (st : St) (ps : List Pr) : Prop where
  at' : ∀ p ∈ ps, lk st.ob p.2.1 = some p.2.2 ∧ (isP p.1 = true → p.1 = p.2.1)
  nd : (olds ps).Nodup
/-- a cell with its row's new name -/
def CNs (ps : List Pr) (c c' : Cell) : Prop := (c' = c ∧ c.free = true) ∨ (∃ k2 k n r, c = .own k n ∧ c' = .own k2 n ∧ (k2, (k, r)) ∈ ps) ∨ ∃ k r, c' = c ∧ c.keyX = some k ∧ (k, (k, r)) ∈ ps

theorem CNs.mono {ps qs : List Pr} (h : ∀ p ∈ ps, p ∈ qs) {c c' : Cell} (hc : CNs ps c c') : CNs qs c c' := by
  rcases hc with h1 | ⟨k2, k, n, r, h1, h2, h3⟩ | ⟨k, r, h1, h2, h3⟩
  · exact .inl h1
  · exact .inr (.inl ⟨k2, k, n, r, h1, h2, h _ h3⟩)
  · exact .inr (.inr ⟨k, r, h1, h2, h _ h3⟩)

theorem drops_append (st : St) (l m : List Nat) : drops st (l ++ m) = drops (drops st l) m := by
  induction l generalizing st with
  | nil => rfl
  | cons k l ih => exact ih _
theorem PW.append {ps qs : List Pr} (h1 : PW st ps) (h2 : PW (drops st (olds ps)) qs) : PW st (ps ++ qs) := by
  have key : ∀ q ∈ qs, q.2.1 ∉ olds ps ∧ lk st.ob q.2.1 = some q.2.2 := by
    intro q hq
    have := (h2.at' q hq).1
    rw [lk_drops] at this
    by_cases e : q.2.1 ∈ olds ps
    · rw [if_pos e] at this; cases this
    · rw [if_neg e] at this; exact ⟨e, this⟩
  refine ⟨fun p hp => ?_, ?_⟩
  · rcases List.mem_append.1 hp with hp | hp
    · exact h1.at' p hp
    · exact ⟨(key p hp).2, (h2.at' p hp).2⟩
  · show ((ps ++ qs).map (·.2.1)).Nodup
    rw [List.map_append, List.nodup_append]
    refine ⟨h1.nd, h2.nd, fun x hx y hy e => ?_⟩
    obtain ⟨q, hq, rfl⟩ := List.mem_map.1 hy
    subst e
    exact (key q hq).1 hx
theorem PW.nil : PW st [] := ⟨fun _ h => (by cases h), List.nodup_nil⟩
theorem olds_append (ps qs : List Pr) : olds (ps ++ qs) = olds ps ++ olds qs := List.map_append
theorem newOb_append (ps qs : List Pr) : newOb (ps ++ qs) = newOb ps ++ newOb qs := List.map_append

theorem nameC_spec {k' : Nat} {c c' : Cell} {o : Ob} {st2 : St} (h : nameC st k' c = some (c', o, st2)) (hk : isP k' = false) :
    ∃ ps, PW st ps ∧ o = newOb ps ∧ st2 = drops st (olds ps) ∧ CNs ps c c' := by
  cases c with
  | own k n =>
    simp only [nameC] at h
    split at h
    · rename_i r hr
      cases e : isP k with
      | true =>
        rw [e] at h; cases h
        exact ⟨[(k, (k, r))], ⟨fun p hp => by simp only [List.mem_singleton] at hp; subst hp; exact ⟨hr, fun _ => rfl⟩, by simp [olds]⟩, rfl, rfl, .inr (.inl ⟨k, k, n, r, rfl, rfl, by simp⟩)⟩
      | false =>
        rw [e] at h; cases h
        exact ⟨[(k', (k, r))], ⟨fun p hp => by simp only [List.mem_singleton] at hp; subst hp; exact ⟨hr, fun e => by rw [hk] at e; cases e⟩, by simp [olds]⟩, rfl, rfl, .inr (.inl ⟨k', k, n, r, rfl, rfl, by simp⟩)⟩
    · cases h
  | own1 k i j n => cases h
  | box s o => cases h
  | elt k i o => cases h
  | elt1 k i j i2 o => cases h
  | fn f bs => cases h
  | fr sz n g => cases h
  | pb k n =>
    simp only [nameC] at h
    split at h
    · rename_i r hr
      cases e : isP k with
      | true =>
        rw [e] at h; cases h
        exact ⟨[(k, (k, r))], ⟨fun p hp => by simp only [List.mem_singleton] at hp; subst hp; exact ⟨hr, fun _ => rfl⟩, by simp [olds]⟩, rfl, rfl, .inr (.inr ⟨k, r, rfl, rfl, by simp⟩)⟩
      | false => rw [e] at h; cases h
    · cases h
  | fnx f k n i m sz get =>
    simp only [nameC] at h
    split at h
    · rename_i r hr
      cases e : isP k with
      | true =>
        rw [e] at h; cases h
        exact ⟨[(k, (k, r))], ⟨fun p hp => by simp only [List.mem_singleton] at hp; subst hp; exact ⟨hr, fun _ => rfl⟩, by simp [olds]⟩, rfl, rfl, .inr (.inr ⟨k, r, rfl, rfl, by simp⟩)⟩
      | false => rw [e] at h; cases h
    · cases h
  | _ => cases h; exact ⟨[], PW.nil, rfl, rfl, .inl ⟨rfl, rfl⟩⟩

theorem isP_bkey (s j : Nat) : isP (bkey s j) = false := by
  unfold isP bkey
  rw [Bool.and_eq_false_iff]
  right
  rw [Bool.eq_false_iff]
  intro h
  have := Nat.le_of_ble_eq_true h
  omega
theorem isP_vkey (s : Nat) : isP (vkey s) = false := by
  unfold isP vkey
  rw [Bool.and_eq_false_iff]
  right
  rw [Bool.eq_false_iff]
  intro h
  have := Nat.le_of_ble_eq_true h
  omega

theorem nameL_spec {s : Nat} : ∀ {cs cs' : List Cell} {j : Nat} {st : St} {o : Ob} {st2 : St}, nameL st s j cs = some (cs', o, st2) →
    ∃ ps, PW st ps ∧ o = newOb ps ∧ st2 = drops st (olds ps) ∧ cs'.length = cs.length ∧ ∀ i, i < cs.length → CNs ps (nth cs i) (nth cs' i)
  | [], cs', j, st, o, st2, h => by
    cases h
    exact ⟨[], PW.nil, rfl, rfl, rfl, fun i hi => by simp at hi⟩
  | c :: cs, cs', j, st, o, st2, h => by
    simp only [nameL] at h
    split at h
    · rename_i c' o1 st1 h1
      split at h
      · rename_i l' o2 st2' h2
        cases h
        obtain ⟨ps, a1, a2, a3, a4⟩ := nameC_spec h1 (isP_bkey _ _)
        subst a3
        obtain ⟨qs, b1, b2, b3, b4, b5⟩ := nameL_spec h2
        refine ⟨ps ++ qs, a1.append b1, by rw [newOb_append, a2, b2], by rw [b3, olds_append, drops_append], by simp [b4], fun i hi => ?_⟩
        cases i with
        | zero => exact a4.mono (fun p hp => List.mem_append_left _ hp)
        | succ i => exact (b5 i (by simpa using hi)).mono (fun p hp => List.mem_append_right _ hp)
      · cases h
    · cases h

theorem killC_cell {p : Cell → Bool} {c c' : Cell} (h : killC p c = c') : c' = .u ∨ c = c' := by
  unfold killC at h
  cases e : p c with
  | true => rw [e] at h; exact .inl h.symm
  | false => rw [e] at h; exact .inr h

theorem CNs.killed {ps : List Pr} {p : Cell → Bool} {c c' : Cell} (h : CNs ps (killC p c) c') : c' = .u ∨ CNs ps c c' := by
  rcases killC_cell (p := p) (c := c) rfl with e | e
  · rw [e] at h
    rcases h with ⟨h1, _⟩ | ⟨k2, k, n, r, h1, _⟩ | ⟨k, r, _, h1, _⟩
    · exact .inl h1
    · cases h1
    · cases h1
  · rw [← e] at h; exact .inr h

theorem keepB_spec : ∀ {l : List Nat} {st : St} {bx : Bx} {o : Ob} {st2 : St}, keepB l st = some (bx, o, st2) →
    ∃ ps, PW st ps ∧ o = newOb ps ∧ st2 = drops st (olds ps) ∧ (∀ b ∈ l, ∃ cs, lk bx b = some cs) ∧
      ∀ s cs', lk bx s = some cs' → ∃ cs, lk st.bx s = some cs ∧ cs'.length = cs.length ∧ ∀ j, j < cs.length → nth cs' j = .u ∨ CNs ps (nth cs j) (nth cs' j)
  | [], st, bx, o, st2, h => by
    cases h
    exact ⟨[], PW.nil, rfl, rfl, fun b hb => (by cases hb), fun s cs' hs => (by cases hs)⟩
  | s :: l, st, bx, o, st2, h => by
    simp only [keepB] at h
    split at h
    · rename_i cs hcs
      split at h
      · rename_i cs' o1 st1 h1
        split at h
        · rename_i bx' o2 st2' h2
          cases h
          obtain ⟨ps, a1, a2, a3, a4, a5⟩ := nameL_spec h1
          subst a3
          obtain ⟨qs, b1, b2, b3, b4, b5⟩ := keepB_spec h2
          refine ⟨ps ++ qs, a1.append b1, by rw [newOb_append, a2, b2], by rw [b3, olds_append, drops_append], fun b hb => ?_, fun s' cs2 hs => ?_⟩
          · by_cases e : s = b
            · exact ⟨cs', by rw [lk_cons, if_pos e]⟩
            · rcases List.mem_cons.1 hb with hb | hb
              · exact absurd hb.symm e
              · obtain ⟨x, hx⟩ := b4 b hb
                exact ⟨x, by rw [lk_cons, if_neg e]; exact hx⟩
          · rw [lk_cons] at hs
            by_cases e : s = s'
            · subst e
              rw [if_pos rfl] at hs; cases hs
              exact ⟨cs, hcs, a4, fun j hj => .inr ((a5 j hj).mono (fun p hp => List.mem_append_left _ hp))⟩
            · rw [if_neg e] at hs
              obtain ⟨cs3, c1, c2, c3⟩ := b5 s' cs2 hs
              rw [drops_bx, lk_killB] at c1
              obtain ⟨cs4, d1, d2⟩ := Option.map_eq_some_iff.1 c1
              refine ⟨cs4, d1, by rw [c2, ← d2, length_killL], fun j hj => ?_⟩
              rcases c3 j (by rw [← d2, length_killL]; exact hj) with e1 | e1
              · exact .inl e1
              · rw [← d2, nth_killL _ _ _ hj] at e1
                rcases e1.killed with e2 | e2
                · exact .inl e2
                · exact .inr (e2.mono (fun p hp => List.mem_append_right _ hp))
        · cases h
      · cases h
    · cases h

/-- a temporary that is kept -/
def TN (bs : List Nat) (ps : List Pr) (t t' : T) : Prop :=
  t' = .u ∨ ∃ c c', t = one c ∧ t' = one c' ∧ (CNs ps c c' ∨ (∃ b, c' = c ∧ c = .box b 0 ∧ b ∈ bs) ∨ ∃ f caps, c' = c ∧ c = .fn f caps ∧ ∀ b ∈ caps, b ∈ bs)
theorem TN.mono {bs : List Nat} {ps qs : List Pr} (h : ∀ p ∈ ps, p ∈ qs) {t t' : T} (ht : TN bs ps t t') : TN bs qs t t' := by
  rcases ht with h1 | ⟨c, c', h1, h2, h3⟩
  · exact .inl h1
  · exact .inr ⟨c, c', h1, h2, h3.imp (CNs.mono h) id⟩
theorem killT_one {p : Cell → Bool} {t : T} {c : Cell} (h : killT p t = one c) : c = .u ∨ t = one c := by
  cases t with
  | tup xs => cases h
  | v x =>
    cases x with
    | agg cs => cases h
    | one c0 =>
      have h : killC p c0 = c := by simpa [killT, killV, one] using h
      rcases killC_cell h with e | e
      · exact .inl e
      · exact .inr (by rw [e]; rfl)
theorem TN.killed {bs : List Nat} {ps : List Pr} {p : Cell → Bool} {t t' : T} (h : TN bs ps (killT p t) t') : TN bs ps t t' := by
  rcases h with h1 | ⟨c, c', h1, h2, h3⟩
  · exact .inl h1
  · rcases killT_one h1 with e | e
    · subst e
      left
      rcases h3 with (⟨h4, _⟩ | ⟨_, _, _, _, h4, _⟩ | ⟨_, _, _, h4, _⟩) | ⟨_, _, h4, _⟩ | ⟨_, _, _, h4, _⟩
      · rw [h2, h4]; rfl
      · cases h4
      · cases h4
      · cases h4
      · cases h4
    · exact .inr ⟨c, c', e, h2, h3⟩

theorem any_beq {bs : List Nat} {b : Nat} (h : bs.any (Nat.beq b) = true) : b ∈ bs := by
  simp only [List.any_eq_true] at h
  obtain ⟨x, h1, h2⟩ := h
  have := Nat.eq_of_beq_eq_true h2
  subst this; exact h1

theorem keepT_spec {bs : List Nat} : ∀ {l : List Nat} {st : St} {tm tm' : List T} {o : Ob} {st2 : St}, keepT bs l st tm = some (tm', o, st2) →
    ∃ ps, PW st ps ∧ o = newOb ps ∧ tm'.length = tm.length ∧ ∀ s, getL tm' s = getL tm s ∨ TN bs ps (getL st.tm s) (getL tm' s)
  | [], st, tm, tm', o, st2, h => by
    cases h
    exact ⟨[], PW.nil, rfl, rfl, fun s => .inl rfl⟩
  | s :: l, st, tm, tm', o, st2, h => by
    simp only [keepT] at h
    have key : ∀ (c : Cell) (st1 : St) (ps qs : List Pr), st1 = drops st (olds ps) → (∀ s', getL tm' s' = getL (setL tm s (one c)) s' ∨ TN bs qs (getL st1.tm s') (getL tm' s')) → TN bs ps (getL st.tm s) (one c) →
        ∀ s', getL tm' s' = getL tm s' ∨ TN bs (ps ++ qs) (getL st.tm s') (getL tm' s') := by
      intro c st1 ps qs e1 h1 h2 s'
      rcases h1 s' with h3 | h3
      · rw [getL_setL] at h3
        by_cases e : s = s' ∧ s < tm.length
        · rw [if_pos e] at h3
          right
          rw [h3, ← e.1]
          exact h2.mono (fun p hp => List.mem_append_left _ hp)
        · rw [if_neg e] at h3; exact .inl h3
      · right
        rw [e1, drops_tm] at h3
        by_cases hs : s' < st.tm.length
        · rw [getL_killTs _ _ _ hs] at h3
          exact h3.killed.mono (fun p hp => List.mem_append_right _ hp)
        · rw [getL_out _ _ (by rw [length_killTs]; omega)] at h3
          rw [getL_out st.tm s' (by omega)]
          exact h3.mono (fun p hp => List.mem_append_right _ hp)
    split at h
    · rename_i b e
      cases hb : bs.any (Nat.beq b) with
      | false => rw [hb] at h; cases h
      | true =>
        rw [hb] at h
        obtain ⟨ps, a1, a2, a3, a4⟩ := keepT_spec h
        exact ⟨ps, a1, a2, by rw [a3, length_setL], key _ st [] ps rfl a4 (.inr ⟨_, _, e, rfl, .inr (.inl ⟨b, rfl, rfl, any_beq hb⟩)⟩)⟩
    · rename_i f caps e
      cases hb : caps.all fun b => bs.any (Nat.beq b) with
      | false => rw [hb] at h; cases h
      | true =>
        rw [hb] at h
        obtain ⟨ps, a1, a2, a3, a4⟩ := keepT_spec h
        refine ⟨ps, a1, a2, by rw [a3, length_setL], key _ st [] ps rfl a4 (.inr ⟨_, _, e, rfl, .inr (.inr ⟨f, caps, rfl, rfl, fun b hb' => ?_⟩)⟩)⟩
        simp only [List.all_eq_true] at hb
        exact any_beq (hb b hb')
    · rename_i c _ _ e
      split at h
      · rename_i c' o1 st1 h1
        split at h
        · rename_i tm2 o2 st2' h2
          cases h
          obtain ⟨ps, a1, a2, a3, a4⟩ := nameC_spec h1 (isP_vkey _)
          obtain ⟨qs, b1, b2, b3, b4⟩ := keepT_spec h2
          subst a3
          refine ⟨ps ++ qs, a1.append b1, by rw [newOb_append, a2, b2], by rw [b3, length_setL], key _ _ ps qs rfl b4 (.inr ⟨_, _, e, rfl, .inl a4⟩)⟩
        · cases h
      · cases h
    · cases h

theorem onceL_nodup {ob : Ob} (h : onceL ob = true) : (ob.map (·.1)).Nodup := by
  induction ob with
  | nil => exact List.nodup_nil
  | cons p l ih =>
    obtain ⟨k, r⟩ := p
    simp only [onceL, Bool.and_eq_true] at h
    simp only [List.map_cons, List.nodup_cons]
    refine ⟨fun hm => ?_, ih h.2⟩
    have hf := freshK_none h.1
    have : ∀ (l : Ob), lk l k = none → k ∉ l.map (·.1) := by
      intro l
      induction l with
      | nil => intro _; simp
      | cons q l ih =>
        obtain ⟨k2, r2⟩ := q
        intro hh
        rw [lk_cons] at hh
        by_cases e : k2 = k
        · rw [if_pos e] at hh; cases hh
        · rw [if_neg e] at hh
          simp only [List.map_cons, List.mem_cons, not_or]
          exact ⟨Ne.symm e, ih hh⟩
    exact this l hf hm

theorem lk_nodup {α : Type} {l : List (Nat × α)} (h : (l.map (·.1)).Nodup) {k : Nat} {x : α} (hm : (k, x) ∈ l) : lk l k = some x := by
  induction l with
  | nil => cases hm
  | cons p l ih =>
    obtain ⟨k2, y⟩ := p
    simp only [List.map_cons, List.nodup_cons] at h
    rw [lk_cons]
    rcases List.mem_cons.1 hm with e | e
    · cases e; rw [if_pos rfl]
    · rw [if_neg (fun e2 => h.1 (List.mem_map.2 ⟨(k, x), e, e2.symm⟩))]
      exact ih h.2 e
theorem lk_mem {α : Type} {l : List (Nat × α)} {k : Nat} {x : α} (h : lk l k = some x) : (k, x) ∈ l := by
  induction l with
  | nil => cases h
  | cons p l ih =>
    obtain ⟨k2, y⟩ := p
    rw [lk_cons] at h
    by_cases e : k2 = k
    · rw [if_pos e] at h; cases h; rw [e]; simp
    · rw [if_neg e] at h; exact List.mem_cons_of_mem _ (ih h)

theorem nodup_fst {ps : List Pr} (h : (olds ps).Nodup) {k k' o : Nat} {r r' : Row} (h1 : (k, (o, r)) ∈ ps) (h2 : (k', (o, r')) ∈ ps) : k = k' := by
  induction ps with
  | nil => cases h1
  | cons p l ih =>
    simp only [olds, List.map_cons, List.nodup_cons] at h
    rcases List.mem_cons.1 h1 with e1 | e1 <;> rcases List.mem_cons.1 h2 with e2 | e2
    · rw [← e1] at e2; cases e2; rfl
    · exact absurd (List.mem_map.2 ⟨_, e2, by rw [← e1]⟩) h.1
    · exact absurd (List.mem_map.2 ⟨_, e1, by rw [← e2]⟩) h.1
    · exact ih h.2 e1 e2

theorem keep0_ok (h : Rel C G st a w) {κ : Kp} {s0 : St} (hk : keep0 κ st = some s0) : ∃ ρ, Rel C (G.ren ρ) s0 a w ∧ ∀ k r, lk s0.ob k = some r → lk st.ob (ρ k) = some r := by
  unfold keep0 at hk
  split at hk
  case h_2 => cases hk
  rename_i bx o st1 hB
  split at hk
  case h_2 => cases hk
  rename_i tm o' st2 hT
  cases hon : onceL (o ++ o') with
  | false => rw [hon] at hk; cases hk
  | true =>
  rw [hon] at hk; cases hk
  obtain ⟨ps, a1, a2, a3, a4, a5⟩ := keepB_spec hB
  obtain ⟨qs, b1, b2, b3, b4⟩ := keepT_spec hT
  subst a3
  have hPW := a1.append b1
  have hob : o ++ o' = newOb (ps ++ qs) := by rw [newOb_append, a2, b2]
  rw [hob] at hon ⊢
  have hnd := onceL_nodup hon
  have hnd2 : ((ps ++ qs).map (·.1)).Nodup := by
    have : (newOb (ps ++ qs)).map (·.1) = (ps ++ qs).map (·.1) := by simp [newOb, Function.comp_def]
    rw [← this]; exact hnd
  let ρ : Nat → Nat := fun k => match lk (ps ++ qs) k with
    | some p => p.1
    | none => k
  have hρ : ∀ k o r, (k, (o, r)) ∈ ps ++ qs → ρ k = o ∧ lk (newOb (ps ++ qs)) k = some r := by
    intro k o r hm
    refine ⟨?_, lk_nodup hnd (List.mem_map.2 ⟨(k, (o, r)), hm, rfl⟩)⟩
    show (match lk (ps ++ qs) k with | some p => p.1 | none => k) = o
    rw [lk_nodup hnd2 hm]
  have hmem : ∀ k r, lk (newOb (ps ++ qs)) k = some r → ∃ o, (k, (o, r)) ∈ ps ++ qs := by
    intro k r hr
    obtain ⟨p, hp, he⟩ := List.mem_map.1 (lk_mem hr)
    obtain ⟨k1, o1, r1⟩ := p
    cases he
    exact ⟨o1, hp⟩
  have hCN : ∀ {c c'}, CNs (ps ++ qs) c c' → CN ρ bx (newOb (ps ++ qs)) c c' := by
    intro c c' hc
    rcases hc with h1 | ⟨k2, k, n, r, h1, h2, h3⟩ | ⟨k, r, h1, h2, h3⟩
    · exact .inr (.inl h1)
    · obtain ⟨e1, e2⟩ := hρ k2 k r h3
      exact .inr (.inr (.inl ⟨k2, n, r, h2, by rw [e1]; exact h1, e2⟩))
    · obtain ⟨e1, e2⟩ := hρ k k r h3
      exact .inr (.inr (.inr (.inr (.inr ⟨k, r, h1, h2, e1, e2⟩))))
  refine ⟨ρ, h.rename (ρ := ρ) (by show tm.length = _; rw [b3, length_masked]) (fun k r hr => ?_) (fun k k' r r' hr hr' e => ?_) (fun s => ?_) (fun s cs' hs => ?_), fun k r hr => ?_⟩
  · obtain ⟨o1, hm⟩ := hmem k r hr
    obtain ⟨h1, h2⟩ := hPW.at' _ hm
    rw [(hρ k o1 r hm).1]
    exact ⟨h1, fun hp => (h2 hp).symm⟩
  · obtain ⟨o1, hm⟩ := hmem k r hr
    obtain ⟨o2, hm'⟩ := hmem k' r' hr'
    rw [(hρ k o1 r hm).1, (hρ k' o2 r' hm').1] at e
    subst e
    exact nodup_fst hPW.nd hm hm'
  · show getL tm s = .u ∨ _
    rcases b4 s with e | e
    · left; rw [e, getL_masked]
    · rw [drops_tm] at e
      have e : TN κ.bx qs (getL st.tm s) (getL tm s) := by
        by_cases hs : s < st.tm.length
        · rw [getL_killTs _ _ _ hs] at e; exact e.killed
        · rw [getL_out _ _ (by rw [length_killTs]; omega)] at e
          rw [getL_out st.tm s (by omega)]; exact e
      rcases e with e | ⟨c, c', e1, e2, e3⟩
      · exact .inl e
      · refine .inr ⟨c, c', e1, e2, ?_⟩
        rcases e3 with e3 | ⟨b, e3, e4, e5⟩ | ⟨f, caps, e3, e4, e5⟩
        · exact hCN (e3.mono (fun p hp => List.mem_append_right _ hp))
        · exact .inr (.inr (.inr (.inl ⟨b, 0, e3, e4, a4 b e5⟩)))
        · exact .inr (.inr (.inr (.inr (.inl ⟨f, caps, e3, e4, fun b hb => a4 b (e5 b hb)⟩))))
  · obtain ⟨cs, c1, c2, c3⟩ := a5 s cs' hs
    refine ⟨cs, c1, c2, fun j hj => ?_⟩
    rcases c3 j hj with e | e
    · exact .inl e
    · exact hCN (e.mono (fun p hp => List.mem_append_left _ hp))
  · obtain ⟨o1, hm⟩ := hmem k r hr
    obtain ⟨h1, _⟩ := hPW.at' _ hm
    rw [(hρ k o1 r hm).1]; exact h1

theorem sameRow_val (h : Rel C G st a w) {s s' : Nat} (e : sameRow (getL st.tm s') (getL st.tm s) = true) : a.tmps.getD s' undef = a.tmps.getD s undef := by
  have h1 := h.tm s'
  have h2 := h.tm s
  unfold sameRow at e
  split at e
  · rename_i k n k' n' e1 e2
    have e := Nat.eq_of_beq_eq_true e
    subst e
    rw [e1] at h1
    rw [e2] at h2
    obtain ⟨r, a1, a2, a3⟩ := h1
    obtain ⟨r', b1, b2, b3⟩ := h2
    rw [a1] at b1; cases b1
    rw [a3, b3, ← a2, ← b2]
  · cases e
/-- a row in a row that was renamed -/
theorem subRow_val {ρ : Nat → Nat} {tm : List T} {bx : Bx} {ob : Ob} (h : Rel C G st a w) (h' : Rel C (G.ren ρ) ⟨tm, bx, ob⟩ a w) (hob : ∀ k r, lk ob k = some r → lk st.ob (ρ k) = some r) {s s' : Nat} {t : T}
    (e : subRow (getL st.tm s') (getL st.tm s) (getL tm s) = some t) : TRep C.w0 C.I (G.ren ρ) bx ob (a.tmps.getD s' undef) t := by
  have h1 := h.tm s'
  have h2 := h.tm s
  have h3 := h'.tm s
  unfold subRow at e
  split at e
  case h_2 => cases e
  rename_i k i j n k' n' k2 n2 e1 e2 e3
  cases hb : Nat.beq k k' with
  | false => rw [hb] at e; cases e
  | true =>
  rw [hb] at e
  cases e
  have hkk := Nat.eq_of_beq_eq_true hb
  subst hkk
  rw [e1] at h1
  rw [e2] at h2
  have e3 : getL (⟨tm, bx, ob⟩ : St).tm s = one (.own k2 n2) := e3
  rw [e3] at h3
  obtain ⟨r, sz, g, a1, a2, a3, a4, a5⟩ := h1
  obtain ⟨r', b1, b2, b3⟩ := h2
  rw [a1] at b1; cases b1
  obtain ⟨r2, c1, c2, c3⟩ := h3
  have c1' := hob k2 r2 c1
  have hrow := h.ob.obr k r a1
  have hne : (G.top k).base ≠ none := by
    intro hn
    have := hrow.2.1 hn
    have := hrow.1
    omega
  have hk : ρ k2 = k := by
    obtain ⟨b, hbase⟩ := Option.ne_none_iff_exists'.1 hne
    have hv : ((G.ren ρ).top k2).val n2 = (G.top k).val n' := by rw [← c3, ← b3]
    have hv : (G.top (ρ k2)).val n2 = (G.top k).val n' := hv
    have hrow2 := h.ob.obr (ρ k2) r2 c1'
    have hnn : n2 = n' := by
      unfold Hd.val at hv
      split at hv <;> split at hv <;> (injection hv)
    have hb2 : (G.top (ρ k2)).base = some b := by
      cases hx : (G.top (ρ k2)).base with
      | none =>
        have := hrow2.2.1 hx
        have := hrow2.1
        omega
      | some b' =>
        unfold Hd.val at hv
        rw [hx, hbase] at hv
        simp only [Value.slice.injEq, Option.some.injEq, Addr.mk.injEq] at hv
        rw [hv.1.1]
    have := h.ob.inj (.top (ρ k2)) (.top k) b ⟨r2, c1'⟩ ⟨r, a1⟩ hb2 hbase
    cases this; rfl
  rw [hk, a1] at c1'
  cases c1'
  refine ⟨r, sz, g, c1, a2, a3, a4, ?_⟩
  show _ = (G.sub (ρ k2) i j).val n
  rw [hk]; exact a5
theorem alS_val {ρ : Nat → Nat} {tm : List T} {bx : Bx} {ob : Ob} (h0 : Rel C G st a w) (h : Rel C (G.ren ρ) ⟨tm, bx, ob⟩ a w) {s s' : Nat} (e : sameRow (getL st.tm s') (alS st.tm st.bx s) = true) :
    TRep C.w0 C.I (G.ren ρ) bx ob (a.tmps.getD s' undef) (alS tm bx s) := by
  unfold alS at e ⊢
  cases hb : Nat.ble 1000000 s with
  | false =>
    rw [hb] at e
    rw [sameRow_val h0 e]; exact h.tm s
  | true =>
    rw [hb] at e
    simp only [cond_true] at e ⊢
    split
    case h_2 => exact CRep.u _
    rename_i c cs hn
    split at e
    case h_2 =>
      unfold sameRow at e
      split at e
      · rename_i h2; cases h2
      · cases e
    rename_i c0 cs0 hold
    obtain ⟨arr, t, a1, a2, a3⟩ := h0.ob.bxr _ _ hold
    obtain ⟨arr', t', b1, b2, b3⟩ := h.ob.bxr _ _ hn
    have b1 : w.heap[G.bx (s - 1000000)]? = some (Obj.cells arr' t' (0, 0)) := b1
    rw [a1] at b1; cases b1
    have hu : arr[0]? = some (arr[0]'(by rw [a2]; exact Nat.succ_pos _)) := Array.getElem?_eq_getElem _
    have u1 := (a3 0 _ hu).1
    have u2 := (b3 0 _ hu).1
    generalize arr[0]'(by rw [a2]; exact Nat.succ_pos _) = u at u1 u2
    have u1 : SRep C.w0 C.I G st.bx st.ob u c0 := u1
    have u2 : SRep C.w0 C.I (G.ren ρ) bx ob u c := u2
    have h1 := h0.tm s'
    unfold sameRow at e
    split at e
    case h_2 => cases e
    rename_i k n k' n' e1 e2
    have e := Nat.eq_of_beq_eq_true e
    subst e
    cases e2
    rw [e1] at h1
    obtain ⟨r, d1, d2, d3⟩ := h1
    obtain ⟨r', f1, f2, f3⟩ := u1
    rw [d1] at f1; cases f1
    rw [d3, ← d2, f2, ← f3]
    exact u2
theorem keepA_ok {ρ : Nat → Nat} (h0 : Rel C G st a w) : ∀ {l : List (Nat × Nat)} {tm tm' : List T} {bx : Bx} {ob : Ob}, (∀ k r, lk ob k = some r → lk st.ob (ρ k) = some r) → Rel C (G.ren ρ) ⟨tm, bx, ob⟩ a w → keepA st.tm st.bx bx l tm = some tm' → Rel C (G.ren ρ) ⟨tm', bx, ob⟩ a w
  | [], tm, tm', bx, ob, hob, h, hk => by cases hk; exact h
  | (s', s) :: l, tm, tm', bx, ob, hob, h, hk => by
    have step : ∀ (t : T), TRep C.w0 C.I (G.ren ρ) bx ob (a.tmps.getD s' undef) t → Rel C (G.ren ρ) ⟨setL tm s' t, bx, ob⟩ a w := by
      intro t ht
      refine ⟨h.df, by have := h.sz; simpa [length_setL] using this, fun s2 => ?_, h.ob, h.keep, h.pk⟩
      show TRep C.w0 C.I (G.ren ρ) bx ob (a.tmps.getD s2 undef) (getL (setL tm s' t) s2)
      rw [getL_setL]
      by_cases e2 : s' = s2 ∧ s' < tm.length
      · rw [if_pos e2, ← e2.1]; exact ht
      · rw [if_neg e2]; exact h.tm s2
    simp only [keepA] at hk
    cases e : sameRow (getL st.tm s') (alS st.tm st.bx s) with
    | true =>
      rw [e] at hk
      refine keepA_ok h0 hob (step _ ?_) hk
      exact alS_val h0 h e
    | false =>
      rw [e] at hk
      simp only [cond_false] at hk
      cases e2 : subRow (getL st.tm s') (getL st.tm s) (getL tm s) with
      | none => rw [e2] at hk; cases hk
      | some t =>
        rw [e2] at hk
        exact keepA_ok h0 hob (step t (subRow_val h0 h hob e2)) hk
theorem keep_ok (h : Rel C G st a w) {κ : Kp} {s0 : St} (hk : keep κ st = some s0) : ∃ G', Rel C G' s0 a w := by
  unfold keep at hk
  split at hk
  case h_2 => cases hk
  rename_i tm bx ob hk0
  split at hk
  case h_2 => cases hk
  rename_i tm' hA
  cases hk
  obtain ⟨ρ, h', hob⟩ := keep0_ok h hk0
  exact ⟨_, keepA_ok h hob h' hA⟩
end
end Go.Proofs.YtjnpnpkjmlihdaaDoor.Ab
namespace Go.Proofs.YtjnpnpkjmlihdaaDoor.Ab
open Go Go.RowKit

def chkC (P : Program) : CC → Code → Bool
  | .skip, .skip => true
  | .skip, .label _ => true
  | .reg is, .region _ ops false => chkIs P ops 0 is
  | .drw is tl, .region _ ops true => chkDrw P ops is tl || (chkLate P ops is tl || chkLateM P ops is tl)
  | .seq a b, .seq c d => chkC P a c && chkC P b d
  | .cond x a b, .cond y c d => chkA y x && (chkC P a c && chkC P b d)
  | .block i a, .block j c => Nat.beq i j && chkC P a c
  | .loop a, .loop c => chkC P a c
  | .exit i, .exit j => Nat.beq i j
  | .ret, .ret => true
  | _, _ => false

def exOf : Ex → Exit
  | .normal => .normal
  | .exit i => .exit i
  | .ret => .ret

theorem least_nat {p : Nat → Prop} : ∀ {n : Nat}, p n → ∃ k, p k ∧ ∀ k', p k' → k ≤ k' := by
  intro n
  induction n using Nat.strongRecOn with
  | _ n ih =>
    intro hn
    by_cases hex : ∃ k, k < n ∧ p k
    · obtain ⟨k, h1, h2⟩ := hex
      exact ih k h1 h2
    · refine ⟨n, hn, fun k' hk' => ?_⟩
      by_cases e : n ≤ k'
      · exact e
      · exact absurd ⟨k', by omega, hk'⟩ hex

section
variable {C : Cx}

theorem wc_ok : ∀ (cc : CC) (c : Code), chkC C.E.P cc c = true → ∀ (G : Gh) (st : St) (a : Act) (w : World) (Q : Ex → St → Prop) (QQ : Exit → Act → World → Prop), Rel C G st a w → wc C.E cc st Q →
    (∀ x st' a' w' G', Rel C G' st' a' w' → Q x st' → QQ (exOf x) a' w') → c.wp C.E.P QQ a w := by
  intro cc
  induction cc with
  | skip =>
    intro c hc G st a w Q QQ h hQ hn
    cases c <;> first
      | (cases hc; done)
      | exact wp_skip (hn .normal st a w G h hQ)
      | exact wp_label (hn .normal st a w G h hQ)
  | reg is =>
    intro c hc G st a w Q QQ h hQ hn
    cases c with
    | region id ops draw =>
      cases draw with
      | true => cases hc
      | false =>
        refine wp_region ?_
        have := wis_ok (QQ := QQ) (Q := Q .normal) (fun a' w' G' st' hR hq => hn .normal st' a' w' G' hR hq) is 0 G st a w hc h hQ
        simpa using this
    | _ => cases hc
  | drw is tl =>
    intro c hc G st a w Q QQ h hQ hn
    cases c with
    | region id ops draw =>
      cases draw with
      | false => cases hc
      | true =>
        simp only [chkC, Bool.or_eq_true] at hc
        rcases hc with hc | hc | hc
        · exact drw_ok hc h hQ (fun a' w' G' st' hR hq => hn .normal st' a' w' G' hR hq)
        · exact drwL_ok hc h hQ (fun a' w' G' st' hR hq => hn .normal st' a' w' G' hR hq)
        · exact drwM_ok hc h hQ (fun a' w' G' st' hR hq => hn .normal st' a' w' G' hR hq)
    | _ => cases hc
  | seq x y ihx ihy =>
    intro c hc G st a w Q QQ h hQ hn
    cases c with
    | seq c d =>
      simp only [chkC, Bool.and_eq_true] at hc
      refine wp_seq (ihx c hc.1 G st a w _ _ h hQ (fun z st' a' w' G' hR hq => ?_))
      cases z with
      | normal => exact ihy d hc.2 G' st' a' w' Q QQ hR hq hn
      | exit i => exact hn (.exit i) st' a' w' G' hR hq
      | ret => exact hn .ret st' a' w' G' hR hq
    | _ => cases hc
  | cond x y z ihy ihz =>
    intro c hc G st a w Q QQ h hQ hn
    cases c with
    | cond x' c d =>
      simp only [chkC, Bool.and_eq_true] at hc
      have hv := (View.self h [x]).ev hc.1 (by simp)
      simp only [wc] at hQ
      split at hQ
      · rename_i b e
        rw [e] at hv
        have hv := rep_bool hv
        refine wp_cond_split hv (fun e => ?_) (fun e => ?_)
        · exact ihy c hc.2.1 G st a w Q QQ h (hQ.1 e) hn
        · exact ihz d hc.2.2 G st a w Q QQ h (hQ.2 e) hn
      · exact hQ.elim
    | _ => cases hc
  | block id y ih =>
    intro c hc G st a w Q QQ h hQ hn
    cases c with
    | block j c =>
      simp only [chkC, Bool.and_eq_true] at hc
      have := Nat.eq_of_beq_eq_true hc.1
      subst this
      refine wp_block (ih c hc.2 G st a w _ _ h hQ (fun z st' a' w' G' hR hq => ?_))
      cases z with
      | normal => exact hn .normal st' a' w' G' hR hq
      | exit i =>
        show (if i = id then QQ .normal a' w' else QQ (.exit i) a' w')
        by_cases e : i = id
        · rw [if_pos e]
          subst e
          simp only [beq_self, cond_true] at hq
          exact hn .normal st' a' w' G' hR hq
        · rw [if_neg e]
          simp only [beq_ne e, cond_false] at hq
          exact hn (.exit i) st' a' w' G' hR hq
      | ret => exact hn .ret st' a' w' G' hR hq
    | _ => cases hc
  | loop y ih =>
    intro c hc G st a w Q QQ h hQ hn
    cases c with
    | loop c =>
      obtain ⟨κ, Inv, k, s0, hk, hI, hround⟩ := hQ
      let p : Act → World → Nat → Prop := fun a w k => ∃ s G, Rel C G s a w ∧ Inv k s
      have hmin : ∀ a w, (∃ k, p a w k) → ∃ k, p a w k ∧ ∀ k', p a w k' → k ≤ k' := fun a w ⟨k, hk⟩ => least_nat hk
      let μ : Act → World → Nat := fun a w => open Classical in if hh : ∃ k, p a w k then Classical.choose (hmin a w hh) else 0
      have hμ : ∀ a w k, p a w k → p a w (μ a w) ∧ μ a w ≤ k := by
        intro a w k hk
        have hh : ∃ k, p a w k := ⟨k, hk⟩
        have e : μ a w = Classical.choose (hmin a w hh) := dif_pos hh
        rw [e]
        exact ⟨(Classical.choose_spec (hmin a w hh)).1, (Classical.choose_spec (hmin a w hh)).2 k hk⟩
      obtain ⟨G0, h0⟩ := keep_ok h hk
      refine wp_loop (fun a w => ∃ k, p a w k) μ ⟨k, s0, G0, h0, hI⟩ (fun a w ⟨k, hk⟩ => ?_)
      obtain ⟨s, G1, h1, hI1⟩ := (hμ a w k hk).1
      refine ih c hc G1 s a w _ _ h1 (hround (μ a w) s hI1) (fun z st' a' w' G' hR hq => ?_)
      cases z with
      | normal =>
        obtain ⟨k', s', hk', hlt, hI'⟩ := hq
        obtain ⟨G2, h2⟩ := keep_ok hR hk'
        have := hμ a' w' k' ⟨s', G2, h2, hI'⟩
        exact ⟨⟨k', s', G2, h2, hI'⟩, by omega⟩
      | exit i => exact hn (.exit i) st' a' w' G' hR hq
      | ret => exact hn .ret st' a' w' G' hR hq
    | _ => cases hc
  | exit i =>
    intro c hc G st a w Q QQ h hQ hn
    cases c with
    | exit j =>
      have := Nat.eq_of_beq_eq_true hc
      subst this
      exact wp_exit (hn (.exit i) st a w G h hQ)
    | _ => cases hc
  | ret =>
    intro c hc G st a w Q QQ h hQ hn
    cases c <;> first
      | (cases hc; done)
      | exact wp_ret (hn .ret st a w G h hQ)
end
end Go.Proofs.YtjnpnpkjmlihdaaDoor.Ab
namespace Go.Proofs.YtjnpnpkjmlihdaaDoor.Ab
open Go Go.RowKit

def chkR (P : Program) : ResultVar → RV → Bool
  | .tmp t, .tmp s => Nat.beq t s
  | .cell a t, .cell s n agg => Nat.beq a s && (sizeT P t == some n) && (aggT P t == some agg) && (agg || Nat.beq n 1)
  | _, _ => false
def chkRs (P : Program) : List ResultVar → List RV → Bool
  | [], [] => true
  | x :: l, y :: m => chkR P x y && chkRs P l m
  | _, _ => false
def chkF (P : Program) (f : Nat) (cf : CF) : Bool :=
  isBody P f && match P.funcs[f]? with
    | some fn => Nat.beq fn.ntmps cf.ntmps && Nat.ble cf.np cf.ntmps && chkRs P fn.results.toList cf.results && match fn.body with
      | some c => chkC P cf.body c
      | none => false
    | none => false

section
variable {C : Cx} {G : Gh} {st : St} {a : Act} {w : World}

/-- rows that are handed back, with their old names -/
structure PW0 (st : St) (ps : List Pr) : Prop where
  at' : ∀ p ∈ ps, lk st.ob p.2.1 = some p.2.2
  nd : (olds ps).Nodup
theorem PW0.nil : PW0 st [] := ⟨fun _ h => (by cases h), List.nodup_nil⟩
theorem PW0.append {ps qs : List Pr} (h1 : PW0 st ps) (h2 : PW0 (drops st (olds ps)) qs) : PW0 st (ps ++ qs) := by
  have key : ∀ q ∈ qs, q.2.1 ∉ olds ps ∧ lk st.ob q.2.1 = some q.2.2 := by
    intro q hq
    have := h2.at' q hq
    rw [lk_drops] at this
    by_cases e : q.2.1 ∈ olds ps
    · rw [if_pos e] at this; cases this
    · rw [if_neg e] at this; exact ⟨e, this⟩
  refine ⟨fun p hp => ?_, ?_⟩
  · rcases List.mem_append.1 hp with hp | hp
    · exact h1.at' p hp
    · exact (key p hp).2
  · show ((ps ++ qs).map (·.2.1)).Nodup
    rw [List.map_append, List.nodup_append]
    refine ⟨h1.nd, h2.nd, fun x hx y hy e => ?_⟩
    obtain ⟨q, hq, rfl⟩ := List.mem_map.1 hy
    subst e
    exact (key q hq).1 hx

theorem free_of_plain {c : Cell} (h : c.plain = true) : c.free = true := by cases c <;> first | rfl | cases h

/-- a cell, as it is handed back -/
def CNr (ps : List Pr) (c c' : Cell) : Prop := CNs ps c c' ∨ ∃ k n, c = .own k n ∧ c' = .own k n ∧ isP k = true
theorem CNr.mono {ps qs : List Pr} (h : ∀ p ∈ ps, p ∈ qs) {c c' : Cell} (hc : CNr ps c c') : CNr qs c c' := by
  rcases hc with h1 | h1
  · exact .inl (h1.mono h)
  · exact .inr h1
theorem retC_spec {j : Nat} {c c' : Cell} {o : Ob} {st2 : St} (h : retC st j c = some (c', o, st2)) : ∃ ps, PW0 st ps ∧ o = newOb ps ∧ st2 = drops st (olds ps) ∧ CNr ps c c' := by
  cases c with
  | own k n =>
    simp only [retC] at h
    split at h
    · rename_i r hr
      cases e : isP k with
      | true =>
        rw [e] at h; cases h
        exact ⟨[], PW0.nil, rfl, rfl, .inr ⟨k, n, rfl, rfl, e⟩⟩
      | false =>
      rw [e] at h; cases h
      exact ⟨[(j, (k, r))], ⟨fun p hp => by simp only [List.mem_singleton] at hp; subst hp; exact hr, by simp [olds]⟩, rfl, rfl, .inl (.inr (.inl ⟨j, k, n, r, rfl, rfl, by simp⟩))⟩
    · cases h
  | u => cases h; exact ⟨[], PW0.nil, rfl, rfl, .inl (.inl ⟨rfl, rfl⟩)⟩
  | pro m g => cases h
  | fnp f m sz g => cases h
  | int k n => cases h; exact ⟨[], PW0.nil, rfl, rfl, .inl (.inl ⟨rfl, rfl⟩)⟩
  | bool b => cases h; exact ⟨[], PW0.nil, rfl, rfl, .inl (.inl ⟨rfl, rfl⟩)⟩
  | str s => cases h; exact ⟨[], PW0.nil, rfl, rfl, .inl (.inl ⟨rfl, rfl⟩)⟩
  | ro sz n g => cases h; exact ⟨[], PW0.nil, rfl, rfl, .inl (.inl ⟨rfl, rfl⟩)⟩
  | _ => cases h

theorem retL_spec : ∀ {cs cs' : List Cell} {j : Nat} {st : St} {o : Ob} {st2 : St}, retL st j cs = some (cs', o, st2) →
    ∃ ps, PW0 st ps ∧ o = newOb ps ∧ st2 = drops st (olds ps) ∧ cs'.length = cs.length ∧ ∀ i, i < cs.length → CNr ps (nth cs i) (nth cs' i)
  | [], cs', j, st, o, st2, h => by
    cases h
    exact ⟨[], PW0.nil, rfl, rfl, rfl, fun i hi => by simp at hi⟩
  | c :: cs, cs', j, st, o, st2, h => by
    simp only [retL] at h
    split at h
    · rename_i c' o1 st1 h1
      split at h
      · rename_i l' o2 st2' h2
        cases h
        obtain ⟨ps, a1, a2, a3, a4⟩ := retC_spec h1
        subst a3
        obtain ⟨qs, b1, b2, b3, b4, b5⟩ := retL_spec h2
        refine ⟨ps ++ qs, a1.append b1, by rw [newOb_append, a2, b2], by rw [b3, olds_append, drops_append], by simp [b4], fun i hi => ?_⟩
        cases i with
        | zero => exact a4.mono (fun p hp => List.mem_append_left _ hp)
        | succ i => exact (b5 i (by simpa using hi)).mono (fun p hp => List.mem_append_right _ hp)
      · cases h
    · cases h

def VNs (ps : List Pr) (x y : V) : Prop :=
  (∃ c c', x = .one c ∧ y = .one c' ∧ CNr ps c c') ∨ ∃ cs cs', x = .agg cs ∧ y = .agg cs' ∧ cs'.length = cs.length ∧ ∀ i, i < cs.length → CNr ps (nth cs i) (nth cs' i)
theorem VNs.mono {ps qs : List Pr} (h : ∀ p ∈ ps, p ∈ qs) {x y : V} (hc : VNs ps x y) : VNs qs x y := by
  rcases hc with ⟨c, c', h1, h2, h3⟩ | ⟨cs, cs', h1, h2, h3, h4⟩
  · exact .inl ⟨c, c', h1, h2, h3.mono h⟩
  · exact .inr ⟨cs, cs', h1, h2, h3, fun i hi => (h4 i hi).mono h⟩
theorem retV_spec {x y : V} {j : Nat} {st : St} {o : Ob} {st2 : St} (h : retV st j x = some (y, o, st2)) :
    ∃ ps, PW0 st ps ∧ o = newOb ps ∧ st2 = drops st (olds ps) ∧ VNs ps x y := by
  cases x with
  | one c =>
    simp only [retV] at h
    split at h
    · rename_i c' o1 st1 h1
      cases h
      obtain ⟨ps, a1, a2, a3, a4⟩ := retC_spec h1
      exact ⟨ps, a1, a2, a3, .inl ⟨c, c', rfl, rfl, a4⟩⟩
    · cases h
  | agg cs =>
    simp only [retV] at h
    split at h
    · rename_i c' o1 st1 h1
      cases h
      obtain ⟨ps, a1, a2, a3, a4, a5⟩ := retL_spec h1
      exact ⟨ps, a1, a2, a3, .inr ⟨cs, c', rfl, rfl, a4, a5⟩⟩
    · cases h
theorem retVs_spec : ∀ {xs ys : List V} {j : Nat} {st : St} {o : Ob} {st2 : St}, retVs st j xs = some (ys, o, st2) →
    ∃ ps, PW0 st ps ∧ o = newOb ps ∧ st2 = drops st (olds ps) ∧ ys.length = xs.length ∧ ∀ i, i < xs.length → VNs ps (nthV xs i) (nthV ys i)
  | [], ys, j, st, o, st2, h => by
    cases h
    exact ⟨[], PW0.nil, rfl, rfl, rfl, fun i hi => by simp at hi⟩
  | x :: xs, ys, j, st, o, st2, h => by
    simp only [retVs] at h
    split at h
    · rename_i y o1 st1 h1
      split at h
      · rename_i l' o2 st2' h2
        cases h
        obtain ⟨ps, a1, a2, a3, a4⟩ := retV_spec h1
        subst a3
        obtain ⟨qs, b1, b2, b3, b4, b5⟩ := retVs_spec h2
        refine ⟨ps ++ qs, a1.append b1, by rw [newOb_append, a2, b2], by rw [b3, olds_append, drops_append], by simp [b4], fun i hi => ?_⟩
        cases i with
        | zero => exact a4.mono (fun p hp => List.mem_append_left _ hp)
        | succ i => exact (b5 i (by simpa using hi)).mono (fun p hp => List.mem_append_right _ hp)
      · cases h
    · cases h

theorem lentBack_spec : ∀ {l q : Ob}, lentBack st l = some q → ∃ ps : List Pr, (∀ p ∈ ps, lk st.ob p.2.1 = some p.2.2 ∧ p.1 = p.2.1 ∧ p.1 ∈ l.map (·.1)) ∧ q = newOb ps
  | [], q, h => by
    cases h
    exact ⟨[], fun _ h => (by cases h), rfl⟩
  | (k, r0) :: l, q, h => by
    simp only [lentBack] at h
    split at h
    · rename_i q1 h1
      split at h
      · rename_i l' h2
        cases h
        obtain ⟨ps, a1, a2⟩ := lentBack_spec h2
        refine ⟨(k, (k, q1)) :: ps, fun p hp => ?_, by rw [a2]; rfl⟩
        rcases List.mem_cons.1 hp with e | e
        · subst e; exact ⟨h1, rfl, by simp⟩
        · obtain ⟨b1, b2, b3⟩ := a1 p e
          exact ⟨b1, b2, by simp only [List.map_cons, List.mem_cons]; exact .inr b3⟩
      · cases h
    · cases h

def resSem (tmps : Array Value) : ResultVar → Sem Value
  | .tmp t => Pure.pure (tmps.getD t undef)
  | .cell x t => do loadVar t (← asAddr (tmps.getD x undef))
/-- the results, as the machine hands them back -/
theorem resVs_ok (h : Rel C G st a w) : ∀ {rs : List ResultVar} {rv : List RV} {xs : List V}, chkRs C.E.P rs rv = true → resVs st rv = some xs →
    ∃ vs : List Value, (rs.mapM (resSem a.tmps)).run C.E.P w = .ok vs w ∧ vs.length = xs.length ∧ ∀ (j : Nat) (v : Value), vs[j]? = some v → VRep C.w0 C.I G st.bx st.ob v (nthV xs j)
  | [], [], xs, _, hx => by
    cases hx
    exact ⟨[], rfl, rfl, fun j v hj => by simp at hj⟩
  | x :: rs, y :: rv, xs, hc, hx => by
    simp only [chkRs, Bool.and_eq_true] at hc
    simp only [resVs] at hx
    split at hx
    · rename_i z hz
      split at hx
      · rename_i zs hzs
        cases hx
        obtain ⟨vs, h1, h2, h3⟩ := resVs_ok h hc.2 hzs
        have key : ∃ v, (resSem a.tmps x).run C.E.P w = .ok v w ∧ VRep C.w0 C.I G st.bx st.ob v z := by
          cases x with
          | tmp t =>
            cases y with
            | cell _ _ _ => cases hc.1
            | tmp s =>
              have := Nat.eq_of_beq_eq_true hc.1
              subst this
              have hs := h.tm t
              simp only [resV] at hz
              split at hz
              · rename_i q e
                cases hz
                rw [e] at hs
                exact ⟨_, rfl, hs⟩
              · cases hz
          | cell x t =>
            cases y with
            | tmp _ => cases hc.1
            | cell s n agg =>
              have hc1 := hc.1
              simp only [chkR, Bool.and_eq_true, Bool.or_eq_true] at hc1
              obtain ⟨⟨⟨c1, c2⟩, c3⟩, c4⟩ := hc1
              have := Nat.eq_of_beq_eq_true c1
              subst this
              have hs := h.tm x
              simp only [resV] at hz
              split at hz
              · rename_i b e
                split at hz
                · rename_i cs hcs
                  cases e2 : Nat.beq cs.length n with
                  | false => rw [e2] at hz; cases hz
                  | true =>
                    rw [e2] at hz; cases hz
                    have e2 := Nat.eq_of_beq_eq_true e2
                    rw [e] at hs
                    have hK : ldK st n (.v (.one (.box b 0))) (fun ds => ds = cellsFrom (nth cs) n 0) := by
                      simp only [ldK, hcs]
                      exact ⟨Nat.ble_eq_true_of_le (by omega), True.intro⟩
                    obtain ⟨ds, u, g1, g2, g3⟩ := ld_ok (P := C.E.P) (xs := []) h (View.self h []) hK hs (eqopt c2) (eqopt c3) (fun ea => by
                      rcases c4 with c4 | c4
                      · rw [ea] at c4; cases c4
                      · exact Nat.eq_of_beq_eq_true c4)
                    refine ⟨u, ?_, ?_⟩
                    · obtain ⟨cs1, h1', h2'⟩ := hs
                      show (do loadVar t (← asAddr (a.tmps.getD x undef)) : Sem Value).run C.E.P w = _
                      rw [h2'] at g2 ⊢
                      exact g2
                    · rw [g1] at g3
                      have : cellsFrom (nth cs) n 0 = cs := by
                        have gen : ∀ (l : List Cell) (g : Nat → Cell) (o : Nat), (∀ i, i < l.length → g (o + i) = nth l i) → cellsFrom g l.length o = l := by
                          intro l
                          induction l with
                          | nil => intro g o _; rfl
                          | cons c l ih =>
                            intro g o hg
                            simp only [List.length_cons, cellsFrom]
                            rw [ih g (o + 1) (fun i hi => by have := hg (i + 1) (by simpa using hi); rw [show o + 1 + i = o + (i + 1) by omega]; exact this)]
                            have := hg 0 (by simp)
                            rw [Nat.add_zero] at this
                            rw [this]; rfl
                        rw [← e2]
                        exact gen cs (nth cs) 0 (fun i _ => by rw [Nat.zero_add])
                      rw [this] at g3
                      exact g3
                · cases hz
              · cases hz
        obtain ⟨v, k1, k2⟩ := key
        refine ⟨v :: vs, ?_, by simp [h2], fun j u hj => ?_⟩
        · simp only [List.mapM_cons, Sem.run_bind]
          rw [k1]
          simp only [Result.andThen_ok, Sem.run_bind]
          rw [h1]
          rfl
        · cases j with
          | zero => simp at hj; subst hj; exact k2
          | succ j => exact h3 j u (by simpa using hj)
      · cases hx
    · cases hx
  | [], _ :: _, _, hc, _ => by cases hc
  | _ :: _, [], _, hc, _ => by cases hc
end
end Go.Proofs.YtjnpnpkjmlihdaaDoor.Ab
namespace Go.Proofs.YtjnpnpkjmlihdaaDoor.Ab
open Go Go.RowKit

def allP (ob : Ob) : Bool := ob.all fun p => isP p.1
/-- the names of what is handed back and of what is lent -/
def okNames (ob obr obo : Ob) : Bool := onceL (obr ++ obo) && noP obr && allP ob

section
variable {C : Cx} {G : Gh} {st : St} {a : Act} {w : World}

theorem VNs.rep {p : Cell → Bool} {ρ : Nat → Nat} {ob' : Ob} {ps : List Pr} {v : Value} {x y : V} (hob : ∀ k r, lk ob' k = some r → lk st.ob (ρ k) = some r) (hCN : ∀ {c c'}, CNr ps c c' → p c' = true → CN ρ [] ob' c c')
    (hv : VRep C.w0 C.I G st.bx st.ob v x) (hp : y.any (fun c => !(p c)) = false) (h : VNs ps x y) : VRep C.w0 C.I (G.ren ρ) [] ob' v y := by
  rcases h with ⟨c, c', rfl, rfl, h⟩ | ⟨cs, cs', rfl, rfl, h1, h2⟩
  · exact CN.rep hob hv (hCN h (by simpa [V.any] using hp))
  · obtain ⟨arr, e1, e2, e3⟩ := hv
    refine ⟨arr, e1, by rw [h1]; exact e2, fun j u hu => ?_⟩
    have hj : j < cs.length := by have := (Array.getElem?_eq_some_iff.1 hu).1; omega
    exact CN.rep hob (e3 j u hu) (hCN (h2 j hj) (by have := anyC_nth (p := fun c => !(p c)) hp (j := j) (by omega); simpa using this))

theorem ret_ok (h : Rel C G st a w) {fn : Func} {rv : List RV} {ob obr obo : Ob} {r : T} (hc : chkRs C.E.P fn.results.toList rv = true) (hon : okNames ob obr obo = true) (hq : Ret rv ob r obr obo st) :
    ∃ v G2, (results fn a.tmps).run C.E.P w = .ok v w ∧ TRep C.w0 C.I G2 [] (obr ++ obo) v r ∧ Objs w C.w0 C.I (fun b => C.w0.heap.size ≤ b ∨ C.D b) G2 [] (obr ++ obo) ∧ ∀ k q, lk obo k = some q → G2.top k = C.G0.top k := by
  simp only [okNames, Bool.and_eq_true] at hon
  obtain ⟨⟨hon, hnp⟩, hap⟩ := hon
  unfold Ret at hq
  split at hq
  case h_2 => exact hq.elim
  rename_i xs hxs
  split at hq
  case h_2 => exact hq.elim
  rename_i ys o st1 hys
  split at hq
  case h_2 => exact hq.elim
  rename_i q hlb
  cases hbt : backT q (tupOf ys) with
  | false => rw [hbt] at hq; exact hq.elim
  | true =>
  rw [hbt] at hq
  obtain ⟨rfl, rfl, rfl⟩ := hq
  obtain ⟨vs, r1, r2, r3⟩ := resVs_ok h hc hxs
  obtain ⟨ps, a1, a2, a3, a4, a5⟩ := retVs_spec hys
  subst a3
  obtain ⟨qs, b1, b2⟩ := lentBack_spec hlb
  have hob : o ++ q = newOb (ps ++ qs) := by rw [newOb_append, a2, b2]
  have hnd := onceL_nodup hon
  rw [hob] at hnd
  have hnd2 : ((ps ++ qs).map (·.1)).Nodup := by
    have : (newOb (ps ++ qs)).map (·.1) = (ps ++ qs).map (·.1) := by simp [newOb, Function.comp_def]
    rw [← this]; exact hnd
  let ρ : Nat → Nat := fun k => match lk (ps ++ qs) k with
    | some p => p.1
    | none => k
  have hρ : ∀ k o r, (k, (o, r)) ∈ ps ++ qs → ρ k = o ∧ lk (newOb (ps ++ qs)) k = some r := by
    intro k o r hm
    refine ⟨?_, lk_nodup hnd (List.mem_map.2 ⟨(k, (o, r)), hm, rfl⟩)⟩
    show (match lk (ps ++ qs) k with | some p => p.1 | none => k) = o
    rw [lk_nodup hnd2 hm]
  have hmem : ∀ k r, lk (newOb (ps ++ qs)) k = some r → ∃ o, (k, (o, r)) ∈ ps ++ qs := by
    intro k r hr
    obtain ⟨p, hp, he⟩ := List.mem_map.1 (lk_mem hr)
    obtain ⟨k1, o1, r1⟩ := p
    cases he
    exact ⟨o1, hp⟩
  have hold : ∀ k o r, (k, (o, r)) ∈ ps ++ qs → lk st.ob o = some r ∧ ((k, (o, r)) ∈ qs → o ∉ olds ps ∧ k = o) := by
    intro k o1 r hm
    have hq : (k, (o1, r)) ∈ qs → lk st.ob o1 = some r ∧ o1 ∉ olds ps ∧ k = o1 := by
      intro hm
      obtain ⟨c1, c2, _⟩ := b1 _ hm
      have c1 : lk (drops st (olds ps)).ob o1 = some r := c1
      rw [lk_drops] at c1
      by_cases e : o1 ∈ olds ps
      · rw [if_pos e] at c1; cases c1
      · rw [if_neg e] at c1; exact ⟨c1, e, c2⟩
    rcases List.mem_append.1 hm with hm | hm
    · exact ⟨a1.at' _ hm, fun hm => (hq hm).2⟩
    · exact ⟨(hq hm).1, fun _ => (hq hm).2⟩
  have hin : ∀ k o r, (k, (o, r)) ∈ ps → o ∈ olds ps := fun k o r hm => List.mem_map.2 ⟨_, hm, rfl⟩
  have hbv : ∀ j, j < ys.length → (nthV ys j).any (fun c => !(backC q c)) = false := by
    have hbt : (tupOf ys).any (fun c => !(backC q c)) = false := by simpa [backT] using hbt
    intro j hj
    match ys, hj, hbt with
    | [y], hj, hbt =>
      have : j = 0 := by simpa using hj
      subst this; exact hbt
    | y :: z :: l, hj, hbt => exact anyV_nth hbt hj
  have hCN : ∀ {c c'}, CNr ps c c' → backC q c' = true → CN ρ [] (o ++ q) c c' := by
    intro c c' hc hbk
    rw [hob]
    rcases hc with (h1 | ⟨k2, k, n, r, h1, h2, h3⟩ | ⟨k, r, h1, h2, h3⟩) | ⟨k, n, h1, h2, h3⟩
    · exact .inr (.inl h1)
    · obtain ⟨e1, e2⟩ := hρ k2 k r (List.mem_append_left _ h3)
      exact .inr (.inr (.inl ⟨k2, n, r, h2, by rw [e1]; exact h1, e2⟩))
    · obtain ⟨e1, e2⟩ := hρ k k r (List.mem_append_left _ h3)
      exact .inr (.inr (.inr (.inr (.inr ⟨k, r, h1, h2, e1, e2⟩))))
    · subst h2
      simp only [backC, h3, Bool.not_true, Bool.false_or, Bool.not_eq_true'] at hbk
      have : ∃ r, lk q k = some r := by
        unfold freshK at hbk
        cases e : lk q k with
        | none => rw [e] at hbk; cases hbk
        | some r => exact ⟨r, rfl⟩
      obtain ⟨r, hr⟩ := this
      have hr' := hr
      rw [b2] at hr'
      obtain ⟨p, hp, he⟩ := List.mem_map.1 (lk_mem hr')
      obtain ⟨k1, o1, r1'⟩ := p
      cases he
      obtain ⟨e1, e2⟩ := hρ k1 o1 r1' (List.mem_append_right _ hp)
      have e3 : k1 = o1 := (b1 _ hp).2.1
      exact .inr (.inr (.inl ⟨k1, n, r1', rfl, by rw [e1, ← e3]; exact h1, e2⟩))
  have hob1 : ∀ k r, lk (o ++ q) k = some r → lk st.ob (ρ k) = some r := by
    intro k r hr
    rw [hob] at hr
    obtain ⟨o1, hm⟩ := hmem k r hr
    rw [(hρ k o1 r hm).1]
    exact (hold k o1 r hm).1
  have hren := h.rename (st' := ⟨masked st.tm.length, [], o ++ q⟩) (ρ := ρ) (length_masked _)
    (fun k r hr => by
      refine ⟨hob1 k r hr, fun hp => ?_⟩
      rw [hob] at hr
      obtain ⟨o1, hm⟩ := hmem k r hr
      rw [(hρ k o1 r hm).1]
      rcases List.mem_append.1 hm with hm' | hm'
      · have : lk o k = some r := by
          rw [a2]
          refine lk_nodup ?_ (List.mem_map.2 ⟨(k, (o1, r)), hm', rfl⟩)
          have hh : (newOb (ps ++ qs)).map (·.1) = (newOb ps).map (·.1) ++ (newOb qs).map (·.1) := by rw [newOb_append, List.map_append]
          rw [hh, List.nodup_append] at hnd
          exact hnd.1
        rw [noP_isP hnp this] at hp; cases hp
      · exact ((hold k o1 r hm).2 hm').2.symm)
    (fun k k' r r' hr hr' e => by
      have hr : lk (o ++ q) k = some r := hr
      have hr' : lk (o ++ q) k' = some r' := hr'
      rw [hob] at hr hr'
      obtain ⟨o1, hm⟩ := hmem k r hr
      obtain ⟨o2, hm'⟩ := hmem k' r' hr'
      rw [(hρ k o1 r hm).1, (hρ k' o2 r' hm').1] at e
      subst e
      rcases List.mem_append.1 hm with m1 | m1 <;> rcases List.mem_append.1 hm' with m2 | m2
      · exact nodup_fst a1.nd m1 m2
      · exact absurd (hin _ _ _ m1) ((hold k' o1 r' hm').2 m2).1
      · exact absurd (hin _ _ _ m2) ((hold k o1 r hm).2 m1).1
      · rw [((hold k o1 r hm).2 m1).2, ((hold k' o1 r' hm').2 m2).2])
    (fun s => .inl (getL_masked _ _)) (fun s cs' hs => (by cases hs))
  have hvals : ∀ (j : Nat) (v : Value), vs[j]? = some v → VRep C.w0 C.I (G.ren ρ) [] (o ++ q) v (nthV ys j) := by
    intro j v hj
    have hjl : j < xs.length := by have := (List.getElem?_eq_some_iff.1 hj).1; omega
    exact VNs.rep hob1 hCN (r3 j v hj) (hbv j (by omega)) (a5 j hjl)
  have hrun : (results fn a.tmps).run C.E.P w = .ok (if h : vs.toArray.size = 1 then vs.toArray[0] else .tuple vs.toArray) w := by
    have e : results fn a.tmps = (fn.results.mapM (resSem a.tmps) >>= fun vs => Pure.pure (if h : vs.size = 1 then vs[0] else .tuple vs) : Sem Value) := by
      unfold results
      rfl
    rw [e, Array.mapM_eq_mapM_toList]
    simp only [Sem.run_bind, map_eq_pure_bind]
    rw [r1]
    rfl
  refine ⟨_, G.ren ρ, hrun, ?_, hren.ob, fun k q' hk => ?_⟩
  · by_cases h1 : vs.length = 1
    · have h1' : vs.toArray.size = 1 := by simpa using h1
      rw [dif_pos h1']
      have hy1 : ys.length = 1 := by omega
      match ys, hy1, hvals with
      | [y], _, hvals => exact hvals 0 _ (by simp)
    · have h1' : ¬ vs.toArray.size = 1 := by simpa using h1
      rw [dif_neg h1']
      have : tupOf ys = .tup ys := by
        match ys, a4 with
        | [], _ => rfl
        | [y], a4 => exfalso; apply h1; rw [r2, ← a4]; rfl
        | _ :: _ :: _, _ => rfl
      rw [this]
      exact ⟨vs.toArray, rfl, by simp [r2, a4], fun j u hj => hvals j u (by simpa using hj)⟩
  · have hk' : lk (newOb qs) k = some q' := by rw [← b2]; exact hk
    obtain ⟨p, hp, he⟩ := List.mem_map.1 (lk_mem hk')
    obtain ⟨k1, o1, r1'⟩ := p
    have he1 : k1 = k := congrArg Prod.fst he
    have he2 : r1' = q' := congrArg Prod.snd he
    subst he1
    subst he2
    obtain ⟨c1, c2, c3⟩ := b1 _ hp
    have c2 : k1 = o1 := c2
    subst c2
    have hPk : isP k1 = true := by
      obtain ⟨x, hx, hxe⟩ := List.mem_map.1 c3
      unfold allP at hap
      simp only [List.all_eq_true] at hap
      have := hap x hx
      rw [hxe] at this; exact this
    obtain ⟨e1, _⟩ := hρ k1 k1 r1' (List.mem_append_right _ hp)
    show G.top (ρ k1) = _
    rw [e1]
    exact h.pk k1 r1' hPk (hold k1 k1 r1' (List.mem_append_right _ hp)).1
end

/-- A FUNCTION'S CONTRACT. -/
theorem Fun_of_wc {E : Env} {f : Nat} {cf : CF} {args : List V} {ob : Ob} {r : T} {obr obo : Ob} (hchk : chkF E.P f cf = true) (hon : okNames ob obr obo = true) (hlen : Nat.ble args.length cf.ntmps = true)
    (hno : ∀ k q, lk (obr ++ obo) k = some q → NoRo q)
    (h : wc E cf.body (enterSt cf args ob) fun x st => match x with
      | .exit _ => False
      | _ => Ret cf.results ob r obr obo st) : Fun E f args ob r obr obo := by
  simp only [chkF, Bool.and_eq_true] at hchk
  obtain ⟨hbody, hchk⟩ := hchk
  split at hchk
  case h_2 => cases hchk
  rename_i fn hf
  simp only [Bool.and_eq_true] at hchk
  obtain ⟨⟨⟨hnt, _⟩, hrs⟩, hchk⟩ := hchk
  have hnt := Nat.eq_of_beq_eq_true hnt
  split at hchk
  case h_2 => cases hchk
  rename_i c hb
  have hlen := Nat.le_of_ble_eq_true hlen
  refine ⟨hbody, hno, fun w I G vs hI hg hvl hvs hob => ?_⟩
  let C : Cx := ⟨E, w, I, lent G ob, G, fun b hb => ⟨hI b hb, fun ⟨p, lp, hp⟩ => (hob.okb p b lp hp).2 hb⟩, hg⟩
  have hR : Rel C G (enterSt cf args ob) { tmps := vs ++ Array.replicate (fn.ntmps - vs.size) undef, defers := [] } w := by
    refine ⟨rfl, ?_, fun s => ?_, ⟨hob.bxr, hob.obr, hob.inj, fun p b hp hbp => ⟨.inr ⟨p, hp, hbp⟩, (hob.okb p b hp hbp).2⟩⟩, ⟨rfl, rfl, rfl, Nat.le_refl _, fun _ _ _ => rfl⟩, fun _ _ _ _ => rfl⟩
    · simp only [enterSt, List.length_append, length_tms, length_masked, Array.size_append, Array.size_replicate]
      omega
    · simp only [enterSt]
      rw [getL_tms]
      by_cases e : s < args.length
      · rw [if_pos e]
        have hs : s < vs.size := by omega
        have h1 : (vs ++ Array.replicate (fn.ntmps - vs.size) undef).getD s undef = vs[s] := by
          rw [Array.getD_eq_getD_getElem?, Array.getElem?_append_left hs]; simp [hs]
        rw [h1]
        exact hvs s _ (by simp [hs])
      · rw [if_neg e]; exact TRep.u
  refine calls_of_wp hf hb (wc_ok (C := C) cf.body c hchk G _ _ w _ _ hR h (fun x st' a' w' G' hR' hq => ?_))
  cases x with
  | exit i => exact hq.elim
  | normal =>
    obtain ⟨v, G2, g1, g2, g3, g4⟩ := ret_ok hR' hrs hon hq
    exact ⟨hR'.df, v, g1, v, G2, rfl, g2, g3, g4, hR'.keep⟩
  | ret =>
    obtain ⟨v, G2, g1, g2, g3, g4⟩ := ret_ok hR' hrs hon hq
    exact ⟨hR'.df, v, g1, v, G2, rfl, g2, g3, g4, hR'.keep⟩
theorem RetE.ret {rs : List RV} {ob : Ob} {Φ : T → Ob → Ob → Prop} {st : St} (h : RetE rs ob Φ st) : ∃ r obr obo, Φ r obr obo ∧ Ret rs ob r obr obo st := by
  unfold RetE at h
  split at h
  case h_2 => exact h.elim
  rename_i xs e1
  split at h
  case h_2 => exact h.elim
  rename_i ys o st' e2
  split at h
  case h_2 => exact h.elim
  rename_i q e3
  cases e4 : backT q (tupOf ys) with
  | false => rw [e4] at h; exact h.elim
  | true =>
  rw [e4] at h
  refine ⟨_, _, _, h, ?_⟩
  unfold Ret
  rw [e1]
  simp only [e2, e3, e4, cond_true]
  exact ⟨trivial, trivial, trivial⟩

/-- A function's contract that tells something alone. -/
theorem FunE_of_wc {E : Env} {f : Nat} {cf : CF} {args : List V} {ob : Ob} {Φ : T → Ob → Ob → Prop} (hchk : chkF E.P f cf = true) (hlen : Nat.ble args.length cf.ntmps = true)
    (hon : ∀ r obr obo, Φ r obr obo → okNames ob obr obo = true)
    (h : wc E cf.body (enterSt cf args ob) fun x st => match x with
      | .exit _ => False
      | _ => RetE cf.results ob Φ st) : FunE E f args ob Φ := by
  simp only [chkF, Bool.and_eq_true] at hchk
  obtain ⟨hbody, hchk⟩ := hchk
  split at hchk
  case h_2 => cases hchk
  rename_i fn hf
  simp only [Bool.and_eq_true] at hchk
  obtain ⟨⟨⟨hnt, _⟩, hrs⟩, hchk⟩ := hchk
  have hnt := Nat.eq_of_beq_eq_true hnt
  split at hchk
  case h_2 => cases hchk
  rename_i c hb
  have hlen := Nat.le_of_ble_eq_true hlen
  refine ⟨hbody, fun w I G vs hI hg hvl hvs hob => ?_⟩
  let C : Cx := ⟨E, w, I, lent G ob, G, fun b hb => ⟨hI b hb, fun ⟨p, lp, hp⟩ => (hob.okb p b lp hp).2 hb⟩, hg⟩
  have hR : Rel C G (enterSt cf args ob) { tmps := vs ++ Array.replicate (fn.ntmps - vs.size) undef, defers := [] } w := by
    refine ⟨rfl, ?_, fun s => ?_, ⟨hob.bxr, hob.obr, hob.inj, fun p b hp hbp => ⟨.inr ⟨p, hp, hbp⟩, (hob.okb p b hp hbp).2⟩⟩, ⟨rfl, rfl, rfl, Nat.le_refl _, fun _ _ _ => rfl⟩, fun _ _ _ _ => rfl⟩
    · simp only [enterSt, List.length_append, length_tms, length_masked, Array.size_append, Array.size_replicate]
      omega
    · simp only [enterSt]
      rw [getL_tms]
      by_cases e : s < args.length
      · rw [if_pos e]
        have hs : s < vs.size := by omega
        have h1 : (vs ++ Array.replicate (fn.ntmps - vs.size) undef).getD s undef = vs[s] := by
          rw [Array.getD_eq_getD_getElem?, Array.getElem?_append_left hs]; simp [hs]
        rw [h1]
        exact hvs s _ (by simp [hs])
      · rw [if_neg e]; exact TRep.u
  refine calls_of_wp hf hb (wc_ok (C := C) cf.body c hchk G _ _ w _ _ hR h (fun x st' a' w' G' hR' hq => ?_))
  cases x with
  | exit i => exact hq.elim
  | normal =>
    obtain ⟨r, obr, obo, hΦ, hq⟩ := RetE.ret hq
    obtain ⟨v, G2, g1, g2, g3, g4⟩ := ret_ok hR' hrs (hon _ _ _ hΦ) hq
    exact ⟨hR'.df, v, g1, r, obr, obo, hΦ, v, G2, rfl, g2, g3, g4, hR'.keep⟩
  | ret =>
    obtain ⟨r, obr, obo, hΦ, hq⟩ := RetE.ret hq
    obtain ⟨v, G2, g1, g2, g3, g4⟩ := ret_ok hR' hrs (hon _ _ _ hΦ) hq
    exact ⟨hR'.df, v, g1, r, obr, obo, hΦ, v, G2, rfl, g2, g3, g4, hR'.keep⟩
end Go.Proofs.YtjnpnpkjmlihdaaDoor.Ab
