/- FnExactParseState answers true of every input: its given row, and the card over it, from its contract.
   Conditions: none beyond the given row's own. -/
import Derived.Test.YteemoapfkgkngaaGreatDoorRows
import Derived.Test.YteemoapfkgkngaaGreatDoorTie
import Derived.Test.YteemoapfkgkngaaGreatDoorCards
import Derived.Test.YteemoapfkgkngaaGreatDoorCParseState3
import Derived.Stop.LaidErr
import Derived.LaidLaws
import Derived.Lib.LaidTab
import Derived.Lay
import Derived.ProofKit
import Derived.LaidMore
import Derived.OpenShut
import Derived.Stop.Joined
import Derived.SevenTiedAt
set_option linter.unusedVariables false
set_option linter.unusedSimpArgs false
namespace Go.Proofs.YteemoapfkgkngaaGreatDoor.ParseState
open Go Go.ChangeShapes Go.WideShapes Go.ChangeAt Go.RowKit Go.Proofs.YteemoapfkgkngaaGreatDoor.Ab
set_option maxRecDepth 100000
theorem own : ownKnob Tryz.prog.godebug = none := by kernel_rfl
theorem laidOutT : laidOutB Tryz.prog = true := by kernel_rfl
def ty : Tys := ⟨3, 4, 9, 26, 125, 22, 127, 23, 25, 28, 30⟩
theorem tyOk : TyOk Tryz.prog ty := ⟨by kernel_rfl, by kernel_rfl, by kernel_rfl, by kernel_rfl, by kernel_rfl, by kernel_rfl, by kernel_rfl, by kernel_rfl, by kernel_rfl, by kernel_rfl, by kernel_rfl, by kernel_rfl, by kernel_rfl, by kernel_rfl, by kernel_rfl, by kernel_rfl, by kernel_rfl, by kernel_rfl, by kernel_rfl, by kernel_rfl, by kernel_rfl, by kernel_rfl⟩
theorem dirOk : DirOk Tryz.prog "loop.example/g00886/impl.directions" 3 151 150 3 := ⟨by kernel_rfl, by kernel_rfl, by kernel_rfl, by kernel_rfl, by kernel_rfl, by kernel_rfl, by kernel_rfl, by kernel_rfl⟩
abbrev laidL : List (String × DataW Unit) := [("math/bits.deBruijn32tab", Rows.laid_math_bits_deBruijn32tab), ("math/bits.deBruijn64tab", Rows.laid_math_bits_deBruijn64tab), ("internal/strconv.uint64pow10", Rows.laid_internal_strconv_uint64pow10), ("unicode/utf8.acceptRanges", Rows.laid_unicode_utf8_acceptRanges), ("strconv.ErrRange", Rows.laid_strconv_ErrRange), ("strconv.ErrSyntax", Rows.laid_strconv_ErrSyntax), ("loop.example/g00886/impl.directions", dirD), ("unicode/utf8.first", Rows.laid_unicode_utf8_first)]
theorem laidDir {w : World} (h : laidMetH Tryz.prog laidL w) : laidMetH Tryz.prog [("loop.example/g00886/impl.directions", dirD)] w := by
  have h := h.filter (fun x => x.1 == "loop.example/g00886/impl.directions")
  rwa [show laidL.filter (fun x => x.1 == "loop.example/g00886/impl.directions") = [("loop.example/g00886/impl.directions", dirD)] by kernel_rfl] at h
theorem ret_and_shaped {H : Type} {enc : TypeId × Value → H} {a : Assume} {C : Checked} {os : Os} {f : FuncId} {fn : Func} {s : ChangeSpec} {conds : List PathCond} {apart fresh handsOn again : Bool} {X : World → Array Value → Prop}
    (hX : ∀ (w w' : World) (args : Array Value), w.heap = w'.heap → X w args → X w' args)
    (own : ownKnob C.prog.godebug = none) (started : os.Started) (noInit : C.prog.inits.idxOf? f = none) (hfn : C.prog.funcs[f]? = some fn)
    (witness : ∃ (w : World) (tape : Tape) (i : Input), w.os = os ∧ (w.forCall tape i).Shaped C.prog ∧ i.vars = [] ∧ Input.okWide C.prog (w.forCall tape i) .any w.heap.size f i ∧
      ((s.pre enc C.prog fn conds apart (w.forCall tape i).memory i.args ∧ X (w.forCall tape i).memory i.args) ∧ sizedMet enc C.prog fn (OpenSpec.ofChange s) apart (w.forCall tape i).memory i.args) ∧ a.holds C.prog (lone (Frame.enter C.prog f i.args .normal) [] (w.forCall tape i)))
    (contract : ∀ (W : World) (base : Nat) (args : Array Value) (ds gs : List (DataW H)) (before : List MemPlace),
      (∀ (j : Nat) t v, fn.params[j]? = some t → args[j]? = some v → Value.okWide C.prog W .any base t v) →
      DataW.Whole enc C.prog fn.params.toList s.vars apart W args.toList ds gs before →
      conds.all (PathCond.test C.prog ⟨fn.params.toList, ds, s.plain.varTypes C.prog, gs⟩) = true →
      (DataW.weightsEach C.prog (fn.params.toList ++ s.plain.varTypes C.prog) (ds ++ gs)).all (· ≤ reachBytes) = true → X W args →
      a.holds C.prog (lone (Frame.enter C.prog f args .normal) [] W) → W.ShapedOpen C.prog →
      Calls C.prog f args W fun e W' => ∃ v, e = .returned v ∧ s.post enc C.prog fn apart fresh handsOn again W args v W') :
    ReturnsInHanded a C os f .any (fun w args => (s.pre enc C.prog fn conds apart w args ∧ X w args) ∧ sizedMet enc C.prog fn (OpenSpec.ofChange s) apart w args) (s.post enc C.prog fn apart fresh handsOn again) := by
  refine returnsInHanded_of_calls own started noInit witness ?_
  intro w tape i _ hsh _ hok hpre hholds
  obtain ⟨_, _, _, fn', hfn', _, _, _, _, hval⟩ := hok
  have e : fn' = fn := Option.some.inj (hfn'.symm.trans hfn)
  subst e
  obtain ⟨⟨⟨ds, gs, before, hw, hc⟩, hx⟩, hz⟩ := hpre
  have hw' := DataW.Whole.of_heap (w' := w.forCall tape i) (by rfl) hw
  refine (contract (w.forCall tape i) w.heap.size i.args ds gs before hval hw' hc (hz.weights hw) (hX _ _ _ (by rfl) hx) hholds hsh).mono fun e W' ⟨v, he, hp⟩ => ?_
  subst he
  exact ChangeSpec.post_blind hp
theorem laidOne {w : World} (h : laidMetH Tryz.prog laidL w) (n : String) (d : DataW Unit) (hf : laidL.filter (fun x => x.1 == n) = [(n, d)]) (hp : ([(n, d)].all fun x => x.2.handleName?.isNone) = true) : laidMet Tryz.prog [(n, d)] w := by
  have h := h.filter (fun x => x.1 == n)
  rw [hf, MakeChecks.laidMetH_plain _ _ _ hp] at h
  exact h
theorem star : "*" ++ "errors.errorString" = "*errors.errorString" := by decide
theorem rowErr (u : TypeId) (h : Tryz.prog.typeName? 3 u = some "*errors.errorString") : u = 201 :=
  typeName_ptr_named (nm := "errors.errorString") (by rw [star]; kernel_rfl) (by kernel_rfl) (by decide) u (by rw [star]; exact h)
theorem gErrS : (Tryz.prog.globals[Tryz.lays172_ren.g 15]?).map (·.type) = some 100 := by kernel_rfl
theorem gErrR : (Tryz.prog.globals[Tryz.lays172_ren.g 16]?).map (·.type) = some 100 := by kernel_rfl
theorem cellsS : Tryz.prog.cellsOf 203 = 1 := by kernel_rfl
theorem cellsT : Tryz.prog.cellsOf 9 = 1 := by kernel_rfl
theorem gokL {W : World} (hL : laidMetH Tryz.prog laidL W) (hsh : W.ShapedOpen Tryz.prog) : E0.gok W (fun b => b < W.heap.size) := by
  refine gok_more (gok_dirs dirOk (laidDir hL)) (fun p hp => ?_)
  have m1 : Tryz.prog.globalNamed "internal/bytealg.MaxLen" = some _ := Tryz.lays146.m1
  have m15 : Tryz.prog.globalNamed "strconv.ErrSyntax" = some _ := Tryz.lays172.m15
  have m16 : Tryz.prog.globalNamed "strconv.ErrRange" = some _ := Tryz.lays172.m16
  have m17 : Tryz.prog.globalNamed "internal/strconv.uint64pow10" = some _ := Tryz.lays172.m17
  simp only [libB, List.mem_cons, List.not_mem_nil, or_false] at hp
  rcases hp with rfl | rfl | rfl | rfl
  · obtain ⟨m, hm⟩ := Tryz.lays146.s1_3 W hsh
    obtain ⟨cs, t, f, h1, h2⟩ := blk_of_cell hm
    exact ⟨cs, t, f, by rw [m1]; exact h1, m, h2⟩
  · obtain ⟨a0, s0, hv0, -, -, -⟩ := laid_sentinel (laidOne hL "strconv.ErrSyntax" Rows.laid_strconv_ErrSyntax (by kernel_rfl) (by kernel_rfl)) m15 gErrS Tryz.underlying100 rowErr Tryz.underlying201 Tryz.underlying203 rfl rfl Tryz.underlying9 cellsS cellsT
    obtain ⟨t, f, h1⟩ := blk_of_var m15 hv0
    exact ⟨_, t, f, by rw [m15]; exact h1, _, rfl, .inr ⟨_, _, rfl⟩⟩
  · obtain ⟨a0, s0, hv0, -, -, -⟩ := laid_sentinel (laidOne hL "strconv.ErrRange" Rows.laid_strconv_ErrRange (by kernel_rfl) (by kernel_rfl)) m16 gErrR Tryz.underlying100 rowErr Tryz.underlying201 Tryz.underlying203 rfl rfl Tryz.underlying9 cellsS cellsT
    obtain ⟨t, f, h1⟩ := blk_of_var m16 hv0
    exact ⟨_, t, f, by rw [m16]; exact h1, _, rfl, .inr ⟨_, _, rfl⟩⟩
  · have hm := laidOne hL "internal/strconv.uint64pow10" (Lib.tabData .u64 Lib.pow10Tab) (by kernel_rfl) (by kernel_rfl)
    have ht := Lib.tabIs_of_head (n := 20) (t := 205) (e := 180) m17 (by kernel_rfl) (by kernel_rfl) (by kernel_rfl) (by kernel_rfl) (by kernel_rfl) hm
    obtain ⟨t, f, h1⟩ := blk_of_var m17 ht
    exact ⟨_, t, f, by rw [m17]; exact h1, rfl⟩

theorem door_met (os : Os) (args : Array Value) : laidMetH Tryz.prog laidL ((World.laidAll Tryz.prog os laidL).forCall (fun _ _ => 0) ⟨#[], args, []⟩).memory :=
  by
  rw [MakeChecks.laidMetH_plain _ _ _ (by kernel_rfl)]
  exact laidMet_laidAll _ (by kernel_rfl) (by kernel_rfl)
def nilL : Value := .slice none 0 0
theorem lifted (os : Os) (started : os.Started) (H : Type) (enc : TypeId × Value → H) :
    ReturnsInHanded {} Tryz.checked os 3 .any (fun w args => (Rows.fnExactParseStateSpec.pre enc Tryz.prog Tryz.f3 [] false w args ∧ laidMetH Tryz.prog laidL w) ∧ sizedMet enc Tryz.prog Tryz.f3 (OpenSpec.ofChange Rows.fnExactParseStateSpec) false w args)
      (Rows.fnExactParseStateSpec.post enc Tryz.prog Tryz.f3 false true false false) := by
  refine ret_and_shaped (C := Tryz.checked) (X := fun w _ => laidMetH Tryz.prog laidL w) (fun _ _ _ hh h => h.of_heap hh) own started (by kernel_rfl) Tryz.func3
    (ChangeSpec.witness_shaped (enc := enc) (C := Tryz.checked) (os := os) (X := fun w _ => laidMetH Tryz.prog laidL w) false (World.laidAll Tryz.prog os laidL)
      #[.agg #[nilL, nilL, .int .i64 0, .int .i64 0, .int .i64 0, .int .i64 0, .int .i64 0, .int .i64 0, .int .i64 0, nilL, nilL, nilL], .string ⟨#[]⟩] 8 (World.laidAll_os _ _ _) (World.shaped_of_ZipB (by kernel_rfl) (by kernel_rfl)) (by kernel_rfl) (by kernel_rfl) (by kernel_rfl) (door_met os _)) ?_
  intro W base args ds gs before hval0 hW _ _ hL _ hsh
  have hval : ∀ (j : Nat) t v, Tryz.f3.params[j]? = some t → args[j]? = some v → Value.okWide Tryz.prog W .any base t v := hval0
  have hW' := hW
  obtain ⟨p, q, hA0, hV, rfl, hfz, hnd⟩ := hW
  have hA : DataW.TrodAll enc Tryz.prog W 0 (fun _ => true) true Tryz.f3.params.toList args.toList ds p := hA0
  rw [Tryz.params3] at hA hval
  obtain ⟨v0, vs0, d0, ds0, p0, q0, hargs, rfl, rfl, h0, r0⟩ := trodAll_cons hA
  obtain ⟨v1, vs1, d1, ds1, p1, q1, rfl, rfl, rfl, h1, r1⟩ := trodAll_cons r0
  obtain ⟨rfl, rfl, rfl⟩ := trodAll_nil r1
  obtain rfl : args = #[v0, v1] := by cases args; simp_all
  have l0 : ∀ x ∈ p0, x.block < W.heap.size := fun x hx => hW'.lt x (by simp [hx])
  obtain ⟨x0, a0, o0⟩ := arg_brd tyOk ⟨_, Tryz.underlying30⟩ (hval 0 30 v0 rfl rfl) h0
  have l1 : ∀ x ∈ p1, x.block < W.heap.size := fun x hx => hW'.lt x (by simp [hx])
  obtain ⟨x1, a1, o1⟩ := arg_str Tryz.underlying9 (hval 1 9 v1 rfl rfl) h1
  refine ((F_FnExactParseState x0 x1 o0 o1).calls rfl (fun j v hj => ?_) (gokL hL hsh)).mono fun e W' ⟨he, bel⟩ => ?_
  · match j, hj with
    | 0, hj => cases hj; exact a0
    | 1, hj => cases hj; exact a1
  · subst he
    obtain ⟨dg, rfl, q', hq'⟩ := vars_stay dirOk.named dirOk.type laidOutT (by kernel_rfl) (of_decide_eq_true (by kernel_rfl)) hV bel
    exact ⟨_, rfl, _, _, _, [], _, _, hW', trodAll_mk1 (shut_bool Tryz.underlying4 _), (trodAll_cons_mk (Below.trod laidOutT (by kernel_rfl) (of_decide_eq_true (by kernel_rfl)) h0 bel l0) (trodAll_cons_mk (Below.trod laidOutT (by kernel_rfl) (of_decide_eq_true (by kernel_rfl)) h1 bel l1) trodAll_mk0)), hq', bel.frame _, fun h => by cases h⟩
theorem holds : Rows.FnExactParseStateSaid :=
  OpenClaim.holds_of_wide 3 Tryz.f3 rfl rfl rfl rfl rfl rfl rfl ⟨rfl, rfl, rfl, rfl, rfl⟩ rfl rfl rfl rfl rfl (by kernel_rfl) Tryz.func3 (by kernel_rfl)
    (of_decide_eq_true (by kernel_rfl)) (by unfold Func.isWrapper; first | (rw [if_pos (by decide +kernel)]; kernel_rfl) | (rw [if_neg (by decide +kernel)]; exact ⟨rfl, rfl⟩))
    (fun os started H enc _ => lifted os started H enc)
theorem card_holds : Rows.FnExactParseStateCardSaid :=
  Claim7.holds_tied_plain_at .later [] [.data, .data, .data, .data, .sentinel, .sentinel, .data, .pinned] true (true, "3fc2258ae384be124200d92598350b5ad2207e7e8d6dc0bfd5c0497bccec70bd") true
    holds (fun _ h => by cases h) (by kernel_rfl) (fun _ h => by cases h) fnExactParseState_row_tie rfl ⟨rfl, rfl⟩ (by kernel_rfl) rfl
    (fun f fn hf hfn => by
      obtain rfl : f = 3 := Option.some.inj ((show Tryz.prog.funcNamed "loop.example/g00886/laws.FnExactParseState" = some 3 by kernel_rfl).symm.trans hf) |>.symm
      obtain rfl : fn = Tryz.f3 := (Option.some.inj (Tryz.func3.symm.trans hfn)).symm
      exact ⟨by kernel_rfl, fun j t ht => by
        rw [Tryz.params3] at ht
        have hu : ∀ u ∈ ([30, 9] : List Nat), u ∈ ([30, 9] : List Nat) := by decide
        have hm : t ∈ ([30, 9] : List Nat) := hu t (by have := Array.mem_of_getElem? ht; simpa using this)
        have hall : ([30, 9].all fun u => !Tryz.prog.wantsStandIn u) = true := by kernel_rfl
        exact (show Tryz.prog.wantsStandIn t = false by simpa using List.all_eq_true.1 hall t hm)⟩)
    (by kernel_rfl)
end Go.Proofs.YteemoapfkgkngaaGreatDoor.ParseState
