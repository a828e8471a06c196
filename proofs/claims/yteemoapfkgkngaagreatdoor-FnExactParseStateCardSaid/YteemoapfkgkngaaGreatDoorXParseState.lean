/- Contracts of the library's functions, out of the kit's: strings.Split, strconv.Atoi, strconv.Itoa at every number, as they lie at this program.
   Conditions: none. -/
import Derived.Test.YteemoapfkgkngaaGreatDoorYParseState
import Derived.Shelf.Lay
import Derived.Shelf.Strings.SplitShaped
import Derived.Shelf.Strconv.AtoiAll
import Derived.Shelf.Strconv.Itoa3
set_option linter.unusedVariables false
set_option linter.unusedSimpArgs false
namespace Go.Proofs
open Go.Shelf
shelf_lay LaysM.n146 Nm 146 at Tryz as Tryz.lays146
shelf_lay LaysC.n172 Nm 172 at Tryz as Tryz.lays172
shelf_lay LaysM.n171 Nm 171 at Tryz as Tryz.lays171M
end Go.Proofs
namespace Go.Proofs.YteemoapfkgkngaaGreatDoor.Ab
open Go Go.RowKit

/-- a text goes in, a row of texts comes out -/
theorem Fun_split {E : Env} {f : Nat} {s sep : ByteArray} {xs : List ByteArray} {ty : TypeId} (hb : isBody E.P f = true)
    (h : ∀ (w : World) (I : Nat → Prop), E.gok w I → Calls E.P f #[.string s, .string sep] w fun e w' =>
      e = .returned (.slice (some ⟨w.heap.size, 0, none⟩) xs.length xs.length) ∧ w' = w.alloc (.cells (xs.map Value.string).toArray ty)) :
    Fun E f [.one (.str s), .one (.str sep)] [] (.v (.one (.own 0 xs.length))) [(0, ⟨false, 1, xs.length, fun i _ => .str (xs.getD i ⟨#[]⟩)⟩)] [] := by
  refine ⟨hb, fun k q hk => ?_, fun w I G vs hI hg hl hv ho => ?_⟩
  · simp only [List.append_nil, lk_cons] at hk
    split at hk
    · cases hk
      intro i j _ _
      rfl
    · cases hk
  have hl2 : vs.size = 2 := hl
  have e0 : vs[0]'(by omega) = .string s := by
    have := hv 0 (vs[0]'(by omega)) (by simp [hl2])
    have this : CRep w I (vs[0]'(by omega)) (.str s) := this
    generalize vs[0]'(by omega) = v at this
    cases this; rfl
  have e1 : vs[1]'(by omega) = .string sep := by
    have := hv 1 (vs[1]'(by omega)) (by simp [hl2])
    have this : CRep w I (vs[1]'(by omega)) (.str sep) := this
    generalize vs[1]'(by omega) = v at this
    cases this; rfl
  have e : vs = #[.string s, .string sep] := by
    apply Array.ext
    · rw [hl2]; rfl
    · intro j h1 h2
      have hj : j < 2 := h2
      match j, hj with
      | 0, _ => rw [e0]; rfl
      | 1, _ => rw [e1]; rfl
  rw [e]
  refine (h w I hg).mono ?_
  rintro e w' ⟨rfl, rfl⟩
  have hnew : (w.alloc (.cells (xs.map Value.string).toArray ty)).heap[w.heap.size]? = some (.cells (xs.map Value.string).toArray ty (0, 0)) := by
    show (w.heap.push _)[w.heap.size]? = _
    simp
  have hold : ∀ b, b < w.heap.size → (w.alloc (.cells (xs.map Value.string).toArray ty)).heap[b]? = w.heap[b]? := by
    intro b hb
    show (w.heap.push _)[b]? = _
    rw [Array.getElem?_push, if_neg (by omega)]
  have hlive : ∀ p, Live [] ([(0, (⟨false, 1, xs.length, fun i _ => .str (xs.getD i ⟨#[]⟩)⟩ : Row))] : Ob) p → p = .top 0 := by
    intro p hp
    cases p with
    | bx s => obtain ⟨cs, hh⟩ := hp; cases hh
    | top k =>
      obtain ⟨r, hr⟩ := hp
      rw [lk_cons] at hr
      split at hr
      · rename_i e; rw [← e]
      · cases hr
    | sub k i j =>
      obtain ⟨r, sz, n, g, hr, _, _, hh⟩ := hp
      rw [lk_cons] at hr
      split at hr
      · cases hr; cases hh
      · cases hr
  refine ⟨_, { G with top := fun _ => ⟨some w.heap.size, xs.length, none, 0⟩ }, rfl, ?_, ?_, fun k q hk => (by cases hk), ⟨rfl, rfl, rfl, by show w.heap.size ≤ (w.heap.push _).size; simp, fun b hb _ => hold b hb⟩⟩
  · exact ⟨_, lk_one 0 _, rfl, rfl⟩
  · refine ⟨fun s cs hs => (by cases hs), fun k r hr => ?_, fun p q b hp hq _ _ => ?_, fun p b hp hb => ?_⟩
    · have hr : lk ([(0, (⟨false, 1, xs.length, fun i _ => .str (xs.getD i ⟨#[]⟩)⟩ : Row))] : Ob) k = some r := hr
      rw [lk_cons] at hr
      split at hr
      · cases hr
        refine ⟨Nat.le_refl _, fun hh => (by cases hh), fun b hb => ?_⟩
        cases hb
        refine ⟨_, ty, hnew, by simp, fun i j hi hj => ?_⟩
        have hj : j < 1 := hj
        have hi : i < xs.length := hi
        refine ⟨.string (xs.getD i ⟨#[]⟩), ?_, ⟨CRep.str _, rfl⟩⟩
        show (xs.map Value.string).toArray[0 + (i * 1 + j)]? = _
        rw [show 0 + (i * 1 + j) = i by omega]
        simp [hi]
      · cases hr
    · rw [hlive p hp, hlive q hq]
    · rw [hlive p hp] at hb
      cases hb
      exact ⟨.inl (Nat.le_refl _), fun hh => Nat.lt_irrefl _ (hI _ hh)⟩
/-- a text goes in, a number and a truth value come out -/
theorem Fun_strIB {E : Env} {f : Nat} {s : ByteArray} {n : Int} {b : Bool} (hb : isBody E.P f = true)
    (h : ∀ (w : World) (I : Nat → Prop), E.gok w I → Calls E.P f #[.string s] w fun e w' => e = .returned (.tuple #[.int .i64 n, .bool b]) ∧ Below w.heap.size w w') :
    Fun E f [.one (.str s)] [] (.tup [.one (.int .i64 n), .one (.bool b)]) [] [] := by
  refine ⟨hb, fun k q hk => (by cases hk), fun w I G vs hI hg hl hv ho => ?_⟩
  have hl1 : vs.size = 1 := hl
  have e0 : vs[0]'(by omega) = .string s := by
    have := hv 0 (vs[0]'(by omega)) (by simp [hl1])
    have this : CRep w I (vs[0]'(by omega)) (.str s) := this
    generalize vs[0]'(by omega) = v at this
    cases this; rfl
  have e : vs = #[.string s] := by
    apply Array.ext
    · rw [hl1]; rfl
    · intro j h1 h2
      have hj : j < 1 := h2
      match j, hj with
      | 0, _ => rw [e0]; rfl
  rw [e]
  refine (h w I hg).mono ?_
  rintro e w' ⟨rfl, hw⟩
  refine ⟨_, G, rfl, ⟨_, rfl, rfl, fun j u hj => ?_⟩, objs_nil, fun k q hk => (by cases hk), ⟨hw.os, hw.tape, hw.output, hw.size, fun b hb _ => hw.block b hb⟩⟩
  match j, hj with
  | 0, hj => cases hj; exact CRep.int _ _
  | 1, hj => cases hj; exact CRep.bool _
theorem gok_blk {E : Env} {w : World} {I : Nat → Prop} (h : E.gok w I) {g : Nat} {φ : Array Value → Prop} (hm : (g, φ) ∈ E.bl) : ∃ cs t f, w.heap[g]? = some (Obj.cells cs t f) ∧ φ cs := (h.2 _ hm).2
end Go.Proofs.YteemoapfkgkngaaGreatDoor.Ab
