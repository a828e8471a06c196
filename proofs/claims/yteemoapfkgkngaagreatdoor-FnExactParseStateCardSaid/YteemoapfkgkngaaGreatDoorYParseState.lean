/- Contracts of the library's functions, out of the kit's: strconv.Itoa (0..99), strings.Join.
   Conditions: none. -/
import Derived.Test.YteemoapfkgkngaaGreatDoorKParseState
import Derived.Shelf.Lay
import Derived.Room.Shelf.Join48
import Derived.Shelf.Strconv.Itoa3
set_option linter.unusedVariables false
set_option linter.unusedSimpArgs false
namespace Go.Proofs
open Go.Shelf
shelf_lay Lays.n156 Nm 156 at Tryz as Tryz.lays156
shelf_lay Lays.n171 Nm 171 at Tryz as Tryz.lays171
theorem Tryz.ex156 : Builder.Extra Tryz.prog Tryz.lays156_ren where
  sizeBuilder := by kernel_rfl
  liesBuilder := by kernel_rfl
  t5 := by kernel_rfl
  a5 := fun w => by kernel_rfl
  z5 := fun w => by kernel_rfl
  v5 := fun w => by kernel_rfl
  infoByte := by kernel_rfl
  cellsByte := by kernel_rfl
  sizeByte := by kernel_rfl
  neB5 := by decide
end Go.Proofs
namespace Go.Proofs.YteemoapfkgkngaaGreatDoor.Ab
open Go Go.RowKit

theorem objs_nil {w w0 : World} {I ok : Nat → Prop} {G : Gh} : Objs w w0 I ok G [] [] :=
  ⟨fun s cs h => (by cases h), fun k r h => (by cases h), fun p q b hp => absurd hp (live_nil p), fun p b hp => absurd hp (live_nil p)⟩
/-- a function of a number that hands back a text and changes nothing -/
theorem Fun_intStr {E : Env} {f : Nat} {i : Int} {s : ByteArray} (hb : isBody E.P f = true) (h : ∀ w, Calls E.P f #[.int .i64 i] w fun e w' => e = .returned (.string s) ∧ w' = w) :
    Fun E f [.one (.int .i64 i)] [] (.v (.one (.str s))) [] [] := by
  refine ⟨hb, fun k q hk => (by cases hk), fun w I G vs hI hg hl hv ho => ?_⟩
  have h0 : 0 < vs.size := by rw [hl]; exact Nat.zero_lt_one
  have e0 : vs[0] = .int .i64 i := by
    have := hv 0 vs[0] (by simp [h0])
    have this : CRep w I vs[0] (.int .i64 i) := this
    generalize vs[0] = v at this
    cases this; rfl
  have e : vs = #[.int .i64 i] := by
    apply Array.ext
    · rw [hl]; rfl
    · intro j h1 h2
      have hj : j = 0 := by have : j < 1 := h2; omega
      subst hj
      rw [e0]; rfl
  rw [e]
  refine (h w).mono ?_
  rintro e w' ⟨rfl, rfl⟩
  exact ⟨.string s, G, rfl, CRep.str s, objs_nil, fun k q hk => (by cases hk), ⟨rfl, rfl, rfl, Nat.le_refl _, fun _ _ _ => rfl⟩⟩
/-- texts that are put together, a text between -/
theorem Fun_join {E : Env} {f : Nat} {xs : List ByteArray} {sep s : ByteArray} (hb : isBody E.P f = true) (h0 : 0 < xs.length)
    (h : ∀ (bk o c : Nat) (w : World), (∀ (j : Nat) x, xs[j]? = some x → w.cell? ⟨bk, o + j, none⟩ = some (.string x)) → bk < w.heap.size → xs.length ≤ c →
      Calls E.P f #[.slice (some ⟨bk, o, none⟩) xs.length c, .string sep] w fun e w' => e = .returned (.string s) ∧ Below w.heap.size w w') :
    Fun E f [.one (.ro 1 xs.length fun i _ => .str (xs.getD i ⟨#[]⟩)), .one (.str sep)] [] (.v (.one (.str s))) [] [] := by
  refine ⟨hb, fun k q hk => (by cases hk), fun w I G vs hI hg hl hv ho => ?_⟩
  have hl2 : vs.size = 2 := hl
  have e1 : vs[1]'(by omega) = .string sep := by
    have := hv 1 (vs[1]'(by omega)) (by simp [hl2])
    have this : CRep w I (vs[1]'(by omega)) (.str sep) := this
    generalize vs[1]'(by omega) = v at this
    cases this; rfl
  have e0 : ∃ bk o c, vs[0]'(by omega) = .slice (some ⟨bk, o, none⟩) xs.length c ∧ I bk ∧ xs.length ≤ c ∧ ∀ (j : Nat) x, xs[j]? = some x → w.cell? ⟨bk, o + j, none⟩ = some (.string x) := by
    have := hv 0 (vs[0]'(by omega)) (by simp [hl2])
    have this : CRep w I (vs[0]'(by omega)) (.ro 1 xs.length fun i _ => .str (xs.getD i ⟨#[]⟩)) := this
    generalize vs[0]'(by omega) = v at this
    generalize hn : xs.length = n at this
    cases this with
    | ro0 => omega
    | ro b o c _ _ _ vals hn' hpl hI' hc hr =>
      refine ⟨b, o, c, rfl, hI', hn', fun j x hj => ?_⟩
      have hjl : j < xs.length := (List.getElem?_eq_some_iff.1 hj).1
      have h1 := hc j 0 (by omega) (by omega)
      have h2 := hr j 0 (by omega) (by omega)
      rw [show o + j = o + (j * 1 + 0) by omega, h1]
      have h3 : xs.getD j ⟨#[]⟩ = x := by rw [List.getD_eq_getElem?_getD, hj]; rfl
      have h2 : CRep w I (vals j 0) (.str (xs.getD j ⟨#[]⟩)) := h2
      rw [h3] at h2
      generalize vals j 0 = u at h2
      cases h2; rfl
  obtain ⟨bk, o, c, e0, i1, i2, i3⟩ := e0
  have e : vs = #[.slice (some ⟨bk, o, none⟩) xs.length c, .string sep] := by
    apply Array.ext
    · rw [hl2]; rfl
    · intro j h1 h2
      have hj : j < 2 := h2
      match j, hj with
      | 0, _ => rw [e0]; rfl
      | 1, _ => rw [e1]; rfl
  rw [e]
  refine (h bk o c w i3 (hI _ i1) i2).mono ?_
  rintro e w' ⟨rfl, hw⟩
  exact ⟨.string s, G, rfl, CRep.str s, objs_nil, fun k q hk => (by cases hk), ⟨hw.os, hw.tape, hw.output, hw.size, fun b hb _ => hw.block b hb⟩⟩
end Go.Proofs.YteemoapfkgkngaaGreatDoor.Ab
