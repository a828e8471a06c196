/- Contracts of the library's functions, out of the kit's: strconv.Itoa (0..99), strings.Join.
   Conditions: none. -/
import Derived.Test.YteemoapfkgkngaaGreatDoorKParseState
import Derived.Room.Shelf.Join48
import Derived.Shelf.Strconv.Itoa3
set_option linter.unusedVariables false
set_option linter.unusedSimpArgs false
namespace Go.Proofs
open Go.Shelf
def Tryz.lays156_ren : Go.Shelf.Ren := ⟨fun | 156 => 110 | 165 => 136 | 166 => 137 | 169 => 138 | 240 => 161 | 241 => 162 | 276 => 175 | 277 => 176 | n => n, fun | 31 => 63 | 9 => 9 | 3 => 3 | 4 => 4 | 0 => 0 | 20 => 20 | 72 => 169 | 76 => 101 | 70 => 167 | 37 => 153 | 75 => 100 | 127 => 192 | 164 => 208 | 5 => 5 | 80 => 171 | n => n, fun | n => n⟩
theorem Tryz.lays156 : Go.Proofs.Lays.n156 Tryz.prog Tryz.lays156_ren := {
  mixed := by kernel_rfl
  f156 := Tryz.func110.trans (congrArg some (by kernel_rfl))
  f165 := Tryz.func136.trans (congrArg some (by kernel_rfl))
  f166 := Tryz.func137.trans (congrArg some (by kernel_rfl))
  f169 := Tryz.func138.trans (congrArg some (by kernel_rfl))
  f240 := Tryz.func161.trans (congrArg some (by kernel_rfl))
  f241 := Tryz.func162.trans (congrArg some (by kernel_rfl))
  f276 := Tryz.func175.trans (congrArg some (by kernel_rfl))
  f277 := Tryz.func176.trans (congrArg some (by kernel_rfl))
  t0 := Tryz.underlying0
  a0 := Tryz.isAgg0
  z0 := Tryz.sizeOf0
  v0 := Tryz.zeroValue0
  t3 := Tryz.underlying3
  a3 := Tryz.isAgg3
  z3 := Tryz.sizeOf3
  v3 := Tryz.zeroValue3
  t4 := Tryz.underlying4
  a4 := Tryz.isAgg4
  z4 := Tryz.sizeOf4
  v4 := Tryz.zeroValue4
  t9 := Tryz.underlying9
  a9 := Tryz.isAgg9
  z9 := Tryz.sizeOf9
  v9 := Tryz.zeroValue9
  t20 := Tryz.underlying20
  a20 := Tryz.isAgg20
  z20 := Tryz.sizeOf20
  v20 := Tryz.zeroValue20
  t31 := Tryz.underlying63
  a31 := Tryz.isAgg63
  z31 := Tryz.sizeOf63
  v31 := Tryz.zeroValue63
  t37 := Tryz.underlying153
  a37 := Tryz.isAgg153
  z37 := Tryz.sizeOf153
  v37 := Tryz.zeroValue153
  t70 := Tryz.underlying167
  a70 := Tryz.isAgg167
  z70 := Tryz.sizeOf167
  v70 := Tryz.zeroValue167
  t72 := Tryz.underlying169
  a72 := Tryz.isAgg169
  z72 := Tryz.sizeOf169
  v72 := Tryz.zeroValue169
  t75 := Tryz.underlying100
  a75 := Tryz.isAgg100
  z75 := Tryz.sizeOf100
  v75 := Tryz.zeroValue100
  t76 := Tryz.underlying101
  a76 := Tryz.isAgg101
  z76 := Tryz.sizeOf101
  v76 := Tryz.zeroValue101
  t127 := Tryz.underlying192
  a127 := Tryz.isAgg192
  z127 := Tryz.sizeOf192
  v127 := Tryz.zeroValue192
  t164 := Tryz.underlying208
  a164 := Tryz.isAgg208
  z164 := Tryz.sizeOf208
  v164 := Tryz.zeroValue208 }
def Tryz.lays171_ren : Go.Shelf.Ren := ⟨fun | 171 => 65 | 243 => 106 | 246 => 134 | 283 => 157 | 284 => 158 | 285 => 159 | 286 => 160 | 129 => 171 | 317 => 170 | 318 => 172 | 319 => 173 | 320 => 174 | 337 => 177 | 338 => 178 | n => n, fun | 3 => 3 | 9 => 9 | 2 => 2 | 4 => 4 | 171 => 187 | 0 => 0 | 53 => 180 | 37 => 153 | 5 => 5 | 173 => 190 | 212 => 205 | 51 => 197 | 20 => 20 | 213 => 206 | 46 => 179 | 232 => 212 | 233 => 213 | n => n, fun | 17 => 6 | 18 => 7 | 19 => 8 | n => n⟩
theorem Tryz.lays171 : Go.Proofs.Lays.n171 Tryz.prog Tryz.lays171_ren := {
  mixed := by kernel_rfl
  f129 := Tryz.func171.trans (congrArg some (by kernel_rfl))
  f171 := Tryz.func65.trans (congrArg some (by kernel_rfl))
  f243 := Tryz.func106.trans (congrArg some (by kernel_rfl))
  f246 := Tryz.func134.trans (congrArg some (by kernel_rfl))
  f283 := Tryz.func157.trans (congrArg some (by kernel_rfl))
  f284 := Tryz.func158.trans (congrArg some (by kernel_rfl))
  f285 := Tryz.func159.trans (congrArg some (by kernel_rfl))
  f286 := Tryz.func160.trans (congrArg some (by kernel_rfl))
  f317 := Tryz.func170.trans (congrArg some (by kernel_rfl))
  f318 := Tryz.func172.trans (congrArg some (by kernel_rfl))
  f319 := Tryz.func173.trans (congrArg some (by kernel_rfl))
  f320 := Tryz.func174.trans (congrArg some (by kernel_rfl))
  f337 := Tryz.func177.trans (congrArg some (by kernel_rfl))
  f338 := Tryz.func178.trans (congrArg some (by kernel_rfl))
  t0 := Tryz.underlying0
  a0 := Tryz.isAgg0
  z0 := Tryz.sizeOf0
  v0 := Tryz.zeroValue0
  t2 := Tryz.underlying2
  a2 := Tryz.isAgg2
  z2 := Tryz.sizeOf2
  v2 := Tryz.zeroValue2
  t3 := Tryz.underlying3
  a3 := Tryz.isAgg3
  z3 := Tryz.sizeOf3
  v3 := Tryz.zeroValue3
  t4 := Tryz.underlying4
  a4 := Tryz.isAgg4
  z4 := Tryz.sizeOf4
  v4 := Tryz.zeroValue4
  t5 := Tryz.underlying5
  a5 := Tryz.isAgg5
  z5 := Tryz.sizeOf5
  v5 := Tryz.zeroValue5
  t9 := Tryz.underlying9
  a9 := Tryz.isAgg9
  z9 := Tryz.sizeOf9
  v9 := Tryz.zeroValue9
  t20 := Tryz.underlying20
  a20 := Tryz.isAgg20
  z20 := Tryz.sizeOf20
  v20 := Tryz.zeroValue20
  t37 := Tryz.underlying153
  a37 := Tryz.isAgg153
  z37 := Tryz.sizeOf153
  v37 := Tryz.zeroValue153
  t46 := Tryz.underlying179
  a46 := Tryz.isAgg179
  z46 := Tryz.sizeOf179
  v46 := Tryz.zeroValue179
  t51 := Tryz.underlying197
  a51 := Tryz.isAgg197
  z51 := Tryz.sizeOf197
  v51 := Tryz.zeroValue197
  t53 := Tryz.underlying180
  a53 := Tryz.isAgg180
  z53 := Tryz.sizeOf180
  v53 := Tryz.zeroValue180
  t171 := Tryz.underlying187
  a171 := Tryz.isAgg187
  z171 := Tryz.sizeOf187
  v171 := Tryz.zeroValue187
  t173 := Tryz.underlying190
  a173 := Tryz.isAgg190
  z173 := Tryz.sizeOf190
  v173 := Tryz.zeroValue190
  t212 := Tryz.underlying205
  a212 := Tryz.isAgg205
  z212 := Tryz.sizeOf205
  v212 := Tryz.zeroValue205
  t213 := Tryz.underlying206
  a213 := Tryz.isAgg206
  z213 := Tryz.sizeOf206
  t232 := Tryz.underlying212
  a232 := Tryz.isAgg212
  z232 := Tryz.sizeOf212
  v232 := Tryz.zeroValue212
  t233 := Tryz.underlying213
  a233 := Tryz.isAgg213
  z233 := Tryz.sizeOf213
  v233 := Tryz.zeroValue213
  g17 := by kernel_rfl
  g18 := by kernel_rfl
  g19 := by kernel_rfl }
theorem Tryz.ex156 : Builder.Extra Tryz.prog Tryz.lays156_ren := {
  sizeBuilder := by kernel_rfl
  liesBuilder := by kernel_rfl
  t5 := by kernel_rfl
  a5 := fun w => by kernel_rfl
  z5 := fun w => by kernel_rfl
  v5 := fun w => by kernel_rfl
  infoByte := by kernel_rfl
  cellsByte := by kernel_rfl
  sizeByte := by kernel_rfl
  neB5 := by decide }
end Go.Proofs
namespace Go.Proofs.YteemoapfkgkngaaGreatDoor.Ab
open Go Go.RowKit

theorem objs_nil {w w0 : World} {I ok : Nat → Prop} {G : Gh} : Objs w w0 I ok G [] [] :=
  ⟨fun s cs h => (by cases h), fun k r h => (by cases h), fun p q b hp => absurd hp (live_nil p), fun p b hp => absurd hp (live_nil p)⟩
/-- a function of a number that hands back a text and changes nothing -/
theorem Fun_intStr {E : Env} {f : Nat} {i : Int} {s : ByteArray} (hb : isBody E.P f = true) (h : ∀ w, Calls E.P f #[.int .i64 i] w fun e w' => e = .returned (.string s) ∧ w' = w) :
    Fun E f [.one (.int .i64 i)] [] (.v (.one (.str s))) [] [] := by
  refine ⟨hb, fun k q hk => (by cases hk), fun w I G vs hI hg hl hv ho => ?_⟩
  have h0 : 0 < vs.size := by rw [hl]; exact Nat.zero_lt_one
  have e0 : vs[0] = .int .i64 i := by
    have := hv 0 vs[0] (by simp [h0])
    have this : CRep w I vs[0] (.int .i64 i) := this
    generalize vs[0] = v at this
    cases this; rfl
  have e : vs = #[.int .i64 i] := by
    apply Array.ext
    · rw [hl]; rfl
    · intro j h1 h2
      have hj : j = 0 := by have : j < 1 := h2; omega
      subst hj
      rw [e0]; rfl
  rw [e]
  refine (h w).mono ?_
  rintro e w' ⟨rfl, rfl⟩
  exact ⟨.string s, G, rfl, CRep.str s, objs_nil, fun k q hk => (by cases hk), ⟨rfl, rfl, rfl, Nat.le_refl _, fun _ _ _ => rfl⟩⟩
/-- texts that are put together, a text between -/
theorem Fun_join {E : Env} {f : Nat} {xs : List ByteArray} {sep s : ByteArray} (hb : isBody E.P f = true) (h0 : 0 < xs.length)
    (h : ∀ (bk o c : Nat) (w : World), (∀ (j : Nat) x, xs[j]? = some x → w.cell? ⟨bk, o + j, none⟩ = some (.string x)) → bk < w.heap.size → xs.length ≤ c →
      Calls E.P f #[.slice (some ⟨bk, o, none⟩) xs.length c, .string sep] w fun e w' => e = .returned (.string s) ∧ Below w.heap.size w w') :
    Fun E f [.one (.ro 1 xs.length fun i _ => .str (xs.getD i ⟨#[]⟩)), .one (.str sep)] [] (.v (.one (.str s))) [] [] := by
  refine ⟨hb, fun k q hk => (by cases hk), fun w I G vs hI hg hl hv ho => ?_⟩
  have hl2 : vs.size = 2 := hl
  have e1 : vs[1]'(by omega) = .string sep := by
    have := hv 1 (vs[1]'(by omega)) (by simp [hl2])
    have this : CRep w I (vs[1]'(by omega)) (.str sep) := this
    generalize vs[1]'(by omega) = v at this
    cases this; rfl
  have e0 : ∃ bk o c, vs[0]'(by omega) = .slice (some ⟨bk, o, none⟩) xs.length c ∧ I bk ∧ xs.length ≤ c ∧ ∀ (j : Nat) x, xs[j]? = some x → w.cell? ⟨bk, o + j, none⟩ = some (.string x) := by
    have := hv 0 (vs[0]'(by omega)) (by simp [hl2])
    have this : CRep w I (vs[0]'(by omega)) (.ro 1 xs.length fun i _ => .str (xs.getD i ⟨#[]⟩)) := this
    generalize vs[0]'(by omega) = v at this
    generalize hn : xs.length = n at this
    cases this with
    | ro0 => omega
    | ro b o c _ _ _ vals hn' hpl hI' hc hr =>
      refine ⟨b, o, c, rfl, hI', hn', fun j x hj => ?_⟩
      have hjl : j < xs.length := (List.getElem?_eq_some_iff.1 hj).1
      have h1 := hc j 0 (by omega) (by omega)
      have h2 := hr j 0 (by omega) (by omega)
      rw [show o + j = o + (j * 1 + 0) by omega, h1]
      have h3 : xs.getD j ⟨#[]⟩ = x := by rw [List.getD_eq_getElem?_getD, hj]; rfl
      have h2 : CRep w I (vals j 0) (.str (xs.getD j ⟨#[]⟩)) := h2
      rw [h3] at h2
      generalize vals j 0 = u at h2
      cases h2; rfl
  obtain ⟨bk, o, c, e0, i1, i2, i3⟩ := e0
  have e : vs = #[.slice (some ⟨bk, o, none⟩) xs.length c, .string sep] := by
    apply Array.ext
    · rw [hl2]; rfl
    · intro j h1 h2
      have hj : j < 2 := h2
      match j, hj with
      | 0, _ => rw [e0]; rfl
      | 1, _ => rw [e1]; rfl
  rw [e]
  refine (h bk o c w i3 (hI _ i1) i2).mono ?_
  rintro e w' ⟨rfl, hw⟩
  exact ⟨.string s, G, rfl, CRep.str s, objs_nil, fun k q hk => (by cases hk), ⟨hw.os, hw.tape, hw.output, hw.size, fun b hb _ => hw.block b hb⟩⟩
end Go.Proofs.YteemoapfkgkngaaGreatDoor.Ab
