/- Contracts of the library's functions, out of the kit's: strings.Split, strconv.Atoi, strconv.Itoa at every number, as they lie at this program.
   Conditions: none. -/
import Derived.Test.YteemoapfkgkngaaGreatDoorYParseState
import Derived.Shelf.Strings.SplitShaped
import Derived.Shelf.Strconv.AtoiAll
import Derived.Shelf.Strconv.Itoa3
set_option linter.unusedVariables false
set_option linter.unusedSimpArgs false
namespace Go.Proofs
open Go.Shelf
def Tryz.lays146_ren : Go.Shelf.Ren := ⟨fun | 146 => 25 | 221 => 63 | 268 => 101 | 138 => 102 | 143 => 103 | 195 => 125 | 197 => 126 | 218 => 127 | 219 => 128 | 260 => 149 | 217 => 150 | 225 => 151 | 224 => 152 | 267 => 153 | 266 => 166 | 314 => 167 | n => n, fun | 9 => 9 | 31 => 63 | 3 => 3 | 4 => 4 | 0 => 0 | 105 => 156 | 21 => 21 | 5 => 5 | 46 => 179 | 119 => 193 | 139 => 196 | 138 => 195 | 146 => 198 | 51 => 197 | n => n, fun | 1 => 0 | 3 => 4 | 4 => 5 | n => n⟩
theorem Tryz.lays146 : Go.Proofs.LaysM.n146 Tryz.prog Tryz.lays146_ren := {
  mixed := by kernel_rfl
  f138 := Tryz.func102.trans (congrArg some (by kernel_rfl))
  f143 := Tryz.func103.trans (congrArg some (by kernel_rfl))
  f146 := Tryz.func25.trans (congrArg some (by kernel_rfl))
  f195 := Tryz.func125.trans (congrArg some (by kernel_rfl))
  f197 := Tryz.func126.trans (congrArg some (by kernel_rfl))
  f217 := Tryz.func150.trans (congrArg some (by kernel_rfl))
  f218 := Tryz.func127.trans (congrArg some (by kernel_rfl))
  f219 := Tryz.func128.trans (congrArg some (by kernel_rfl))
  f221 := Tryz.func63.trans (congrArg some (by kernel_rfl))
  f224 := Tryz.func152.trans (congrArg some (by kernel_rfl))
  f225 := Tryz.func151.trans (congrArg some (by kernel_rfl))
  f260 := Tryz.func149.trans (congrArg some (by kernel_rfl))
  f266 := Tryz.func166.trans (congrArg some (by kernel_rfl))
  f267 := Tryz.func153.trans (congrArg some (by kernel_rfl))
  f268 := Tryz.func101.trans (congrArg some (by kernel_rfl))
  f314 := Tryz.func167.trans (congrArg some (by kernel_rfl))
  t0 := Tryz.underlying0
  a0 := Tryz.isAgg0
  z0 := Tryz.sizeOf0
  v0 := Tryz.zeroValue0
  t3 := Tryz.underlying3
  a3 := Tryz.isAgg3
  z3 := Tryz.sizeOf3
  v3 := Tryz.zeroValue3
  t4 := Tryz.underlying4
  a4 := Tryz.isAgg4
  z4 := Tryz.sizeOf4
  v4 := Tryz.zeroValue4
  t5 := Tryz.underlying5
  a5 := Tryz.isAgg5
  z5 := Tryz.sizeOf5
  v5 := Tryz.zeroValue5
  t9 := Tryz.underlying9
  a9 := Tryz.isAgg9
  z9 := Tryz.sizeOf9
  v9 := Tryz.zeroValue9
  t21 := Tryz.underlying21
  a21 := Tryz.isAgg21
  z21 := Tryz.sizeOf21
  v21 := Tryz.zeroValue21
  t31 := Tryz.underlying63
  a31 := Tryz.isAgg63
  z31 := Tryz.sizeOf63
  v31 := Tryz.zeroValue63
  t46 := Tryz.underlying179
  a46 := Tryz.isAgg179
  z46 := Tryz.sizeOf179
  v46 := Tryz.zeroValue179
  t51 := Tryz.underlying197
  a51 := Tryz.isAgg197
  z51 := Tryz.sizeOf197
  v51 := Tryz.zeroValue197
  t105 := Tryz.underlying156
  a105 := Tryz.isAgg156
  z105 := Tryz.sizeOf156
  v105 := Tryz.zeroValue156
  t119 := Tryz.underlying193
  a119 := Tryz.isAgg193
  z119 := Tryz.sizeOf193
  t138 := Tryz.underlying195
  a138 := Tryz.isAgg195
  z138 := Tryz.sizeOf195
  v138 := Tryz.zeroValue195
  t139 := Tryz.underlying196
  a139 := Tryz.isAgg196
  z139 := Tryz.sizeOf196
  v139 := Tryz.zeroValue196
  t146 := Tryz.underlying198
  a146 := Tryz.isAgg198
  z146 := Tryz.sizeOf198
  v146 := Tryz.zeroValue198
  g1 := by kernel_rfl
  g3 := by kernel_rfl
  g4 := by kernel_rfl
  i0 := by kernel_rfl
  i3 := by kernel_rfl
  i4 := by kernel_rfl
  i5 := by kernel_rfl
  i9 := by kernel_rfl
  i21 := by kernel_rfl
  i31 := by kernel_rfl
  i46 := by kernel_rfl
  i51 := by kernel_rfl
  i105 := by kernel_rfl
  i138 := by kernel_rfl
  i139 := by kernel_rfl
  i146 := by kernel_rfl
  m1 := by kernel_rfl
  s1_3 := fun w h => Go.Proofs.cell_of_shapedOpen_int (zero := #[.int .i64 0]) (t := 3) h (of_decide_eq_true (by kernel_rfl)) (by kernel_rfl) rfl (by kernel_rfl) (by kernel_rfl) Tryz.underlying3
  m3 := by kernel_rfl
  m4 := by kernel_rfl }
def Tryz.lays172_ren : Go.Shelf.Ren := ⟨fun | 172 => 64 | 244 => 104 | 245 => 105 | 247 => 129 | 279 => 130 | 280 => 131 | 281 => 132 | 282 => 133 | 287 => 154 | 316 => 155 | 171 => 65 | 205 => 156 | 321 => 168 | 322 => 169 | 243 => 106 | 246 => 134 | 283 => 157 | 284 => 158 | 285 => 159 | 286 => 160 | 129 => 171 | 317 => 170 | 318 => 172 | 319 => 173 | 320 => 174 | 337 => 177 | 338 => 178 | n => n, fun | 9 => 9 | 3 => 3 | 75 => 100 | 76 => 101 | 4 => 4 | 5 => 5 | 167 => 159 | 37 => 153 | 0 => 0 | 85 => 160 | 2 => 2 | 168 => 162 | 53 => 180 | 175 => 181 | 46 => 179 | 210 => 185 | 127 => 192 | 145 => 203 | 143 => 201 | 21 => 21 | 171 => 187 | 173 => 190 | 212 => 205 | 51 => 197 | 20 => 20 | 213 => 206 | 232 => 212 | 233 => 213 | 80 => 171 | n => n, fun | 15 => 1 | 16 => 2 | 17 => 6 | 18 => 7 | 19 => 8 | n => n⟩
theorem Tryz.lays172 : Go.Proofs.LaysC.n172 Tryz.prog Tryz.lays172_ren := {
  mixed := by kernel_rfl
  f129 := Tryz.func171.trans (congrArg some (by kernel_rfl))
  f171 := Tryz.func65.trans (congrArg some (by kernel_rfl))
  f172 := Tryz.func64.trans (congrArg some (by kernel_rfl))
  f205 := Tryz.func156.trans (congrArg some (by kernel_rfl))
  f243 := Tryz.func106.trans (congrArg some (by kernel_rfl))
  f244 := Tryz.func104.trans (congrArg some (by kernel_rfl))
  f245 := Tryz.func105.trans (congrArg some (by kernel_rfl))
  f246 := Tryz.func134.trans (congrArg some (by kernel_rfl))
  f247 := Tryz.func129.trans (congrArg some (by kernel_rfl))
  f279 := Tryz.func130.trans (congrArg some (by kernel_rfl))
  f280 := Tryz.func131.trans (congrArg some (by kernel_rfl))
  f281 := Tryz.func132.trans (congrArg some (by kernel_rfl))
  f282 := Tryz.func133.trans (congrArg some (by kernel_rfl))
  f283 := Tryz.func157.trans (congrArg some (by kernel_rfl))
  f284 := Tryz.func158.trans (congrArg some (by kernel_rfl))
  f285 := Tryz.func159.trans (congrArg some (by kernel_rfl))
  f286 := Tryz.func160.trans (congrArg some (by kernel_rfl))
  f287 := Tryz.func154.trans (congrArg some (by kernel_rfl))
  f316 := Tryz.func155.trans (congrArg some (by kernel_rfl))
  f317 := Tryz.func170.trans (congrArg some (by kernel_rfl))
  f318 := Tryz.func172.trans (congrArg some (by kernel_rfl))
  f319 := Tryz.func173.trans (congrArg some (by kernel_rfl))
  f320 := Tryz.func174.trans (congrArg some (by kernel_rfl))
  f321 := Tryz.func168.trans (congrArg some (by kernel_rfl))
  f322 := Tryz.func169.trans (congrArg some (by kernel_rfl))
  f337 := Tryz.func177.trans (congrArg some (by kernel_rfl))
  f338 := Tryz.func178.trans (congrArg some (by kernel_rfl))
  t0 := Tryz.underlying0
  a0 := Tryz.isAgg0
  z0 := Tryz.sizeOf0
  v0 := Tryz.zeroValue0
  t2 := Tryz.underlying2
  a2 := Tryz.isAgg2
  z2 := Tryz.sizeOf2
  v2 := Tryz.zeroValue2
  t3 := Tryz.underlying3
  a3 := Tryz.isAgg3
  z3 := Tryz.sizeOf3
  v3 := Tryz.zeroValue3
  t4 := Tryz.underlying4
  a4 := Tryz.isAgg4
  z4 := Tryz.sizeOf4
  v4 := Tryz.zeroValue4
  t5 := Tryz.underlying5
  a5 := Tryz.isAgg5
  z5 := Tryz.sizeOf5
  v5 := Tryz.zeroValue5
  t9 := Tryz.underlying9
  a9 := Tryz.isAgg9
  z9 := Tryz.sizeOf9
  v9 := Tryz.zeroValue9
  t20 := Tryz.underlying20
  a20 := Tryz.isAgg20
  z20 := Tryz.sizeOf20
  v20 := Tryz.zeroValue20
  t21 := Tryz.underlying21
  a21 := Tryz.isAgg21
  z21 := Tryz.sizeOf21
  v21 := Tryz.zeroValue21
  t37 := Tryz.underlying153
  a37 := Tryz.isAgg153
  z37 := Tryz.sizeOf153
  v37 := Tryz.zeroValue153
  t46 := Tryz.underlying179
  a46 := Tryz.isAgg179
  z46 := Tryz.sizeOf179
  v46 := Tryz.zeroValue179
  t51 := Tryz.underlying197
  a51 := Tryz.isAgg197
  z51 := Tryz.sizeOf197
  v51 := Tryz.zeroValue197
  t53 := Tryz.underlying180
  a53 := Tryz.isAgg180
  z53 := Tryz.sizeOf180
  v53 := Tryz.zeroValue180
  t75 := Tryz.underlying100
  a75 := Tryz.isAgg100
  z75 := Tryz.sizeOf100
  v75 := Tryz.zeroValue100
  t76 := Tryz.underlying101
  a76 := Tryz.isAgg101
  z76 := Tryz.sizeOf101
  v76 := Tryz.zeroValue101
  t85 := Tryz.underlying160
  a85 := Tryz.isAgg160
  z85 := Tryz.sizeOf160
  v85 := Tryz.zeroValue160
  t127 := Tryz.underlying192
  a127 := Tryz.isAgg192
  z127 := Tryz.sizeOf192
  v127 := Tryz.zeroValue192
  t143 := Tryz.underlying201
  a143 := Tryz.isAgg201
  z143 := Tryz.sizeOf201
  v143 := Tryz.zeroValue201
  t145 := Tryz.underlying203
  a145 := Tryz.isAgg203
  z145 := Tryz.sizeOf203
  v145 := Tryz.zeroValue203
  t167 := Tryz.underlying159
  a167 := Tryz.isAgg159
  z167 := Tryz.sizeOf159
  v167 := Tryz.zeroValue159
  t168 := Tryz.underlying162
  a168 := Tryz.isAgg162
  z168 := Tryz.sizeOf162
  v168 := Tryz.zeroValue162
  t171 := Tryz.underlying187
  a171 := Tryz.isAgg187
  z171 := Tryz.sizeOf187
  v171 := Tryz.zeroValue187
  t173 := Tryz.underlying190
  a173 := Tryz.isAgg190
  z173 := Tryz.sizeOf190
  v173 := Tryz.zeroValue190
  t175 := Tryz.underlying181
  a175 := Tryz.isAgg181
  z175 := Tryz.sizeOf181
  v175 := Tryz.zeroValue181
  t210 := Tryz.underlying185
  a210 := Tryz.isAgg185
  z210 := Tryz.sizeOf185
  v210 := Tryz.zeroValue185
  t212 := Tryz.underlying205
  a212 := Tryz.isAgg205
  z212 := Tryz.sizeOf205
  v212 := Tryz.zeroValue205
  t213 := Tryz.underlying206
  a213 := Tryz.isAgg206
  z213 := Tryz.sizeOf206
  t232 := Tryz.underlying212
  a232 := Tryz.isAgg212
  z232 := Tryz.sizeOf212
  v232 := Tryz.zeroValue212
  t233 := Tryz.underlying213
  a233 := Tryz.isAgg213
  z233 := Tryz.sizeOf213
  v233 := Tryz.zeroValue213
  g15 := by kernel_rfl
  g16 := by kernel_rfl
  g17 := by kernel_rfl
  g18 := by kernel_rfl
  g19 := by kernel_rfl
  t80 := Tryz.underlying171
  a80 := Tryz.isAgg171
  z80 := Tryz.sizeOf171
  v80 := Tryz.zeroValue171
  i0 := by kernel_rfl
  i2 := by kernel_rfl
  i3 := by kernel_rfl
  i4 := by kernel_rfl
  i5 := by kernel_rfl
  i9 := by kernel_rfl
  i20 := by kernel_rfl
  i21 := by kernel_rfl
  i37 := by kernel_rfl
  i46 := by kernel_rfl
  i51 := by kernel_rfl
  i53 := by kernel_rfl
  i75 := by kernel_rfl
  i76 := by kernel_rfl
  i80 := by kernel_rfl
  i85 := by kernel_rfl
  i127 := by kernel_rfl
  i143 := by kernel_rfl
  i145 := by kernel_rfl
  i167 := by kernel_rfl
  i168 := by kernel_rfl
  i171 := by kernel_rfl
  i173 := by kernel_rfl
  i175 := by kernel_rfl
  i210 := by kernel_rfl
  i212 := by kernel_rfl
  i232 := by kernel_rfl
  i233 := by kernel_rfl
  m15 := by kernel_rfl
  m16 := by kernel_rfl
  m17 := by kernel_rfl
  m18 := by kernel_rfl
  m19 := by kernel_rfl
  c0 := by kernel_rfl
  c2 := by kernel_rfl
  c3 := by kernel_rfl
  c4 := by kernel_rfl
  c5 := by kernel_rfl
  c9 := by kernel_rfl
  c20 := by kernel_rfl
  c21 := by kernel_rfl
  c37 := by kernel_rfl
  c46 := by kernel_rfl
  c51 := by kernel_rfl
  c53 := by kernel_rfl
  c75 := by kernel_rfl
  c76 := by kernel_rfl
  c80 := by kernel_rfl
  c85 := by kernel_rfl
  c127 := by kernel_rfl
  c143 := by kernel_rfl
  c145 := by kernel_rfl
  c167 := by kernel_rfl
  c168 := by kernel_rfl
  c171 := by kernel_rfl
  c173 := by kernel_rfl
  c175 := by kernel_rfl
  c210 := by kernel_rfl
  c212 := by kernel_rfl
  c213 := by kernel_rfl
  c232 := by kernel_rfl
  c233 := by kernel_rfl }
def Tryz.lays171M_ren : Go.Shelf.Ren := ⟨fun | 171 => 65 | 243 => 106 | 246 => 134 | 283 => 157 | 284 => 158 | 285 => 159 | 286 => 160 | 129 => 171 | 317 => 170 | 318 => 172 | 319 => 173 | 320 => 174 | 337 => 177 | 338 => 178 | n => n, fun | 3 => 3 | 9 => 9 | 2 => 2 | 4 => 4 | 171 => 187 | 0 => 0 | 53 => 180 | 37 => 153 | 5 => 5 | 173 => 190 | 212 => 205 | 51 => 197 | 20 => 20 | 213 => 206 | 46 => 179 | 232 => 212 | 233 => 213 | n => n, fun | 17 => 6 | 18 => 7 | 19 => 8 | n => n⟩
theorem Tryz.lays171M : Go.Proofs.LaysM.n171 Tryz.prog Tryz.lays171M_ren := {
  mixed := by kernel_rfl
  f129 := Tryz.func171.trans (congrArg some (by kernel_rfl))
  f171 := Tryz.func65.trans (congrArg some (by kernel_rfl))
  f243 := Tryz.func106.trans (congrArg some (by kernel_rfl))
  f246 := Tryz.func134.trans (congrArg some (by kernel_rfl))
  f283 := Tryz.func157.trans (congrArg some (by kernel_rfl))
  f284 := Tryz.func158.trans (congrArg some (by kernel_rfl))
  f285 := Tryz.func159.trans (congrArg some (by kernel_rfl))
  f286 := Tryz.func160.trans (congrArg some (by kernel_rfl))
  f317 := Tryz.func170.trans (congrArg some (by kernel_rfl))
  f318 := Tryz.func172.trans (congrArg some (by kernel_rfl))
  f319 := Tryz.func173.trans (congrArg some (by kernel_rfl))
  f320 := Tryz.func174.trans (congrArg some (by kernel_rfl))
  f337 := Tryz.func177.trans (congrArg some (by kernel_rfl))
  f338 := Tryz.func178.trans (congrArg some (by kernel_rfl))
  t0 := Tryz.underlying0
  a0 := Tryz.isAgg0
  z0 := Tryz.sizeOf0
  v0 := Tryz.zeroValue0
  t2 := Tryz.underlying2
  a2 := Tryz.isAgg2
  z2 := Tryz.sizeOf2
  v2 := Tryz.zeroValue2
  t3 := Tryz.underlying3
  a3 := Tryz.isAgg3
  z3 := Tryz.sizeOf3
  v3 := Tryz.zeroValue3
  t4 := Tryz.underlying4
  a4 := Tryz.isAgg4
  z4 := Tryz.sizeOf4
  v4 := Tryz.zeroValue4
  t5 := Tryz.underlying5
  a5 := Tryz.isAgg5
  z5 := Tryz.sizeOf5
  v5 := Tryz.zeroValue5
  t9 := Tryz.underlying9
  a9 := Tryz.isAgg9
  z9 := Tryz.sizeOf9
  v9 := Tryz.zeroValue9
  t20 := Tryz.underlying20
  a20 := Tryz.isAgg20
  z20 := Tryz.sizeOf20
  v20 := Tryz.zeroValue20
  t37 := Tryz.underlying153
  a37 := Tryz.isAgg153
  z37 := Tryz.sizeOf153
  v37 := Tryz.zeroValue153
  t46 := Tryz.underlying179
  a46 := Tryz.isAgg179
  z46 := Tryz.sizeOf179
  v46 := Tryz.zeroValue179
  t51 := Tryz.underlying197
  a51 := Tryz.isAgg197
  z51 := Tryz.sizeOf197
  v51 := Tryz.zeroValue197
  t53 := Tryz.underlying180
  a53 := Tryz.isAgg180
  z53 := Tryz.sizeOf180
  v53 := Tryz.zeroValue180
  t171 := Tryz.underlying187
  a171 := Tryz.isAgg187
  z171 := Tryz.sizeOf187
  v171 := Tryz.zeroValue187
  t173 := Tryz.underlying190
  a173 := Tryz.isAgg190
  z173 := Tryz.sizeOf190
  v173 := Tryz.zeroValue190
  t212 := Tryz.underlying205
  a212 := Tryz.isAgg205
  z212 := Tryz.sizeOf205
  v212 := Tryz.zeroValue205
  t213 := Tryz.underlying206
  a213 := Tryz.isAgg206
  z213 := Tryz.sizeOf206
  t232 := Tryz.underlying212
  a232 := Tryz.isAgg212
  z232 := Tryz.sizeOf212
  v232 := Tryz.zeroValue212
  t233 := Tryz.underlying213
  a233 := Tryz.isAgg213
  z233 := Tryz.sizeOf213
  v233 := Tryz.zeroValue213
  g17 := by kernel_rfl
  g18 := by kernel_rfl
  g19 := by kernel_rfl
  i0 := by kernel_rfl
  i2 := by kernel_rfl
  i3 := by kernel_rfl
  i4 := by kernel_rfl
  i5 := by kernel_rfl
  i9 := by kernel_rfl
  i20 := by kernel_rfl
  i37 := by kernel_rfl
  i46 := by kernel_rfl
  i51 := by kernel_rfl
  i53 := by kernel_rfl
  i171 := by kernel_rfl
  i173 := by kernel_rfl
  i212 := by kernel_rfl
  i232 := by kernel_rfl
  i233 := by kernel_rfl
  m17 := by kernel_rfl
  m18 := by kernel_rfl
  m19 := by kernel_rfl }
end Go.Proofs
namespace Go.Proofs.YteemoapfkgkngaaGreatDoor.Ab
open Go Go.RowKit

/-- a text goes in, a row of texts comes out -/
theorem Fun_split {E : Env} {f : Nat} {s sep : ByteArray} {xs : List ByteArray} {ty : TypeId} (hb : isBody E.P f = true)
    (h : ∀ (w : World) (I : Nat → Prop), E.gok w I → Calls E.P f #[.string s, .string sep] w fun e w' =>
      e = .returned (.slice (some ⟨w.heap.size, 0, none⟩) xs.length xs.length) ∧ w' = w.alloc (.cells (xs.map Value.string).toArray ty)) :
    Fun E f [.one (.str s), .one (.str sep)] [] (.v (.one (.own 0 xs.length))) [(0, ⟨false, 1, xs.length, fun i _ => .str (xs.getD i ⟨#[]⟩)⟩)] [] := by
  refine ⟨hb, fun k q hk => ?_, fun w I G vs hI hg hl hv ho => ?_⟩
  · simp only [List.append_nil, lk_cons] at hk
    split at hk
    · cases hk
      intro i j _ _
      rfl
    · cases hk
  have hl2 : vs.size = 2 := hl
  have e0 : vs[0]'(by omega) = .string s := by
    have := hv 0 (vs[0]'(by omega)) (by simp [hl2])
    have this : CRep w I (vs[0]'(by omega)) (.str s) := this
    generalize vs[0]'(by omega) = v at this
    cases this; rfl
  have e1 : vs[1]'(by omega) = .string sep := by
    have := hv 1 (vs[1]'(by omega)) (by simp [hl2])
    have this : CRep w I (vs[1]'(by omega)) (.str sep) := this
    generalize vs[1]'(by omega) = v at this
    cases this; rfl
  have e : vs = #[.string s, .string sep] := by
    apply Array.ext
    · rw [hl2]; rfl
    · intro j h1 h2
      have hj : j < 2 := h2
      match j, hj with
      | 0, _ => rw [e0]; rfl
      | 1, _ => rw [e1]; rfl
  rw [e]
  refine (h w I hg).mono ?_
  rintro e w' ⟨rfl, rfl⟩
  have hnew : (w.alloc (.cells (xs.map Value.string).toArray ty)).heap[w.heap.size]? = some (.cells (xs.map Value.string).toArray ty (0, 0)) := by
    show (w.heap.push _)[w.heap.size]? = _
    simp
  have hold : ∀ b, b < w.heap.size → (w.alloc (.cells (xs.map Value.string).toArray ty)).heap[b]? = w.heap[b]? := by
    intro b hb
    show (w.heap.push _)[b]? = _
    rw [Array.getElem?_push, if_neg (by omega)]
  have hlive : ∀ p, Live [] ([(0, (⟨false, 1, xs.length, fun i _ => .str (xs.getD i ⟨#[]⟩)⟩ : Row))] : Ob) p → p = .top 0 := by
    intro p hp
    cases p with
    | bx s => obtain ⟨cs, hh⟩ := hp; cases hh
    | top k =>
      obtain ⟨r, hr⟩ := hp
      rw [lk_cons] at hr
      split at hr
      · rename_i e; rw [← e]
      · cases hr
    | sub k i j =>
      obtain ⟨r, sz, n, g, hr, _, _, hh⟩ := hp
      rw [lk_cons] at hr
      split at hr
      · cases hr; cases hh
      · cases hr
  refine ⟨_, { G with top := fun _ => ⟨some w.heap.size, xs.length, none, 0⟩ }, rfl, ?_, ?_, fun k q hk => (by cases hk), ⟨rfl, rfl, rfl, by show w.heap.size ≤ (w.heap.push _).size; simp, fun b hb _ => hold b hb⟩⟩
  · exact ⟨_, lk_one 0 _, rfl, rfl⟩
  · refine ⟨fun s cs hs => (by cases hs), fun k r hr => ?_, fun p q b hp hq _ _ => ?_, fun p b hp hb => ?_⟩
    · have hr : lk ([(0, (⟨false, 1, xs.length, fun i _ => .str (xs.getD i ⟨#[]⟩)⟩ : Row))] : Ob) k = some r := hr
      rw [lk_cons] at hr
      split at hr
      · cases hr
        refine ⟨Nat.le_refl _, fun hh => (by cases hh), fun b hb => ?_⟩
        cases hb
        refine ⟨_, ty, hnew, by simp, fun i j hi hj => ?_⟩
        have hj : j < 1 := hj
        have hi : i < xs.length := hi
        refine ⟨.string (xs.getD i ⟨#[]⟩), ?_, ⟨CRep.str _, rfl⟩⟩
        show (xs.map Value.string).toArray[0 + (i * 1 + j)]? = _
        rw [show 0 + (i * 1 + j) = i by omega]
        simp [hi]
      · cases hr
    · rw [hlive p hp, hlive q hq]
    · rw [hlive p hp] at hb
      cases hb
      exact ⟨.inl (Nat.le_refl _), fun hh => Nat.lt_irrefl _ (hI _ hh)⟩
/-- a text goes in, a number and a truth value come out -/
theorem Fun_strIB {E : Env} {f : Nat} {s : ByteArray} {n : Int} {b : Bool} (hb : isBody E.P f = true)
    (h : ∀ (w : World) (I : Nat → Prop), E.gok w I → Calls E.P f #[.string s] w fun e w' => e = .returned (.tuple #[.int .i64 n, .bool b]) ∧ Below w.heap.size w w') :
    Fun E f [.one (.str s)] [] (.tup [.one (.int .i64 n), .one (.bool b)]) [] [] := by
  refine ⟨hb, fun k q hk => (by cases hk), fun w I G vs hI hg hl hv ho => ?_⟩
  have hl1 : vs.size = 1 := hl
  have e0 : vs[0]'(by omega) = .string s := by
    have := hv 0 (vs[0]'(by omega)) (by simp [hl1])
    have this : CRep w I (vs[0]'(by omega)) (.str s) := this
    generalize vs[0]'(by omega) = v at this
    cases this; rfl
  have e : vs = #[.string s] := by
    apply Array.ext
    · rw [hl1]; rfl
    · intro j h1 h2
      have hj : j < 1 := h2
      match j, hj with
      | 0, _ => rw [e0]; rfl
  rw [e]
  refine (h w I hg).mono ?_
  rintro e w' ⟨rfl, hw⟩
  refine ⟨_, G, rfl, ⟨_, rfl, rfl, fun j u hj => ?_⟩, objs_nil, fun k q hk => (by cases hk), ⟨hw.os, hw.tape, hw.output, hw.size, fun b hb _ => hw.block b hb⟩⟩
  match j, hj with
  | 0, hj => cases hj; exact CRep.int _ _
  | 1, hj => cases hj; exact CRep.bool _
theorem gok_blk {E : Env} {w : World} {I : Nat → Prop} (h : E.gok w I) {g : Nat} {φ : Array Value → Prop} (hm : (g, φ) ∈ E.bl) : ∃ cs t f, w.heap[g]? = some (Obj.cells cs t f) ∧ φ cs := (h.2 _ hm).2
end Go.Proofs.YteemoapfkgkngaaGreatDoor.Ab
