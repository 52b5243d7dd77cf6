/-
  DERIVED: THE SHELF's CONTRACTS AT THIS DUMP, IN PLAIN WORDS (tools/lay-plain.mjs out of 'TryzSel.lean', which tools/lay-shelf.mjs wrote): THE SAME DECLARATIONS UNDER THE SAME NAMES: 'import', 'namespace', 'open', 'def', 'theorem' AND NOTHING ELSE: no command of the shelf's: FOR A HAND-IN. Each laying: the table of numbers ('.._ren') and one theorem, a field a fact of the dump's own or the kernel's comparison; each contract: ONE APPLICATION.
-/
import Derived.Shelf.Strings.Builder1
import Derived.Shelf.Strings.Builder2
import Derived.Shelf.Strings.OnBuilder
import Derived.Shelf.Small.Utf8
import Derived.Shelf.Small.Bits
import Derived.Shelf.Small.Strs
import Derived.Shelf.Strconv.Atoi
import Derived.Shelf.Strconv.Itoa0
import Derived.Shelf.Strconv.Itoa1
import Derived.Shelf.LaysM
import Derived.Shelf.Strconv.Itoa2
import Derived.Shelf.Strconv.Itoa3
import Derived.Shelf.Strconv.AtoiErrFast
import Derived.Shelf.Strconv.ParseIntEmpty
import Derived.Shelf.Strconv.AtoiFail
import Derived.Shelf.Strconv.Clone
import Derived.Shelf.Strconv.SyntaxError
import Derived.Shelf.LaysC
import Derived.Shelf.Strconv.ToError
import Derived.Shelf.Strconv.Lower
import Derived.Shelf.Strconv.ParseUint10
import Derived.Shelf.Strconv.ParseUint10Empty
import Derived.Shelf.Strconv.ParseUint10Any
import Derived.Shelf.Strconv.ParseInt10
import Derived.Shelf.Strconv.AtoiLong
import Derived.Shelf.Strconv.AtoiInnerAll
import Derived.Shelf.Strconv.RangeError
import Derived.Shelf.Strconv.ToErrorRange
import Derived.Shelf.Strconv.AtoiAll
import Derived.Shelf.Strconv.ErrVarAll
import Derived.Shelf.Strings.Search1
import Derived.Shelf.Strings.Search2
import Derived.Shelf.Strings.Search3
import Derived.Shelf.Strings.Count
import Derived.Shelf.Strings.Shaped
import Derived.Shelf.GgClosure.StringsIndexFunc
import Derived.Ground.GgwProg
import Derived.Shelf.GgClosure.StringsIndexFuncTop
import Derived.Shelf.Strings.Split
import Derived.Shelf.Strings.SplitShaped
import Derived.Shelf.Strings.Runes
import Derived.Shelf.Strings.IndexAny
import Derived.Shelf.Strings.AsciiSet
import Derived.Shelf.Strings.IndexAnyAll
import Derived.Shelf.Unicode.DecodeSlow
import Derived.Test.YtijgifinhbbmaaaGreatDoorProg
namespace Go.Proofs
open Go.Shelf
def Tryz.lays171_ren : Go.Shelf.Ren := ⟨fun | 171 => 138 | 243 => 180 | 246 => 240 | 283 => 272 | 284 => 273 | 285 => 274 | 286 => 275 | 129 => 206 | 317 => 285 | 318 => 286 | 319 => 287 | 320 => 288 | 337 => 293 | 338 => 294 | n => n, fun | 3 => 3 | 9 => 9 | 2 => 2 | 4 => 4 | 171 => 332 | 0 => 0 | 53 => 283 | 37 => 236 | 5 => 5 | 173 => 334 | 212 => 351 | 51 => 281 | 20 => 20 | 213 => 352 | 46 => 73 | 232 => 355 | 233 => 356 | n => n, fun | 17 => 6 | 18 => 7 | 19 => 8 | n => n⟩
theorem Tryz.lays171 : Go.Proofs.Lays.n171 Tryz.prog Tryz.lays171_ren := {
  mixed := by kernel_rfl
  f129 := Tryz.func206.trans (congrArg some (by kernel_rfl))
  f171 := Tryz.func138.trans (congrArg some (by kernel_rfl))
  f243 := Tryz.func180.trans (congrArg some (by kernel_rfl))
  f246 := Tryz.func240.trans (congrArg some (by kernel_rfl))
  f283 := Tryz.func272.trans (congrArg some (by kernel_rfl))
  f284 := Tryz.func273.trans (congrArg some (by kernel_rfl))
  f285 := Tryz.func274.trans (congrArg some (by kernel_rfl))
  f286 := Tryz.func275.trans (congrArg some (by kernel_rfl))
  f317 := Tryz.func285.trans (congrArg some (by kernel_rfl))
  f318 := Tryz.func286.trans (congrArg some (by kernel_rfl))
  f319 := Tryz.func287.trans (congrArg some (by kernel_rfl))
  f320 := Tryz.func288.trans (congrArg some (by kernel_rfl))
  f337 := Tryz.func293.trans (congrArg some (by kernel_rfl))
  f338 := Tryz.func294.trans (congrArg some (by kernel_rfl))
  t0 := Tryz.underlying0
  a0 := Tryz.isAgg0
  z0 := Tryz.sizeOf0
  v0 := Tryz.zeroValue0
  t2 := Tryz.underlying2
  a2 := Tryz.isAgg2
  z2 := Tryz.sizeOf2
  v2 := Tryz.zeroValue2
  t3 := Tryz.underlying3
  a3 := Tryz.isAgg3
  z3 := Tryz.sizeOf3
  v3 := Tryz.zeroValue3
  t4 := Tryz.underlying4
  a4 := Tryz.isAgg4
  z4 := Tryz.sizeOf4
  v4 := Tryz.zeroValue4
  t5 := Tryz.underlying5
  a5 := Tryz.isAgg5
  z5 := Tryz.sizeOf5
  v5 := Tryz.zeroValue5
  t9 := Tryz.underlying9
  a9 := Tryz.isAgg9
  z9 := Tryz.sizeOf9
  v9 := Tryz.zeroValue9
  t20 := Tryz.underlying20
  a20 := Tryz.isAgg20
  z20 := Tryz.sizeOf20
  v20 := Tryz.zeroValue20
  t37 := Tryz.underlying236
  a37 := Tryz.isAgg236
  z37 := Tryz.sizeOf236
  v37 := Tryz.zeroValue236
  t46 := Tryz.underlying73
  a46 := Tryz.isAgg73
  z46 := Tryz.sizeOf73
  v46 := Tryz.zeroValue73
  t51 := Tryz.underlying281
  a51 := Tryz.isAgg281
  z51 := Tryz.sizeOf281
  v51 := Tryz.zeroValue281
  t53 := Tryz.underlying283
  a53 := Tryz.isAgg283
  z53 := Tryz.sizeOf283
  v53 := Tryz.zeroValue283
  t171 := Tryz.underlying332
  a171 := Tryz.isAgg332
  z171 := Tryz.sizeOf332
  v171 := Tryz.zeroValue332
  t173 := Tryz.underlying334
  a173 := Tryz.isAgg334
  z173 := Tryz.sizeOf334
  v173 := Tryz.zeroValue334
  t212 := Tryz.underlying351
  a212 := Tryz.isAgg351
  z212 := Tryz.sizeOf351
  v212 := Tryz.zeroValue351
  t213 := Tryz.underlying352
  a213 := Tryz.isAgg352
  z213 := Tryz.sizeOf352
  t232 := Tryz.underlying355
  a232 := Tryz.isAgg355
  z232 := Tryz.sizeOf355
  v232 := Tryz.zeroValue355
  t233 := Tryz.underlying356
  a233 := Tryz.isAgg356
  z233 := Tryz.sizeOf356
  v233 := Tryz.zeroValue356
  g17 := by kernel_rfl
  g18 := by kernel_rfl
  g19 := by kernel_rfl }
open Go.RowKit Go.Sort Go.Lib in
/-- THE ROAD WITHOUT THE TABLE: 0 <= i < 100: NO PREMISE ON THE WORLD, AND THE WORLD IS AS IT WAS: a row that keeps its argument in that range need list no table ('laid = []'). (LAID: no walk: one application.) -/
theorem Tryz.strconv_Itoa_small (i : Nat) (hi : i < 100) (w : World) :
    Calls Tryz.prog 138 #[.int .i64 i] w fun e w' => e = .returned (.string ⟨(Lib.decDigits i).toArray⟩) ∧ w' = w := Any.strconv_Itoa_small Tryz.lays171 i hi w
def Tryz.laysC172_ren : Go.Shelf.Ren := ⟨fun | 172 => 137 | 244 => 178 | 245 => 179 | 247 => 235 | 279 => 236 | 280 => 237 | 281 => 238 | 282 => 239 | 287 => 269 | 316 => 270 | 171 => 138 | 205 => 271 | 321 => 283 | 322 => 284 | 243 => 180 | 246 => 240 | 283 => 272 | 284 => 273 | 285 => 274 | 286 => 275 | 129 => 206 | 317 => 285 | 318 => 286 | 319 => 287 | 320 => 288 | 337 => 293 | 338 => 294 | n => n, fun | 9 => 9 | 3 => 3 | 75 => 223 | 76 => 224 | 4 => 4 | 5 => 5 | 167 => 299 | 37 => 236 | 0 => 0 | 85 => 300 | 2 => 2 | 168 => 302 | 53 => 283 | 175 => 326 | 46 => 73 | 210 => 330 | 127 => 272 | 145 => 349 | 143 => 347 | 21 => 21 | 171 => 332 | 173 => 334 | 212 => 351 | 51 => 281 | 20 => 20 | 213 => 352 | 232 => 355 | 233 => 356 | 80 => 239 | n => n, fun | 15 => 1 | 16 => 2 | 17 => 6 | 18 => 7 | 19 => 8 | n => n⟩
theorem Tryz.laysC172 : Go.Proofs.LaysC.n172 Tryz.prog Tryz.laysC172_ren := {
  mixed := by kernel_rfl
  f129 := Tryz.func206.trans (congrArg some (by kernel_rfl))
  f171 := Tryz.func138.trans (congrArg some (by kernel_rfl))
  f172 := Tryz.func137.trans (congrArg some (by kernel_rfl))
  f205 := Tryz.func271.trans (congrArg some (by kernel_rfl))
  f243 := Tryz.func180.trans (congrArg some (by kernel_rfl))
  f244 := Tryz.func178.trans (congrArg some (by kernel_rfl))
  f245 := Tryz.func179.trans (congrArg some (by kernel_rfl))
  f246 := Tryz.func240.trans (congrArg some (by kernel_rfl))
  f247 := Tryz.func235.trans (congrArg some (by kernel_rfl))
  f279 := Tryz.func236.trans (congrArg some (by kernel_rfl))
  f280 := Tryz.func237.trans (congrArg some (by kernel_rfl))
  f281 := Tryz.func238.trans (congrArg some (by kernel_rfl))
  f282 := Tryz.func239.trans (congrArg some (by kernel_rfl))
  f283 := Tryz.func272.trans (congrArg some (by kernel_rfl))
  f284 := Tryz.func273.trans (congrArg some (by kernel_rfl))
  f285 := Tryz.func274.trans (congrArg some (by kernel_rfl))
  f286 := Tryz.func275.trans (congrArg some (by kernel_rfl))
  f287 := Tryz.func269.trans (congrArg some (by kernel_rfl))
  f316 := Tryz.func270.trans (congrArg some (by kernel_rfl))
  f317 := Tryz.func285.trans (congrArg some (by kernel_rfl))
  f318 := Tryz.func286.trans (congrArg some (by kernel_rfl))
  f319 := Tryz.func287.trans (congrArg some (by kernel_rfl))
  f320 := Tryz.func288.trans (congrArg some (by kernel_rfl))
  f321 := Tryz.func283.trans (congrArg some (by kernel_rfl))
  f322 := Tryz.func284.trans (congrArg some (by kernel_rfl))
  f337 := Tryz.func293.trans (congrArg some (by kernel_rfl))
  f338 := Tryz.func294.trans (congrArg some (by kernel_rfl))
  t0 := Tryz.underlying0
  a0 := Tryz.isAgg0
  z0 := Tryz.sizeOf0
  v0 := Tryz.zeroValue0
  t2 := Tryz.underlying2
  a2 := Tryz.isAgg2
  z2 := Tryz.sizeOf2
  v2 := Tryz.zeroValue2
  t3 := Tryz.underlying3
  a3 := Tryz.isAgg3
  z3 := Tryz.sizeOf3
  v3 := Tryz.zeroValue3
  t4 := Tryz.underlying4
  a4 := Tryz.isAgg4
  z4 := Tryz.sizeOf4
  v4 := Tryz.zeroValue4
  t5 := Tryz.underlying5
  a5 := Tryz.isAgg5
  z5 := Tryz.sizeOf5
  v5 := Tryz.zeroValue5
  t9 := Tryz.underlying9
  a9 := Tryz.isAgg9
  z9 := Tryz.sizeOf9
  v9 := Tryz.zeroValue9
  t20 := Tryz.underlying20
  a20 := Tryz.isAgg20
  z20 := Tryz.sizeOf20
  v20 := Tryz.zeroValue20
  t21 := Tryz.underlying21
  a21 := Tryz.isAgg21
  z21 := Tryz.sizeOf21
  v21 := Tryz.zeroValue21
  t37 := Tryz.underlying236
  a37 := Tryz.isAgg236
  z37 := Tryz.sizeOf236
  v37 := Tryz.zeroValue236
  t46 := Tryz.underlying73
  a46 := Tryz.isAgg73
  z46 := Tryz.sizeOf73
  v46 := Tryz.zeroValue73
  t51 := Tryz.underlying281
  a51 := Tryz.isAgg281
  z51 := Tryz.sizeOf281
  v51 := Tryz.zeroValue281
  t53 := Tryz.underlying283
  a53 := Tryz.isAgg283
  z53 := Tryz.sizeOf283
  v53 := Tryz.zeroValue283
  t75 := Tryz.underlying223
  a75 := Tryz.isAgg223
  z75 := Tryz.sizeOf223
  v75 := Tryz.zeroValue223
  t76 := Tryz.underlying224
  a76 := Tryz.isAgg224
  z76 := Tryz.sizeOf224
  v76 := Tryz.zeroValue224
  t85 := Tryz.underlying300
  a85 := Tryz.isAgg300
  z85 := Tryz.sizeOf300
  v85 := Tryz.zeroValue300
  t127 := Tryz.underlying272
  a127 := Tryz.isAgg272
  z127 := Tryz.sizeOf272
  v127 := Tryz.zeroValue272
  t143 := Tryz.underlying347
  a143 := Tryz.isAgg347
  z143 := Tryz.sizeOf347
  v143 := Tryz.zeroValue347
  t145 := Tryz.underlying349
  a145 := Tryz.isAgg349
  z145 := Tryz.sizeOf349
  v145 := Tryz.zeroValue349
  t167 := Tryz.underlying299
  a167 := Tryz.isAgg299
  z167 := Tryz.sizeOf299
  v167 := Tryz.zeroValue299
  t168 := Tryz.underlying302
  a168 := Tryz.isAgg302
  z168 := Tryz.sizeOf302
  v168 := Tryz.zeroValue302
  t171 := Tryz.underlying332
  a171 := Tryz.isAgg332
  z171 := Tryz.sizeOf332
  v171 := Tryz.zeroValue332
  t173 := Tryz.underlying334
  a173 := Tryz.isAgg334
  z173 := Tryz.sizeOf334
  v173 := Tryz.zeroValue334
  t175 := Tryz.underlying326
  a175 := Tryz.isAgg326
  z175 := Tryz.sizeOf326
  v175 := Tryz.zeroValue326
  t210 := Tryz.underlying330
  a210 := Tryz.isAgg330
  z210 := Tryz.sizeOf330
  v210 := Tryz.zeroValue330
  t212 := Tryz.underlying351
  a212 := Tryz.isAgg351
  z212 := Tryz.sizeOf351
  v212 := Tryz.zeroValue351
  t213 := Tryz.underlying352
  a213 := Tryz.isAgg352
  z213 := Tryz.sizeOf352
  t232 := Tryz.underlying355
  a232 := Tryz.isAgg355
  z232 := Tryz.sizeOf355
  v232 := Tryz.zeroValue355
  t233 := Tryz.underlying356
  a233 := Tryz.isAgg356
  z233 := Tryz.sizeOf356
  v233 := Tryz.zeroValue356
  g15 := by kernel_rfl
  g16 := by kernel_rfl
  g17 := by kernel_rfl
  g18 := by kernel_rfl
  g19 := by kernel_rfl
  t80 := Tryz.underlying239
  a80 := Tryz.isAgg239
  z80 := Tryz.sizeOf239
  v80 := Tryz.zeroValue239
  i0 := by kernel_rfl
  i2 := by kernel_rfl
  i3 := by kernel_rfl
  i4 := by kernel_rfl
  i5 := by kernel_rfl
  i9 := by kernel_rfl
  i20 := by kernel_rfl
  i21 := by kernel_rfl
  i37 := by kernel_rfl
  i46 := by kernel_rfl
  i51 := by kernel_rfl
  i53 := by kernel_rfl
  i75 := by kernel_rfl
  i76 := by kernel_rfl
  i80 := by kernel_rfl
  i85 := by kernel_rfl
  i127 := by kernel_rfl
  i143 := by kernel_rfl
  i145 := by kernel_rfl
  i167 := by kernel_rfl
  i168 := by kernel_rfl
  i171 := by kernel_rfl
  i173 := by kernel_rfl
  i175 := by kernel_rfl
  i210 := by kernel_rfl
  i212 := by kernel_rfl
  i232 := by kernel_rfl
  i233 := by kernel_rfl
  m15 := by kernel_rfl
  m16 := by kernel_rfl
  m17 := by kernel_rfl
  m18 := by kernel_rfl
  m19 := by kernel_rfl
  c0 := by kernel_rfl
  c2 := by kernel_rfl
  c3 := by kernel_rfl
  c4 := by kernel_rfl
  c5 := by kernel_rfl
  c9 := by kernel_rfl
  c20 := by kernel_rfl
  c21 := by kernel_rfl
  c37 := by kernel_rfl
  c46 := by kernel_rfl
  c51 := by kernel_rfl
  c53 := by kernel_rfl
  c75 := by kernel_rfl
  c76 := by kernel_rfl
  c80 := by kernel_rfl
  c85 := by kernel_rfl
  c127 := by kernel_rfl
  c143 := by kernel_rfl
  c145 := by kernel_rfl
  c167 := by kernel_rfl
  c168 := by kernel_rfl
  c171 := by kernel_rfl
  c173 := by kernel_rfl
  c175 := by kernel_rfl
  c210 := by kernel_rfl
  c212 := by kernel_rfl
  c213 := by kernel_rfl
  c232 := by kernel_rfl
  c233 := by kernel_rfl }
open Go.RowKit in
/-- strconv.Atoi, AT EVERY STRING THAT SPELLS AN int ('Lib.atoiAll .. = .ok v'; of whatever length: leading zeros count): v, AND NO ERROR. The world: as it was, or with the one new row that '[]byte(..)' lays. (LAID: no walk: one application.) -/
theorem Tryz.strconv_Atoi_ok (s : ByteArray) (hmax : s.size ≤ 9223372036854775806) (v : Int) (h : Lib.atoiAll s.data.toList = .ok v) (w : World) :
    Calls Tryz.prog 137 #[.string s] w fun e w' => e = .returned (.tuple #[.int .i64 v, .nilIface]) ∧ (w' = w ∨ ∃ t, w' = Lib.bytesWorld w 5 t) := Any.strconv_Atoi_ok Tryz.laysC172 s hmax v h w
def Tryz.lays146_ren : Go.Shelf.Ren := ⟨fun | 146 => 136 | 221 => 177 | 268 => 233 | 138 => 234 | 143 => 190 | 195 => 267 | 197 => 189 | 218 => 268 | 219 => 243 | 260 => 242 | 217 => 276 | 225 => 247 | 224 => 246 | 267 => 277 | 266 => 289 | 314 => 290 | n => n, fun | 9 => 9 | 31 => 180 | 3 => 3 | 4 => 4 | 0 => 0 | 105 => 262 | 21 => 21 | 5 => 5 | 46 => 73 | 119 => 336 | 139 => 339 | 138 => 338 | 146 => 353 | 51 => 281 | n => n, fun | 1 => 5 | 3 => 3 | 4 => 4 | n => n⟩
theorem Tryz.lays146 : Go.Proofs.Lays.n146 Tryz.prog Tryz.lays146_ren := {
  mixed := by kernel_rfl
  f138 := Tryz.func234.trans (congrArg some (by kernel_rfl))
  f143 := Tryz.func190.trans (congrArg some (by kernel_rfl))
  f146 := Tryz.func136.trans (congrArg some (by kernel_rfl))
  f195 := Tryz.func267.trans (congrArg some (by kernel_rfl))
  f197 := Tryz.func189.trans (congrArg some (by kernel_rfl))
  f217 := Tryz.func276.trans (congrArg some (by kernel_rfl))
  f218 := Tryz.func268.trans (congrArg some (by kernel_rfl))
  f219 := Tryz.func243.trans (congrArg some (by kernel_rfl))
  f221 := Tryz.func177.trans (congrArg some (by kernel_rfl))
  f224 := Tryz.func246.trans (congrArg some (by kernel_rfl))
  f225 := Tryz.func247.trans (congrArg some (by kernel_rfl))
  f260 := Tryz.func242.trans (congrArg some (by kernel_rfl))
  f266 := Tryz.func289.trans (congrArg some (by kernel_rfl))
  f267 := Tryz.func277.trans (congrArg some (by kernel_rfl))
  f268 := Tryz.func233.trans (congrArg some (by kernel_rfl))
  f314 := Tryz.func290.trans (congrArg some (by kernel_rfl))
  t0 := Tryz.underlying0
  a0 := Tryz.isAgg0
  z0 := Tryz.sizeOf0
  v0 := Tryz.zeroValue0
  t3 := Tryz.underlying3
  a3 := Tryz.isAgg3
  z3 := Tryz.sizeOf3
  v3 := Tryz.zeroValue3
  t4 := Tryz.underlying4
  a4 := Tryz.isAgg4
  z4 := Tryz.sizeOf4
  v4 := Tryz.zeroValue4
  t5 := Tryz.underlying5
  a5 := Tryz.isAgg5
  z5 := Tryz.sizeOf5
  v5 := Tryz.zeroValue5
  t9 := Tryz.underlying9
  a9 := Tryz.isAgg9
  z9 := Tryz.sizeOf9
  v9 := Tryz.zeroValue9
  t21 := Tryz.underlying21
  a21 := Tryz.isAgg21
  z21 := Tryz.sizeOf21
  v21 := Tryz.zeroValue21
  t31 := Tryz.underlying180
  a31 := Tryz.isAgg180
  z31 := Tryz.sizeOf180
  v31 := Tryz.zeroValue180
  t46 := Tryz.underlying73
  a46 := Tryz.isAgg73
  z46 := Tryz.sizeOf73
  v46 := Tryz.zeroValue73
  t51 := Tryz.underlying281
  a51 := Tryz.isAgg281
  z51 := Tryz.sizeOf281
  v51 := Tryz.zeroValue281
  t105 := Tryz.underlying262
  a105 := Tryz.isAgg262
  z105 := Tryz.sizeOf262
  v105 := Tryz.zeroValue262
  t119 := Tryz.underlying336
  a119 := Tryz.isAgg336
  z119 := Tryz.sizeOf336
  t138 := Tryz.underlying338
  a138 := Tryz.isAgg338
  z138 := Tryz.sizeOf338
  v138 := Tryz.zeroValue338
  t139 := Tryz.underlying339
  a139 := Tryz.isAgg339
  z139 := Tryz.sizeOf339
  v139 := Tryz.zeroValue339
  t146 := Tryz.underlying353
  a146 := Tryz.isAgg353
  z146 := Tryz.sizeOf353
  v146 := Tryz.zeroValue353
  g1 := by kernel_rfl
  g3 := by kernel_rfl
  g4 := by kernel_rfl }
open Go.RowKit Go.Lib in
/-- strings.Split. (LAID: no walk: one application.) -/
theorem Tryz.strings_Split (s sep : ByteArray) (m : Int) (w : World) (hs : s.size < 4294967281) (hm : w.cell? ⟨5, 0, none⟩ = some (.int .i64 m)) (h1 : 1 ≤ sep.size) :
    Calls Tryz.prog 136 #[.string s, .string sep] w fun e w' =>
      e = .returned (.slice (some ⟨w.heap.size, 0, none⟩) (Lib.countB s sep + 1) (Lib.countB s sep + 1)) ∧ w' = w.alloc (.cells ((Lib.splitB sep 0 (Lib.countB s sep) s).map Value.string).toArray 9) := Any.strings_Split Tryz.lays146 (by kernel_rfl) s sep m w hs hm h1
def Tryz.laysM146_ren : Go.Shelf.Ren := ⟨fun | 146 => 136 | 221 => 177 | 268 => 233 | 138 => 234 | 143 => 190 | 195 => 267 | 197 => 189 | 218 => 268 | 219 => 243 | 260 => 242 | 217 => 276 | 225 => 247 | 224 => 246 | 267 => 277 | 266 => 289 | 314 => 290 | n => n, fun | 9 => 9 | 31 => 180 | 3 => 3 | 4 => 4 | 0 => 0 | 105 => 262 | 21 => 21 | 5 => 5 | 46 => 73 | 119 => 336 | 139 => 339 | 138 => 338 | 146 => 353 | 51 => 281 | n => n, fun | 1 => 5 | 3 => 3 | 4 => 4 | n => n⟩
theorem Tryz.laysM146 : Go.Proofs.LaysM.n146 Tryz.prog Tryz.laysM146_ren := {
  mixed := by kernel_rfl
  f138 := Tryz.func234.trans (congrArg some (by kernel_rfl))
  f143 := Tryz.func190.trans (congrArg some (by kernel_rfl))
  f146 := Tryz.func136.trans (congrArg some (by kernel_rfl))
  f195 := Tryz.func267.trans (congrArg some (by kernel_rfl))
  f197 := Tryz.func189.trans (congrArg some (by kernel_rfl))
  f217 := Tryz.func276.trans (congrArg some (by kernel_rfl))
  f218 := Tryz.func268.trans (congrArg some (by kernel_rfl))
  f219 := Tryz.func243.trans (congrArg some (by kernel_rfl))
  f221 := Tryz.func177.trans (congrArg some (by kernel_rfl))
  f224 := Tryz.func246.trans (congrArg some (by kernel_rfl))
  f225 := Tryz.func247.trans (congrArg some (by kernel_rfl))
  f260 := Tryz.func242.trans (congrArg some (by kernel_rfl))
  f266 := Tryz.func289.trans (congrArg some (by kernel_rfl))
  f267 := Tryz.func277.trans (congrArg some (by kernel_rfl))
  f268 := Tryz.func233.trans (congrArg some (by kernel_rfl))
  f314 := Tryz.func290.trans (congrArg some (by kernel_rfl))
  t0 := Tryz.underlying0
  a0 := Tryz.isAgg0
  z0 := Tryz.sizeOf0
  v0 := Tryz.zeroValue0
  t3 := Tryz.underlying3
  a3 := Tryz.isAgg3
  z3 := Tryz.sizeOf3
  v3 := Tryz.zeroValue3
  t4 := Tryz.underlying4
  a4 := Tryz.isAgg4
  z4 := Tryz.sizeOf4
  v4 := Tryz.zeroValue4
  t5 := Tryz.underlying5
  a5 := Tryz.isAgg5
  z5 := Tryz.sizeOf5
  v5 := Tryz.zeroValue5
  t9 := Tryz.underlying9
  a9 := Tryz.isAgg9
  z9 := Tryz.sizeOf9
  v9 := Tryz.zeroValue9
  t21 := Tryz.underlying21
  a21 := Tryz.isAgg21
  z21 := Tryz.sizeOf21
  v21 := Tryz.zeroValue21
  t31 := Tryz.underlying180
  a31 := Tryz.isAgg180
  z31 := Tryz.sizeOf180
  v31 := Tryz.zeroValue180
  t46 := Tryz.underlying73
  a46 := Tryz.isAgg73
  z46 := Tryz.sizeOf73
  v46 := Tryz.zeroValue73
  t51 := Tryz.underlying281
  a51 := Tryz.isAgg281
  z51 := Tryz.sizeOf281
  v51 := Tryz.zeroValue281
  t105 := Tryz.underlying262
  a105 := Tryz.isAgg262
  z105 := Tryz.sizeOf262
  v105 := Tryz.zeroValue262
  t119 := Tryz.underlying336
  a119 := Tryz.isAgg336
  z119 := Tryz.sizeOf336
  t138 := Tryz.underlying338
  a138 := Tryz.isAgg338
  z138 := Tryz.sizeOf338
  v138 := Tryz.zeroValue338
  t139 := Tryz.underlying339
  a139 := Tryz.isAgg339
  z139 := Tryz.sizeOf339
  v139 := Tryz.zeroValue339
  t146 := Tryz.underlying353
  a146 := Tryz.isAgg353
  z146 := Tryz.sizeOf353
  v146 := Tryz.zeroValue353
  g1 := by kernel_rfl
  g3 := by kernel_rfl
  g4 := by kernel_rfl
  i0 := by kernel_rfl
  i3 := by kernel_rfl
  i4 := by kernel_rfl
  i5 := by kernel_rfl
  i9 := by kernel_rfl
  i21 := by kernel_rfl
  i31 := by kernel_rfl
  i46 := by kernel_rfl
  i51 := by kernel_rfl
  i105 := by kernel_rfl
  i138 := by kernel_rfl
  i139 := by kernel_rfl
  i146 := by kernel_rfl
  m1 := by kernel_rfl
  s1_3 := fun w h => Go.Proofs.cell_of_shapedOpen_int (zero := #[.int .i64 0]) (t := 3) h (of_decide_eq_true (by kernel_rfl)) (by kernel_rfl) rfl (by kernel_rfl) (by kernel_rfl) Tryz.underlying3
  m3 := by kernel_rfl
  m4 := by kernel_rfl }
open Go.RowKit Go.Lib in
/-- strings.Split, sep not empty. (LAID: no walk: one application.) -/
theorem Tryz.strings_Split_shaped (s sep : ByteArray) (w : World) (h : w.ShapedOpen Tryz.prog) (hs : s.size < 4294967281) (h1 : 1 ≤ sep.size) :
    Calls Tryz.prog 136 #[.string s, .string sep] w fun e w' =>
      e = .returned (.slice (some ⟨w.heap.size, 0, none⟩) (Lib.countB s sep + 1) (Lib.countB s sep + 1)) ∧ w' = w.alloc (.cells ((Lib.splitB sep 0 (Lib.countB s sep) s).map Value.string).toArray 9) := Any.strings_Split_shaped Tryz.laysM146 s sep w h hs h1
end Go.Proofs
