/-
 My texts Shelf put together.
-/
import Derived.Shelf.Strings.Builder1
import Derived.Shelf.Strings.Builder2
import Derived.Shelf.Strings.OnBuilder
import Derived.Shelf.Small.Bits
import Derived.Shelf.Small.Strs
import Derived.Shelf.Small.Wraps
import Derived.Shelf.Strings.BuilderF
import Derived.Shelf.Strings.BuilderK
import Derived.Shelf.Strings.Builder2Cap
import Derived.Shelf.Strconv.Atoi
import Derived.Shelf.Strconv.Itoa0
import Derived.Shelf.Strconv.Itoa1
import Derived.Shelf.LaysM
import Derived.Shelf.Strconv.Itoa2
import Derived.Shelf.Strconv.Itoa3
import Derived.Shelf.Strconv.Itoa4
import Derived.Shelf.Strconv.AtoiErrFast
import Derived.Shelf.Strconv.ParseIntEmpty
import Derived.Shelf.Strconv.AtoiFail
import Derived.Shelf.Strconv.Clone
import Derived.Shelf.Strconv.SyntaxError
import Derived.Shelf.LaysC
import Derived.Shelf.Strconv.ToError
import Derived.Shelf.Strconv.Lower
import Derived.Shelf.Strconv.ParseUint10
import Derived.Shelf.Strconv.ParseUint10Empty
import Derived.Shelf.Strconv.ParseUint10Any
import Derived.Shelf.Strconv.ParseInt10
import Derived.Shelf.Strconv.AtoiLong
import Derived.Shelf.Strconv.AtoiInnerAll
import Derived.Shelf.Strconv.RangeError
import Derived.Shelf.Strconv.ToErrorRange
import Derived.Shelf.Strconv.AtoiAll
import Derived.Shelf.Strings.Search1
import Derived.Shelf.Strings.Search2
import Derived.Shelf.Strings.Search3
import Derived.Shelf.Strings.Count
import Derived.Shelf.Strings.Shaped
import Derived.Shelf.Strconv.AppendUint10
import Derived.Shelf.Strconv.AppendInt10
import Derived.Shelf.Strconv.AppendIntPublic10
import Derived.Shelf.Strings.Prefix
import Derived.Shelf.Strings.Split
import Derived.Shelf.Bits.Mul64
import Derived.Shelf.Unicode.DecodeSlow
import Derived.Shelf.Strings.BuilderCap
import Derived.Ground.Names2Prog
import Derived.Shelf.Slices.SearchI
import Derived.Test.YtcpjeaaapocoeaaGreatDoorProg
set_option maxRecDepth 100000
namespace Go.Proofs
open Go.Shelf
def Tryz.lays156_ren : Go.Shelf.Ren := ⟨fun | 156 => 249 | 165 => 323 | 166 => 222 | 169 => 113 | 240 => 295 | 241 => 368 | 276 => 348 | 277 => 396 | n => n, fun | 31 => 59 | 9 => 9 | 3 => 3 | 4 => 4 | 0 => 0 | 20 => 20 | 72 => 117 | 76 => 306 | 70 => 115 | 37 => 37 | 75 => 305 | 127 => 309 | 164 => 418 | 5 => 5 | 80 => 144 | n => n, fun | n => n⟩
theorem Tryz.lays156 : Go.Proofs.Lays.n156 Tryz.prog Tryz.lays156_ren := {
  mixed := by kernel_rfl
  f156 := Tryz.func249.trans (congrArg some (by kernel_rfl))
  f165 := Tryz.func323.trans (congrArg some (by kernel_rfl))
  f166 := Tryz.func222.trans (congrArg some (by kernel_rfl))
  f169 := Tryz.func113.trans (congrArg some (by kernel_rfl))
  f240 := Tryz.func295.trans (congrArg some (by kernel_rfl))
  f241 := Tryz.func368.trans (congrArg some (by kernel_rfl))
  f276 := Tryz.func348.trans (congrArg some (by kernel_rfl))
  f277 := Tryz.func396.trans (congrArg some (by kernel_rfl))
  t0 := Tryz.underlying0
  a0 := Tryz.isAgg0
  z0 := Tryz.sizeOf0
  v0 := Tryz.zeroValue0
  t3 := Tryz.underlying3
  a3 := Tryz.isAgg3
  z3 := Tryz.sizeOf3
  v3 := Tryz.zeroValue3
  t4 := Tryz.underlying4
  a4 := Tryz.isAgg4
  z4 := Tryz.sizeOf4
  v4 := Tryz.zeroValue4
  t9 := Tryz.underlying9
  a9 := Tryz.isAgg9
  z9 := Tryz.sizeOf9
  v9 := Tryz.zeroValue9
  t20 := Tryz.underlying20
  a20 := Tryz.isAgg20
  z20 := Tryz.sizeOf20
  v20 := Tryz.zeroValue20
  t31 := Tryz.underlying59
  a31 := Tryz.isAgg59
  z31 := Tryz.sizeOf59
  v31 := Tryz.zeroValue59
  t37 := Tryz.underlying37
  a37 := Tryz.isAgg37
  z37 := Tryz.sizeOf37
  v37 := Tryz.zeroValue37
  t70 := Tryz.underlying115
  a70 := Tryz.isAgg115
  z70 := Tryz.sizeOf115
  v70 := Tryz.zeroValue115
  t72 := Tryz.underlying117
  a72 := Tryz.isAgg117
  z72 := Tryz.sizeOf117
  v72 := Tryz.zeroValue117
  t75 := Tryz.underlying305
  a75 := Tryz.isAgg305
  z75 := Tryz.sizeOf305
  v75 := Tryz.zeroValue305
  t76 := Tryz.underlying306
  a76 := Tryz.isAgg306
  z76 := Tryz.sizeOf306
  v76 := Tryz.zeroValue306
  t127 := Tryz.underlying309
  a127 := Tryz.isAgg309
  z127 := Tryz.sizeOf309
  v127 := Tryz.zeroValue309
  t164 := Tryz.underlying418
  a164 := Tryz.isAgg418
  z164 := Tryz.sizeOf418
  v164 := Tryz.zeroValue418 }
theorem Tryz.Builder_Extra_156 : Builder.Extra Tryz.prog Tryz.lays156_ren := {
  sizeBuilder := by kernel_rfl
  liesBuilder := by kernel_rfl
  t5 := Tryz.underlying5
  a5 := Tryz.isAgg5
  z5 := Tryz.sizeOf5
  v5 := Tryz.zeroValue5
  infoByte := by kernel_rfl
  cellsByte := by kernel_rfl
  sizeByte := by kernel_rfl
  neB5 := by decide }
open Go.RowKit in
/-- strings.Join: "Join concatenates the elements of its first argument to create a single string. The separator string sep is placed between elements in the resulting string.": HOWEVER MANY ELEMENTS. Below the heap's end the world is as it was. (LAID: no walk: one application.) -/
theorem Tryz.strings_Join (bk o c : Nat) (xs : List ByteArray) (sep : ByteArray) (w : World) (hcells : ∀ (j : Nat) x, xs[j]? = some x → w.cell? ⟨bk, o + j, none⟩ = some (.string x)) (hbk : bk < w.heap.size) (hN : xs.length ≤ 140737488355328) (hcap : xs.length ≤ c) (hlen : (Lib.join (xs.map (·.data.toList)) sep.data.toList).length ≤ 140737488355328) :
    Calls Tryz.prog 249 #[.slice (some ⟨bk, o, none⟩) xs.length c, .string sep] w fun e w' => e = .returned (.string ⟨(Lib.join (xs.map (·.data.toList)) sep.data.toList).toArray⟩) ∧ Below w.heap.size w w' := Any.strings_Join Tryz.lays156 Tryz.Builder_Extra_156 bk o c xs sep w hcells hbk hN hcap hlen
def Tryz.lays134_ren : Go.Shelf.Ren := ⟨fun | 134 => 359 | 129 => 305 | n => n, fun | 53 => 217 | 3 => 3 | 4 => 4 | 46 => 139 | 5 => 5 | 9 => 9 | n => n, fun | n => n⟩
theorem Tryz.lays134 : Go.Proofs.Lays.n134 Tryz.prog Tryz.lays134_ren := {
  mixed := by kernel_rfl
  f129 := Tryz.func305.trans (congrArg some (by kernel_rfl))
  f134 := Tryz.func359.trans (congrArg some (by kernel_rfl))
  t3 := Tryz.underlying3
  a3 := Tryz.isAgg3
  z3 := Tryz.sizeOf3
  v3 := Tryz.zeroValue3
  t4 := Tryz.underlying4
  a4 := Tryz.isAgg4
  z4 := Tryz.sizeOf4
  v4 := Tryz.zeroValue4
  t5 := Tryz.underlying5
  a5 := Tryz.isAgg5
  z5 := Tryz.sizeOf5
  v5 := Tryz.zeroValue5
  t9 := Tryz.underlying9
  a9 := Tryz.isAgg9
  z9 := Tryz.sizeOf9
  v9 := Tryz.zeroValue9
  t46 := Tryz.underlying139
  a46 := Tryz.isAgg139
  z46 := Tryz.sizeOf139
  v46 := Tryz.zeroValue139
  t53 := Tryz.underlying217
  a53 := Tryz.isAgg217
  z53 := Tryz.sizeOf217
  v53 := Tryz.zeroValue217 }
/-- bits.LeadingZeros64: "LeadingZeros64 returns the number of leading zero bits in x; the result is 64 for x == 0.": IT RETURNS '64 - Lib.bitLen x'; the world is as it was. ITS CALLEE bits.Len64 IS MET BY ITS OWN CONTRACT OFF THE SHELF (lay that first): entered in place it sends the kernel out of memory. (LAID: no walk: one application.) -/
theorem Tryz.bits_LeadingZeros64 (x : Int) (w : World) (h0 : 0 ≤ x) (h1 : x ≤ 18446744073709551615) :
    Calls Tryz.prog 359 #[.int .u64 x] w fun e w' => e = .returned (.int .i64 (64 - (Lib.bitLen x.toNat : Int))) ∧ w' = w := Any.bits_LeadingZeros64 Tryz.lays134 x w h0 h1
def Tryz.lays137_ren : Go.Shelf.Ren := ⟨fun | 137 => 343 | 217 => 379 | 266 => 404 | n => n, fun | 9 => 9 | 5 => 5 | 3 => 3 | n => n, fun | n => n⟩
theorem Tryz.lays137 : Go.Proofs.Lays.n137 Tryz.prog Tryz.lays137_ren := {
  mixed := by kernel_rfl
  f137 := Tryz.func343.trans (congrArg some (by kernel_rfl))
  f217 := Tryz.func379.trans (congrArg some (by kernel_rfl))
  f266 := Tryz.func404.trans (congrArg some (by kernel_rfl))
  t3 := Tryz.underlying3
  a3 := Tryz.isAgg3
  z3 := Tryz.sizeOf3
  v3 := Tryz.zeroValue3
  t5 := Tryz.underlying5
  a5 := Tryz.isAgg5
  z5 := Tryz.sizeOf5
  v5 := Tryz.zeroValue5
  t9 := Tryz.underlying9
  a9 := Tryz.isAgg9
  z9 := Tryz.sizeOf9
  v9 := Tryz.zeroValue9 }
open Go.RowKit in
/-- strings.IndexByte: "IndexByte returns the index of the first instance of c in s, or -1 if c is not present in s.": IT RETURNS 'Lib.indexByte s c'; the world is as it was. (LAID: no walk: one application.) -/
theorem Tryz.strings_IndexByte (s : ByteArray) (c : Int) (w : World) :
    Calls Tryz.prog 343 #[.string s, .int .u8 c] w fun e w' => e = .returned (.int .i64 (Lib.indexByte s.data.toList c.toNat.toUInt8)) ∧ w' = w := Any.strings_IndexByte Tryz.lays137 s c w
def Tryz.lays103_ren : Go.Shelf.Ren := ⟨fun | 103 => 50 | 210 => 114 | 206 => 225 | n => n, fun | 9 => 9 | 4 => 4 | 24 => 129 | 3 => 3 | n => n, fun | n => n⟩
theorem Tryz.lays103 : Go.Proofs.Lays.n103 Tryz.prog Tryz.lays103_ren := {
  mixed := by kernel_rfl
  f103 := Tryz.func50.trans (congrArg some (by kernel_rfl))
  f206 := Tryz.func225.trans (congrArg some (by kernel_rfl))
  f210 := Tryz.func114.trans (congrArg some (by kernel_rfl))
  t3 := Tryz.underlying3
  a3 := Tryz.isAgg3
  z3 := Tryz.sizeOf3
  v3 := Tryz.zeroValue3
  t4 := Tryz.underlying4
  a4 := Tryz.isAgg4
  z4 := Tryz.sizeOf4
  v4 := Tryz.zeroValue4
  t9 := Tryz.underlying9
  a9 := Tryz.isAgg9
  z9 := Tryz.sizeOf9
  v9 := Tryz.zeroValue9
  t24 := Tryz.underlying129
  a24 := Tryz.isAgg129
  z24 := Tryz.sizeOf129
  v24 := Tryz.zeroValue129 }
open Go.RowKit in
/-- strings.CutPrefix: "CutPrefix returns s without the provided leading prefix string and reports whether it found the prefix. If s doesn't start with prefix, CutPrefix returns s, false. If prefix is the empty string, CutPrefix returns s, true.": IT RETURNS '(Lib.trimPrefix s p, Lib.hasPrefix s p)'; the world is as it was. (LAID: no walk: one application.) -/
theorem Tryz.strings_CutPrefix (s p : ByteArray) (w : World) :
    Calls Tryz.prog 50 #[.string s, .string p] w fun e w' => e = .returned (.tuple #[.string ⟨(Lib.trimPrefix s.data.toList p.data.toList).toArray⟩, .bool (Lib.hasPrefix s.data.toList p.data.toList)]) ∧ w' = w := Any.strings_CutPrefix Tryz.lays103 s p w
def Tryz.lays172_ren : Go.Shelf.Ren := ⟨fun | 172 => 250 | 244 => 324 | 245 => 325 | 247 => 369 | 279 => 370 | 280 => 371 | 281 => 372 | 282 => 373 | 287 => 397 | 316 => 398 | 171 => 111 | 205 => 399 | 321 => 407 | 322 => 408 | 243 => 224 | 246 => 296 | 283 => 349 | 284 => 350 | 285 => 351 | 286 => 352 | 129 => 305 | 317 => 381 | 318 => 382 | 319 => 383 | 320 => 384 | 337 => 405 | 338 => 363 | n => n, fun | 9 => 9 | 3 => 3 | 75 => 305 | 76 => 306 | 4 => 4 | 5 => 5 | 167 => 429 | 37 => 37 | 0 => 0 | 85 => 430 | 2 => 2 | 168 => 432 | 53 => 217 | 175 => 451 | 46 => 139 | 210 => 454 | 127 => 309 | 145 => 459 | 143 => 457 | 21 => 21 | 171 => 420 | 173 => 422 | 212 => 440 | 51 => 329 | 20 => 20 | 213 => 441 | 232 => 466 | 233 => 448 | 80 => 144 | n => n, fun | 15 => 4 | 16 => 5 | 17 => 0 | 18 => 9 | 19 => 1 | n => n⟩
theorem Tryz.lays172 : Go.Proofs.Lays.n172 Tryz.prog Tryz.lays172_ren := {
  mixed := by kernel_rfl
  f129 := Tryz.func305.trans (congrArg some (by kernel_rfl))
  f171 := Tryz.func111.trans (congrArg some (by kernel_rfl))
  f172 := Tryz.func250.trans (congrArg some (by kernel_rfl))
  f205 := Tryz.func399.trans (congrArg some (by kernel_rfl))
  f243 := Tryz.func224.trans (congrArg some (by kernel_rfl))
  f244 := Tryz.func324.trans (congrArg some (by kernel_rfl))
  f245 := Tryz.func325.trans (congrArg some (by kernel_rfl))
  f246 := Tryz.func296.trans (congrArg some (by kernel_rfl))
  f247 := Tryz.func369.trans (congrArg some (by kernel_rfl))
  f279 := Tryz.func370.trans (congrArg some (by kernel_rfl))
  f280 := Tryz.func371.trans (congrArg some (by kernel_rfl))
  f281 := Tryz.func372.trans (congrArg some (by kernel_rfl))
  f282 := Tryz.func373.trans (congrArg some (by kernel_rfl))
  f283 := Tryz.func349.trans (congrArg some (by kernel_rfl))
  f284 := Tryz.func350.trans (congrArg some (by kernel_rfl))
  f285 := Tryz.func351.trans (congrArg some (by kernel_rfl))
  f286 := Tryz.func352.trans (congrArg some (by kernel_rfl))
  f287 := Tryz.func397.trans (congrArg some (by kernel_rfl))
  f316 := Tryz.func398.trans (congrArg some (by kernel_rfl))
  f317 := Tryz.func381.trans (congrArg some (by kernel_rfl))
  f318 := Tryz.func382.trans (congrArg some (by kernel_rfl))
  f319 := Tryz.func383.trans (congrArg some (by kernel_rfl))
  f320 := Tryz.func384.trans (congrArg some (by kernel_rfl))
  f321 := Tryz.func407.trans (congrArg some (by kernel_rfl))
  f322 := Tryz.func408.trans (congrArg some (by kernel_rfl))
  f337 := Tryz.func405.trans (congrArg some (by kernel_rfl))
  f338 := Tryz.func363.trans (congrArg some (by kernel_rfl))
  t0 := Tryz.underlying0
  a0 := Tryz.isAgg0
  z0 := Tryz.sizeOf0
  v0 := Tryz.zeroValue0
  t2 := Tryz.underlying2
  a2 := Tryz.isAgg2
  z2 := Tryz.sizeOf2
  v2 := Tryz.zeroValue2
  t3 := Tryz.underlying3
  a3 := Tryz.isAgg3
  z3 := Tryz.sizeOf3
  v3 := Tryz.zeroValue3
  t4 := Tryz.underlying4
  a4 := Tryz.isAgg4
  z4 := Tryz.sizeOf4
  v4 := Tryz.zeroValue4
  t5 := Tryz.underlying5
  a5 := Tryz.isAgg5
  z5 := Tryz.sizeOf5
  v5 := Tryz.zeroValue5
  t9 := Tryz.underlying9
  a9 := Tryz.isAgg9
  z9 := Tryz.sizeOf9
  v9 := Tryz.zeroValue9
  t20 := Tryz.underlying20
  a20 := Tryz.isAgg20
  z20 := Tryz.sizeOf20
  v20 := Tryz.zeroValue20
  t21 := Tryz.underlying21
  a21 := Tryz.isAgg21
  z21 := Tryz.sizeOf21
  v21 := Tryz.zeroValue21
  t37 := Tryz.underlying37
  a37 := Tryz.isAgg37
  z37 := Tryz.sizeOf37
  v37 := Tryz.zeroValue37
  t46 := Tryz.underlying139
  a46 := Tryz.isAgg139
  z46 := Tryz.sizeOf139
  v46 := Tryz.zeroValue139
  t51 := Tryz.underlying329
  a51 := Tryz.isAgg329
  z51 := Tryz.sizeOf329
  v51 := Tryz.zeroValue329
  t53 := Tryz.underlying217
  a53 := Tryz.isAgg217
  z53 := Tryz.sizeOf217
  v53 := Tryz.zeroValue217
  t75 := Tryz.underlying305
  a75 := Tryz.isAgg305
  z75 := Tryz.sizeOf305
  v75 := Tryz.zeroValue305
  t76 := Tryz.underlying306
  a76 := Tryz.isAgg306
  z76 := Tryz.sizeOf306
  v76 := Tryz.zeroValue306
  t85 := Tryz.underlying430
  a85 := Tryz.isAgg430
  z85 := Tryz.sizeOf430
  v85 := Tryz.zeroValue430
  t127 := Tryz.underlying309
  a127 := Tryz.isAgg309
  z127 := Tryz.sizeOf309
  v127 := Tryz.zeroValue309
  t143 := Tryz.underlying457
  a143 := Tryz.isAgg457
  z143 := Tryz.sizeOf457
  v143 := Tryz.zeroValue457
  t145 := Tryz.underlying459
  a145 := Tryz.isAgg459
  z145 := Tryz.sizeOf459
  v145 := Tryz.zeroValue459
  t167 := Tryz.underlying429
  a167 := Tryz.isAgg429
  z167 := Tryz.sizeOf429
  v167 := Tryz.zeroValue429
  t168 := Tryz.underlying432
  a168 := Tryz.isAgg432
  z168 := Tryz.sizeOf432
  v168 := Tryz.zeroValue432
  t171 := Tryz.underlying420
  a171 := Tryz.isAgg420
  z171 := Tryz.sizeOf420
  v171 := Tryz.zeroValue420
  t173 := Tryz.underlying422
  a173 := Tryz.isAgg422
  z173 := Tryz.sizeOf422
  v173 := Tryz.zeroValue422
  t175 := Tryz.underlying451
  a175 := Tryz.isAgg451
  z175 := Tryz.sizeOf451
  v175 := Tryz.zeroValue451
  t210 := Tryz.underlying454
  a210 := Tryz.isAgg454
  z210 := Tryz.sizeOf454
  v210 := Tryz.zeroValue454
  t212 := Tryz.underlying440
  a212 := Tryz.isAgg440
  z212 := Tryz.sizeOf440
  v212 := Tryz.zeroValue440
  t213 := Tryz.underlying441
  a213 := Tryz.isAgg441
  z213 := Tryz.sizeOf441
  t232 := Tryz.underlying466
  a232 := Tryz.isAgg466
  z232 := Tryz.sizeOf466
  v232 := Tryz.zeroValue466
  t233 := Tryz.underlying448
  a233 := Tryz.isAgg448
  z233 := Tryz.sizeOf448
  v233 := Tryz.zeroValue448
  g15 := by kernel_rfl
  g16 := by kernel_rfl
  g17 := by kernel_rfl
  g18 := by kernel_rfl
  g19 := by kernel_rfl }
open Go.RowKit in
/-- strconv.Atoi: "Atoi is equivalent to ParseInt(s, 10, 0), converted to type int.": AT A DECIMAL NUMERAL OF AT MOST 18 BYTES: its value, and a nil error. The world behind the call: the one new row that the library's '[]byte(s)' lays. (LAID: no walk: one application.) -/
theorem Tryz.strconv_Atoi (s : ByteArray) (n : Int) (hl : s.size ≤ 18) (h : Lib.atoi s.data.toList = some n) (w : World) :
    Calls Tryz.prog 250 #[.string s] w fun e w' => e = .returned (.tuple #[.int .i64 n, .nilIface]) ∧ ∃ t, w' = Lib.bytesWorld w 5 t := Any.strconv_Atoi Tryz.lays172 s n hl h w
def Tryz.laysM246_ren : Go.Shelf.Ren := ⟨fun | 246 => 296 | 283 => 349 | 284 => 350 | 285 => 351 | 286 => 352 | 129 => 305 | 317 => 381 | 318 => 382 | 319 => 383 | 320 => 384 | 337 => 405 | 338 => 363 | n => n, fun | 2 => 2 | 3 => 3 | 9 => 9 | 4 => 4 | 171 => 420 | 0 => 0 | 53 => 217 | 37 => 37 | 5 => 5 | 173 => 422 | 212 => 440 | 51 => 329 | 20 => 20 | 213 => 441 | 46 => 139 | 232 => 466 | 233 => 448 | n => n, fun | 17 => 0 | 18 => 9 | 19 => 1 | n => n⟩
def Tryz.laysM243_ren : Go.Shelf.Ren := ⟨fun | 243 => 224 | 246 => 296 | 283 => 349 | 284 => 350 | 285 => 351 | 286 => 352 | 129 => 305 | 317 => 381 | 318 => 382 | 319 => 383 | 320 => 384 | 337 => 405 | 338 => 363 | n => n, fun | 3 => 3 | 9 => 9 | 2 => 2 | 4 => 4 | 171 => 420 | 0 => 0 | 53 => 217 | 37 => 37 | 5 => 5 | 173 => 422 | 212 => 440 | 51 => 329 | 20 => 20 | 213 => 441 | 46 => 139 | 232 => 466 | 233 => 448 | n => n, fun | 17 => 0 | 18 => 9 | 19 => 1 | n => n⟩
def Tryz.laysM171_ren : Go.Shelf.Ren := ⟨fun | 171 => 111 | 243 => 224 | 246 => 296 | 283 => 349 | 284 => 350 | 285 => 351 | 286 => 352 | 129 => 305 | 317 => 381 | 318 => 382 | 319 => 383 | 320 => 384 | 337 => 405 | 338 => 363 | n => n, fun | 3 => 3 | 9 => 9 | 2 => 2 | 4 => 4 | 171 => 420 | 0 => 0 | 53 => 217 | 37 => 37 | 5 => 5 | 173 => 422 | 212 => 440 | 51 => 329 | 20 => 20 | 213 => 441 | 46 => 139 | 232 => 466 | 233 => 448 | n => n, fun | 17 => 0 | 18 => 9 | 19 => 1 | n => n⟩
theorem Tryz.laysM171 : Go.Proofs.LaysM.n171 Tryz.prog Tryz.laysM171_ren := {
  mixed := by kernel_rfl
  f129 := Tryz.func305.trans (congrArg some (by kernel_rfl))
  f171 := Tryz.func111.trans (congrArg some (by kernel_rfl))
  f243 := Tryz.func224.trans (congrArg some (by kernel_rfl))
  f246 := Tryz.func296.trans (congrArg some (by kernel_rfl))
  f283 := Tryz.func349.trans (congrArg some (by kernel_rfl))
  f284 := Tryz.func350.trans (congrArg some (by kernel_rfl))
  f285 := Tryz.func351.trans (congrArg some (by kernel_rfl))
  f286 := Tryz.func352.trans (congrArg some (by kernel_rfl))
  f317 := Tryz.func381.trans (congrArg some (by kernel_rfl))
  f318 := Tryz.func382.trans (congrArg some (by kernel_rfl))
  f319 := Tryz.func383.trans (congrArg some (by kernel_rfl))
  f320 := Tryz.func384.trans (congrArg some (by kernel_rfl))
  f337 := Tryz.func405.trans (congrArg some (by kernel_rfl))
  f338 := Tryz.func363.trans (congrArg some (by kernel_rfl))
  t0 := Tryz.underlying0
  a0 := Tryz.isAgg0
  z0 := Tryz.sizeOf0
  v0 := Tryz.zeroValue0
  t2 := Tryz.underlying2
  a2 := Tryz.isAgg2
  z2 := Tryz.sizeOf2
  v2 := Tryz.zeroValue2
  t3 := Tryz.underlying3
  a3 := Tryz.isAgg3
  z3 := Tryz.sizeOf3
  v3 := Tryz.zeroValue3
  t4 := Tryz.underlying4
  a4 := Tryz.isAgg4
  z4 := Tryz.sizeOf4
  v4 := Tryz.zeroValue4
  t5 := Tryz.underlying5
  a5 := Tryz.isAgg5
  z5 := Tryz.sizeOf5
  v5 := Tryz.zeroValue5
  t9 := Tryz.underlying9
  a9 := Tryz.isAgg9
  z9 := Tryz.sizeOf9
  v9 := Tryz.zeroValue9
  t20 := Tryz.underlying20
  a20 := Tryz.isAgg20
  z20 := Tryz.sizeOf20
  v20 := Tryz.zeroValue20
  t37 := Tryz.underlying37
  a37 := Tryz.isAgg37
  z37 := Tryz.sizeOf37
  v37 := Tryz.zeroValue37
  t46 := Tryz.underlying139
  a46 := Tryz.isAgg139
  z46 := Tryz.sizeOf139
  v46 := Tryz.zeroValue139
  t51 := Tryz.underlying329
  a51 := Tryz.isAgg329
  z51 := Tryz.sizeOf329
  v51 := Tryz.zeroValue329
  t53 := Tryz.underlying217
  a53 := Tryz.isAgg217
  z53 := Tryz.sizeOf217
  v53 := Tryz.zeroValue217
  t171 := Tryz.underlying420
  a171 := Tryz.isAgg420
  z171 := Tryz.sizeOf420
  v171 := Tryz.zeroValue420
  t173 := Tryz.underlying422
  a173 := Tryz.isAgg422
  z173 := Tryz.sizeOf422
  v173 := Tryz.zeroValue422
  t212 := Tryz.underlying440
  a212 := Tryz.isAgg440
  z212 := Tryz.sizeOf440
  v212 := Tryz.zeroValue440
  t213 := Tryz.underlying441
  a213 := Tryz.isAgg441
  z213 := Tryz.sizeOf441
  t232 := Tryz.underlying466
  a232 := Tryz.isAgg466
  z232 := Tryz.sizeOf466
  v232 := Tryz.zeroValue466
  t233 := Tryz.underlying448
  a233 := Tryz.isAgg448
  z233 := Tryz.sizeOf448
  v233 := Tryz.zeroValue448
  g17 := by kernel_rfl
  g18 := by kernel_rfl
  g19 := by kernel_rfl
  i0 := by kernel_rfl
  i2 := by kernel_rfl
  i3 := by kernel_rfl
  i4 := by kernel_rfl
  i5 := by kernel_rfl
  i9 := by kernel_rfl
  i20 := by kernel_rfl
  i37 := by kernel_rfl
  i46 := by kernel_rfl
  i51 := by kernel_rfl
  i53 := by kernel_rfl
  i171 := by kernel_rfl
  i173 := by kernel_rfl
  i212 := by kernel_rfl
  i232 := by kernel_rfl
  i233 := by kernel_rfl
  m17 := by kernel_rfl
  m18 := by kernel_rfl
  m19 := by kernel_rfl }
open Go.RowKit Go.Sort Go.Lib in
/-- strconv.Itoa: "Itoa is equivalent to FormatInt(int64(i), 10).": i's DECIMAL NUMERAL ('Lib.itoa': a '-' where i is negative, then the digits), FOR EVERY int. The world behind the call: the world before it, new blocks behind the heap (the library's 'var a [24]byte'), draws. (LAID: no walk: one application.) -/
theorem Tryz.strconv_Itoa (n : Int) (h0 : -9223372036854775808 ≤ n) (h1 : n ≤ 9223372036854775807) (w : World) (htab : Lib.TabIs Tryz.prog w "internal/strconv.uint64pow10" .u64 Lib.pow10Tab) :
    Calls Tryz.prog 111 #[.int .i64 n] w fun e w' => e = .returned (.string ⟨(Lib.itoa n).toArray⟩) ∧ ∃ k os, w' = grow (w.drewN k) os := Any.strconv_Itoa Tryz.laysM171 n h0 h1 w htab
def Tryz.lays219_ren : Go.Shelf.Ren := ⟨fun | 219 => 378 | 217 => 379 | 225 => 401 | 224 => 402 | 267 => 403 | 266 => 404 | 314 => 409 | n => n, fun | 9 => 9 | 3 => 3 | 4 => 4 | 5 => 5 | 46 => 139 | 146 => 464 | 51 => 329 | n => n, fun | 1 => 6 | n => n⟩
def Tryz.lays143_ren : Go.Shelf.Ren := ⟨fun | 143 => 341 | 219 => 378 | 217 => 379 | 225 => 401 | 224 => 402 | 267 => 403 | 266 => 404 | 314 => 409 | n => n, fun | 9 => 9 | 3 => 3 | 4 => 4 | 5 => 5 | 46 => 139 | 146 => 464 | 51 => 329 | n => n, fun | 1 => 6 | n => n⟩
theorem Tryz.lays143 : Go.Proofs.Lays.n143 Tryz.prog Tryz.lays143_ren := {
  mixed := by kernel_rfl
  f143 := Tryz.func341.trans (congrArg some (by kernel_rfl))
  f217 := Tryz.func379.trans (congrArg some (by kernel_rfl))
  f219 := Tryz.func378.trans (congrArg some (by kernel_rfl))
  f224 := Tryz.func402.trans (congrArg some (by kernel_rfl))
  f225 := Tryz.func401.trans (congrArg some (by kernel_rfl))
  f266 := Tryz.func404.trans (congrArg some (by kernel_rfl))
  f267 := Tryz.func403.trans (congrArg some (by kernel_rfl))
  f314 := Tryz.func409.trans (congrArg some (by kernel_rfl))
  t3 := Tryz.underlying3
  a3 := Tryz.isAgg3
  z3 := Tryz.sizeOf3
  v3 := Tryz.zeroValue3
  t4 := Tryz.underlying4
  a4 := Tryz.isAgg4
  z4 := Tryz.sizeOf4
  v4 := Tryz.zeroValue4
  t5 := Tryz.underlying5
  a5 := Tryz.isAgg5
  z5 := Tryz.sizeOf5
  v5 := Tryz.zeroValue5
  t9 := Tryz.underlying9
  a9 := Tryz.isAgg9
  z9 := Tryz.sizeOf9
  v9 := Tryz.zeroValue9
  t46 := Tryz.underlying139
  a46 := Tryz.isAgg139
  z46 := Tryz.sizeOf139
  v46 := Tryz.zeroValue139
  t51 := Tryz.underlying329
  a51 := Tryz.isAgg329
  z51 := Tryz.sizeOf329
  v51 := Tryz.zeroValue329
  t146 := Tryz.underlying464
  a146 := Tryz.isAgg464
  z146 := Tryz.sizeOf464
  v146 := Tryz.zeroValue464
  g1 := by kernel_rfl }
open Go.RowKit Go.Lib in
/-- strings.Index: "Index returns the index of the first instance of substr in s, or -1 if substr is not present in s.": AT A substr OF ONE BYTE c: IT RETURNS 'Lib.indexByte s c'; the world is as it was. (LAID: no walk: one application.) -/
theorem Tryz.strings_Index_one (s : ByteArray) (c : UInt8) (w : World) :
    Calls Tryz.prog 341 #[.string s, .string ⟨#[c]⟩] w fun e w' => e = .returned (.int .i64 (Lib.indexByte s.data.toList c)) ∧ w' = w := Any.strings_Index_one Tryz.lays143 s c w
def Tryz.lays138_ren : Go.Shelf.Ren := ⟨fun | 138 => 340 | 195 => 375 | 218 => 377 | 143 => 341 | 219 => 378 | 217 => 379 | 225 => 401 | 224 => 402 | 267 => 403 | 266 => 404 | 314 => 409 | n => n, fun | 9 => 9 | 3 => 3 | 4 => 4 | 5 => 5 | 0 => 0 | 46 => 139 | 146 => 464 | 51 => 329 | n => n, fun | 1 => 6 | n => n⟩
theorem Tryz.lays138 : Go.Proofs.Lays.n138 Tryz.prog Tryz.lays138_ren := {
  mixed := by kernel_rfl
  f138 := Tryz.func340.trans (congrArg some (by kernel_rfl))
  f143 := Tryz.func341.trans (congrArg some (by kernel_rfl))
  f195 := Tryz.func375.trans (congrArg some (by kernel_rfl))
  f217 := Tryz.func379.trans (congrArg some (by kernel_rfl))
  f218 := Tryz.func377.trans (congrArg some (by kernel_rfl))
  f219 := Tryz.func378.trans (congrArg some (by kernel_rfl))
  f224 := Tryz.func402.trans (congrArg some (by kernel_rfl))
  f225 := Tryz.func401.trans (congrArg some (by kernel_rfl))
  f266 := Tryz.func404.trans (congrArg some (by kernel_rfl))
  f267 := Tryz.func403.trans (congrArg some (by kernel_rfl))
  f314 := Tryz.func409.trans (congrArg some (by kernel_rfl))
  t0 := Tryz.underlying0
  a0 := Tryz.isAgg0
  z0 := Tryz.sizeOf0
  v0 := Tryz.zeroValue0
  t3 := Tryz.underlying3
  a3 := Tryz.isAgg3
  z3 := Tryz.sizeOf3
  v3 := Tryz.zeroValue3
  t4 := Tryz.underlying4
  a4 := Tryz.isAgg4
  z4 := Tryz.sizeOf4
  v4 := Tryz.zeroValue4
  t5 := Tryz.underlying5
  a5 := Tryz.isAgg5
  z5 := Tryz.sizeOf5
  v5 := Tryz.zeroValue5
  t9 := Tryz.underlying9
  a9 := Tryz.isAgg9
  z9 := Tryz.sizeOf9
  v9 := Tryz.zeroValue9
  t46 := Tryz.underlying139
  a46 := Tryz.isAgg139
  z46 := Tryz.sizeOf139
  v46 := Tryz.zeroValue139
  t51 := Tryz.underlying329
  a51 := Tryz.isAgg329
  z51 := Tryz.sizeOf329
  v51 := Tryz.zeroValue329
  t146 := Tryz.underlying464
  a146 := Tryz.isAgg464
  z146 := Tryz.sizeOf464
  v146 := Tryz.zeroValue464
  g1 := by kernel_rfl }
open Go.RowKit Go.Lib in
/-- strings.Count AT A substr OF ONE BYTE ('hp'): "Count counts the number of non-overlapping instances of substr in s.": IT RETURNS 'Lib.countByte s (that byte)'; the world is as it was. ✋ NO CONTRACT HERE YET at an empty substr (utf8.RuneCountInString) or at a longer one (a loop over strings.Index). (LAID: no walk: one application.) -/
theorem Tryz.strings_Count_one (s : ByteArray) (c : UInt8) (w : World) :
    Calls Tryz.prog 340 #[.string s, .string ⟨#[c]⟩] w fun e w' => e = .returned (.int .i64 (Lib.countByte s.data.toList c)) ∧ w' = w := Any.strings_Count_one Tryz.lays138 s c w
def Tryz.lays221_ren : Go.Shelf.Ren := ⟨fun | 221 => 277 | 268 => 339 | 138 => 340 | 143 => 341 | 195 => 375 | 197 => 376 | 218 => 377 | 219 => 378 | 260 => 400 | 217 => 379 | 225 => 401 | 224 => 402 | 267 => 403 | 266 => 404 | 314 => 409 | n => n, fun | 9 => 9 | 3 => 3 | 31 => 59 | 4 => 4 | 0 => 0 | 105 => 436 | 21 => 21 | 5 => 5 | 46 => 139 | 119 => 460 | 139 => 463 | 138 => 462 | 146 => 464 | 51 => 329 | n => n, fun | 1 => 6 | 3 => 7 | 4 => 8 | n => n⟩
theorem Tryz.lays221 : Go.Proofs.Lays.n221 Tryz.prog Tryz.lays221_ren := {
  mixed := by kernel_rfl
  f138 := Tryz.func340.trans (congrArg some (by kernel_rfl))
  f143 := Tryz.func341.trans (congrArg some (by kernel_rfl))
  f195 := Tryz.func375.trans (congrArg some (by kernel_rfl))
  f197 := Tryz.func376.trans (congrArg some (by kernel_rfl))
  f217 := Tryz.func379.trans (congrArg some (by kernel_rfl))
  f218 := Tryz.func377.trans (congrArg some (by kernel_rfl))
  f219 := Tryz.func378.trans (congrArg some (by kernel_rfl))
  f221 := Tryz.func277.trans (congrArg some (by kernel_rfl))
  f224 := Tryz.func402.trans (congrArg some (by kernel_rfl))
  f225 := Tryz.func401.trans (congrArg some (by kernel_rfl))
  f260 := Tryz.func400.trans (congrArg some (by kernel_rfl))
  f266 := Tryz.func404.trans (congrArg some (by kernel_rfl))
  f267 := Tryz.func403.trans (congrArg some (by kernel_rfl))
  f268 := Tryz.func339.trans (congrArg some (by kernel_rfl))
  f314 := Tryz.func409.trans (congrArg some (by kernel_rfl))
  t0 := Tryz.underlying0
  a0 := Tryz.isAgg0
  z0 := Tryz.sizeOf0
  v0 := Tryz.zeroValue0
  t3 := Tryz.underlying3
  a3 := Tryz.isAgg3
  z3 := Tryz.sizeOf3
  v3 := Tryz.zeroValue3
  t4 := Tryz.underlying4
  a4 := Tryz.isAgg4
  z4 := Tryz.sizeOf4
  v4 := Tryz.zeroValue4
  t5 := Tryz.underlying5
  a5 := Tryz.isAgg5
  z5 := Tryz.sizeOf5
  v5 := Tryz.zeroValue5
  t9 := Tryz.underlying9
  a9 := Tryz.isAgg9
  z9 := Tryz.sizeOf9
  v9 := Tryz.zeroValue9
  t21 := Tryz.underlying21
  a21 := Tryz.isAgg21
  z21 := Tryz.sizeOf21
  v21 := Tryz.zeroValue21
  t31 := Tryz.underlying59
  a31 := Tryz.isAgg59
  z31 := Tryz.sizeOf59
  v31 := Tryz.zeroValue59
  t46 := Tryz.underlying139
  a46 := Tryz.isAgg139
  z46 := Tryz.sizeOf139
  v46 := Tryz.zeroValue139
  t51 := Tryz.underlying329
  a51 := Tryz.isAgg329
  z51 := Tryz.sizeOf329
  v51 := Tryz.zeroValue329
  t105 := Tryz.underlying436
  a105 := Tryz.isAgg436
  z105 := Tryz.sizeOf436
  v105 := Tryz.zeroValue436
  t119 := Tryz.underlying460
  a119 := Tryz.isAgg460
  z119 := Tryz.sizeOf460
  t138 := Tryz.underlying462
  a138 := Tryz.isAgg462
  z138 := Tryz.sizeOf462
  v138 := Tryz.zeroValue462
  t139 := Tryz.underlying463
  a139 := Tryz.isAgg463
  z139 := Tryz.sizeOf463
  v139 := Tryz.zeroValue463
  t146 := Tryz.underlying464
  a146 := Tryz.isAgg464
  z146 := Tryz.sizeOf464
  v146 := Tryz.zeroValue464
  g1 := by kernel_rfl
  g3 := by kernel_rfl
  g4 := by kernel_rfl }
end Go.Proofs
