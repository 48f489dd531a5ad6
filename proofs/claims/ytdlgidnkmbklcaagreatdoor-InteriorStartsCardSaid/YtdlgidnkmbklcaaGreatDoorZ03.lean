/-
 My texts.
-/
import Derived.Shelf.Small.Bits
import Derived.Shelf.Small.Wraps
import Derived.Shelf.Strconv.Itoa3
import Derived.Shelf.Strconv.ToError
import Derived.Shelf.Strconv.ParseUint10Any
import Derived.Shelf.Strconv.ToErrorRange
import Derived.Shelf.Strconv.ParseUintEmpty
import Derived.Shelf.Strconv.ParseUint10b64
import Derived.Shelf.Pu.ErrVarParseUint
import Derived.Shelf.Strings.Shaped
import Derived.Shelf.Strings.Repeat
import Derived.Shelf.Strings.BuilderCap
import Derived.Shelf.Slices.SearchI
import Derived.Test.YtdlgidnkmbklcaaGreatDoorProg
set_option maxRecDepth 100000
set_option maxHeartbeats 8000000
namespace Go.Proofs
open Go.Shelf Tryz
def Tryz.lays169_ren:Go.Shelf.Ren:=⟨fun | 169=>149 | n=>n,fun | 70=>238 | 9=>9 | 0=>0 | 72=>240 | 37=>187 | 127=>274 | 3=>3 | 5=>5 | n=>n,fun | n=>n⟩
theorem Tryz.lays169:Go.Proofs.Lays.n169 prog lays169_ren:=⟨by kernel_rfl,func149.trans (congrArg some (by kernel_rfl)),underlying0,isAgg0,sizeOf0,zeroValue0,underlying3,isAgg3,sizeOf3,zeroValue3,underlying9,isAgg9,sizeOf9,zeroValue9,underlying187,isAgg187,sizeOf187,zeroValue187,underlying238,isAgg238,sizeOf238,zeroValue238,underlying240,isAgg240,sizeOf240,zeroValue240,underlying274,isAgg274,sizeOf274,zeroValue274⟩
theorem Tryz.Builder_Extra_169:Builder.Extra prog lays169_ren:={sizeBuilder:=by kernel_rfl,liesBuilder:=by kernel_rfl,t5:=underlying5,a5:=isAgg5,z5:=sizeOf5,v5:=zeroValue5,infoByte:=by kernel_rfl,cellsByte:=by kernel_rfl,sizeByte:=by kernel_rfl,neB5:=by decide}
def Tryz.lays134_ren:Go.Shelf.Ren:=⟨fun | 134=>164 | 129=>163 | n=>n,fun | 53=>207 | 3=>3 | 4=>4 | 46=>123 | 5=>5 | 9=>9 | n=>n,fun | n=>n⟩
theorem Tryz.lays134:Go.Proofs.Lays.n134 prog lays134_ren:=⟨by kernel_rfl,func163.trans (congrArg some (by kernel_rfl)),func164.trans (congrArg some (by kernel_rfl)),underlying3,isAgg3,sizeOf3,zeroValue3,underlying4,isAgg4,sizeOf4,zeroValue4,underlying5,isAgg5,sizeOf5,zeroValue5,underlying9,isAgg9,sizeOf9,zeroValue9,underlying123,isAgg123,sizeOf123,zeroValue123,underlying207,isAgg207,sizeOf207,zeroValue207⟩
theorem Tryz.bits_LeadingZeros64 (x:Int) (w:World) (h0:0≤x) (h1:x≤18446744073709551615) :
 Calls prog 164 #[.int .u64 x] w fun e w'=>e=.returned (.int .i64 (64 - (Lib.bitLen x.toNat:Int)))∧w'=w:=Any.bits_LeadingZeros64 lays134 x w h0 h1
def Tryz.lays103_ren:Go.Shelf.Ren:=⟨fun | 103=>106 | 210=>150 | 206=>190 | n=>n,fun | 9=>9 | 4=>4 | 24=>203 | 3=>3 | n=>n,fun | n=>n⟩
theorem Tryz.lays103:Go.Proofs.Lays.n103 prog lays103_ren:=⟨by kernel_rfl,func106.trans (congrArg some (by kernel_rfl)),func190.trans (congrArg some (by kernel_rfl)),func150.trans (congrArg some (by kernel_rfl)),underlying3,isAgg3,sizeOf3,zeroValue3,underlying4,isAgg4,sizeOf4,zeroValue4,underlying9,isAgg9,sizeOf9,zeroValue9,underlying203,isAgg203,sizeOf203,zeroValue203⟩
open Go.RowKit in
theorem Tryz.strings_CutPrefix (s p:ByteArray) (w:World) :
 Calls prog 106 #[.string s,.string p] w fun e w'=>e=.returned (.tuple #[.string ⟨(Lib.trimPrefix s.data.toList p.data.toList).toArray⟩,.bool (Lib.hasPrefix s.data.toList p.data.toList)])∧w'=w:=Any.strings_CutPrefix lays103 s p w
open Go.RowKit in
theorem Tryz.Builder_String_any_k (B b:Nat) (l:List UInt8) (w:World) (h:Lib.IsBuilderF 240 5 B b (Lib.byteCells l) w) (hBw:B≤w.heap.size) :
 Calls prog 149 #[.pointer (some ⟨b,0,none⟩)] w fun e w'=>e=.returned (.string ⟨l.toArray⟩)∧(Lib.IsBuilderF 240 5 B b (Lib.byteCells l) w'∧Below B w w'∧Lib.OthersKept 5 (some b) w w'):=Any.Builder_String_any_k lays169 Builder_Extra_169 B b l w h hBw
def Tryz.lays129_ren:Go.Shelf.Ren:=⟨fun | 129=>163 | n=>n,fun | 53=>207 | 3=>3 | 4=>4 | 46=>123 | 5=>5 | 9=>9 | n=>n,fun | n=>n⟩
theorem Tryz.lays129:Go.Proofs.Lays.n129 prog lays129_ren:=⟨by kernel_rfl,func163.trans (congrArg some (by kernel_rfl)),underlying3,isAgg3,sizeOf3,zeroValue3,underlying4,isAgg4,sizeOf4,zeroValue4,underlying5,isAgg5,sizeOf5,zeroValue5,underlying9,isAgg9,sizeOf9,zeroValue9,underlying123,isAgg123,sizeOf123,zeroValue123,underlying207,isAgg207,sizeOf207,zeroValue207⟩
theorem Tryz.bits_Len64 (x:Int) (w:World) (h0:0≤x) (h1:x≤18446744073709551615) :
 Calls prog 163 #[.int .u64 x] w fun e w'=>e=.returned (.int .i64 (Lib.bitLen x.toNat))∧w'=w:=Any.bits_Len64 lays129 x w h0 h1
def Tryz.lays283_ren:Go.Shelf.Ren:=⟨fun | 283=>213 | n=>n,fun | 3=>3 | 9=>9 | 4=>4 | n=>n,fun | n=>n⟩
theorem Tryz.lays283:Go.Proofs.Lays.n283 prog lays283_ren:=⟨by kernel_rfl,func213.trans (congrArg some (by kernel_rfl)),underlying3,isAgg3,sizeOf3,zeroValue3,underlying4,isAgg4,sizeOf4,zeroValue4,underlying9,isAgg9,sizeOf9,zeroValue9⟩
open Go.Lib in
theorem Tryz.internal_strconv_small (i:Nat) (h:i<100) (w:World) :
 Calls prog 213 #[.int .i64 i] w fun e w'=>e=.returned (.string ⟨(Lib.decDigits i).toArray⟩)∧w'=w:=Any.internal_strconv_small lays283 i h w
def Tryz.laysM284_ren:Go.Shelf.Ren:=⟨fun | 284=>214 | 129=>163 | 317=>239 | 318=>240 | n=>n,fun | 53=>207 | 3=>3 | 212=>309 | 0=>0 | 4=>4 | 46=>123 | 5=>5 | 9=>9 | n=>n,fun | 17=>6 | n=>n⟩
theorem Tryz.laysM284:Go.Proofs.LaysM.n284 prog laysM284_ren:={mixed:=by kernel_rfl,f129:=func163.trans (congrArg some (by kernel_rfl)),f284:=func214.trans (congrArg some (by kernel_rfl)),f317:=func239.trans (congrArg some (by kernel_rfl)),f318:=func240.trans (congrArg some (by kernel_rfl)),t0:=underlying0,a0:=isAgg0,z0:=sizeOf0,v0:=zeroValue0,t3:=underlying3,a3:=isAgg3,z3:=sizeOf3,v3:=zeroValue3,t4:=underlying4,a4:=isAgg4,z4:=sizeOf4,v4:=zeroValue4,t5:=underlying5,a5:=isAgg5,z5:=sizeOf5,v5:=zeroValue5,t9:=underlying9,a9:=isAgg9,z9:=sizeOf9,v9:=zeroValue9,t46:=underlying123,a46:=isAgg123,z46:=sizeOf123,v46:=zeroValue123,t53:=underlying207,a53:=isAgg207,z53:=sizeOf207,v53:=zeroValue207,t212:=underlying309,a212:=isAgg309,z212:=sizeOf309,v212:=zeroValue309,g17:=by kernel_rfl,i0:=by kernel_rfl,i3:=by kernel_rfl,i4:=by kernel_rfl,i5:=by kernel_rfl,i9:=by kernel_rfl,i46:=by kernel_rfl,i53:=by kernel_rfl,i212:=by kernel_rfl,m17:=by kernel_rfl}
open Go.Lib in
theorem Tryz.internal_strconv_numDigits (u:Nat) (h1:1≤u) (h2:u<18446744073709551616) (w:World) (htab:Lib.TabIs prog w "internal/strconv.uint64pow10" .u64 Lib.pow10Tab) :
 Calls prog 214 #[.int .u64 u] w fun e w'=>e=.returned (.int .i64 (Lib.nDigits u))∧w'=w:=Any.internal_strconv_numDigits laysM284 u h1 h2 w htab
def Tryz.lays285_ren:Go.Shelf.Ren:=⟨fun | 285=>215 | n=>n,fun | 37=>187 | 53=>207 | 3=>3 | 4=>4 | 51=>166 | 9=>9 | 5=>5 | 0=>0 | n=>n,fun | n=>n⟩
theorem Tryz.lays285:Go.Proofs.Lays.n285 prog lays285_ren:=⟨by kernel_rfl,func215.trans (congrArg some (by kernel_rfl)),underlying0,isAgg0,sizeOf0,zeroValue0,underlying3,isAgg3,sizeOf3,zeroValue3,underlying4,isAgg4,sizeOf4,zeroValue4,underlying5,isAgg5,sizeOf5,zeroValue5,underlying9,isAgg9,sizeOf9,zeroValue9,underlying187,isAgg187,sizeOf187,zeroValue187,underlying166,isAgg166,sizeOf166,zeroValue166,underlying207,isAgg207,sizeOf207,zeroValue207⟩
open Go.RowKit Go.Sort Go.Lib in
theorem Tryz.internal_strconv_formatBase10 (blk off cap:Nat) (u:Nat) (d:Array UInt8) (w:World) (hH:Holds (fun (b:UInt8)=>Value.int .u8 (b.toNat:Int)) w blk off d) (hu:u<10 ^ d.size) (hu64:u<18446744073709551616) (hsz:d.size<4611686018427387904) :
 Calls prog 215 #[.slice (some ⟨blk,off,none⟩) d.size cap,.int .u64 u] w fun e w' =>
      e=.returned (.tuple #[])∧∃ (n v':Nat) (dk:Array UInt8),w'=(putRow (fun (b:UInt8)=>Value.int .u8 (b.toNat:Int)) w blk off dk).drewN n∧FmtInv d.size u 0 v' dk:=Any.internal_strconv_formatBase10 lays285 blk off cap u d w hH hu hu64 hsz
def Tryz.lays287_ren:Go.Shelf.Ren:=⟨fun | 287=>169 | 321=>206 | 322=>207 | n=>n,fun | 9=>9 | 3=>3 | 53=>207 | 75=>216 | 4=>4 | 167=>281 | 5=>5 | 46=>123 | 37=>187 | 0=>0 | 21=>21 | 80=>199 | n=>n,fun | n=>n⟩
theorem Tryz.lays287:Go.Proofs.Lays.n287 prog lays287_ren:=⟨by kernel_rfl,func169.trans (congrArg some (by kernel_rfl)),func206.trans (congrArg some (by kernel_rfl)),func207.trans (congrArg some (by kernel_rfl)),underlying0,isAgg0,sizeOf0,zeroValue0,underlying3,isAgg3,sizeOf3,zeroValue3,underlying4,isAgg4,sizeOf4,zeroValue4,underlying5,isAgg5,sizeOf5,zeroValue5,underlying9,isAgg9,sizeOf9,zeroValue9,underlying21,isAgg21,sizeOf21,zeroValue21,underlying187,isAgg187,sizeOf187,zeroValue187,underlying123,isAgg123,sizeOf123,zeroValue123,underlying207,isAgg207,sizeOf207,zeroValue207,underlying216,isAgg216,sizeOf216,zeroValue216,underlying281,isAgg281,sizeOf281,zeroValue281⟩
open Go.RowKit in
theorem Tryz.internal_strconv_ParseUint_10_b64 (t:ByteArray) (hne:t.size ≠ 0) (hmax:t.size≤9223372036854775806) (w:World) :
 Calls prog 169 #[.string t,.int .i64 10,.int .i64 64] w fun e w'=>e=.returned (Lib.uintTuple 281 (Lib.parseUint10 0 t.data.toList))∧w'=Lib.bytesWorld w 5 t:=Any.internal_strconv_ParseUint_10_b64 lays287 t hne hmax w
def Tryz.lays217_ren:Go.Shelf.Ren:=⟨fun | 217=>232 | 266=>245 | n=>n,fun | 9=>9 | 5=>5 | 3=>3 | n=>n,fun | n=>n⟩
theorem Tryz.lays217:Go.Proofs.Lays.n217 prog lays217_ren:=⟨by kernel_rfl,func232.trans (congrArg some (by kernel_rfl)),func245.trans (congrArg some (by kernel_rfl)),underlying3,isAgg3,sizeOf3,zeroValue3,underlying5,isAgg5,sizeOf5,zeroValue5,underlying9,isAgg9,sizeOf9,zeroValue9⟩
open Go.RowKit Go.Lib in
theorem Tryz.stringslite_IndexByte (s:ByteArray) (c:Int) (w:World) :
 Calls prog 232 #[.string s,.int .u8 c] w fun e w'=>e=.returned (.int .i64 (Lib.indexByte s.data.toList c.toNat.toUInt8))∧w'=w:=Any.stringslite_IndexByte lays217 s c w
def Tryz.lays105_ren:Go.Shelf.Ren:=⟨fun | 105=>148 | 212=>186 | 99=>187 | 165=>188 | 166=>147 | 170=>189 | 169=>149 | 263=>218 | 264=>117 | 206=>190 | 240=>185 | 241=>219 | 276=>217 | 277=>243 | n=>n,fun | 9=>9 | 3=>3 | 4=>4 | 20=>20 | 0=>0 | 46=>123 | 109=>270 | 5=>5 | 72=>240 | 76=>245 | 51=>166 | 146=>293 | 53=>207 | 148=>219 | 70=>238 | 37=>187 | 75=>216 | 127=>274 | 164=>291 | 80=>199 | n=>n,fun | n=>n⟩
theorem Tryz.lays105:Go.Proofs.Lays.n105 prog lays105_ren:=⟨by kernel_rfl,func187.trans (congrArg some (by kernel_rfl)),func148.trans (congrArg some (by kernel_rfl)),func188.trans (congrArg some (by kernel_rfl)),func147.trans (congrArg some (by kernel_rfl)),func149.trans (congrArg some (by kernel_rfl)),func189.trans (congrArg some (by kernel_rfl)),func190.trans (congrArg some (by kernel_rfl)),func186.trans (congrArg some (by kernel_rfl)),func185.trans (congrArg some (by kernel_rfl)),func219.trans (congrArg some (by kernel_rfl)),func218.trans (congrArg some (by kernel_rfl)),func117.trans (congrArg some (by kernel_rfl)),func217.trans (congrArg some (by kernel_rfl)),func243.trans (congrArg some (by kernel_rfl)),underlying0,isAgg0,sizeOf0,zeroValue0,underlying3,isAgg3,sizeOf3,zeroValue3,underlying4,isAgg4,sizeOf4,zeroValue4,underlying5,isAgg5,sizeOf5,zeroValue5,underlying9,isAgg9,sizeOf9,zeroValue9,underlying20,isAgg20,sizeOf20,zeroValue20,underlying187,isAgg187,sizeOf187,zeroValue187,underlying123,isAgg123,sizeOf123,zeroValue123,underlying166,isAgg166,sizeOf166,zeroValue166,underlying207,isAgg207,sizeOf207,zeroValue207,underlying238,isAgg238,sizeOf238,zeroValue238,underlying240,isAgg240,sizeOf240,zeroValue240,underlying216,isAgg216,sizeOf216,zeroValue216,underlying245,isAgg245,sizeOf245,zeroValue245,underlying270,isAgg270,sizeOf270,zeroValue270,underlying274,isAgg274,sizeOf274,zeroValue274,underlying293,isAgg293,sizeOf293,zeroValue293,underlying219,isAgg219,sizeOf219,zeroValue219,underlying291,isAgg291,sizeOf291,zeroValue291⟩
theorem Tryz.Builder_Extra_105:Builder.Extra prog lays105_ren:={sizeBuilder:=by kernel_rfl,liesBuilder:=by kernel_rfl,t5:=underlying5,a5:=isAgg5,z5:=sizeOf5,v5:=zeroValue5,infoByte:=by kernel_rfl,cellsByte:=by kernel_rfl,sizeByte:=by kernel_rfl,neB5:=by decide}
open Go.RowKit Go.Lib in
theorem Tryz.strings_Repeat_main (s:ByteArray) (c:Nat) (w:World) (hc2:2≤c) (hc:c≤9223372036854775807) (hlen:s.size * c≤140737488355328) (h0:0<s.size) :
 Calls prog 148 #[.string s,.int .i64 c] w fun e w'=>e=.returned (.string ⟨(Lib.repeatL s.data.toList c).toArray⟩)∧Below w.heap.size w w':=Any.strings_Repeat_main lays105 Builder_Extra_105 s c w hc2 hc hlen h0
open Go.RowKit Go.Lib in
theorem Tryz.strings_Repeat_zero (s:ByteArray) (w:World) :
 Calls prog 148 #[.string s,.int .i64 0] w fun e w'=>e=.returned (.string ⟨#[]⟩)∧w'=w:=Any.strings_Repeat_zero lays105 s w
open Go.RowKit Go.Lib in
theorem Tryz.strings_Repeat_one (s:ByteArray) (w:World) :
 Calls prog 148 #[.string s,.int .i64 1] w fun e w'=>e=.returned (.string s)∧w'=w:=Any.strings_Repeat_one lays105 s w
end Go.Proofs
