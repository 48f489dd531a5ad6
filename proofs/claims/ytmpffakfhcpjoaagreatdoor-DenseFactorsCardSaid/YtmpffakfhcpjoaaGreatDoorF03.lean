/-
 My texts.
-/
import Derived.Shelf.Small.Bits
import Derived.Shelf.Small.Wraps
import Derived.Shelf.Strconv.Itoa3
import Derived.Shelf.Strconv.ToError
import Derived.Shelf.Strconv.ParseUint10Any
import Derived.Shelf.Strconv.ToErrorRange
import Derived.Shelf.Strconv.ParseUintEmpty
import Derived.Shelf.Strconv.ParseUint10b64
import Derived.Shelf.Pu.ErrVarParseUint
import Derived.Shelf.Strings.Shaped
import Derived.Shelf.Strings.Repeat
import Derived.Shelf.Strings.BuilderCap
import Derived.Shelf.Slices.SearchI
import Derived.Test.YtmpffakfhcpjoaaGreatDoorProg
set_option maxRecDepth 100000
set_option maxHeartbeats 8000000
namespace Go.Proofs
open Go.Shelf Tryz
def Tryz.lays169_ren:Go.Shelf.Ren:=⟨fun | 169=>104 | n=>n,fun | 70=>158 | 9=>9 | 0=>0 | 72=>161 | 37=>159 | 127=>199 | 3=>3 | 5=>5 | n=>n,fun | n=>n⟩
theorem Tryz.lays169:Go.Proofs.Lays.n169 prog lays169_ren:=⟨by kernel_rfl,func104.trans (congrArg some (by kernel_rfl)),underlying0,isAgg0,sizeOf0,zeroValue0,underlying3,isAgg3,sizeOf3,zeroValue3,underlying9,isAgg9,sizeOf9,zeroValue9,underlying159,isAgg159,sizeOf159,zeroValue159,underlying158,isAgg158,sizeOf158,zeroValue158,underlying161,isAgg161,sizeOf161,zeroValue161,underlying199,isAgg199,sizeOf199,zeroValue199⟩
theorem Tryz.Builder_Extra_169:Builder.Extra prog lays169_ren:={sizeBuilder:=by kernel_rfl,liesBuilder:=by kernel_rfl,t5:=underlying5,a5:=isAgg5,z5:=sizeOf5,v5:=zeroValue5,infoByte:=by kernel_rfl,cellsByte:=by kernel_rfl,sizeByte:=by kernel_rfl,neB5:=by decide}
def Tryz.lays134_ren:Go.Shelf.Ren:=⟨fun | 134=>149 | 129=>123 | n=>n,fun | 53=>84 | 3=>3 | 4=>4 | 46=>88 | 5=>5 | 9=>9 | n=>n,fun | n=>n⟩
theorem Tryz.lays134:Go.Proofs.Lays.n134 prog lays134_ren:=⟨by kernel_rfl,func123.trans (congrArg some (by kernel_rfl)),func149.trans (congrArg some (by kernel_rfl)),underlying3,isAgg3,sizeOf3,zeroValue3,underlying4,isAgg4,sizeOf4,zeroValue4,underlying5,isAgg5,sizeOf5,zeroValue5,underlying9,isAgg9,sizeOf9,zeroValue9,underlying88,isAgg88,sizeOf88,zeroValue88,underlying84,isAgg84,sizeOf84,zeroValue84⟩
theorem Tryz.bits_LeadingZeros64 (x:Int) (w:World) (h0:0≤x) (h1:x≤18446744073709551615) :
 Calls prog 149 #[.int .u64 x] w fun e w'=>e=.returned (.int .i64 (64 - (Lib.bitLen x.toNat:Int)))∧w'=w:=Any.bits_LeadingZeros64 lays134 x w h0 h1
def Tryz.lays103_ren:Go.Shelf.Ren:=⟨fun | 103=>109 | 210=>136 | 206=>162 | n=>n,fun | 9=>9 | 4=>4 | 24=>177 | 3=>3 | n=>n,fun | n=>n⟩
theorem Tryz.lays103:Go.Proofs.Lays.n103 prog lays103_ren:=⟨by kernel_rfl,func109.trans (congrArg some (by kernel_rfl)),func162.trans (congrArg some (by kernel_rfl)),func136.trans (congrArg some (by kernel_rfl)),underlying3,isAgg3,sizeOf3,zeroValue3,underlying4,isAgg4,sizeOf4,zeroValue4,underlying9,isAgg9,sizeOf9,zeroValue9,underlying177,isAgg177,sizeOf177,zeroValue177⟩
open Go.RowKit in
theorem Tryz.strings_CutPrefix (s p:ByteArray) (w:World) :
 Calls prog 109 #[.string s,.string p] w fun e w'=>e=.returned (.tuple #[.string ⟨(Lib.trimPrefix s.data.toList p.data.toList).toArray⟩,.bool (Lib.hasPrefix s.data.toList p.data.toList)])∧w'=w:=Any.strings_CutPrefix lays103 s p w
open Go.RowKit in
theorem Tryz.Builder_String_any_k (B b:Nat) (l:List UInt8) (w:World) (h:Lib.IsBuilderF 161 5 B b (Lib.byteCells l) w) (hBw:B≤w.heap.size) :
 Calls prog 104 #[.pointer (some ⟨b,0,none⟩)] w fun e w'=>e=.returned (.string ⟨l.toArray⟩)∧(Lib.IsBuilderF 161 5 B b (Lib.byteCells l) w'∧Below B w w'∧Lib.OthersKept 5 (some b) w w'):=Any.Builder_String_any_k lays169 Builder_Extra_169 B b l w h hBw
def Tryz.lays129_ren:Go.Shelf.Ren:=⟨fun | 129=>123 | n=>n,fun | 53=>84 | 3=>3 | 4=>4 | 46=>88 | 5=>5 | 9=>9 | n=>n,fun | n=>n⟩
theorem Tryz.lays129:Go.Proofs.Lays.n129 prog lays129_ren:=⟨by kernel_rfl,func123.trans (congrArg some (by kernel_rfl)),underlying3,isAgg3,sizeOf3,zeroValue3,underlying4,isAgg4,sizeOf4,zeroValue4,underlying5,isAgg5,sizeOf5,zeroValue5,underlying9,isAgg9,sizeOf9,zeroValue9,underlying88,isAgg88,sizeOf88,zeroValue88,underlying84,isAgg84,sizeOf84,zeroValue84⟩
theorem Tryz.bits_Len64 (x:Int) (w:World) (h0:0≤x) (h1:x≤18446744073709551615) :
 Calls prog 123 #[.int .u64 x] w fun e w'=>e=.returned (.int .i64 (Lib.bitLen x.toNat))∧w'=w:=Any.bits_Len64 lays129 x w h0 h1
def Tryz.lays283_ren:Go.Shelf.Ren:=⟨fun | 283=>156 | n=>n,fun | 3=>3 | 9=>9 | 4=>4 | n=>n,fun | n=>n⟩
theorem Tryz.lays283:Go.Proofs.Lays.n283 prog lays283_ren:=⟨by kernel_rfl,func156.trans (congrArg some (by kernel_rfl)),underlying3,isAgg3,sizeOf3,zeroValue3,underlying4,isAgg4,sizeOf4,zeroValue4,underlying9,isAgg9,sizeOf9,zeroValue9⟩
open Go.Lib in
theorem Tryz.internal_strconv_small (i:Nat) (h:i<100) (w:World) :
 Calls prog 156 #[.int .i64 i] w fun e w'=>e=.returned (.string ⟨(Lib.decDigits i).toArray⟩)∧w'=w:=Any.internal_strconv_small lays283 i h w
def Tryz.laysM284_ren:Go.Shelf.Ren:=⟨fun | 284=>157 | 129=>123 | 317=>185 | 318=>186 | n=>n,fun | 53=>84 | 3=>3 | 212=>237 | 0=>0 | 4=>4 | 46=>88 | 5=>5 | 9=>9 | n=>n,fun | 17=>3 | n=>n⟩
theorem Tryz.laysM284:Go.Proofs.LaysM.n284 prog laysM284_ren:={mixed:=by kernel_rfl,f129:=func123.trans (congrArg some (by kernel_rfl)),f284:=func157.trans (congrArg some (by kernel_rfl)),f317:=func185.trans (congrArg some (by kernel_rfl)),f318:=func186.trans (congrArg some (by kernel_rfl)),t0:=underlying0,a0:=isAgg0,z0:=sizeOf0,v0:=zeroValue0,t3:=underlying3,a3:=isAgg3,z3:=sizeOf3,v3:=zeroValue3,t4:=underlying4,a4:=isAgg4,z4:=sizeOf4,v4:=zeroValue4,t5:=underlying5,a5:=isAgg5,z5:=sizeOf5,v5:=zeroValue5,t9:=underlying9,a9:=isAgg9,z9:=sizeOf9,v9:=zeroValue9,t46:=underlying88,a46:=isAgg88,z46:=sizeOf88,v46:=zeroValue88,t53:=underlying84,a53:=isAgg84,z53:=sizeOf84,v53:=zeroValue84,t212:=underlying237,a212:=isAgg237,z212:=sizeOf237,v212:=zeroValue237,g17:=by kernel_rfl,i0:=by kernel_rfl,i3:=by kernel_rfl,i4:=by kernel_rfl,i5:=by kernel_rfl,i9:=by kernel_rfl,i46:=by kernel_rfl,i53:=by kernel_rfl,i212:=by kernel_rfl,m17:=by kernel_rfl}
open Go.Lib in
theorem Tryz.internal_strconv_numDigits (u:Nat) (h1:1≤u) (h2:u<18446744073709551616) (w:World) (htab:Lib.TabIs prog w "internal/strconv.uint64pow10" .u64 Lib.pow10Tab) :
 Calls prog 157 #[.int .u64 u] w fun e w'=>e=.returned (.int .i64 (Lib.nDigits u))∧w'=w:=Any.internal_strconv_numDigits laysM284 u h1 h2 w htab
def Tryz.lays285_ren:Go.Shelf.Ren:=⟨fun | 285=>158 | n=>n,fun | 37=>159 | 53=>84 | 3=>3 | 4=>4 | 51=>87 | 9=>9 | 5=>5 | 0=>0 | n=>n,fun | n=>n⟩
theorem Tryz.lays285:Go.Proofs.Lays.n285 prog lays285_ren:=⟨by kernel_rfl,func158.trans (congrArg some (by kernel_rfl)),underlying0,isAgg0,sizeOf0,zeroValue0,underlying3,isAgg3,sizeOf3,zeroValue3,underlying4,isAgg4,sizeOf4,zeroValue4,underlying5,isAgg5,sizeOf5,zeroValue5,underlying9,isAgg9,sizeOf9,zeroValue9,underlying159,isAgg159,sizeOf159,zeroValue159,underlying87,isAgg87,sizeOf87,zeroValue87,underlying84,isAgg84,sizeOf84,zeroValue84⟩
open Go.RowKit Go.Sort Go.Lib in
theorem Tryz.internal_strconv_formatBase10 (blk off cap:Nat) (u:Nat) (d:Array UInt8) (w:World) (hH:Holds (fun (b:UInt8)=>Value.int .u8 (b.toNat:Int)) w blk off d) (hu:u<10 ^ d.size) (hu64:u<18446744073709551616) (hsz:d.size<4611686018427387904) :
 Calls prog 158 #[.slice (some ⟨blk,off,none⟩) d.size cap,.int .u64 u] w fun e w' =>
      e=.returned (.tuple #[])∧∃ (n v':Nat) (dk:Array UInt8),w'=(putRow (fun (b:UInt8)=>Value.int .u8 (b.toNat:Int)) w blk off dk).drewN n∧FmtInv d.size u 0 v' dk:=Any.internal_strconv_formatBase10 lays285 blk off cap u d w hH hu hu64 hsz
def Tryz.lays287_ren:Go.Shelf.Ren:=⟨fun | 287=>151 | 321=>179 | 322=>180 | n=>n,fun | 9=>9 | 3=>3 | 53=>84 | 75=>167 | 4=>4 | 167=>230 | 5=>5 | 46=>88 | 37=>159 | 0=>0 | 21=>21 | 80=>123 | n=>n,fun | n=>n⟩
theorem Tryz.lays287:Go.Proofs.Lays.n287 prog lays287_ren:=⟨by kernel_rfl,func151.trans (congrArg some (by kernel_rfl)),func179.trans (congrArg some (by kernel_rfl)),func180.trans (congrArg some (by kernel_rfl)),underlying0,isAgg0,sizeOf0,zeroValue0,underlying3,isAgg3,sizeOf3,zeroValue3,underlying4,isAgg4,sizeOf4,zeroValue4,underlying5,isAgg5,sizeOf5,zeroValue5,underlying9,isAgg9,sizeOf9,zeroValue9,underlying21,isAgg21,sizeOf21,zeroValue21,underlying159,isAgg159,sizeOf159,zeroValue159,underlying88,isAgg88,sizeOf88,zeroValue88,underlying84,isAgg84,sizeOf84,zeroValue84,underlying167,isAgg167,sizeOf167,zeroValue167,underlying230,isAgg230,sizeOf230,zeroValue230⟩
open Go.RowKit in
theorem Tryz.internal_strconv_ParseUint_10_b64 (t:ByteArray) (hne:t.size ≠ 0) (hmax:t.size≤9223372036854775806) (w:World) :
 Calls prog 151 #[.string t,.int .i64 10,.int .i64 64] w fun e w'=>e=.returned (Lib.uintTuple 230 (Lib.parseUint10 0 t.data.toList))∧w'=Lib.bytesWorld w 5 t:=Any.internal_strconv_ParseUint_10_b64 lays287 t hne hmax w
def Tryz.lays217_ren:Go.Shelf.Ren:=⟨fun | 217=>202 | 266=>211 | n=>n,fun | 9=>9 | 5=>5 | 3=>3 | n=>n,fun | n=>n⟩
theorem Tryz.lays217:Go.Proofs.Lays.n217 prog lays217_ren:=⟨by kernel_rfl,func202.trans (congrArg some (by kernel_rfl)),func211.trans (congrArg some (by kernel_rfl)),underlying3,isAgg3,sizeOf3,zeroValue3,underlying5,isAgg5,sizeOf5,zeroValue5,underlying9,isAgg9,sizeOf9,zeroValue9⟩
open Go.RowKit Go.Lib in
theorem Tryz.stringslite_IndexByte (s:ByteArray) (c:Int) (w:World) :
 Calls prog 202 #[.string s,.int .u8 c] w fun e w'=>e=.returned (.int .i64 (Lib.indexByte s.data.toList c.toNat.toUInt8))∧w'=w:=Any.stringslite_IndexByte lays217 s c w
def Tryz.lays105_ren:Go.Shelf.Ren:=⟨fun | 105=>103 | 212=>132 | 99=>133 | 165=>134 | 166=>102 | 170=>135 | 169=>104 | 263=>161 | 264=>117 | 206=>162 | 240=>131 | 241=>163 | 276=>160 | 277=>189 | n=>n,fun | 9=>9 | 3=>3 | 4=>4 | 20=>20 | 0=>0 | 46=>88 | 109=>195 | 5=>5 | 72=>161 | 76=>168 | 51=>87 | 146=>222 | 53=>84 | 148=>187 | 70=>158 | 37=>159 | 75=>167 | 127=>199 | 164=>220 | 80=>123 | n=>n,fun | n=>n⟩
theorem Tryz.lays105:Go.Proofs.Lays.n105 prog lays105_ren:=⟨by kernel_rfl,func133.trans (congrArg some (by kernel_rfl)),func103.trans (congrArg some (by kernel_rfl)),func134.trans (congrArg some (by kernel_rfl)),func102.trans (congrArg some (by kernel_rfl)),func104.trans (congrArg some (by kernel_rfl)),func135.trans (congrArg some (by kernel_rfl)),func162.trans (congrArg some (by kernel_rfl)),func132.trans (congrArg some (by kernel_rfl)),func131.trans (congrArg some (by kernel_rfl)),func163.trans (congrArg some (by kernel_rfl)),func161.trans (congrArg some (by kernel_rfl)),func117.trans (congrArg some (by kernel_rfl)),func160.trans (congrArg some (by kernel_rfl)),func189.trans (congrArg some (by kernel_rfl)),underlying0,isAgg0,sizeOf0,zeroValue0,underlying3,isAgg3,sizeOf3,zeroValue3,underlying4,isAgg4,sizeOf4,zeroValue4,underlying5,isAgg5,sizeOf5,zeroValue5,underlying9,isAgg9,sizeOf9,zeroValue9,underlying20,isAgg20,sizeOf20,zeroValue20,underlying159,isAgg159,sizeOf159,zeroValue159,underlying88,isAgg88,sizeOf88,zeroValue88,underlying87,isAgg87,sizeOf87,zeroValue87,underlying84,isAgg84,sizeOf84,zeroValue84,underlying158,isAgg158,sizeOf158,zeroValue158,underlying161,isAgg161,sizeOf161,zeroValue161,underlying167,isAgg167,sizeOf167,zeroValue167,underlying168,isAgg168,sizeOf168,zeroValue168,underlying195,isAgg195,sizeOf195,zeroValue195,underlying199,isAgg199,sizeOf199,zeroValue199,underlying222,isAgg222,sizeOf222,zeroValue222,underlying187,isAgg187,sizeOf187,zeroValue187,underlying220,isAgg220,sizeOf220,zeroValue220⟩
theorem Tryz.Builder_Extra_105:Builder.Extra prog lays105_ren:={sizeBuilder:=by kernel_rfl,liesBuilder:=by kernel_rfl,t5:=underlying5,a5:=isAgg5,z5:=sizeOf5,v5:=zeroValue5,infoByte:=by kernel_rfl,cellsByte:=by kernel_rfl,sizeByte:=by kernel_rfl,neB5:=by decide}
open Go.RowKit Go.Lib in
theorem Tryz.strings_Repeat_main (s:ByteArray) (c:Nat) (w:World) (hc2:2≤c) (hc:c≤9223372036854775807) (hlen:s.size * c≤140737488355328) (h0:0<s.size) :
 Calls prog 103 #[.string s,.int .i64 c] w fun e w'=>e=.returned (.string ⟨(Lib.repeatL s.data.toList c).toArray⟩)∧Below w.heap.size w w':=Any.strings_Repeat_main lays105 Builder_Extra_105 s c w hc2 hc hlen h0
open Go.RowKit Go.Lib in
theorem Tryz.strings_Repeat_zero (s:ByteArray) (w:World) :
 Calls prog 103 #[.string s,.int .i64 0] w fun e w'=>e=.returned (.string ⟨#[]⟩)∧w'=w:=Any.strings_Repeat_zero lays105 s w
open Go.RowKit Go.Lib in
theorem Tryz.strings_Repeat_one (s:ByteArray) (w:World) :
 Calls prog 103 #[.string s,.int .i64 1] w fun e w'=>e=.returned (.string s)∧w'=w:=Any.strings_Repeat_one lays105 s w
end Go.Proofs
