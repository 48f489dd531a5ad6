/-
 My texts Nx, Ny, FlE, FllL, Rb23, Nz, FslL, Ne, Fvl, Nc, Nsq, Nss2 put together.
-/
import Derived.Test.YtenchljfmfgeoaaGreatDoorL18
import Derived.Test.YtenchljfmfgeoaaGreatDoorL20
import Derived.Test.YtenchljfmfgeoaaGreatDoorL21
import Derived.Test.YtenchljfmfgeoaaGreatDoorL15
import Derived.Laws.StructEq
import Derived.Deep.RegionHeld3
set_option maxRecDepth 100000
namespace Go.Proofs.YtenchljfmfgeoaaGreatDoor
open Go.RowKit
def ldR (l:List UInt8) (x:Int):FR:=if fvB l x=true then ⟨(Zaz l).1,Zak (Zaz l).2,x,0⟩ else ⟨false,0,0,0⟩
def shLd (v:Bool) (r:FR) (x:ShN):Value:=.tuple #[.agg #[.bool r.s, .slice x.1 x.2.1 x.2.2, .int .i64 r.e], .bool v]
def Zi9 (w:World) (v:Bool) (r:FR) (e:Ending) (w':World):Prop:=∃ x:ShN,e=.returned (shLd v r x)∧Zad w' (ZaA x) r.m∧Ext w w'
theorem Zjy {w w':World} {e:Ending} {v:Bool} {r:FR} (h:Zi9 w v r e w'):ZbA (shLd v r) (fun x w=>Zad w (ZaA x) r.m) w e w':=by
 obtain ⟨x,rfl,hI,Q⟩:=h
 exact ⟨x,rfl,Q,boxn Q (fun S w'' hS hF=>hI.nrb hS hF)⟩
def frT (r:FR):List UInt8:=if r.err=0 then Lib.itoa (sg r.s r.m) else []
def frE (r:FR):Int:=if r.err=0 then r.e else 0
abbrev ZqS (w:World) (r:FR):Ending→World→Prop:=RetV w (.tuple #[.agg #[.string ⟨(frT r).toArray⟩, .int .i64 (frE r)], .int .i64 r.err])
def Fine (r:FR):Prop:=(r.s=true→0 < r.m)∧wl r.m≤1000000
theorem Zin (k:Int):Fine ⟨false,0,0,k⟩:=⟨(fun h=>by cases h),(by show (0:Nat)≤1000000; decide)⟩
theorem Zpe {s:Bool} {n:Nat} {e:Int} (h:wl n≤1000000):Fine (ZaW s n e):=by
 unfold ZaW
 split
 ·exact Zin 0
 ·rename_i h0
  split
  ·obtain ⟨h1,h2⟩:=Zdo (show 0 < n by omega)
   exact ⟨fun _=>by show 0 < oddM n; omega,Nat.le_trans (ZaU (Nat.div_le_self _ _)) h⟩
  ·exact Zin 2
theorem Zpf {s:Bool} {n d bits:Nat} {e:Int} (hd:0 < d) (hb:0 < bits) (hb2:bits≤4096):Fine (Zbd s n d e bits):=by
 unfold Zbd
 split
 ·exact Zin 0
 ·refine Zpe ?_
  have h1:=Zhh (n:=n) (d:=d) (bits:=bits) (by omega) hd hb
  have h2:=(Zmx (fa n (rndK n d bits)) (fb d (rndK n d bits))).2
  have h3:fa n (rndK n d bits) / fb d (rndK n d bits) < 2 ^ bits:=by
   have:=Zcs (fq n d (rndK n d bits))
   rw [h1] at this
   exact this
  have h4:rndM n d bits≤2 ^ bits:=by unfold rndM; omega
  have h5:wl (2 ^ bits)≤1000:=Ze7 (by omega)
  have:=ZaU h4
  omega
theorem Zjz (n:Nat):(Lib.decDigits n).length≤20 * wl n + 1:=by
 rw [Lib.decDigits_length]
 refine ZfJ (20 * wl n) n ?_
 have h1:=ZhA n
 have h2:W64 ^ wl n≤(10 ^ 20) ^ wl n:=Nat.pow_le_pow_left (by rw [Zan]; decide) _
 rw [← Nat.pow_mul] at h2
 have h3:10 ^ (20 * wl n)≤10 ^ (20 * wl n + 1):=Nat.pow_le_pow_right (by decide) (by omega)
 omega
theorem ZgG {l:List UInt8} {x:Int} (h:fvB l x=true) : -1048576≤x∧x≤1048576∧(Zaz l).2.all Zav=true∧((Zaz l).1=true→0 < Zak (Zaz l).2):=by
 unfold fvB at h
 by_cases hs:l=[48]
 ·rw [if_pos hs] at h
  have:=of_decide_eq_true h
  subst hs
  exact ⟨by omega,by omega,by decide,fun h=>by cases h⟩
 ·rw [if_neg hs] at h
  obtain ⟨_,_,h3,h4,h5⟩:=of_decide_eq_true h
  exact ⟨h3.1,h3.2,h4,fun _=>by omega⟩
theorem ZgH (l:List UInt8):(Zaz l).2.length≤l.length:=by
 unfold Zaz; split
 ·simp
 ·exact Nat.le_refl _
theorem ZqT {l:List UInt8} {x:Int} (hl:l.length≤100000):wl (ldR l x).m≤100000:=by
 unfold ldR
 split
 ·rename_i h
  have h1:=ZgG h
  have h2:=Zb3 _ h1.2.2.1
  have h3:=ZgH l
  exact Ze5 h2 (by omega)
 ·show (0:Nat)≤100000; decide
theorem Zhs (s:ByteArray) (x:Int) (w:World) (hs:(bytes s).length≤100000) :
 Calls Tryz.prog 100 #[.agg #[.string s, .int .i64 x]] w (Zi9 w (fvB (bytes s) x) (ldR (bytes s) x)):=by
 refine Zas (Φ:=fun w=>True) Tryz.func100 rfl (by kernel_rfl) (fun w' hf=>trivial) ?_
 refine Zac ?_
 by_cases hv:fvB (bytes s) x=true
 ·refine Zab (xq 3 [(1, .p 1 0),(2, .p 2 0),(3, .v (.bool false))] [(2,109,[.v (.bool false), .v (.slice none 0 0), .v (.int .i64 0)]),(1,76,[.v (.string s), .v (.int .i64 x)])] ?_)
  refine xe (Zaa (Zac (Zac (Zab (xq 1 [(6, .v (.agg #[.string s, .int .i64 x]))] [] ?_)))))
  refine xqc 44 [.agg #[.string s, .int .i64 x]] 7 (fun _:Unit=>.bool true) _ (fun w R Q=>(ZgB s x _ (by omega)).mono (fun _ _ h=>Zam h (by rw [hv]))) (fun xx=>?_)
  refine xq 1 [(8, .v (.bool false))] [] ?_
  refine xe (Zaa (xb (Zal (Zaa (Zac (Zac ?_))))))
  by_cases h48:bytes s=[48]
  ·refine Zab (xq 3 [(12, .v (.bool ((s:ByteArray).toList == (⟨#[48]⟩:ByteArray).toList)))] [] ?_)
   rw [ZmG h48]
   refine xe (Zaa (xa (Zac (Zab (xq 3 [(3, .v (.bool true))] [] ?_)))))
   refine xe (Zaa (Zag (Zai ?_)))
   refine Zaf (v:=.tuple #[.agg #[.bool false, .slice none 0 0, .int .i64 0], .bool true]) (by kernel_rfl) (fun w' R Q=>?_)
   have hx:x=0:=by have h:=hv; unfold fvB at h; rw [if_pos h48] at h; exact of_decide_eq_true h
   have hld:ldR (bytes s) x=⟨false,0,0,0⟩:=by unfold ldR; rw [if_pos hv,h48,hx]; rfl
   rw [hv,hld]
   exact ⟨(none,0,0),rfl,Zad.zero _,R⟩
  ·refine Zab (xq 3 [(12, .v (.bool ((s:ByteArray).toList == (⟨#[48]⟩:ByteArray).toList)))] [] ?_)
   rw [ZmH h48]
   refine xe (Zaa (xb (Zal (Zaa (Zac (Zab (xq 2 [(16, .v (.string s))] [] ?_)))))))
   refine xqc 70 [.string s] 17 Zi8 _ (fun w R Q=>(Zhr s _).mono (fun _ _=>Zhq)) (fun xx=>?_)
   obtain ⟨r,neg⟩:=xx
   refine xq 5 [(4, .v (.bool neg)),(5, .v (.string r))] [] ?_
   refine xe (Zaa (Zac ?_))
   refine SXc.know (p:=Zaz (bytes s)=(neg,bytes r)) (fun w _ Q=>Q.2) (fun HM=>?_)
   have hfv:=ZgG hv
   rw [HM] at hfv
   have hdig:(bytes r).all Zav=true:=hfv.2.2.1
   have hrl:=ZgH (bytes s)
   rw [HM] at hrl
   have hrz:r.size≤100000:=by rw [← Zaq]; exact Nat.le_trans hrl hs
   have hwl:wl (Zak (bytes r))≤100000:=Ze5 (Zb3 _ hdig) (Nat.le_trans hrl hs)
   refine ZaK 6 (by kernel_rfl) (by kernel_rfl) Zao ?_
   refine xqg 2 [(20, .v (.bool neg)),(21, .v (.string r))] ?_
   refine xqd 111 [.string r] 22 ZaA _ (fun w R Q=>(ZgF r _ (Zak (bytes r)) hdig rfl (by omega) (by omega)).mono (fun _ _=>Zau)) (fun xx=>?_)
   obtain ⟨A10,l10,c10⟩:=xx
   refine xqg 3 [(25, .v (.agg #[.bool neg, .slice A10 l10 c10, .int .i64 x]))] ?_
   refine xz (xq 2 [(3, .v (.bool true))] [(2,109,[.v (.bool neg), .v (.slice A10 l10 c10), .v (.int .i64 x)])] ?_)
   refine xe (Zaa (Zag ?_))
   refine Zaf (v:=.tuple #[.agg #[.bool neg, .slice A10 l10 c10, .int .i64 x], .bool true]) (by kernel_rfl) (fun w' R Q=>?_)
   rw [hv,show ldR (bytes s) x=⟨neg,Zak (bytes r),x,0⟩ from by unfold ldR; rw [if_pos hv,HM]]
   exact ⟨(A10,l10,c10),rfl,Q.2,R⟩
 ·refine Zab (xq 3 [(1, .p 1 0),(2, .p 2 0),(3, .v (.bool false))] [(2,109,[.v (.bool false), .v (.slice none 0 0), .v (.int .i64 0)]),(1,76,[.v (.string s), .v (.int .i64 x)])] ?_)
  refine xe (Zaa (Zac (Zac (Zab (xq 1 [(6, .v (.agg #[.string s, .int .i64 x]))] [] ?_)))))
  refine xqc 44 [.agg #[.string s, .int .i64 x]] 7 (fun _:Unit=>.bool false) _ (fun w R Q=>(ZgB s x _ (by omega)).mono (fun _ _ h=>Zam h (by rw [Bool.eq_false_iff.2 hv]))) (fun xx=>?_)
  refine xq 1 [(8, .v (.bool true))] [] ?_
  refine xe (Zaa (xa (Zac (Zab (xq 3 [(3, .v (.bool false))] [] ?_)))))
  refine xe (Zaa (Zag (Zai ?_)))
  refine Zaf (v:=.tuple #[.agg #[.bool false, .slice none 0 0, .int .i64 0], .bool false]) (by kernel_rfl) (fun w' R Q=>?_)
  rw [Bool.eq_false_iff.2 hv,show ldR (bytes s) x=⟨false,0,0,0⟩ from if_neg hv]
  exact ⟨(none,0,0),rfl,Zad.zero _,R⟩
theorem Zib (s:Bool) (A:Option Addr) (l c m:Nat) (e:Int) (w:World) (hg:Glob w) (hN:Zad w (.slice A l c) m) (hw:wl m≤1000000) (hs:s=true→0 < m) :
 Calls Tryz.prog 108 #[.agg #[.bool s, .slice A l c, .int .i64 e]] w (RetV w (.agg #[.string ⟨(Lib.itoa (sg s m)).toArray⟩, .int .i64 e])):=by
 refine Zas (Φ:=fun w=>(Glob w∧Zad w (.slice A l c) (m))) Tryz.func108 rfl (by kernel_rfl) (fun w' hf=>⟨hg.ext hf,hN.ext hf⟩) ?_
 refine Zac (Zab (xq 2 [(1, .p 1 0),(2, .p 2 0)] [(2,76,[.v (.string ⟨#[]⟩), .v (.int .i64 0)]),(1,109,[.v (.bool s), .v (.slice A l c), .v (.int .i64 e)])] ?_))
 refine xe (Zaa (Zac (Zab (xq 2 [eS1 5 A l c] [] ?_))))
 refine xqc 102 [.slice A l c] 6 (fun _:Unit=>.string ⟨(Lib.decDigits m).toArray⟩) _ (fun w R Q=>(Zd4 A l c m _ Q.1 Q.2 (by omega)).mono (fun _ _ h=>Zam h rfl)) (fun xx=>?_)
 refine xq 1 [(3, .v (.string ⟨(Lib.decDigits m).toArray⟩))] [] ?_
 refine xe (Zaa (Zac (Zac (Zab (xq 2 [(8, .v (.bool s))] [] ?_)))))
 refine xe (Zaa ?_)
 refine Zap (s) (by kernel_rfl) (fun hb10=>?_) (fun hb10=>?_)
 ·have hs1:=hb10
  refine Zab (xq 1 [(9, .v (.string ⟨(Lib.decDigits m).toArray⟩))] [] ?_)
  refine ZhE 10 (.string ⟨(45 :: Lib.decDigits m).toArray⟩) (by kernel_rfl) (by kernel_rfl) (by kernel_rfl) (by kernel_rfl) (by kernel_rfl) (by kernel_rfl) (fun w R Q=>ZeG (x:=(Operand.const (Value.string { data:=#[45] }))) (y:=(Operand.tmp 9)) (t:=9) (k:=9) (by kernel_rfl) (by kernel_rfl) (by kernel_rfl) (by have h1:=Zjz m; rw [← Zaq ⟨(Lib.decDigits m).toArray⟩,Zcm]; have:(⟨#[45]⟩:ByteArray).size=1:=rfl; omega) (Zf2 [45] (Lib.decDigits m))) ?_
  refine xr 1 [(1, .p 1 0),(2, .p 2 0),(3, .v (.string ⟨(45 :: Lib.decDigits m).toArray⟩))] [(2,76,[.v (.string ⟨#[]⟩), .v (.int .i64 0)]),(1,109,[.v (.bool s), .v (.slice A l c), .v (.int .i64 e)])] ?_
  refine xe (Zaa (Zac (Zab (xq 5 [] [(2,76,[.v (.string ⟨(45 :: Lib.decDigits m).toArray⟩), .v (.int .i64 e)])] ?_))))
  refine xe (Zaa (Zag ?_))
  refine Zaf (v:=.agg #[.string ⟨(45 :: Lib.decDigits m).toArray⟩, .int .i64 e]) (by kernel_rfl) (fun w' R Q=>?_)
  exact ⟨by rw [hs1,ZeT (neg:=true) (a:=m) (fun h=>by have:=hs hs1; omega)]; rfl,R⟩
 ·have hs1:=hb10
  refine Zal (Zaa (Zac (Zab (xq 5 [] [(2,76,[.v (.string ⟨(Lib.decDigits m).toArray⟩), .v (.int .i64 e)])] ?_))))
  refine xe (Zaa (Zag ?_))
  refine Zaf (v:=.agg #[.string ⟨(Lib.decDigits m).toArray⟩, .int .i64 e]) (by kernel_rfl) (fun w' R Q=>?_)
  exact ⟨by rw [hs1,ZeT (neg:=false) (a:=m) (fun _=>rfl)]; rfl,R⟩
theorem Zmi (r:FR) (A:Option Addr) (l c:Nat) (w:World) (hg:Glob w) (hN:Zad w (.slice A l c) r.m) (hF:Fine r) :
 Calls Tryz.prog 63 #[.agg #[.bool r.s, .slice A l c, .int .i64 r.e], .int .i64 r.err] w (ZqS w r):=by
 refine Zas (Φ:=fun w=>(Glob w∧Zad w (.slice A l c) (r.m))) Tryz.func63 rfl (by kernel_rfl) (fun w' hf=>⟨hg.ext hf,hN.ext hf⟩) ?_
 refine Zac (Zab (xq 3 [(2, .p 2 0),(4, .p 4 0),(5, .v (.int .i64 0))] [(4,76,[.v (.string ⟨#[]⟩), .v (.int .i64 0)]),(2,109,[.v (.bool r.s), .v (.slice A l c), .v (.int .i64 r.e)])] ?_))
 refine xe (Zaa (Zac (Zac (Zab (xq 2 [(7, .v (.bool ((r.err:Int) != 0)))] [] ?_)))))
 refine xe (Zaa ?_)
 refine Zap (((r.err:Int) != 0)) (by kernel_rfl) (fun hb10=>?_) (fun hb10=>?_)
 ·have hb10':=Zhd hb10
  refine Zac (Zab (xq 4 [(5, .v (.int .i64 r.err))] [] ?_))
  refine xe (Zaa (Zag (Zai ?_)))
  refine Zaf (v:=.tuple #[.agg #[.string ⟨#[]⟩, .int .i64 0], .int .i64 r.err]) (by kernel_rfl) (fun w' R Q=>?_)
  exact ⟨by rw [show frT r=[] from if_neg (by omega),show frE r=0 from if_neg (by omega)],R⟩
 ·have hb10':=Zhe hb10
  refine Zal (Zaa (Zac (Zab (xq 1 [(10, .v (.agg #[.bool r.s, .slice A l c, .int .i64 r.e]))] [] ?_))))
  refine xqc 108 [.agg #[.bool r.s, .slice A l c, .int .i64 r.e]] 11 (fun _:Unit=>.agg #[.string ⟨(Lib.itoa (sg r.s r.m)).toArray⟩, .int .i64 r.e]) _ (fun w R Q=>(Zib r.s A l c r.m r.e _ Q.1 Q.2 hF.2 hF.1).mono (fun _ _ h=>Zam h rfl)) (fun xx=>?_)
  refine xq 2 [(5, .v (.int .i64 0))] [(4,76,[.v (.string ⟨(Lib.itoa (sg r.s r.m)).toArray⟩), .v (.int .i64 r.e)])] ?_
  refine xe (Zaa (Zag ?_))
  refine Zaf (v:=.tuple #[.agg #[.string ⟨(Lib.itoa (sg r.s r.m)).toArray⟩, .int .i64 r.e], .int .i64 0]) (by kernel_rfl) (fun w' R Q=>?_)
  have he0:r.err=0:=by omega
  exact ⟨by rw [show frT r=Lib.itoa (sg r.s r.m) from if_pos he0,show frE r=r.e from if_pos he0,he0],R⟩
end Go.Proofs.YtenchljfmfgeoaaGreatDoor

namespace Go.Proofs.YtenchljfmfgeoaaGreatDoor
open Go.RowKit
theorem Zpg {l:List UInt8} {v:Rat} (h:Za0 l=some v):(Lib.itoa v.num).length≤l.length∧(Lib.itoa (v.den:Int)).length≤l.length + 1:=by
 have ht:=Zd3 h
 rw [← ht]
 unfold ZaD
 split
 ·rename_i hd
  rw [hd]
  refine ⟨Nat.le_refl _,?_⟩
  have:(Lib.itoa ((1:Nat):Int)).length=1:=by rw [ZcH,ZcT (by omega)]; rfl
  omega
 ·simp only [List.length_append,List.length_cons]
  omega
theorem ZnR {n k:Nat} (h:(Lib.decDigits n).length≤k):wl n≤k:=by
 have h1:=Zb3 (Lib.decDigits n) (ZcU n)
 rw [Zeg] at h1
 exact Ze5 h1 h
theorem ZrN (z:Int):(Lib.decDigits z.natAbs).length≤(Lib.itoa z).length:=by
 have h:=ZgH (Lib.itoa z)
 rw [Zh7] at h
 exact h
noncomputable def rndF (v:Rat) (n:Nat):FR:=Zbd (decide (v.num < 0)) v.num.natAbs v.den 0 n
noncomputable def ZbN (l:List UInt8) (b:Int):FR:=if (Za0 l).isSome=true then (if 8≤b∧b≤1024 then rndF (valF l) b.toNat else ⟨false,0,0,3⟩) else ⟨false,0,0,1⟩
theorem ZlD (s:ByteArray) (v:Rat) (n:Nat) (w:World) (hg:Glob w) (hs:(bytes s).length≤570) (hv:Za0 (bytes s)=some v) (hn1:8≤n) (hn2:n≤1024) :
 Calls Tryz.prog 64 #[.string s, .int .i64 ((n:Nat):Int)] w (ZaH w (rndF v n)):=by
 have hV:valF (bytes s)=v:=Zez hv
 have hl:=Zpg hv
 refine Zas (Φ:=fun w=>Glob w) Tryz.func64 rfl (by kernel_rfl) (fun w' hf=>hg.ext hf) ?_
 refine Zac (Zab (xq 2 [(4, .p 4 0),(5, .v (.int .i64 0))] [(4,109,[.v (.bool false), .v (.slice none 0 0), .v (.int .i64 0)])] ?_))
 refine xe (Zaa (Zac (Zab (xq 1 [(11, .v (.string s))] [] ?_))))
 refine xqc 109 [.string s] 12 (fun _:Unit=>.tuple #[.string ⟨(Lib.itoa v.num).toArray⟩, .string ⟨(Lib.itoa (v.den:Int)).toArray⟩]) _ (fun w R Q=>((show Calls _ _ _ _ (RetV w (.tuple #[.string ⟨(Lib.itoa v.num).toArray⟩, .string ⟨(Lib.itoa (v.den:Int)).toArray⟩])) from by rw [← hV]; exact ZnP s _ Q hs)).mono (fun _ _ h=>Zam h rfl)) (fun xx=>?_)
 refine xq 5 [(6, .v (.string ⟨(Lib.itoa v.num).toArray⟩)),(7, .v (.string ⟨(Lib.itoa (v.den:Int)).toArray⟩))] [] ?_
 refine xe (Zaa (Zac (Zab (xq 1 [(16, .v (.string ⟨(Lib.itoa v.num).toArray⟩))] [] ?_))))
 refine xqc 70 [.string ⟨(Lib.itoa v.num).toArray⟩] 17 Zi8 _ (fun w R Q=>(Zhr ⟨(Lib.itoa v.num).toArray⟩ _).mono (fun _ _=>Zhq)) (fun xx=>?_)
 obtain ⟨r,neg⟩:=xx
 refine xq 5 [(8, .v (.bool neg)),(9, .v (.string r))] [] ?_
 refine xe (Zaa (Zac ?_))
 refine SXc.know (p:=Zaz (bytes ⟨(Lib.itoa v.num).toArray⟩)=(neg,bytes r)) (fun w _ Q=>Q.2) (fun HM=>?_)
 rw [Zcm,Zh7] at HM
 injection HM with hneg hr
 have hrl:(bytes r).length≤570:=by rw [← hr]; have:=ZrN v.num; omega
 have hrz:r.size≤570:=by rw [← Zaq]; exact hrl
 have hdig:(bytes r).all Zav=true:=by rw [← hr]; exact ZcU _
 have hval:Zak (bytes r)=v.num.natAbs:=by rw [← hr]; exact Zeg _
 have hwn:wl v.num.natAbs≤1000:=by rw [← hval]; exact Ze5 (Zb3 _ hdig) (by omega)
 have hwd:wl v.den≤1000:=ZnR (by have:=hl.2; rw [ZcH] at this; omega)
 have hdl:(bytes ⟨(Lib.itoa (v.den:Int)).toArray⟩).length≤571:=by rw [Zcm]; omega
 have hdz:(⟨(Lib.itoa (v.den:Int)).toArray⟩:ByteArray).size≤571:=by rw [← Zaq]; exact hdl
 refine Zab (xq 2 [(20, .v (.bool neg)),(21, .v (.string r))] [] ?_)
 refine xqc 111 [.string r] 22 ZaA _ (fun w R Q=>(ZgF r _ v.num.natAbs hdig hval (by omega) (by omega)).mono (fun _ _=>Zau)) (fun xx=>?_)
 obtain ⟨A10,l10,c10⟩:=xx
 refine xq 1 [(23, .v (.string ⟨(Lib.itoa (v.den:Int)).toArray⟩))] [] ?_
 refine xqc 111 [.string ⟨(Lib.itoa (v.den:Int)).toArray⟩] 24 ZaA _ (fun w R Q=>(ZgF _ _ v.den (by rw [Zcm,ZcH]; exact ZcU _) (by rw [Zcm,ZcH]; exact Zeg _) (by omega) (by omega)).mono (fun _ _=>Zau)) (fun xx=>?_)
 obtain ⟨A11,l11,c11⟩:=xx
 refine xq 1 [(25, .v (.int .i64 ((n:Nat):Int)))] [] ?_
 obtain ⟨r12,hr12⟩:∃ r,Zbd neg v.num.natAbs v.den 0 n=r:=⟨_,rfl⟩
 refine xqc 110 [.bool neg, .slice A10 l10 c10, .slice A11 l11 c11, .int .i64 0, .int .i64 ((n:Nat):Int)] 26 (shNb r12) _ (fun w R Q=>((show Calls _ _ _ _ (ZaH w r12) from by rw [← hr12]; exact Zhl neg _ _ _ _ _ _ _ _ 0 n _ Q.1.1.1.1 Q.1.2 Q.2 (by omega) (by omega) v.den_pos (by omega) (by omega) (by omega) (by omega))).mono (fun _ _=>ZaJ)) (fun xx=>?_)
 obtain ⟨A12,l12,c12⟩:=xx
 refine xq 4 [(5, .v (.int .i64 r12.err))] [(4,109,[.v (.bool r12.s), .v (.slice A12 l12 c12), .v (.int .i64 r12.e)])] ?_
 refine xe (Zaa (Zag ?_))
 refine Zaf (v:=.tuple #[.agg #[.bool r12.s, .slice A12 l12 c12, .int .i64 r12.e], .int .i64 r12.err]) (by kernel_rfl) (fun w' R Q=>?_)
 rw [show rndF v n=Zbd neg v.num.natAbs v.den 0 n from by unfold rndF; rw [hneg],hr12]
 exact ⟨(A12,l12,c12),rfl,Q.2,R⟩
theorem ZnS (s:ByteArray) (b:Int) (w:World) (hg:Glob w) (hs:(bytes s).length≤570) :
 Calls Tryz.prog 38 #[.string s, .int .i64 b] w (ZqS w (ZbN (bytes s) b)):=by
 refine Zas (Φ:=fun w=>Glob w) Tryz.func38 rfl (by kernel_rfl) (fun w' hf=>hg.ext hf) ?_
 refine Zac (Zab (xq 2 [(4, .p 4 0),(5, .v (.int .i64 0))] [(4,76,[.v (.string ⟨#[]⟩), .v (.int .i64 0)])] ?_))
 refine xe (Zaa (Zac (Zac ?_)))
 by_cases hv:(Za0 (bytes s)).isSome=true
 ·obtain ⟨v,hrd⟩:=Option.isSome_iff_exists.1 hv
  refine Zab (xq 1 [(6, .v (.string s))] [] ?_)
  refine xqc 61 [.string s] 7 (fun _:Unit=>.bool true) _ (fun w R Q=>(ZdT s _ Q hs).mono (fun _ _ h=>Zam h (by rw [hv]))) (fun xx=>?_)
  refine xq 1 [(8, .v (.bool false))] [] ?_
  refine xe (Zaa (xb (Zal (Zaa (Zac (Zac ?_))))))
  by_cases hb:8≤b∧b≤1024
  ·obtain ⟨n,hn⟩:∃ n:Nat,b=n:=⟨b.toNat,by omega⟩
   subst hn
   refine Zab (xq 1 [(10, .v (.int .i64 ((n:Nat):Int)))] [] ?_)
   refine xqc 62 [.int .i64 ((n:Nat):Int)] 11 (fun _:Unit=>.bool true) _ (fun w R Q=>(Zh8 _ _).mono (fun _ _ h=>Zam h (by rw [decide_eq_true hb]))) (fun xx=>?_)
   refine xq 1 [(12, .v (.bool false))] [] ?_
   refine xe (Zaa (xb (Zal (Zaa (Zac (Zab (xq 2 [(14, .v (.string s)),(15, .v (.int .i64 ((n:Nat):Int)))] [] ?_)))))))
   obtain ⟨r10,hr10⟩:∃ r,rndF v n=r:=⟨_,rfl⟩
   refine xqc 64 [.string s, .int .i64 ((n:Nat):Int)] 16 (shNb r10) _ (fun w R Q=>((show Calls _ _ _ _ (ZaH w r10) from by rw [← hr10]; exact ZlD s v n _ Q.1.1 hs hrd (by omega) (by omega))).mono (fun _ _=>ZaJ)) (fun xx=>?_)
   obtain ⟨A10,l10,c10⟩:=xx
   refine xq 2 [(17, .v (.agg #[.bool r10.s, .slice A10 l10 c10, .int .i64 r10.e])),(18, .v (.int .i64 r10.err))] [] ?_
   refine xqc 63 [.agg #[.bool r10.s, .slice A10 l10 c10, .int .i64 r10.e], .int .i64 r10.err] 19 (fun _:Unit=>.tuple #[.agg #[.string ⟨(frT r10).toArray⟩, .int .i64 (frE r10)], .int .i64 r10.err]) _ (fun w R Q=>(Zmi r10 A10 l10 c10 _ Q.1.1.1 Q.2 (by rw [← hr10]; exact Zpf v.den_pos (by omega) (by omega))).mono (fun _ _ h=>Zam h rfl)) (fun xx=>?_)
   refine xq 4 [(5, .v (.int .i64 r10.err))] [(4,76,[.v (.string ⟨(frT r10).toArray⟩), .v (.int .i64 (frE r10))])] ?_
   refine xe (Zaa (Zag ?_))
   refine Zaf (v:=.tuple #[.agg #[.string ⟨(frT r10).toArray⟩, .int .i64 (frE r10)], .int .i64 r10.err]) (by kernel_rfl) (fun w' R Q=>?_)
   rw [show ZbN (bytes s) ((n:Nat):Int)=rndF v n from by unfold ZbN; rw [if_pos hv,if_pos hb,Zez hrd]; rfl,hr10]
   exact ⟨rfl,R⟩
  ·refine Zab (xq 1 [(10, .v (.int .i64 b))] [] ?_)
   refine xqc 62 [.int .i64 b] 11 (fun _:Unit=>.bool false) _ (fun w R Q=>(Zh8 _ _).mono (fun _ _ h=>Zam h (by rw [decide_eq_false hb]))) (fun xx=>?_)
   refine xq 1 [(12, .v (.bool true))] [] ?_
   refine xe (Zaa (xa (Zac (Zab (xq 3 [(5, .v (.int .i64 3))] [] ?_)))))
   refine xe (Zaa (Zag (Zai ?_)))
   refine Zaf (v:=.tuple #[.agg #[.string ⟨#[]⟩, .int .i64 0], .int .i64 3]) (by kernel_rfl) (fun w' R Q=>?_)
   rw [show ZbN (bytes s) b=⟨false,0,0,3⟩ from by unfold ZbN; rw [if_pos hv,if_neg hb]]
   exact ⟨rfl,R⟩
 ·refine Zab (xq 1 [(6, .v (.string s))] [] ?_)
  refine xqc 61 [.string s] 7 (fun _:Unit=>.bool false) _ (fun w R Q=>(ZdT s _ Q hs).mono (fun _ _ h=>Zam h (by rw [Bool.eq_false_iff.2 hv]))) (fun xx=>?_)
  refine xq 1 [(8, .v (.bool true))] [] ?_
  refine xe (Zaa (xa (Zac (Zab (xq 3 [(5, .v (.int .i64 1))] [] ?_)))))
  refine xe (Zaa (Zag (Zai ?_)))
  refine Zaf (v:=.tuple #[.agg #[.string ⟨#[]⟩, .int .i64 0], .int .i64 1]) (by kernel_rfl) (fun w' R Q=>?_)
  rw [show ZbN (bytes s) b=⟨false,0,0,1⟩ from if_neg hv]
  exact ⟨rfl,R⟩
end Go.Proofs.YtenchljfmfgeoaaGreatDoor

namespace Go.Proofs.YtenchljfmfgeoaaGreatDoor
open Go.RowKit
theorem fv_1 {x:Int} (h1 : -1048576≤x) (h2:x≤1048576):fvB [49] x=true:=by
 unfold fvB
 rw [if_neg (by decide)]
 exact decide_eq_true ⟨by decide,by decide,⟨h1,h2⟩,by decide,by decide⟩
/-! ### 5/3 to 8 bits -/
end Go.Proofs.YtenchljfmfgeoaaGreatDoor

namespace Go.Proofs.YtenchljfmfgeoaaGreatDoor
open Go.RowKit
end Go.Proofs.YtenchljfmfgeoaaGreatDoor

namespace Go.Proofs.YtenchljfmfgeoaaGreatDoor
open Go.RowKit
end Go.Proofs.YtenchljfmfgeoaaGreatDoor

namespace Go.Proofs.YtenchljfmfgeoaaGreatDoor
open Go.RowKit
end Go.Proofs.YtenchljfmfgeoaaGreatDoor

namespace Go.Proofs.YtenchljfmfgeoaaGreatDoor
open Go.RowKit
theorem ZmQ (l:List UInt8):(flM l).natAbs=Zak (Zaz l).2:=by
 unfold flM sg
 split<;>omega
end Go.Proofs.YtenchljfmfgeoaaGreatDoor

namespace Go.Proofs.YtenchljfmfgeoaaGreatDoor
open Go.RowKit
def exT (l:List UInt8) (x:Int):List UInt8:=if fvB l x=true then (if flM l=0 then [48] else if x < 0 then l ++ [47] ++ Lib.decDigits (2 ^ (-x).toNat) else Lib.itoa (flM l * 2 ^ x.toNat)) else [48]
theorem ZlG {l:List UInt8} {x:Int} (hv:fvB l x=true) (h:flM l=0):exT l x=[48]:=by unfold exT; rw [if_pos hv,if_pos h]
theorem Zqq {s:ByteArray} {x:Int} {k:Nat} (hv:fvB (bytes s) x=true) (h:flM (bytes s)≠0) (hk : -x=k) (hx:x < 0):(⟨(exT (bytes s) x).toArray⟩:ByteArray)=s ++ ⟨#[47]⟩ ++ ⟨(Lib.decDigits (1 * 2 ^ k)).toArray⟩:=by
 unfold exT
 rw [if_pos hv,if_neg h,if_pos hx,hk,Nat.one_mul]
 apply Zjv
 rw [Zcm]
 simp [bytes]
theorem ZmR {l:List UInt8} {x:Int} {k:Nat} (hv:fvB l x=true) (hk:x=k):exT l x=(if Zak (Zaz l).2=0 then [48] else (if (Zaz l).1 then [45] else []) ++ Lib.decDigits (Zak (Zaz l).2 * 2 ^ k)):=by
 have ha:=ZmQ l
 unfold exT
 rw [if_pos hv,if_neg (show ¬ x < 0 by omega),hk,Int.toNat_natCast]
 by_cases h0:flM l=0
 ·rw [if_pos h0,if_pos (by omega)]
 ·rw [if_neg h0,if_neg (by omega)]
  have e:flM l * 2 ^ k=sg (Zaz l).1 (Zak (Zaz l).2 * 2 ^ k):=by
   unfold flM sg
   split
   ·rw [Int.natCast_mul,Int.natCast_pow,Int.neg_mul]; rfl
   ·rw [Int.natCast_mul,Int.natCast_pow]; rfl
  have hp:=Nat.mul_pos (show 0 < Zak (Zaz l).2 by omega) (p2 k)
  rw [e,ZeT (fun h=>by omega)]
theorem ZnV (s:ByteArray) (x:Int) (w:World) (hg:Glob w) (hs:(bytes s).length≤100000) (hx:fvB (bytes s) x=true → -1000≤x∧x≤1000) :
 Calls Tryz.prog 59 #[.agg #[.string s, .int .i64 x]] w (RetV w (.string ⟨(exT (bytes s) x).toArray⟩)):=by
 refine Zas (Φ:=fun w=>Glob w) Tryz.func59 rfl (by kernel_rfl) (fun w' hf=>hg.ext hf) ?_
 refine Zac (Zab (xq 2 [(1, .p 1 0),(2, .v (.string ⟨#[]⟩))] [(1,76,[.v (.string s), .v (.int .i64 x)])] ?_))
 refine xe (Zaa (Zac (Zab (xq 1 [(6, .v (.agg #[.string s, .int .i64 x]))] [] ?_))))
 by_cases hv:fvB (bytes s) x=true
 ·obtain ⟨r10,hr10⟩:∃ r,ldR (bytes s) x=r:=⟨_,rfl⟩
  have hfv:=ZgG hv
  have hwl:wl r10.m≤100000:=by rw [← hr10]; exact ZqT hs
  have hre:r10.e=x:=by rw [← hr10,show ldR (bytes s) x=_ from if_pos hv]
  have hrs:r10.s=true→0 < r10.m:=by rw [← hr10,show ldR (bytes s) x=_ from if_pos hv]; exact hfv.2.2.2
  refine xqc 100 [.agg #[.string s, .int .i64 x]] 7 (shLd true r10) _ (fun w R Q=>((show Calls _ _ _ _ (Zi9 w true r10) from by rw [← hr10,← hv]; exact Zhs s x _ hs)).mono (fun _ _=>Zjy)) (fun xx=>?_)
  obtain ⟨A10,l10,c10⟩:=xx
  refine xq 6 [(3, .p 3 0)] [(3,109,[.v (.bool r10.s), .v (.slice A10 l10 c10), .v (.int .i64 r10.e)])] ?_
  refine xe (Zaa (Zac (Zar (Zac ?_))))
  refine SXc.know (p:=l10=wl r10.m) (fun w _ Q=>(Q.2).len0) (fun hln=>?_)
  have hzz:=@Zbk r10.m
  have hxx:=hx hv
  have hld:=hr10
  rw [show ldR (bytes s) x=⟨(Zaz (bytes s)).1,Zak (Zaz (bytes s)).2,x,0⟩ from if_pos hv] at hld
  have hab:=ZmQ (bytes s)
  have hms:r10.m=Zak (Zaz (bytes s)).2:=by rw [← hld]
  have hss:r10.s=(Zaz (bytes s)).1:=by rw [← hld]
  by_cases hm0:r10.m=0
  ·refine Zab (xq 4 [(14, .v (.bool ((((l10:Nat):Int):Int) == 0)))] [] ?_)
   rw [(show ((((l10:Nat):Int):Int) == 0)=true from beq_iff_eq.2 (by omega))]
   refine xq 1 [(10, .v (.bool true))] [] ?_
   refine xe (Zaa (xa (Zac (Zab (xq 1 [(2, .v (.string ⟨#[48]⟩))] [] ?_)))))
   refine xe (Zaa (Zag (ZaQ (Zai ?_))))
   refine Zaf (v:=.string ⟨#[48]⟩) (by kernel_rfl) (fun w' R Q=>?_)
   exact ⟨by rw [ZlG hv (by omega)],R⟩
  ·refine Zab (xq 4 [(14, .v (.bool ((((l10:Nat):Int):Int) == 0)))] [] ?_)
   rw [(show ((((l10:Nat):Int):Int) == 0)=false from beq_eq_false_iff_ne.2 (by omega))]
   refine xq 1 [(10, .v (.bool false))] [] ?_
   refine xe (Zaa (xb (Zac (Zab (xq 4 [(15, .v (.bool (decide (r10.e < 0))))] [] ?_)))))
   refine xe (Zaa ?_)
   refine Zap ((decide (r10.e < 0))) (by kernel_rfl) (fun hb11=>?_) (fun hb11=>?_)
   ·have hb11':=of_decide_eq_true hb11
    refine Zac ?_
    obtain ⟨k,hk⟩:∃ k:Nat,-x=k:=Int.eq_ofNat_of_zero_le (by omega)
    have hk1:k≤1000:=by omega
    have hwk:wl (1 * 2 ^ k)≤110000:=by have h1:=Zer 1 (2 ^ k); have h2:wl (2 ^ k)≤100:=Ze7 (by omega); have h3:wl 1≤1:=ZdW.2 (by rw [Zan]; decide); omega
    refine Zif 11 [0,1,3,0,0,16,48,120,248,511,1023] (by kernel_rfl) (by kernel_rfl) Zao ?_
    refine xqg 2 [(20, .v (.string s))] ?_
    refine ZeO 21 (.string (s ++ ⟨#[47]⟩)) (by kernel_rfl) (by kernel_rfl) (by kernel_rfl) (by kernel_rfl) (by kernel_rfl) (by kernel_rfl) (fun w Q=>ZeG (x:=(Operand.tmp 20)) (y:=(Operand.const (Value.string { data:=#[47] }))) (t:=9) (k:=9) (by kernel_rfl) (by kernel_rfl) (by kernel_rfl) (by have h1:=Zaq s; have h2:(⟨#[47]⟩:ByteArray).size=1:=rfl; omega) rfl) ?_
    refine xf 0 [(2, .v (.string ⟨#[]⟩)),(3, .p 3 0),(21, .v (.string (s ++ ⟨#[47]⟩)))] [(3,109,[.v (.bool r10.s), .v (.slice A10 l10 c10), .v (.int .i64 r10.e)]),(1,76,[.v (.string s), .v (.int .i64 x)])] ?_
    refine ZhI 22 (fun zb:Nat=>.slice (some ⟨zb,0,none⟩) 1 1) (fun zb zw=>Blk 141 zw zb #[.int .u64 1]) (by kernel_rfl) (by kernel_rfl) (by kernel_rfl) (by kernel_rfl) (by kernel_rfl) (by kernel_rfl) (by kernel_rfl) (fun w R Q=>Zby (t:=107) (e:=141) (n:=1) (sz:=1) (z:=.int .u64 0) (parts:=#[(0,Operand.const (Value.int IntKind.u64 1))]) (by kernel_rfl) (by kernel_rfl) (by kernel_rfl) (by kernel_rfl) (by kernel_rfl) (by kernel_rfl)) (fun b12=>?_)
    refine xf 3 [(2, .v (.string ⟨#[]⟩)),(3, .p 3 0),(21, .v (.string (s ++ ⟨#[47]⟩))),eS1 22 (some ⟨b12,0,none⟩) 1 1,(25, .v (.int .i64 (IntKind.i64.wrap (0 - (r10.e)))))] [(3,109,[.v (.bool r10.s), .v (.slice A10 l10 c10), .v (.int .i64 r10.e)]),(1,76,[.v (.string s), .v (.int .i64 x)])] ?_
    rw [show IntKind.i64.wrap (0 - (r10.e))=((k:Nat):Int) from by rw [IntKind.wrap_i64]; omega]
    refine xqd 101 [.slice (some ⟨b12,0,none⟩) 1 1, .int .i64 ((k:Nat):Int)] 26 ZaA _ (fun w R Q=>(ZbS k (Zcu Q.2) wl_1 (by omega)).mono (fun _ _=>Zau)) (fun xx=>?_)
    obtain ⟨A13,l13,c13⟩:=xx
    refine xqd 102 [.slice A13 l13 c13] 27 (fun _:Unit=>.string ⟨(Lib.decDigits (1 * 2 ^ k)).toArray⟩) _ (fun w R Q=>(Zd4 A13 l13 c13 (1 * 2 ^ k) _ Q.1.1.1 Q.2 (by omega)).mono (fun _ _ h=>Zam h rfl)) (fun xx=>?_)
    refine ZeO 28 (.string (s ++ ⟨#[47]⟩ ++ ⟨(Lib.decDigits (1 * 2 ^ k)).toArray⟩)) (by kernel_rfl) (by kernel_rfl) (by kernel_rfl) (by kernel_rfl) (by kernel_rfl) (by kernel_rfl) (fun w Q=>ZeG (x:=(Operand.tmp 21)) (y:=(Operand.tmp 27)) (t:=9) (k:=9) (by kernel_rfl) (by kernel_rfl) (by kernel_rfl) (by have h1:=Zjz (1 * 2 ^ k); have h3:=Zaq s; have h4:(⟨#[47]⟩:ByteArray).size=1:=rfl; rw [ByteArray.size_append,← Zaq ⟨(Lib.decDigits (1 * 2 ^ k)).toArray⟩,Zcm]; omega) rfl) ?_
    refine xf 1 [(2, .v (.string (s ++ ⟨#[47]⟩ ++ ⟨(Lib.decDigits (1 * 2 ^ k)).toArray⟩))),(3, .p 3 0)] [(3,109,[.v (.bool r10.s), .v (.slice A10 l10 c10), .v (.int .i64 r10.e)]),(1,76,[.v (.string s), .v (.int .i64 x)])] ?_
    refine xz (xe (Zaa (Zag (ZaQ (Zai ?_)))))
    refine Zaf (v:=.string (s ++ ⟨#[47]⟩ ++ ⟨(Lib.decDigits (1 * 2 ^ k)).toArray⟩)) (by kernel_rfl) (fun w' R Q=>?_)
    exact ⟨by rw [Zqq hv (by omega) hk (by omega)],R⟩
   ·have hb11':=of_decide_eq_false hb11
    refine Zac ?_
    obtain ⟨k,hk⟩:∃ k:Nat,x=k:=Int.eq_ofNat_of_zero_le (by omega)
    have hk1:k≤1000:=by omega
    have hwk:wl (r10.m * 2 ^ k)≤110000:=by have h1:=Zer r10.m (2 ^ k); have h2:wl (2 ^ k)≤100:=Ze7 (by omega); omega
    rw [show r10.e=((k:Nat):Int) from by omega]
    refine Zab (xq 3 [(29, .v (.bool r10.s))] [] ?_)
    refine xe (Zaa ?_)
    refine Zap (r10.s) (by kernel_rfl) (fun hb14=>?_) (fun hb14=>?_)
    ·have hs1:=hb14
     refine Zac (Zab (xq 4 [eS1 33 A10 l10 c10,(35, .v (.int .i64 ((k:Nat):Int)))] [] ?_))
     refine xqc 101 [.slice A10 l10 c10, .int .i64 ((k:Nat):Int)] 36 ZaA _ (fun w R Q=>(ZbS k Q.2 (by omega) (by omega)).mono (fun _ _=>Zau)) (fun xx=>?_)
     obtain ⟨A15,l15,c15⟩:=xx
     refine xqc 102 [.slice A15 l15 c15] 37 (fun _:Unit=>.string ⟨(Lib.decDigits (r10.m * 2 ^ k)).toArray⟩) _ (fun w R Q=>(Zd4 A15 l15 c15 (r10.m * 2 ^ k) _ Q.1.1 Q.2 (by omega)).mono (fun _ _ h=>Zam h rfl)) (fun xx=>?_)
     refine ZhE 38 (.string ⟨(45 :: Lib.decDigits (r10.m * 2 ^ k)).toArray⟩) (by kernel_rfl) (by kernel_rfl) (by kernel_rfl) (by kernel_rfl) (by kernel_rfl) (by kernel_rfl) (fun w R Q=>ZeG (x:=(Operand.const (Value.string { data:=#[45] }))) (y:=(Operand.tmp 37)) (t:=9) (k:=9) (by kernel_rfl) (by kernel_rfl) (by kernel_rfl) (by have h1:=Zjz (r10.m * 2 ^ k); have h4:(⟨#[45]⟩:ByteArray).size=1:=rfl; rw [← Zaq ⟨(Lib.decDigits (r10.m * 2 ^ k)).toArray⟩,Zcm]; omega) (Zf2 [45] (Lib.decDigits (r10.m * 2 ^ k)))) ?_
     refine xr 1 [(2, .v (.string ⟨(45 :: Lib.decDigits (r10.m * 2 ^ k)).toArray⟩)),(3, .p 3 0)] [(3,109,[.v (.bool r10.s), .v (.slice A10 l10 c10), .v (.int .i64 ((k:Nat):Int))])] ?_
     refine xe (Zaa (Zag (ZaQ (Zai ?_))))
     refine Zaf (v:=.string ⟨(45 :: Lib.decDigits (r10.m * 2 ^ k)).toArray⟩) (by kernel_rfl) (fun w' R Q=>?_)
     exact ⟨by rw [ZmR hv hk,← hms,← hss,hs1,if_neg hm0]; rfl,R⟩
    ·have hs1:=hb14
     refine Zal (ZaO (Zaa (Zac (Zab (xq 4 [eS1 40 A10 l10 c10,(42, .v (.int .i64 ((k:Nat):Int)))] [] ?_)))))
     refine xqc 101 [.slice A10 l10 c10, .int .i64 ((k:Nat):Int)] 43 ZaA _ (fun w R Q=>(ZbS k Q.2 (by omega) (by omega)).mono (fun _ _=>Zau)) (fun xx=>?_)
     obtain ⟨A16,l16,c16⟩:=xx
     refine xqc 102 [.slice A16 l16 c16] 44 (fun _:Unit=>.string ⟨(Lib.decDigits (r10.m * 2 ^ k)).toArray⟩) _ (fun w R Q=>(Zd4 A16 l16 c16 (r10.m * 2 ^ k) _ Q.1.1 Q.2 (by omega)).mono (fun _ _ h=>Zam h rfl)) (fun xx=>?_)
     refine xq 1 [(2, .v (.string ⟨(Lib.decDigits (r10.m * 2 ^ k)).toArray⟩))] [] ?_
     refine xe (Zaa (Zag ?_))
     refine Zaf (v:=.string ⟨(Lib.decDigits (r10.m * 2 ^ k)).toArray⟩) (by kernel_rfl) (fun w' R Q=>?_)
     exact ⟨by rw [ZmR hv hk,← hms,← hss,hs1,if_neg hm0]; rfl,R⟩
 ·obtain ⟨r17,hr17⟩:∃ r,ldR (bytes s) x=r:=⟨_,rfl⟩
  refine xqc 100 [.agg #[.string s, .int .i64 x]] 7 (shLd false r17) _ (fun w R Q=>((show Calls _ _ _ _ (Zi9 w false r17) from by rw [← hr17,← Bool.eq_false_iff.2 hv]; exact Zhs s x _ hs)).mono (fun _ _=>Zjy)) (fun xx=>?_)
  obtain ⟨A17,l17,c17⟩:=xx
  refine xq 6 [(3, .p 3 0)] [(3,109,[.v (.bool r17.s), .v (.slice A17 l17 c17), .v (.int .i64 r17.e)])] ?_
  refine xe (Zaa (Zac (Zar (Zac ?_))))
  refine SXc.know (p:=l17=wl r17.m) (fun w _ Q=>(Q.2).len0) (fun hln=>?_)
  have hzz:=@Zbk r17.m
  have hm0:r17.m=0:=by rw [← hr17,show ldR (bytes s) x=⟨false,0,0,0⟩ from if_neg hv]
  refine Zab (xq 4 [(14, .v (.bool ((((l17:Nat):Int):Int) == 0)))] [] ?_)
  rw [(show ((((l17:Nat):Int):Int) == 0)=true from beq_iff_eq.2 (by omega))]
  refine xq 1 [(10, .v (.bool true))] [] ?_
  refine xe (Zaa (xa (Zac (Zab (xq 1 [(2, .v (.string ⟨#[48]⟩))] [] ?_)))))
  refine xe (Zaa (Zag (ZaQ (Zai ?_))))
  refine Zaf (v:=.string ⟨#[48]⟩) (by kernel_rfl) (fun w' R Q=>?_)
  exact ⟨by rw [show exT (bytes s) x=[48] from if_neg hv],R⟩
end Go.Proofs.YtenchljfmfgeoaaGreatDoor

namespace Go.Proofs.YtenchljfmfgeoaaGreatDoor
open Go.RowKit
theorem Zpj {a b:Nat} (h:a < 32 * b):ml (2 ^ a)≤b:=Zeu.2 (by rw [show W32=2 ^ 32 by rw [Zcy],← Nat.pow_mul]; exact Nat.pow_lt_pow_right (by decide) h)
end Go.Proofs.YtenchljfmfgeoaaGreatDoor

namespace Go.Proofs.YtenchljfmfgeoaaGreatDoor
open Go.RowKit
theorem ZnX (s:Bool) (A:Option Addr) (l c x:Nat) (e:Int) (w:World) (hX:Zad w (.slice A l c) x) :
 Calls Tryz.prog 97 #[.agg #[.bool s, .slice A l c, .int .i64 e]] w (RetV w (.int .i64 (if x=0 then 0 else if s=true then (-1) else 1))):=by
 refine Zas (Φ:=fun w=>Zad w (.slice A l c) (x)) Tryz.func97 rfl (by kernel_rfl) (fun w' hf=>hX.ext hf) ?_
 refine Zac ?_
 have hln:=hX.len0
 have hzz:=@Zbk x
 refine Zab (xq 2 [(1, .p 1 0),(2, .v (.int .i64 0))] [(1,109,[.v (.bool s), .v (.slice A l c), .v (.int .i64 e)])] ?_)
 refine xe (Zaa (Zac (Zar (Zac (Zab (xq 5 [(3, .v (.bool ((((l:Nat):Int):Int) == 0)))] [] ?_))))))
 refine xe (Zaa ?_)
 refine Zap (((((l:Nat):Int):Int) == 0)) (by kernel_rfl) (fun hb10=>?_) (fun hb10=>?_)
 ·have hb10':=beq_iff_eq.1 hb10
  have h0:x=0:=by omega
  refine Zac (Zab (xq 1 [(2, .v (.int .i64 0))] [] ?_))
  refine xe (Zaa (Zag (ZaQ (Zai ?_))))
  refine Zaf (v:=.int .i64 0) (by kernel_rfl) (fun w' R Q=>?_)
  exact ⟨by rw [if_pos h0],R⟩
 ·have hb10':=Zbh hb10
  have h0:¬ x=0:=by omega
  refine Zac (Zab (xq 3 [(8, .v (.bool s))] [] ?_))
  refine xe (Zaa ?_)
  refine Zap (s) (by kernel_rfl) (fun hb11=>?_) (fun hb11=>?_)
  ·have hs1:=hb11
   refine Zac (Zab (xq 1 [(2, .v (.int .i64 (-1)))] [] ?_))
   refine xe (Zaa (Zag (ZaQ (Zai ?_))))
   refine Zaf (v:=.int .i64 (-1)) (by kernel_rfl) (fun w' R Q=>?_)
   exact ⟨by rw [if_neg h0,if_pos hs1],R⟩
  ·have hs1:=hb11
   refine Zal (ZaO (Zaa (Zac (Zab (xq 1 [(2, .v (.int .i64 1))] [] ?_)))))
   refine xe (Zaa (Zag ?_))
   refine Zaf (v:=.int .i64 1) (by kernel_rfl) (fun w' R Q=>?_)
   exact ⟨by rw [if_neg h0,if_neg (by rw [hs1]; decide)],R⟩
theorem Zpk (s:Bool) (A:Option Addr) (l c x:Nat) (e:Int) (w:World) (hX:Zad w (.slice A l c) x) (hx0:0 < x) :
 Calls Tryz.prog 169 #[.agg #[.bool s, .slice A l c, .int .i64 e]] w (RetV w (.agg #[.bool (!s), .slice A l c, .int .i64 e])):=by
 refine Zas (Φ:=fun w=>Zad w (.slice A l c) (x)) Tryz.func169 rfl (by kernel_rfl) (fun w' hf=>hX.ext hf) ?_
 refine Zac ?_
 have hln:=hX.len0
 have hzz:=ZgX hx0
 refine Zab (xq 2 [(1, .p 1 0),(2, .p 2 0)] [(2,109,[.v (.bool false), .v (.slice none 0 0), .v (.int .i64 0)]),(1,109,[.v (.bool s), .v (.slice A l c), .v (.int .i64 e)])] ?_)
 refine xe (Zaa (Zac (Zac (Zab (xq 4 [(6, .v (.bool (decide (((l:Nat):Int) > 0))))] [] ?_)))))
 refine xe (Zaa ?_)
 refine Zap ((decide (((l:Nat):Int) > 0))) (by kernel_rfl) (fun hb10=>?_) (fun hb10=>?_)
 ·have hb10':=of_decide_eq_true hb10
  refine Zab (xq 5 [] [(1,109,[.v (.bool (!s)), .v (.slice A l c), .v (.int .i64 e)])] ?_)
  refine xe (Zaa (Zac (Zab (xq 2 [] [(2,109,[.v (.bool (!s)), .v (.slice A l c), .v (.int .i64 e)])] ?_))))
  refine xe (Zaa (Zag ?_))
  refine Zaf (v:=.agg #[.bool (!s), .slice A l c, .int .i64 e]) (by kernel_rfl) (fun w' R Q=>?_)
  exact ⟨rfl,R⟩
 ·have hb10':=of_decide_eq_false hb10
  refine Zal (Zaa (Zac (Zab (xq 2 [] [(2,109,[.v (.bool s), .v (.slice A l c), .v (.int .i64 e)])] ?_))))
  refine xe (Zaa (Zag ?_))
  refine Zaf (v:=.agg #[.bool s, .slice A l c, .int .i64 e]) (by kernel_rfl) (fun w' R Q=>?_)
  exfalso; omega
end Go.Proofs.YtenchljfmfgeoaaGreatDoor

namespace Go.Proofs.YtenchljfmfgeoaaGreatDoor
open Go.RowKit
theorem Zpm {n k:Nat} (h:wl n≤k):wl (isq n)≤k:=Nat.le_trans (ZaU (by
 have:=(ZdI n).1
 rcases Nat.eq_zero_or_pos (isq n) with e | e
 ·omega
 ·exact Nat.le_trans (Nat.le_mul_of_pos_left _ e) this)) h
theorem ZsV:isq 0=0:=Zi3 (by decide) (by decide)
theorem nxw {n r:Nat} (hr:wl r≤200001) (hn:wl n≤200000):wl (r + n / r)≤200002:=ZkJ hr (Nat.le_trans (ZaU (Nat.div_le_self _ _)) (by omega))
def ZcJ (s:Bool) (m:Nat) (e:Int) (bits:Nat):FR:=if s=true then ⟨false,0,0,3⟩ else if m=0 then ⟨false,0,0,0⟩ else Zfp m e bits
theorem ZrQ {a b:Nat} (h:¬ a=b):(cmpI ((a:Nat):Int) ((b:Nat):Int) != 0)=true:=by
 rw [bne_iff_ne]
 rcases Nat.lt_or_gt_of_ne h with h1 | h1
 ·rw [ZdJ (by omega)]; decide
 ·rw [Zd7 (by omega)]; decide
theorem ZrR {a b:Nat} (h:a=b):(cmpI ((a:Nat):Int) ((b:Nat):Int) != 0)=false:=by subst h; rw [ZgV]; rfl
theorem ZmT {m:Nat} {s:Int} {j:Nat} (h:s = -(j:Int)):fq m 1 (-s)=m / 2 ^ j:=by
 subst h
 unfold fq fa fb
 rw [show (- -(-(j:Int))).toNat=0 by omega,show (- -(j:Int)).toNat=j by omega]; simp
theorem ZmU {Y k:Nat} (h:blen Y≤64 * k):wl Y≤k:=ZbC.2 (by rw [show W64=2 ^ 64 by rw [Zan],← Nat.pow_mul]; exact Zbu.1 h)
theorem ZsB {l:List UInt8} {x:Int}:(ldR l x).m=0∨(ldR l x).m % 2=1:=by
 unfold ldR
 split
 ·rename_i h
  have h1:=(ZrE h).2
  have h2:(flM l).natAbs=Zak (Zaz l).2:=by unfold flM sg; split<;>omega
  rcases h1 with ⟨h1,_⟩ | ⟨h1,_⟩
  ·left; show Zak (Zaz l).2=0; omega
  ·right; show Zak (Zaz l).2 % 2=1; omega
 ·exact Or.inl rfl
theorem ZqW (a:Int):a.tmod 2=0 ↔ a % 2=0:=by rw [← Int.dvd_iff_tmod_eq_zero,Int.dvd_iff_emod_eq_zero]
theorem ZkD {a:Int} (h:a % 2=0):a.tdiv 2=a / 2:=by
 obtain ⟨k,hk⟩:∃ k,a=2 * k:=⟨a / 2,by omega⟩
 subst hk
 rw [Int.mul_tdiv_cancel_left _ (by decide),Int.mul_ediv_cancel_left _ (by decide)]
theorem ZfA (A:Option Addr) (l c n:Nat) (w:World) (hN:Zad w (.slice A l c) n) (hw:wl n≤200000) :
 Calls Tryz.prog 141 #[.slice A l c] w (Za2 w (isq n)):=by
 refine Zas (Φ:=fun w=>Zad w (.slice A l c) (n)) Tryz.func141 rfl (by kernel_rfl) (fun w' hf=>hN.ext hf) ?_
 refine Zac ?_
 have hln:=hN.len0
 have hzz:=@Zbk n
 have hbw:=ZcS n
 obtain ⟨hi1,hi2⟩:=ZdI n
 refine Zab (xq 1 [eS1 2 none 0 0] [] ?_)
 refine xe (Zaa (Zac (Zac (Zab (xq 3 [(9, .v (.bool ((((l:Nat):Int):Int) == 0)))] [] ?_)))))
 refine xe (Zaa ?_)
 refine Zap (((((l:Nat):Int):Int) == 0)) (by kernel_rfl) (fun hb10=>?_) (fun hb10=>?_)
 ·have hb10':=beq_iff_eq.1 hb10
  have h0:n=0:=by omega
  refine Zac (Zab (xq 1 [eS1 2 none 0 0] [] ?_))
  refine xe (Zaa (Zag (Zai ?_)))
  refine Zaf (v:=.slice none 0 0) (by kernel_rfl) (fun w' R Q=>?_)
  exact ⟨_,rfl,by rw [h0,ZsV]; exact Zad.zero _,R⟩
 ·have hb10':=Zbh hb10
  have h0:¬ n=0:=by omega
  refine Zal (Zaa (Zac (Zab ?_)))
  refine Zbx (d:=10) (fun zb:Nat=>.slice (some ⟨zb,0,none⟩) 1 1) (fun zb zw=>Blk 141 zw zb #[.int .u64 1]) (by kernel_rfl) (by kernel_rfl) (by kernel_rfl) (by kernel_rfl) (by kernel_rfl) (by kernel_rfl) (fun w R Q=>Zby (t:=107) (e:=141) (n:=1) (sz:=1) (z:=.int .u64 0) (parts:=#[(0,Operand.const (Value.int IntKind.u64 1))]) (by kernel_rfl) (by kernel_rfl) (by kernel_rfl) (by kernel_rfl) (by kernel_rfl) (by kernel_rfl)) (fun b11=>?_)
  refine xr 1 [eS1 0 A l c,eS1 2 none 0 0,eS1 10 (some ⟨b11,0,none⟩) 1 1,eS1 11 A l c] [] ?_
  refine xqc 139 [.slice A l c] 12 (fun _:Unit=>.int .i64 ((blen n:Nat):Int)) _ (fun w R Q=>(ZbE Q.1 (Nat.le_trans hw (by decide))).mono (fun _ _ h=>Zam h rfl)) (fun xx=>?_)
  refine xq 1 [(13, .v (.int .i64 (IntKind.i64.wrap (((blen n:Nat):Int) + 1))))] [] ?_
  rw [show IntKind.i64.wrap (((blen n:Nat):Int) + 1)=((blen n + 1:Nat):Int) from by rw [IntKind.wrap_i64]; omega]
  refine xq 1 [(14, .v (.int .i64 (IntKind.i64.wrap ((((blen n + 1:Nat):Int)).tdiv 2))))] [] ?_
  rw [show IntKind.i64.wrap ((((blen n + 1:Nat):Int)).tdiv 2)=(((blen n + 1) / 2:Nat):Int) from tdq _ 2 (by omega)]
  refine xqc 101 [.slice (some ⟨b11,0,none⟩) 1 1, .int .i64 (((blen n + 1) / 2:Nat):Int)] 15 ZaA _ (fun w R Q=>(ZbS ((blen n + 1) / 2) (Zcu Q.1.2) wl_1 (by omega)).mono (fun _ _=>Zau)) (fun xx=>?_)
  obtain ⟨A12,l12,c12⟩:=xx
  refine xq 1 [eS1 3 A12 l12 c12] [] ?_
  refine xe (Zaa (Zar ?_))
  refine SXc.weak [(0, .v (.slice A l c)),(2, .v (.slice none 0 0)),(3, .v (.slice A12 l12 c12))] [] (Ψ:=fun w=>(Zad w (.slice A l c) (n)∧Zad w (.slice A12 l12 c12) ((1 * 2 ^ ((blen n + 1) / 2))))) (Zax.of (by kernel_rfl)) (by kernel_rfl) (fun w Q=>⟨Q.1.1.1,Q.2⟩) ?_
  refine ZaR (fun nn ss ff=>∃ (gA:Option Addr) (gl gc r:Nat),ss=ofL [(0, .v (.slice A l c)),(2, .v (.slice none 0 0)),(3, .v (.slice gA gl gc))] []∧ff=(fun w=>(Zad w (.slice A l c) (n)∧Zad w (.slice gA gl gc) (r)))∧(n < (r + 1) * (r + 1))∧(0 < r)∧(wl r≤200001)∧nn=(1 + r)) ((1 + (1 * 2 ^ ((blen n + 1) / 2)))) ⟨A12,l12,c12,(1 * 2 ^ ((blen n + 1) / 2)),rfl,rfl,(ZlI (Zcs n)).1,(ZlI (Zcs n)).2,(Nat.le_trans (ZsU (m:=wl n) hbw) (by omega)),rfl⟩ ?_
  rintro nn ss ff ⟨gA,gl,gc,r,rfl,rfl,hrn,hr0,hwr,rfl⟩
  refine Zar (Zac (Zab (xq 2 [eS1 17 A l c,eS1 18 gA gl gc] [] ?_)))
  refine xqc 158 [.slice A l c, .slice gA gl gc] 19 (fun x:ShN × ShN=>.tuple #[ZaA x.1,ZaA x.2]) _ (fun w R Q=>(Zj5 Q.1 Q.2 (Nat.le_trans hw (by decide)) (Nat.le_trans hwr (by decide)) hr0).mono (fun _ _=>Zpl)) (fun xx=>?_)
  obtain ⟨⟨A13,l13,c13⟩,⟨A14,l14,c14⟩⟩:=xx
  refine xq 5 [eS1 4 A13 l13 c13] [] ?_
  refine xe (Zaa (Zac (Zab (xq 2 [eS1 22 gA gl gc,eS1 23 A13 l13 c13] [] ?_))))
  refine xqc 135 [.slice gA gl gc, .slice A13 l13 c13] 24 ZaA _ (fun w R Q=>(ZbW Q.1.2 Q.2.1 (Nat.le_trans hwr (by decide)) (Nat.le_trans (ZaU (Nat.div_le_self n r)) (Nat.le_trans hw (by decide)))).mono (fun _ _=>Zau)) (fun xx=>?_)
  obtain ⟨A15,l15,c15⟩:=xx
  refine xqc 140 [.slice A15 l15 c15, .int .i64 1] 25 ZaA _ (fun w R Q=>(Zch 1 Q.2 (Nat.le_trans (nxw hwr hw) (by decide)) (by decide)).mono (fun _ _=>Zau)) (fun xx=>?_)
  obtain ⟨A16,l16,c16⟩:=xx
  refine xq 1 [eS1 6 A16 l16 c16] [] ?_
  refine xe (Zaa (Zac (Zac (Zab (xq 2 [eS1 26 A16 l16 c16,eS1 27 gA gl gc] [] ?_)))))
  refine xqc 136 [.slice A16 l16 c16, .slice gA gl gc] 28 (fun _:Unit=>.int .i64 (cmpI (((r + n / r) / 2 ^ 1:Nat):Int) ((r:Nat):Int))) _ (fun w R Q=>(ZcR Q.2 Q.1.1.1.2 (Nat.le_trans (ZaU (Nat.div_le_self _ _)) (Nat.le_trans (nxw hwr hw) (by decide)))).mono (fun _ _ h=>Zam h rfl)) (fun xx=>?_)
  refine xq 1 [(29, .v (.bool (decide ((cmpI (((r + n / r) / 2 ^ 1:Nat):Int) ((r:Nat):Int)) ≥ 0))))] [] ?_
  refine xe (Zaa ?_)
  refine Zap ((decide ((cmpI (((r + n / r) / 2 ^ 1:Nat):Int) ((r:Nat):Int)) ≥ 0))) (by kernel_rfl) (fun hb17=>?_) (fun hb17=>?_)
  ·have hb17':=of_decide_eq_true hb17
   have hcp:=@ZeR ((r + n / r) / 2 ^ 1) r |>.1 hb17'
   refine Zac (Zab (xq 2 [eS1 2 gA gl gc] [] ?_))
   refine xe (Zaa (Zag (Zai (ZaQ (Zai (ZaQ ?_))))))
   refine Zaf (v:=.slice gA gl gc) (by kernel_rfl) (fun w' R Q=>?_)
   exact ⟨_,rfl,by rw [← ZsA (r0:=isq n) (by omega) hrn hi1 hi2]; exact Q.1.1.1.1.2,R⟩
  ·have hb17':=of_decide_eq_false hb17
   have hcp:=mt (@ZeR ((r + n / r) / 2 ^ 1) r).2 hb17'
   refine Zal (Zaa (Zab (xq 2 [eS1 3 A16 l16 c16] [] ?_)))
   refine xe (ZaO ?_)
   refine SXq.weak [(0, .v (.slice A l c)),(2, .v (.slice none 0 0)),(3, .v (.slice A16 l16 c16))] [] (Ψ:=fun w=>(Zad w (.slice A l c) (n)∧Zad w (.slice A16 l16 c16) (((r + n / r) / 2 ^ 1)))) (Zax.of (by kernel_rfl)) (by kernel_rfl) (fun w Q=>⟨Q.1.1.1.1.1,Q.1.2⟩) ?_
   exact ZaF ((1 + ((r + n / r) / 2 ^ 1))) (by omega) ⟨A16,l16,c16,((r + n / r) / 2 ^ 1),rfl,rfl,(ZmS hr0 (Nat.pos_of_ne_zero h0)).1,(ZmS hr0 (Nat.pos_of_ne_zero h0)).2,(Nat.le_trans (ZaU (by omega)) hwr),rfl⟩
theorem ZnY (Q R T:Nat) (sh:Int) (A:Option Addr) (l c r:Nat) (B:Option Addr) (m d n:Nat) (w:World) (hQ:Blk 3 w Q #[.int .i64 sh]) (hR:Blk 107 w R #[.slice A l c]) (hT:Blk 107 w T #[.slice B m d]) (hA:Zad w (.slice A l c) r) (hB:Zad w (.slice B m d) n) (hwr:wl r≤1000000) :
 Calls Tryz.prog 142 #[.pointer (some ⟨Q,0,none⟩), .pointer (some ⟨R,0,none⟩), .pointer (some ⟨T,0,none⟩)] w (RetV w (.bool (decide (sh < 0∨r * r≠n)))):=by
 refine Zas (Φ:=fun w=>((((Blk 3 w Q #[.int .i64 sh]∧Blk 107 w R #[.slice A l c])∧Blk 107 w T #[.slice B m d])∧Zad w (.slice A l c) (r))∧Zad w (.slice B m d) (n))) Tryz.func142 rfl (by kernel_rfl) (fun w' hf=>⟨⟨⟨⟨hQ.ext hf,hR.ext hf⟩,hT.ext hf⟩,hA.ext hf⟩,hB.ext hf⟩) ?_
 refine Zac (Zab (xq 1 [(3, .v (.bool false))] [] ?_))
 refine xe (Zaa (Zac ?_))
 by_cases hs0:sh < 0
 ·refine ZaK 11 (by kernel_rfl) (by kernel_rfl) Zao ?_
  refine xqj 4 (.int .i64 sh) (fun w S=>Za4 (t:=3) (x:=(Operand.tmp 0)) (g:=Q) (off:=0) (Blk.cell (S.1.1.1.1) 0)) ?_
  refine xqg 1 [(5, .v (.bool (decide (sh < 0))))] ?_
  rw [show decide (sh < 0)=true from decide_eq_true hs0]
  refine xqg 9 [(3, .v (.bool true))] ?_
  refine xz (xe (Zaa (Zag ?_)))
  refine Zaf (v:=.bool true) (by kernel_rfl) (fun w' U S=>?_)
  exact ⟨by rw [decide_eq_true (p:=sh < 0∨r * r≠n) (Or.inl hs0)],U⟩
 ·by_cases hex:r * r=n
  ·refine ZaK 11 (by kernel_rfl) (by kernel_rfl) Zao ?_
   refine xqj 4 (.int .i64 sh) (fun w S=>Za4 (t:=3) (x:=(Operand.tmp 0)) (g:=Q) (off:=0) (Blk.cell (S.1.1.1.1) 0)) ?_
   refine xqg 1 [(5, .v (.bool (decide (sh < 0))))] ?_
   rw [show decide (sh < 0)=false from decide_eq_false hs0]
   refine xqg 1 [(6, .v (.bool false))] ?_
   refine xqj 7 (.slice A l c) (fun w S=>Za4 (t:=107) (x:=(Operand.tmp 1)) (g:=R) (off:=0) (Blk.cell (S.1.1.1.2) 0)) ?_
   refine xqj 8 (.slice A l c) (fun w S=>Za4 (t:=107) (x:=(Operand.tmp 1)) (g:=R) (off:=0) (Blk.cell (S.1.1.1.2) 0)) ?_
   refine xqd 143 [.slice A l c, .slice A l c] 9 ZaA _ (fun w U S=>(Zgp S.1.2 S.1.2 (by omega) (by omega)).mono (fun _ _=>Zau)) (fun xx=>?_)
   obtain ⟨A10,l10,c10⟩:=xx
   refine xqj 10 (.slice B m d) (fun w S=>Za4 (t:=107) (x:=(Operand.tmp 2)) (g:=T) (off:=0) (Blk.cell (S.1.1.2) 0)) ?_
   refine xqd 136 [.slice A10 l10 c10, .slice B m d] 11 (fun _:Unit=>.int .i64 (cmpI ((r * r:Nat):Int) ((n:Nat):Int))) _ (fun w U S=>(ZcR S.2 S.1.2 (Nat.le_trans (Zer _ _) (by omega))).mono (fun _ _ h=>Zam h rfl)) (fun xx=>?_)
   refine xqg 1 [(12, .v (.bool (((cmpI ((r * r:Nat):Int) ((n:Nat):Int)):Int) != 0)))] ?_
   rw [ZrR hex]
   refine xqg 2 [(3, .v (.bool false))] ?_
   refine xz (xe (Zaa (Zag ?_)))
   refine Zaf (v:=.bool false) (by kernel_rfl) (fun w' U S=>?_)
   exact ⟨by rw [decide_eq_false (p:=sh < 0∨r * r≠n) (by rintro (h | h); exact hs0 h; exact h hex)],U⟩
  ·refine ZaK 11 (by kernel_rfl) (by kernel_rfl) Zao ?_
   refine xqj 4 (.int .i64 sh) (fun w S=>Za4 (t:=3) (x:=(Operand.tmp 0)) (g:=Q) (off:=0) (Blk.cell (S.1.1.1.1) 0)) ?_
   refine xqg 1 [(5, .v (.bool (decide (sh < 0))))] ?_
   rw [show decide (sh < 0)=false from decide_eq_false hs0]
   refine xqg 1 [(6, .v (.bool false))] ?_
   refine xqj 7 (.slice A l c) (fun w S=>Za4 (t:=107) (x:=(Operand.tmp 1)) (g:=R) (off:=0) (Blk.cell (S.1.1.1.2) 0)) ?_
   refine xqj 8 (.slice A l c) (fun w S=>Za4 (t:=107) (x:=(Operand.tmp 1)) (g:=R) (off:=0) (Blk.cell (S.1.1.1.2) 0)) ?_
   refine xqd 143 [.slice A l c, .slice A l c] 9 ZaA _ (fun w U S=>(Zgp S.1.2 S.1.2 (by omega) (by omega)).mono (fun _ _=>Zau)) (fun xx=>?_)
   obtain ⟨A11,l11,c11⟩:=xx
   refine xqj 10 (.slice B m d) (fun w S=>Za4 (t:=107) (x:=(Operand.tmp 2)) (g:=T) (off:=0) (Blk.cell (S.1.1.2) 0)) ?_
   refine xqd 136 [.slice A11 l11 c11, .slice B m d] 11 (fun _:Unit=>.int .i64 (cmpI ((r * r:Nat):Int) ((n:Nat):Int))) _ (fun w U S=>(ZcR S.2 S.1.2 (Nat.le_trans (Zer _ _) (by omega))).mono (fun _ _ h=>Zam h rfl)) (fun xx=>?_)
   refine xqg 1 [(12, .v (.bool (((cmpI ((r * r:Nat):Int) ((n:Nat):Int)):Int) != 0)))] ?_
   rw [ZrQ hex]
   refine xqg 2 [(3, .v (.bool true))] ?_
   refine xz (xe (Zaa (Zag ?_)))
   refine Zaf (v:=.bool true) (by kernel_rfl) (fun w' U S=>?_)
   exact ⟨by rw [decide_eq_true (p:=sh < 0∨r * r≠n) (Or.inr hex)],U⟩
theorem ZeM (s:Bool) (A:Option Addr) (l c n:Nat) (e:Int) (bits:Nat) (Q R T:Nat) (sh:Int) (A1:Option Addr) (l1 c1 r:Nat) (B:Option Addr) (m d n1:Nat) (w:World) (hg:Glob w) (hN:Zad w (.slice A l c) n) (hw:wl n≤4294967296) (he1 : -576460752303423488≤e) (he2:e≤576460752303423488) (hb:bits≤4294967296) (hQ:Blk 3 w Q #[.int .i64 sh]) (hR:Blk 107 w R #[.slice A1 l1 c1]) (hT:Blk 107 w T #[.slice B m d]) (hA:Zad w (.slice A1 l1 c1) r) (hB:Zad w (.slice B m d) n1) (hwr:wl r≤1000000) :
 Calls Tryz.prog 132 #[.bool s, .slice A l c, .int .i64 e, .int .i64 ((bits:Nat):Int), .func (.func 142) #[] #[.pointer (some ⟨Q,0,none⟩), .pointer (some ⟨R,0,none⟩), .pointer (some ⟨T,0,none⟩)]] w (ZaH w (Za5 s n e bits (decide (sh < 0∨r * r≠n1)))):=by
 refine Zas (Φ:=fun w=>((Glob w∧Zad w (.slice A l c) (n))∧(((((Blk 3 w Q #[.int .i64 sh]∧Blk 107 w R #[.slice A1 l1 c1])∧Blk 107 w T #[.slice B m d])∧Zad w (.slice A1 l1 c1) r)∧Zad w (.slice B m d) n1)))) Tryz.func132 rfl (by kernel_rfl) (fun w' hf=>⟨⟨hg.ext hf,hN.ext hf⟩,⟨⟨⟨⟨hQ.ext hf,hR.ext hf⟩,hT.ext hf⟩,hA.ext hf⟩,hB.ext hf⟩⟩) ?_
 refine Zac ?_
 have hbw:=Zi4 hw
 by_cases hfew:blen n≤bits
 ·obtain ⟨k,hk⟩:∃ k,bits=blen n + k:=⟨bits - blen n,by omega⟩
  refine Zab (xq 2 [(10, .p 10 0),(11, .v (.int .i64 0))] [(10,109,[.v (.bool false), .v (.slice none 0 0), .v (.int .i64 0)])] ?_)
  refine xe (Zaa (Zac (Zab (xq 1 [eS1 14 A l c] [] ?_))))
  refine xqc 139 [.slice A l c] 15 (fun _:Unit=>.int .i64 ((blen n:Nat):Int)) _ (fun w U S=>(ZbE S.1.2 hw).mono (fun _ _ h=>Zam h rfl)) (fun xx=>?_)
  refine xq 2 [(17, .v (.int .i64 (IntKind.i64.wrap (((blen n:Nat):Int) - ((bits:Nat):Int)))))] [] ?_
  rw [show IntKind.i64.wrap (((blen n:Nat):Int) - ((bits:Nat):Int)) = -((k:Nat):Int) from by rw [IntKind.wrap_i64]; omega]
  refine xq 1 [(12, .v (.int .i64 (-((k:Nat):Int))))] [] ?_
  refine xe (Zaa (Zac (Zac (Zab (xq 2 [(19, .v (.bool (decide ((-((k:Nat):Int))≤0))))] [] ?_)))))
  rw [show decide (-((k:Nat):Int)≤0)=true from decide_eq_true (by omega)]
  refine xe (Zaa (xa (Zac (Zab (xq 3 [(20, .v (.bool s)),eS1 21 A l c,(22, .v (.int .i64 e))] [] ?_)))))
  obtain ⟨r10,hr10⟩:∃ r,ZaW s (n) (e)=r:=⟨_,rfl⟩
  refine xqc 138 [.bool s, .slice A l c, .int .i64 e] 23 (shNb r10) _ (fun w U S=>((show Calls _ _ _ _ (ZaH w r10) from by rw [← hr10]; exact Zbz s _ _ _ _ _ _ S.1.1.1 S.1.1.2 hw (by omega) (by omega))).mono (fun _ _=>ZaJ)) (fun xx=>?_)
  obtain ⟨A10,l10,c10⟩:=xx
  refine xq 4 [(11, .v (.int .i64 r10.err))] [(10,109,[.v (.bool r10.s), .v (.slice A10 l10 c10), .v (.int .i64 r10.e)])] ?_
  refine xe (Zaa (Zag (Zai ?_)))
  refine Zaf (v:=.tuple #[.agg #[.bool r10.s, .slice A10 l10 c10, .int .i64 r10.e], .int .i64 r10.err]) (by kernel_rfl) (fun w' U S=>?_)
  rw [Zgr hfew,hr10]
  exact ⟨(A10,l10,c10),rfl,S.2,U⟩
 ·obtain ⟨j,hj⟩:∃ j,blen n=bits + (j + 1):=⟨blen n - bits - 1,by omega⟩
  have h0:0 < n:=Nat.pos_of_ne_zero (fun e=>by rw [e,ZdQ] at hfew; omega)
  have hw2:wl (n / 2 ^ (j + 1))≤4294967296:=Nat.le_trans (ZaU (Nat.div_le_self _ _)) hw
  have hw3:wl (n / 2 ^ (j + 1) + 1)≤4294967296:=Nat.le_trans (ZaU (Nat.div_lt_self h0 (Nat.one_lt_two_pow (by omega)))) hw
  obtain ⟨b1,hb1⟩:∃ b:Bool,decide (n / 2 ^ j % 2=1)=b:=⟨_,rfl⟩
  obtain ⟨b2,hb2⟩:∃ b:Bool,decide (n / 2 ^ (j + 1) / 2 ^ 0 % 2=1)=b:=⟨_,rfl⟩
  obtain ⟨b3,hb3⟩:∃ b:Bool,(decide (sh < 0∨r * r≠n1))=b:=⟨_,rfl⟩
  refine Zab (xq 2 [(10, .p 10 0),(11, .v (.int .i64 0))] [(10,109,[.v (.bool false), .v (.slice none 0 0), .v (.int .i64 0)])] ?_)
  refine xe (Zaa (Zac (Zab (xq 1 [eS1 14 A l c] [] ?_))))
  refine xqc 139 [.slice A l c] 15 (fun _:Unit=>.int .i64 ((blen n:Nat):Int)) _ (fun w U S=>(ZbE S.1.2 hw).mono (fun _ _ h=>Zam h rfl)) (fun xx=>?_)
  refine xq 2 [(17, .v (.int .i64 (IntKind.i64.wrap (((blen n:Nat):Int) - ((bits:Nat):Int)))))] [] ?_
  rw [show IntKind.i64.wrap (((blen n:Nat):Int) - ((bits:Nat):Int))=((j + 1:Nat):Int) from by rw [IntKind.wrap_i64]; omega]
  refine xq 1 [(12, .v (.int .i64 ((j + 1:Nat):Int)))] [] ?_
  refine xe (Zaa (Zac (Zac (Zab (xq 2 [(19, .v (.bool (decide (((j + 1:Nat):Int)≤0))))] [] ?_)))))
  rw [show decide (((j + 1:Nat):Int)≤0)=false from decide_eq_false (by omega)]
  refine xe (Zaa (xb (Zal (Zaa (Zac (Zab (xq 2 [eS1 26 A l c,(27, .v (.int .i64 ((j + 1:Nat):Int)))] [] ?_)))))))
  refine xqc 140 [.slice A l c, .int .i64 ((j + 1:Nat):Int)] 28 ZaA _ (fun w U S=>(Zch (j + 1) S.1.1.2 hw (by omega)).mono (fun _ _=>Zau)) (fun xx=>?_)
  obtain ⟨A11,l11,c11⟩:=xx
  refine xq 1 [eS1 13 A11 l11 c11] [] ?_
  refine xe (Zaa (Zac (Zac (Zab (xq 3 [eS1 29 A l c,(31, .v (.int .i64 (IntKind.i64.wrap (((j + 1:Nat):Int) - 1))))] [] ?_)))))
  rw [show IntKind.i64.wrap (((j + 1:Nat):Int) - 1)=((j:Nat):Int) from by rw [IntKind.wrap_i64]; omega]
  refine xqc 170 [.slice A l c, .int .i64 ((j:Nat):Int)] 32 (fun _:Unit=>.bool b1) _ (fun w U S=>((show Calls _ _ _ _ (RetV w (.bool b1)) from by rw [← hb1]; exact Zee (j) S.1.1.1.2 (by omega))).mono (fun _ _ h=>Zam h rfl)) (fun xx=>?_)
  refine xq 1 [(33, .v (.bool b1))] [] ?_
  rcases bl2 (b1) with hb12 | hb12
  ·rw [hb12]
   have k1:=of_decide_eq_true (hb1.trans hb12)
   refine xq 1 [eS1 34 A l c] [] ?_
   refine xqc 171 [.slice A l c] 35 (fun _:Unit=>.int .i64 ((tzn n:Nat):Int)) _ (fun w U S=>(ZeJ S.1.1.1.1.1 S.1.1.1.1.2 hw h0).mono (fun _ _ h=>Zam h rfl)) (fun xx=>?_)
   refine xq 2 [(37, .v (.int .i64 (IntKind.i64.wrap (((j + 1:Nat):Int) - 1))))] [] ?_
   rw [show IntKind.i64.wrap (((j + 1:Nat):Int) - 1)=((j:Nat):Int) from by rw [IntKind.wrap_i64]; omega]
   refine xq 2 [(39, .v (.bool (decide (((tzn n:Nat):Int) < ((j:Nat):Int)))))] [] ?_
   rcases bl2 ((decide (((tzn n:Nat):Int) < ((j:Nat):Int)))) with hb13 | hb13
   ·rw [hb13]
    have hb13':=of_decide_eq_true hb13
    have k4:tzn n < j:=by omega
    refine xr 8 [(0, .v (.bool s)),(2, .v (.int .i64 e)),(10, .p 10 0),(11, .v (.int .i64 0)),(12, .v (.int .i64 ((j + 1:Nat):Int))),eS1 13 A11 l11 c11,(47, .v (.bool true))] [(10,109,[.v (.bool false), .v (.slice none 0 0), .v (.int .i64 0)])] ?_
    refine xe (Zaa (xa (Zab (xq 1 [eS1 48 A11 l11 c11] [] ?_))))
    refine Zbx (d:=49) (fun zb:Nat=>.slice (some ⟨zb,0,none⟩) 1 1) (fun zb zw=>Blk 141 zw zb #[.int .u64 1]) (by kernel_rfl) (by kernel_rfl) (by kernel_rfl) (by kernel_rfl) (by kernel_rfl) (by kernel_rfl) (fun w U S=>Zby (t:=107) (e:=141) (n:=1) (sz:=1) (z:=.int .u64 0) (parts:=#[(0,Operand.const (Value.int IntKind.u64 1))]) (by kernel_rfl) (by kernel_rfl) (by kernel_rfl) (by kernel_rfl) (by kernel_rfl) (by kernel_rfl)) (fun b14=>?_)
    refine xr 0 [(0, .v (.bool s)),(2, .v (.int .i64 e)),(10, .p 10 0),(11, .v (.int .i64 0)),(12, .v (.int .i64 ((j + 1:Nat):Int))),eS1 13 A11 l11 c11,eS1 48 A11 l11 c11,eS1 49 (some ⟨b14,0,none⟩) 1 1] [(10,109,[.v (.bool false), .v (.slice none 0 0), .v (.int .i64 0)])] ?_
    refine xqc 135 [.slice A11 l11 c11, .slice (some ⟨b14,0,none⟩) 1 1] 50 ZaA _ (fun w U S=>(ZbW S.1.1.1.2 (Zcu S.2) hw2 wl_1).mono (fun _ _=>Zau)) (fun xx=>?_)
    obtain ⟨A15,l15,c15⟩:=xx
    refine xq 1 [eS1 13 A15 l15 c15] [] ?_
    refine xe (Zaa (Zac (Zab (xq 5 [(51, .v (.bool s)),eS1 52 A15 l15 c15,(55, .v (.int .i64 (IntKind.i64.wrap (e + ((j + 1:Nat):Int)))))] [] ?_))))
    rw [show IntKind.i64.wrap (e + ((j + 1:Nat):Int))=e + ((j + 1:Nat):Int) from by rw [IntKind.wrap_i64]; omega]
    obtain ⟨r16,hr16⟩:∃ r,ZaW s (n / 2 ^ (j + 1) + 1) ((e + ((j + 1:Nat):Int)))=r:=⟨_,rfl⟩
    refine xqc 138 [.bool s, .slice A15 l15 c15, .int .i64 (e + ((j + 1:Nat):Int))] 56 (shNb r16) _ (fun w U S=>((show Calls _ _ _ _ (ZaH w r16) from by rw [← hr16]; exact Zbz s _ _ _ _ _ _ S.1.1.1.1.1.1.1.1 S.2 hw3 (by omega) (by omega))).mono (fun _ _=>ZaJ)) (fun xx=>?_)
    obtain ⟨A16,l16,c16⟩:=xx
    refine xq 4 [(11, .v (.int .i64 r16.err))] [(10,109,[.v (.bool r16.s), .v (.slice A16 l16 c16), .v (.int .i64 r16.e)])] ?_
    refine xe (Zaa (Zag ?_))
    refine Zaf (v:=.tuple #[.agg #[.bool r16.s, .slice A16 l16 c16, .int .i64 r16.e], .int .i64 r16.err]) (by kernel_rfl) (fun w' U S=>?_)
    rw [ZcC hj k1 (Or.inl k4) h0,hr16]
    exact ⟨(A16,l16,c16),rfl,S.2,U⟩
   ·rw [hb13]
    have hb13':=of_decide_eq_false hb13
    have k4:¬ tzn n < j:=by omega
    refine xr 1 [(0, .v (.bool s)),(2, .v (.int .i64 e)),(4, .v (.func (.func 142) #[] #[.pointer (some ⟨Q,0,none⟩), .pointer (some ⟨R,0,none⟩), .pointer (some ⟨T,0,none⟩)])),(10, .p 10 0),(11, .v (.int .i64 0)),(12, .v (.int .i64 ((j + 1:Nat):Int))),eS1 13 A11 l11 c11,(33, .v (.bool true)),(39, .v (.bool false)),eS1 40 A11 l11 c11] [(10,109,[.v (.bool false), .v (.slice none 0 0), .v (.int .i64 0)])] ?_
    refine xqc 170 [.slice A11 l11 c11, .int .i64 0] 41 (fun _:Unit=>.bool b2) _ (fun w U S=>((show Calls _ _ _ _ (RetV w (.bool b2)) from by rw [← hb2]; exact Zee (0) S.1.1.2 (by omega))).mono (fun _ _ h=>Zam h rfl)) (fun xx=>?_)
    refine xq 2 [(43, .v (.bool b2))] [] ?_
    rcases bl2 (b2) with hb17 | hb17
    ·rw [hb17]
     have k2:=of_decide_eq_true (hb2.trans hb17)
     rw [Nat.pow_zero,Nat.div_one] at k2
     refine xq 4 [(47, .v (.bool true))] [] ?_
     refine xe (Zaa (xa (Zab (xq 1 [eS1 48 A11 l11 c11] [] ?_))))
     refine Zbx (d:=49) (fun zb:Nat=>.slice (some ⟨zb,0,none⟩) 1 1) (fun zb zw=>Blk 141 zw zb #[.int .u64 1]) (by kernel_rfl) (by kernel_rfl) (by kernel_rfl) (by kernel_rfl) (by kernel_rfl) (by kernel_rfl) (fun w U S=>Zby (t:=107) (e:=141) (n:=1) (sz:=1) (z:=.int .u64 0) (parts:=#[(0,Operand.const (Value.int IntKind.u64 1))]) (by kernel_rfl) (by kernel_rfl) (by kernel_rfl) (by kernel_rfl) (by kernel_rfl) (by kernel_rfl)) (fun b18=>?_)
     refine xr 0 [(0, .v (.bool s)),(2, .v (.int .i64 e)),(10, .p 10 0),(11, .v (.int .i64 0)),(12, .v (.int .i64 ((j + 1:Nat):Int))),eS1 13 A11 l11 c11,eS1 48 A11 l11 c11,eS1 49 (some ⟨b18,0,none⟩) 1 1] [(10,109,[.v (.bool false), .v (.slice none 0 0), .v (.int .i64 0)])] ?_
     refine xqc 135 [.slice A11 l11 c11, .slice (some ⟨b18,0,none⟩) 1 1] 50 ZaA _ (fun w U S=>(ZbW S.1.1.1.1.2 (Zcu S.2) hw2 wl_1).mono (fun _ _=>Zau)) (fun xx=>?_)
     obtain ⟨A19,l19,c19⟩:=xx
     refine xq 1 [eS1 13 A19 l19 c19] [] ?_
     refine xe (Zaa (Zac (Zab (xq 5 [(51, .v (.bool s)),eS1 52 A19 l19 c19,(55, .v (.int .i64 (IntKind.i64.wrap (e + ((j + 1:Nat):Int)))))] [] ?_))))
     rw [show IntKind.i64.wrap (e + ((j + 1:Nat):Int))=e + ((j + 1:Nat):Int) from by rw [IntKind.wrap_i64]; omega]
     obtain ⟨r20,hr20⟩:∃ r,ZaW s (n / 2 ^ (j + 1) + 1) ((e + ((j + 1:Nat):Int)))=r:=⟨_,rfl⟩
     refine xqc 138 [.bool s, .slice A19 l19 c19, .int .i64 (e + ((j + 1:Nat):Int))] 56 (shNb r20) _ (fun w U S=>((show Calls _ _ _ _ (ZaH w r20) from by rw [← hr20]; exact Zbz s _ _ _ _ _ _ S.1.1.1.1.1.1.1.1.1 S.2 hw3 (by omega) (by omega))).mono (fun _ _=>ZaJ)) (fun xx=>?_)
     obtain ⟨A20,l20,c20⟩:=xx
     refine xq 4 [(11, .v (.int .i64 r20.err))] [(10,109,[.v (.bool r20.s), .v (.slice A20 l20 c20), .v (.int .i64 r20.e)])] ?_
     refine xe (Zaa (Zag ?_))
     refine Zaf (v:=.tuple #[.agg #[.bool r20.s, .slice A20 l20 c20, .int .i64 r20.e], .int .i64 r20.err]) (by kernel_rfl) (fun w' U S=>?_)
     rw [ZcC hj k1 (Or.inr (Or.inl k2)) h0,hr20]
     exact ⟨(A20,l20,c20),rfl,S.2,U⟩
    ·rw [hb17]
     have k2:=of_decide_eq_false (hb2.trans hb17)
     rw [Nat.pow_zero,Nat.div_one] at k2
     refine xq 1 [(44, .v (.func (.func 142) #[] #[.pointer (some ⟨Q,0,none⟩), .pointer (some ⟨R,0,none⟩), .pointer (some ⟨T,0,none⟩)]))] [] ?_
     refine xqc 142 [.pointer (some ⟨Q,0,none⟩), .pointer (some ⟨R,0,none⟩), .pointer (some ⟨T,0,none⟩)] 45 (fun _:Unit=>.bool b3) _ (fun w U S=>((show Calls _ _ _ _ (RetV w (.bool b3)) from by rw [← hb3]; exact (fun h=>ZnY Q R T sh A1 l1 c1 r B m d n1 _ h.1.1.1.1 h.1.1.1.2 h.1.1.2 h.1.2 h.2 hwr) S.1.1.1.1.1.2)).mono (fun _ _ h=>Zam h rfl)) (fun xx=>?_)
     refine xq 2 [(47, .v (.bool b3))] [] ?_
     refine xe (Zaa ?_)
     refine Zap (b3) (by kernel_rfl) (fun hb21=>?_) (fun hb21=>?_)
     ·have k3:=hb3.trans hb21
      refine Zab (xq 1 [eS1 48 A11 l11 c11] [] ?_)
      refine Zbx (d:=49) (fun zb:Nat=>.slice (some ⟨zb,0,none⟩) 1 1) (fun zb zw=>Blk 141 zw zb #[.int .u64 1]) (by kernel_rfl) (by kernel_rfl) (by kernel_rfl) (by kernel_rfl) (by kernel_rfl) (by kernel_rfl) (fun w U S=>Zby (t:=107) (e:=141) (n:=1) (sz:=1) (z:=.int .u64 0) (parts:=#[(0,Operand.const (Value.int IntKind.u64 1))]) (by kernel_rfl) (by kernel_rfl) (by kernel_rfl) (by kernel_rfl) (by kernel_rfl) (by kernel_rfl)) (fun b22=>?_)
      refine xr 0 [(0, .v (.bool s)),(2, .v (.int .i64 e)),(10, .p 10 0),(11, .v (.int .i64 0)),(12, .v (.int .i64 ((j + 1:Nat):Int))),eS1 13 A11 l11 c11,eS1 48 A11 l11 c11,eS1 49 (some ⟨b22,0,none⟩) 1 1] [(10,109,[.v (.bool false), .v (.slice none 0 0), .v (.int .i64 0)])] ?_
      refine xqc 135 [.slice A11 l11 c11, .slice (some ⟨b22,0,none⟩) 1 1] 50 ZaA _ (fun w U S=>(ZbW S.1.1.1.1.1.2 (Zcu S.2) hw2 wl_1).mono (fun _ _=>Zau)) (fun xx=>?_)
      obtain ⟨A23,l23,c23⟩:=xx
      refine xq 1 [eS1 13 A23 l23 c23] [] ?_
      refine xe (Zaa (Zac (Zab (xq 5 [(51, .v (.bool s)),eS1 52 A23 l23 c23,(55, .v (.int .i64 (IntKind.i64.wrap (e + ((j + 1:Nat):Int)))))] [] ?_))))
      rw [show IntKind.i64.wrap (e + ((j + 1:Nat):Int))=e + ((j + 1:Nat):Int) from by rw [IntKind.wrap_i64]; omega]
      obtain ⟨r24,hr24⟩:∃ r,ZaW s (n / 2 ^ (j + 1) + 1) ((e + ((j + 1:Nat):Int)))=r:=⟨_,rfl⟩
      refine xqc 138 [.bool s, .slice A23 l23 c23, .int .i64 (e + ((j + 1:Nat):Int))] 56 (shNb r24) _ (fun w U S=>((show Calls _ _ _ _ (ZaH w r24) from by rw [← hr24]; exact Zbz s _ _ _ _ _ _ S.1.1.1.1.1.1.1.1.1.1 S.2 hw3 (by omega) (by omega))).mono (fun _ _=>ZaJ)) (fun xx=>?_)
      obtain ⟨A24,l24,c24⟩:=xx
      refine xq 4 [(11, .v (.int .i64 r24.err))] [(10,109,[.v (.bool r24.s), .v (.slice A24 l24 c24), .v (.int .i64 r24.e)])] ?_
      refine xe (Zaa (Zag ?_))
      refine Zaf (v:=.tuple #[.agg #[.bool r24.s, .slice A24 l24 c24, .int .i64 r24.e], .int .i64 r24.err]) (by kernel_rfl) (fun w' U S=>?_)
      rw [ZcC hj k1 (Or.inr (Or.inr k3)) h0,hr24]
      exact ⟨(A24,l24,c24),rfl,S.2,U⟩
     ·have k3:=hb3.trans hb21
      refine Zal (Zaa (Zac (Zab (xq 5 [(51, .v (.bool s)),eS1 52 A11 l11 c11,(55, .v (.int .i64 (IntKind.i64.wrap (e + ((j + 1:Nat):Int)))))] [] ?_))))
      rw [show IntKind.i64.wrap (e + ((j + 1:Nat):Int))=e + ((j + 1:Nat):Int) from by rw [IntKind.wrap_i64]; omega]
      obtain ⟨r25,hr25⟩:∃ r,ZaW s (n / 2 ^ (j + 1)) ((e + ((j + 1:Nat):Int)))=r:=⟨_,rfl⟩
      refine xqc 138 [.bool s, .slice A11 l11 c11, .int .i64 (e + ((j + 1:Nat):Int))] 56 (shNb r25) _ (fun w U S=>((show Calls _ _ _ _ (ZaH w r25) from by rw [← hr25]; exact Zbz s _ _ _ _ _ _ S.1.1.1.1.1.1.1.1 S.1.1.1.1.2 hw2 (by omega) (by omega))).mono (fun _ _=>ZaJ)) (fun xx=>?_)
      obtain ⟨A25,l25,c25⟩:=xx
      refine xq 4 [(11, .v (.int .i64 r25.err))] [(10,109,[.v (.bool r25.s), .v (.slice A25 l25 c25), .v (.int .i64 r25.e)])] ?_
      refine xe (Zaa (Zag ?_))
      refine Zaf (v:=.tuple #[.agg #[.bool r25.s, .slice A25 l25 c25, .int .i64 r25.e], .int .i64 r25.err]) (by kernel_rfl) (fun w' U S=>?_)
      rw [Zc8 hj h0 (fun h=>by rcases h.2 with h | h | h; exact k4 h; exact k2 h; rw [k3] at h; cases h),hr25]
      exact ⟨(A25,l25,c25),rfl,S.2,U⟩
  ·rw [hb12]
   have k1:=of_decide_eq_false (hb1.trans hb12)
   refine xq 14 [(47, .v (.bool false))] [] ?_
   refine xe (Zaa (xb (Zal (Zaa (Zac (Zab (xq 5 [(51, .v (.bool s)),eS1 52 A11 l11 c11,(55, .v (.int .i64 (IntKind.i64.wrap (e + ((j + 1:Nat):Int)))))] [] ?_)))))))
   rw [show IntKind.i64.wrap (e + ((j + 1:Nat):Int))=e + ((j + 1:Nat):Int) from by rw [IntKind.wrap_i64]; omega]
   obtain ⟨r26,hr26⟩:∃ r,ZaW s (n / 2 ^ (j + 1)) ((e + ((j + 1:Nat):Int)))=r:=⟨_,rfl⟩
   refine xqc 138 [.bool s, .slice A11 l11 c11, .int .i64 (e + ((j + 1:Nat):Int))] 56 (shNb r26) _ (fun w U S=>((show Calls _ _ _ _ (ZaH w r26) from by rw [← hr26]; exact Zbz s _ _ _ _ _ _ S.1.1.1.1.1 S.1.2 hw2 (by omega) (by omega))).mono (fun _ _=>ZaJ)) (fun xx=>?_)
   obtain ⟨A26,l26,c26⟩:=xx
   refine xq 4 [(11, .v (.int .i64 r26.err))] [(10,109,[.v (.bool r26.s), .v (.slice A26 l26 c26), .v (.int .i64 r26.e)])] ?_
   refine xe (Zaa (Zag ?_))
   refine Zaf (v:=.tuple #[.agg #[.bool r26.s, .slice A26 l26 c26, .int .i64 r26.e], .int .i64 r26.err]) (by kernel_rfl) (fun w' U S=>?_)
   rw [Zc8 hj h0 (fun h=>k1 h.1),hr26]
   exact ⟨(A26,l26,c26),rfl,S.2,U⟩
theorem ZnZ (s:Bool) (A:Option Addr) (l c x:Nat) (e:Int) (bits:Nat) (hb0:0 < bits) (hb:bits≤4096) (w:World) (hg:Glob w) (hX:Zad w (.slice A l c) x) (hwx:wl x≤100000) (he1 : -1073741824≤e) (he2:e≤1073741824) (hodd:x=0∨x % 2=1) :
 Calls Tryz.prog 98 #[.agg #[.bool s, .slice A l c, .int .i64 e], .int .i64 ((bits:Nat):Int)] w (ZaH w (ZcJ s x e bits)):=by
 refine Zas (Φ:=fun w=>(Glob w∧Zad w (.slice A l c) (x))) Tryz.func98 rfl (by kernel_rfl) (fun w' hf=>⟨hg.ext hf,hX.ext hf⟩) ?_
 refine Zac ?_
 have hln:=hX.len0
 have hzz:=@Zbk x
 have hbw:=ZcS x
 refine Zab (xq 3 [(2, .p 2 0),(4, .p 4 0),(5, .v (.int .i64 0))] [(4,109,[.v (.bool false), .v (.slice none 0 0), .v (.int .i64 0)]),(2,109,[.v (.bool s), .v (.slice A l c), .v (.int .i64 e)])] ?_)
 refine xe (Zaa (Zac (Zac (Zab (xq 2 [(10, .v (.bool s))] [] ?_)))))
 refine xe (Zaa ?_)
 refine Zap (s) (by kernel_rfl) (fun hb10=>?_) (fun hb10=>?_)
 ·have hs1:=hb10
  refine Zac (Zab (xq 3 [(5, .v (.int .i64 3))] [] ?_))
  refine xe (Zaa (Zag (Zai ?_)))
  refine Zaf (v:=.tuple #[.agg #[.bool false, .slice none 0 0, .int .i64 0], .int .i64 3]) (by kernel_rfl) (fun w' R Q=>?_)
  rw [show ZcJ s x e bits=⟨false,0,0,3⟩ from if_pos hs1]
  exact ⟨(none,0,0),rfl,Zad.zero _,R⟩
 ·have hs1:=hb10
  refine Zal (Zaa (Zac (Zac (Zab (xq 4 [(15, .v (.bool ((((l:Nat):Int):Int) == 0)))] [] ?_)))))
  refine xe (Zaa ?_)
  refine Zap (((((l:Nat):Int):Int) == 0)) (by kernel_rfl) (fun hb11=>?_) (fun hb11=>?_)
  ·have hb11':=beq_iff_eq.1 hb11
   have h0:x=0:=by omega
   refine Zac (Zab (xq 3 [(5, .v (.int .i64 0))] [] ?_))
   refine xe (Zaa (Zag (Zai ?_)))
   refine Zaf (v:=.tuple #[.agg #[.bool false, .slice none 0 0, .int .i64 0], .int .i64 0]) (by kernel_rfl) (fun w' R Q=>?_)
   rw [show ZcJ s x e bits=⟨false,0,0,0⟩ from by unfold ZcJ; rw [if_neg (by rw [hs1]; decide),if_pos h0]]
   exact ⟨(none,0,0),rfl,Zad.zero _,R⟩
  ·have hb11':=Zbh hb11
   have h0:¬ x=0:=by omega
   refine Zal (Zaa (Zac ?_))
   obtain ⟨sh0,hsh0⟩:∃ z:Int,2 * ((bits:Nat):Int) + 2 - ((blen x:Nat):Int)=z:=⟨_,rfl⟩
   refine Zab (xq 2 [(18, .v (.int .i64 (IntKind.i64.wrap (2 * ((bits:Nat):Int)))))] [] ?_)
   rw [show IntKind.i64.wrap (2 * ((bits:Nat):Int))=2 * ((bits:Nat):Int) from by rw [IntKind.wrap_i64]; omega]
   refine xq 1 [(19, .v (.int .i64 (IntKind.i64.wrap ((2 * ((bits:Nat):Int)) + 2))))] [] ?_
   rw [show IntKind.i64.wrap ((2 * ((bits:Nat):Int)) + 2)=2 * ((bits:Nat):Int) + 2 from by rw [IntKind.wrap_i64]; omega]
   refine xq 2 [eS1 21 A l c] [] ?_
   refine xqc 139 [.slice A l c] 22 (fun _:Unit=>.int .i64 ((blen x:Nat):Int)) _ (fun w R Q=>(ZbE Q.2 (by omega)).mono (fun _ _ h=>Zam h rfl)) (fun xx=>?_)
   refine xq 1 [(23, .v (.int .i64 (IntKind.i64.wrap ((2 * ((bits:Nat):Int) + 2) - ((blen x:Nat):Int)))))] [] ?_
   rw [show IntKind.i64.wrap ((2 * ((bits:Nat):Int) + 2) - ((blen x:Nat):Int))=sh0 from by rw [IntKind.wrap_i64]; omega]
   refine xq 2 [(6, .p 6 0)] [(6,3,[.v (.int .i64 sh0)])] ?_
   refine xe (Zaa (Zac (Zac ?_)))
   by_cases hpar:(e - sh0) % 2=0
   ·refine Zab (xq 4 [(27, .v (.int .i64 (IntKind.i64.wrap (e - sh0))))] [] ?_)
    rw [show IntKind.i64.wrap (e - sh0)=e - sh0 from by rw [IntKind.wrap_i64]; omega]
    refine xq 2 [(29, .v (.bool (((((e - sh0)).tmod 2):Int) != 0)))] [] ?_
    rw [show (((e - sh0).tmod 2:Int) != 0)=false from (by rw [bne_eq_false_iff_eq,ZqW]; exact hpar)]
    refine xe (Zaa (xb (Zal (Zaa (Zac ?_)))))
    obtain ⟨sh,hsh⟩:∃ z:Int,sh0=z:=⟨_,rfl⟩
    rw [hsh]
    have hm1:x % 2=1:=hodd.resolve_left h0
    have hev:(e - sh) % 2=0:=by omega
    have hlo:2 * ((bits:Nat):Int) + 2≤((blen x:Nat):Int) + sh:=by omega
    have hhi:((blen x:Nat):Int) + sh≤2 * ((bits:Nat):Int) + 3:=by omega
    obtain ⟨Y,hY⟩:∃ Y,fq x 1 (-sh)=Y:=⟨_,rfl⟩
    have hyl:=Zgq (show 0 < x by omega) sh (by omega)
    rw [hY] at hyl
    have hwY:wl Y≤200:=ZmU (by omega)
    have hwr:=Zpm hwY
    by_cases hs0:0≤sh
    ·obtain ⟨j,hj⟩:∃ j:Nat,sh=j:=Int.eq_ofNat_of_zero_le hs0
     have hYe:x * 2 ^ j / 2 ^ 0=Y:=by rw [Nat.pow_zero,Nat.div_one,← hY,hj,ZeQ]
     have hj1:j≤10000000:=by omega
     have hwu:wl (x * 2 ^ j)≤4000000:=Zfq (by omega) (by omega)
     refine ZaK 11 (by kernel_rfl) (by kernel_rfl) Zao ?_
     refine xqg 4 [eS1 33 A l c,(35, .v (.int .i64 (if 0 > sh then 0 else sh)))] ?_
     rw [(show (if 0 > sh then 0 else sh)=((j:Nat):Int) from by split<;>omega)]
     refine xqd 101 [.slice A l c, .int .i64 ((j:Nat):Int)] 36 ZaA _ (fun w R Q=>(ZbS j Q.1.2 (by omega) (by omega)).mono (fun _ _=>Zau)) (fun xx=>?_)
     obtain ⟨A12,l12,c12⟩:=xx
     refine xqg 2 [(38, .v (.int .i64 (IntKind.i64.wrap (0 - (sh)))))] ?_
     rw [show IntKind.i64.wrap (0 - (sh)) = -sh from by rw [IntKind.wrap_i64]; omega]
     refine xqg 1 [(39, .v (.int .i64 (if 0 > (-sh) then 0 else (-sh))))] ?_
     rw [(show (if 0 > (-sh) then 0 else (-sh))=((0:Nat):Int) from by split<;>omega)]
     refine xqd 140 [.slice A12 l12 c12, .int .i64 ((0:Nat):Int)] 40 ZaA _ (fun w R Q=>(Zch 0 Q.2 (by omega) (by omega)).mono (fun _ _ h=>Zau (by rw [hYe] at h; exact h))) (fun xx=>?_)
     obtain ⟨A13,l13,c13⟩:=xx
     refine xqf 2 [(7, .p 7 0)] [(7,107,[.v (.slice A13 l13 c13)]),(7,107,[.v (.slice none 0 0)]),(6,3,[.v (.int .i64 sh)]),(4,109,[.v (.bool false), .v (.slice none 0 0), .v (.int .i64 0)]),(2,109,[.v (.bool s), .v (.slice A l c), .v (.int .i64 e)])] ?_
     refine xz (xe (Zaa (Zac (Zab (xr 1 [(1, .v (.int .i64 ((bits:Nat):Int))),(2, .p 2 0),(4, .p 4 0),(5, .v (.int .i64 0)),(6, .p 6 0),(7, .p 7 0),eS1 41 A13 l13 c13] [(7,107,[.v (.slice A13 l13 c13)]),(6,3,[.v (.int .i64 sh)]),(4,109,[.v (.bool false), .v (.slice none 0 0), .v (.int .i64 0)]),(2,109,[.v (.bool s), .v (.slice A l c), .v (.int .i64 e)])] ?_)))))
     refine xqc 141 [.slice A13 l13 c13] 42 ZaA _ (fun w R Q=>(ZfA A13 l13 c13 Y _ Q.2 (by omega)).mono (fun _ _=>Zau)) (fun xx=>?_)
     obtain ⟨A14,l14,c14⟩:=xx
     refine xq 2 [(8, .p 8 0)] [(8,107,[.v (.slice A14 l14 c14)])] ?_
     refine xe (Zaa (Zac ?_))
     refine SXc.freeze 6 3 [.int .i64 sh] (fun g6=>[(1, .v (.int .i64 ((bits:Nat):Int))),(2, .p 2 0),(4, .p 4 0),(5, .v (.int .i64 0)),(6, .v (.pointer (some ⟨g6,0,none⟩))),(7, .p 7 0),(8, .p 8 0)]) [(8,107,[.v (.slice A14 l14 c14)]),(7,107,[.v (.slice A13 l13 c13)]),(4,109,[.v (.bool false), .v (.slice none 0 0), .v (.int .i64 0)]),(2,109,[.v (.bool s), .v (.slice A l c), .v (.int .i64 e)])] (by kernel_rfl) (fun _=>by kernel_rfl) (by kernel_rfl) (by kernel_rfl) (fun _=>by kernel_rfl) (fun g6=>?_)
     refine SXc.freeze 8 107 [.slice A14 l14 c14] (fun g8=>[(1, .v (.int .i64 ((bits:Nat):Int))),(2, .p 2 0),(4, .p 4 0),(5, .v (.int .i64 0)),(6, .v (.pointer (some ⟨g6,0,none⟩))),(7, .p 7 0),(8, .v (.pointer (some ⟨g8,0,none⟩)))]) [(7,107,[.v (.slice A13 l13 c13)]),(4,109,[.v (.bool false), .v (.slice none 0 0), .v (.int .i64 0)]),(2,109,[.v (.bool s), .v (.slice A l c), .v (.int .i64 e)])] (by kernel_rfl) (fun _=>by kernel_rfl) (by kernel_rfl) (by kernel_rfl) (fun _=>by kernel_rfl) (fun g8=>?_)
     refine SXc.freeze 7 107 [.slice A13 l13 c13] (fun g7=>[(1, .v (.int .i64 ((bits:Nat):Int))),(2, .p 2 0),(4, .p 4 0),(5, .v (.int .i64 0)),(6, .v (.pointer (some ⟨g6,0,none⟩))),(7, .v (.pointer (some ⟨g7,0,none⟩))),(8, .v (.pointer (some ⟨g8,0,none⟩)))]) [(4,109,[.v (.bool false), .v (.slice none 0 0), .v (.int .i64 0)]),(2,109,[.v (.bool s), .v (.slice A l c), .v (.int .i64 e)])] (by kernel_rfl) (fun _=>by kernel_rfl) (by kernel_rfl) (by kernel_rfl) (fun _=>by kernel_rfl) (fun g7=>?_)
     refine Zab ?_
     refine xqk 43 (.slice A14 l14 c14) (fun w R Q=>Za4 (t:=107) (x:=(Operand.tmp 8)) (g:=g8) (off:=0) (Blk.cell (Q.1.2) 0)) ?_
     refine xq 2 [(45, .v (.int .i64 e))] [] ?_
     refine xqk 46 (.int .i64 sh) (fun w R Q=>Za4 (t:=3) (x:=(Operand.tmp 6)) (g:=g6) (off:=0) (Blk.cell (Q.1.1.2) 0)) ?_
     refine xq 1 [(47, .v (.int .i64 (IntKind.i64.wrap (e - sh))))] [] ?_
     rw [show IntKind.i64.wrap (e - sh)=e - sh from by rw [IntKind.wrap_i64]; omega]
     refine xq 1 [(48, .v (.int .i64 (IntKind.i64.wrap (((e - sh)).tdiv 2))))] [] ?_
     rw [show IntKind.i64.wrap ((e - sh).tdiv 2)=(e - sh) / 2 from by rw [ZkD hev,IntKind.wrap_i64]; omega]
     refine xq 2 [(49, .v (.int .i64 ((bits:Nat):Int))),(50, .v (.func (.func 142) #[] #[.pointer (some ⟨g6,0,none⟩), .pointer (some ⟨g8,0,none⟩), .pointer (some ⟨g7,0,none⟩)]))] [] ?_
     obtain ⟨r15,hr15⟩:∃ r,Za5 false (isq Y) ((e - sh) / 2) bits (decide (sh < 0∨isq Y * isq Y≠Y))=r:=⟨_,rfl⟩
     refine xqc 132 [.bool false, .slice A14 l14 c14, .int .i64 ((e - sh) / 2), .int .i64 ((bits:Nat):Int), .func (.func 142) #[] #[.pointer (some ⟨g6,0,none⟩), .pointer (some ⟨g8,0,none⟩), .pointer (some ⟨g7,0,none⟩)]] 51 (shNb r15) _ (fun w R Q=>((show Calls _ _ _ _ (ZaH w r15) from by rw [← hr15]; exact ZeM false _ _ _ _ _ bits g6 g8 g7 sh A14 l14 c14 (isq Y) A13 l13 c13 Y _ Q.1.1.1.1.1.1.1.1 Q.1.1.1.2 (by omega) (by omega) (by omega) (by omega) Q.1.1.2 Q.1.2 Q.2 Q.1.1.1.2 Q.1.1.1.1.2 (by omega))).mono (fun _ _=>ZaJ)) (fun xx=>?_)
     obtain ⟨A15,l15,c15⟩:=xx
     refine xq 4 [(5, .v (.int .i64 r15.err))] [(4,109,[.v (.bool r15.s), .v (.slice A15 l15 c15), .v (.int .i64 r15.e)])] ?_
     refine xe (Zaa (Zag ?_))
     refine Zaf (v:=.tuple #[.agg #[.bool r15.s, .slice A15 l15 c15, .int .i64 r15.e], .int .i64 r15.err]) (by kernel_rfl) (fun w' R Q=>?_)
     have hrs:=Zeo hm1 e (by omega) sh hev hlo hhi
     rw [hY,show Zb9 x sh=decide (sh < 0∨isq Y * isq Y≠Y) from by unfold Zb9; rw [hY]] at hrs
     rw [show ZcJ s x e bits=Zfp x e bits from by unfold ZcJ; rw [if_neg (by rw [hs1]; decide),if_neg h0],← hrs,hr15]
     exact ⟨(A15,l15,c15),rfl,Q.2,R⟩
    ·obtain ⟨j,hj⟩:∃ j:Nat,sh = -(j:Int):=⟨(-sh).toNat,by omega⟩
     have hYe:x * 2 ^ 0 / 2 ^ j=Y:=by rw [Nat.pow_zero,Nat.mul_one,← hY,ZmT hj]
     have hj1:j≤10000000:=by omega
     have hwu:wl (x * 2 ^ 0)≤4000000:=Zfq (by omega) (by omega)
     refine ZaK 11 (by kernel_rfl) (by kernel_rfl) Zao ?_
     refine xqg 4 [eS1 33 A l c,(35, .v (.int .i64 (if 0 > sh then 0 else sh)))] ?_
     rw [(show (if 0 > sh then 0 else sh)=((0:Nat):Int) from by split<;>omega)]
     refine xqd 101 [.slice A l c, .int .i64 ((0:Nat):Int)] 36 ZaA _ (fun w R Q=>(ZbS 0 Q.1.2 (by omega) (by omega)).mono (fun _ _=>Zau)) (fun xx=>?_)
     obtain ⟨A16,l16,c16⟩:=xx
     refine xqg 2 [(38, .v (.int .i64 (IntKind.i64.wrap (0 - (sh)))))] ?_
     rw [show IntKind.i64.wrap (0 - (sh)) = -sh from by rw [IntKind.wrap_i64]; omega]
     refine xqg 1 [(39, .v (.int .i64 (if 0 > (-sh) then 0 else (-sh))))] ?_
     rw [(show (if 0 > (-sh) then 0 else (-sh))=((j:Nat):Int) from by split<;>omega)]
     refine xqd 140 [.slice A16 l16 c16, .int .i64 ((j:Nat):Int)] 40 ZaA _ (fun w R Q=>(Zch j Q.2 (by omega) (by omega)).mono (fun _ _ h=>Zau (by rw [hYe] at h; exact h))) (fun xx=>?_)
     obtain ⟨A17,l17,c17⟩:=xx
     refine xqf 2 [(7, .p 7 0)] [(7,107,[.v (.slice A17 l17 c17)]),(7,107,[.v (.slice none 0 0)]),(6,3,[.v (.int .i64 sh)]),(4,109,[.v (.bool false), .v (.slice none 0 0), .v (.int .i64 0)]),(2,109,[.v (.bool s), .v (.slice A l c), .v (.int .i64 e)])] ?_
     refine xz (xe (Zaa (Zac (Zab (xr 1 [(1, .v (.int .i64 ((bits:Nat):Int))),(2, .p 2 0),(4, .p 4 0),(5, .v (.int .i64 0)),(6, .p 6 0),(7, .p 7 0),eS1 41 A17 l17 c17] [(7,107,[.v (.slice A17 l17 c17)]),(6,3,[.v (.int .i64 sh)]),(4,109,[.v (.bool false), .v (.slice none 0 0), .v (.int .i64 0)]),(2,109,[.v (.bool s), .v (.slice A l c), .v (.int .i64 e)])] ?_)))))
     refine xqc 141 [.slice A17 l17 c17] 42 ZaA _ (fun w R Q=>(ZfA A17 l17 c17 Y _ Q.2 (by omega)).mono (fun _ _=>Zau)) (fun xx=>?_)
     obtain ⟨A18,l18,c18⟩:=xx
     refine xq 2 [(8, .p 8 0)] [(8,107,[.v (.slice A18 l18 c18)])] ?_
     refine xe (Zaa (Zac ?_))
     refine SXc.freeze 6 3 [.int .i64 sh] (fun g6=>[(1, .v (.int .i64 ((bits:Nat):Int))),(2, .p 2 0),(4, .p 4 0),(5, .v (.int .i64 0)),(6, .v (.pointer (some ⟨g6,0,none⟩))),(7, .p 7 0),(8, .p 8 0)]) [(8,107,[.v (.slice A18 l18 c18)]),(7,107,[.v (.slice A17 l17 c17)]),(4,109,[.v (.bool false), .v (.slice none 0 0), .v (.int .i64 0)]),(2,109,[.v (.bool s), .v (.slice A l c), .v (.int .i64 e)])] (by kernel_rfl) (fun _=>by kernel_rfl) (by kernel_rfl) (by kernel_rfl) (fun _=>by kernel_rfl) (fun g6=>?_)
     refine SXc.freeze 8 107 [.slice A18 l18 c18] (fun g8=>[(1, .v (.int .i64 ((bits:Nat):Int))),(2, .p 2 0),(4, .p 4 0),(5, .v (.int .i64 0)),(6, .v (.pointer (some ⟨g6,0,none⟩))),(7, .p 7 0),(8, .v (.pointer (some ⟨g8,0,none⟩)))]) [(7,107,[.v (.slice A17 l17 c17)]),(4,109,[.v (.bool false), .v (.slice none 0 0), .v (.int .i64 0)]),(2,109,[.v (.bool s), .v (.slice A l c), .v (.int .i64 e)])] (by kernel_rfl) (fun _=>by kernel_rfl) (by kernel_rfl) (by kernel_rfl) (fun _=>by kernel_rfl) (fun g8=>?_)
     refine SXc.freeze 7 107 [.slice A17 l17 c17] (fun g7=>[(1, .v (.int .i64 ((bits:Nat):Int))),(2, .p 2 0),(4, .p 4 0),(5, .v (.int .i64 0)),(6, .v (.pointer (some ⟨g6,0,none⟩))),(7, .v (.pointer (some ⟨g7,0,none⟩))),(8, .v (.pointer (some ⟨g8,0,none⟩)))]) [(4,109,[.v (.bool false), .v (.slice none 0 0), .v (.int .i64 0)]),(2,109,[.v (.bool s), .v (.slice A l c), .v (.int .i64 e)])] (by kernel_rfl) (fun _=>by kernel_rfl) (by kernel_rfl) (by kernel_rfl) (fun _=>by kernel_rfl) (fun g7=>?_)
     refine Zab ?_
     refine xqk 43 (.slice A18 l18 c18) (fun w R Q=>Za4 (t:=107) (x:=(Operand.tmp 8)) (g:=g8) (off:=0) (Blk.cell (Q.1.2) 0)) ?_
     refine xq 2 [(45, .v (.int .i64 e))] [] ?_
     refine xqk 46 (.int .i64 sh) (fun w R Q=>Za4 (t:=3) (x:=(Operand.tmp 6)) (g:=g6) (off:=0) (Blk.cell (Q.1.1.2) 0)) ?_
     refine xq 1 [(47, .v (.int .i64 (IntKind.i64.wrap (e - sh))))] [] ?_
     rw [show IntKind.i64.wrap (e - sh)=e - sh from by rw [IntKind.wrap_i64]; omega]
     refine xq 1 [(48, .v (.int .i64 (IntKind.i64.wrap (((e - sh)).tdiv 2))))] [] ?_
     rw [show IntKind.i64.wrap ((e - sh).tdiv 2)=(e - sh) / 2 from by rw [ZkD hev,IntKind.wrap_i64]; omega]
     refine xq 2 [(49, .v (.int .i64 ((bits:Nat):Int))),(50, .v (.func (.func 142) #[] #[.pointer (some ⟨g6,0,none⟩), .pointer (some ⟨g8,0,none⟩), .pointer (some ⟨g7,0,none⟩)]))] [] ?_
     obtain ⟨r19,hr19⟩:∃ r,Za5 false (isq Y) ((e - sh) / 2) bits (decide (sh < 0∨isq Y * isq Y≠Y))=r:=⟨_,rfl⟩
     refine xqc 132 [.bool false, .slice A18 l18 c18, .int .i64 ((e - sh) / 2), .int .i64 ((bits:Nat):Int), .func (.func 142) #[] #[.pointer (some ⟨g6,0,none⟩), .pointer (some ⟨g8,0,none⟩), .pointer (some ⟨g7,0,none⟩)]] 51 (shNb r19) _ (fun w R Q=>((show Calls _ _ _ _ (ZaH w r19) from by rw [← hr19]; exact ZeM false _ _ _ _ _ bits g6 g8 g7 sh A18 l18 c18 (isq Y) A17 l17 c17 Y _ Q.1.1.1.1.1.1.1.1 Q.1.1.1.2 (by omega) (by omega) (by omega) (by omega) Q.1.1.2 Q.1.2 Q.2 Q.1.1.1.2 Q.1.1.1.1.2 (by omega))).mono (fun _ _=>ZaJ)) (fun xx=>?_)
     obtain ⟨A19,l19,c19⟩:=xx
     refine xq 4 [(5, .v (.int .i64 r19.err))] [(4,109,[.v (.bool r19.s), .v (.slice A19 l19 c19), .v (.int .i64 r19.e)])] ?_
     refine xe (Zaa (Zag ?_))
     refine Zaf (v:=.tuple #[.agg #[.bool r19.s, .slice A19 l19 c19, .int .i64 r19.e], .int .i64 r19.err]) (by kernel_rfl) (fun w' R Q=>?_)
     have hrs:=Zeo hm1 e (by omega) sh hev hlo hhi
     rw [hY,show Zb9 x sh=decide (sh < 0∨isq Y * isq Y≠Y) from by unfold Zb9; rw [hY]] at hrs
     rw [show ZcJ s x e bits=Zfp x e bits from by unfold ZcJ; rw [if_neg (by rw [hs1]; decide),if_neg h0],← hrs,hr19]
     exact ⟨(A19,l19,c19),rfl,Q.2,R⟩
   ·refine Zab (xq 4 [(27, .v (.int .i64 (IntKind.i64.wrap (e - sh0))))] [] ?_)
    rw [show IntKind.i64.wrap (e - sh0)=e - sh0 from by rw [IntKind.wrap_i64]; omega]
    refine xq 2 [(29, .v (.bool (((((e - sh0)).tmod 2):Int) != 0)))] [] ?_
    rw [show (((e - sh0).tmod 2:Int) != 0)=true from bne_iff_ne.2 (mt (ZqW _).1 hpar)]
    refine xe (Zaa (xa (Zab (xq 2 [(31, .v (.int .i64 (IntKind.i64.wrap (sh0 + 1))))] [] ?_))))
    rw [show IntKind.i64.wrap (sh0 + 1)=sh0 + 1 from by rw [IntKind.wrap_i64]; omega]
    refine xq 1 [] [(6,3,[.v (.int .i64 (sh0 + 1))])] ?_
    refine xe (Zaa (Zac ?_))
    obtain ⟨sh,hsh⟩:∃ z:Int,(sh0 + 1)=z:=⟨_,rfl⟩
    rw [hsh]
    have hm1:x % 2=1:=hodd.resolve_left h0
    have hev:(e - sh) % 2=0:=by omega
    have hlo:2 * ((bits:Nat):Int) + 2≤((blen x:Nat):Int) + sh:=by omega
    have hhi:((blen x:Nat):Int) + sh≤2 * ((bits:Nat):Int) + 3:=by omega
    obtain ⟨Y,hY⟩:∃ Y,fq x 1 (-sh)=Y:=⟨_,rfl⟩
    have hyl:=Zgq (show 0 < x by omega) sh (by omega)
    rw [hY] at hyl
    have hwY:wl Y≤200:=ZmU (by omega)
    have hwr:=Zpm hwY
    by_cases hs0:0≤sh
    ·obtain ⟨j,hj⟩:∃ j:Nat,sh=j:=Int.eq_ofNat_of_zero_le hs0
     have hYe:x * 2 ^ j / 2 ^ 0=Y:=by rw [Nat.pow_zero,Nat.div_one,← hY,hj,ZeQ]
     have hj1:j≤10000000:=by omega
     have hwu:wl (x * 2 ^ j)≤4000000:=Zfq (by omega) (by omega)
     refine ZaK 11 (by kernel_rfl) (by kernel_rfl) Zao ?_
     refine xqg 4 [eS1 33 A l c,(35, .v (.int .i64 (if 0 > sh then 0 else sh)))] ?_
     rw [(show (if 0 > sh then 0 else sh)=((j:Nat):Int) from by split<;>omega)]
     refine xqd 101 [.slice A l c, .int .i64 ((j:Nat):Int)] 36 ZaA _ (fun w R Q=>(ZbS j Q.1.2 (by omega) (by omega)).mono (fun _ _=>Zau)) (fun xx=>?_)
     obtain ⟨A20,l20,c20⟩:=xx
     refine xqg 2 [(38, .v (.int .i64 (IntKind.i64.wrap (0 - (sh)))))] ?_
     rw [show IntKind.i64.wrap (0 - (sh)) = -sh from by rw [IntKind.wrap_i64]; omega]
     refine xqg 1 [(39, .v (.int .i64 (if 0 > (-sh) then 0 else (-sh))))] ?_
     rw [(show (if 0 > (-sh) then 0 else (-sh))=((0:Nat):Int) from by split<;>omega)]
     refine xqd 140 [.slice A20 l20 c20, .int .i64 ((0:Nat):Int)] 40 ZaA _ (fun w R Q=>(Zch 0 Q.2 (by omega) (by omega)).mono (fun _ _ h=>Zau (by rw [hYe] at h; exact h))) (fun xx=>?_)
     obtain ⟨A21,l21,c21⟩:=xx
     refine xqf 2 [(7, .p 7 0)] [(7,107,[.v (.slice A21 l21 c21)]),(7,107,[.v (.slice none 0 0)]),(6,3,[.v (.int .i64 sh)]),(4,109,[.v (.bool false), .v (.slice none 0 0), .v (.int .i64 0)]),(2,109,[.v (.bool s), .v (.slice A l c), .v (.int .i64 e)])] ?_
     refine xz (xe (Zaa (Zac (Zab (xr 1 [(1, .v (.int .i64 ((bits:Nat):Int))),(2, .p 2 0),(4, .p 4 0),(5, .v (.int .i64 0)),(6, .p 6 0),(7, .p 7 0),eS1 41 A21 l21 c21] [(7,107,[.v (.slice A21 l21 c21)]),(6,3,[.v (.int .i64 sh)]),(4,109,[.v (.bool false), .v (.slice none 0 0), .v (.int .i64 0)]),(2,109,[.v (.bool s), .v (.slice A l c), .v (.int .i64 e)])] ?_)))))
     refine xqc 141 [.slice A21 l21 c21] 42 ZaA _ (fun w R Q=>(ZfA A21 l21 c21 Y _ Q.2 (by omega)).mono (fun _ _=>Zau)) (fun xx=>?_)
     obtain ⟨A22,l22,c22⟩:=xx
     refine xq 2 [(8, .p 8 0)] [(8,107,[.v (.slice A22 l22 c22)])] ?_
     refine xe (Zaa (Zac ?_))
     refine SXc.freeze 6 3 [.int .i64 sh] (fun g6=>[(1, .v (.int .i64 ((bits:Nat):Int))),(2, .p 2 0),(4, .p 4 0),(5, .v (.int .i64 0)),(6, .v (.pointer (some ⟨g6,0,none⟩))),(7, .p 7 0),(8, .p 8 0)]) [(8,107,[.v (.slice A22 l22 c22)]),(7,107,[.v (.slice A21 l21 c21)]),(4,109,[.v (.bool false), .v (.slice none 0 0), .v (.int .i64 0)]),(2,109,[.v (.bool s), .v (.slice A l c), .v (.int .i64 e)])] (by kernel_rfl) (fun _=>by kernel_rfl) (by kernel_rfl) (by kernel_rfl) (fun _=>by kernel_rfl) (fun g6=>?_)
     refine SXc.freeze 8 107 [.slice A22 l22 c22] (fun g8=>[(1, .v (.int .i64 ((bits:Nat):Int))),(2, .p 2 0),(4, .p 4 0),(5, .v (.int .i64 0)),(6, .v (.pointer (some ⟨g6,0,none⟩))),(7, .p 7 0),(8, .v (.pointer (some ⟨g8,0,none⟩)))]) [(7,107,[.v (.slice A21 l21 c21)]),(4,109,[.v (.bool false), .v (.slice none 0 0), .v (.int .i64 0)]),(2,109,[.v (.bool s), .v (.slice A l c), .v (.int .i64 e)])] (by kernel_rfl) (fun _=>by kernel_rfl) (by kernel_rfl) (by kernel_rfl) (fun _=>by kernel_rfl) (fun g8=>?_)
     refine SXc.freeze 7 107 [.slice A21 l21 c21] (fun g7=>[(1, .v (.int .i64 ((bits:Nat):Int))),(2, .p 2 0),(4, .p 4 0),(5, .v (.int .i64 0)),(6, .v (.pointer (some ⟨g6,0,none⟩))),(7, .v (.pointer (some ⟨g7,0,none⟩))),(8, .v (.pointer (some ⟨g8,0,none⟩)))]) [(4,109,[.v (.bool false), .v (.slice none 0 0), .v (.int .i64 0)]),(2,109,[.v (.bool s), .v (.slice A l c), .v (.int .i64 e)])] (by kernel_rfl) (fun _=>by kernel_rfl) (by kernel_rfl) (by kernel_rfl) (fun _=>by kernel_rfl) (fun g7=>?_)
     refine Zab ?_
     refine xqk 43 (.slice A22 l22 c22) (fun w R Q=>Za4 (t:=107) (x:=(Operand.tmp 8)) (g:=g8) (off:=0) (Blk.cell (Q.1.2) 0)) ?_
     refine xq 2 [(45, .v (.int .i64 e))] [] ?_
     refine xqk 46 (.int .i64 sh) (fun w R Q=>Za4 (t:=3) (x:=(Operand.tmp 6)) (g:=g6) (off:=0) (Blk.cell (Q.1.1.2) 0)) ?_
     refine xq 1 [(47, .v (.int .i64 (IntKind.i64.wrap (e - sh))))] [] ?_
     rw [show IntKind.i64.wrap (e - sh)=e - sh from by rw [IntKind.wrap_i64]; omega]
     refine xq 1 [(48, .v (.int .i64 (IntKind.i64.wrap (((e - sh)).tdiv 2))))] [] ?_
     rw [show IntKind.i64.wrap ((e - sh).tdiv 2)=(e - sh) / 2 from by rw [ZkD hev,IntKind.wrap_i64]; omega]
     refine xq 2 [(49, .v (.int .i64 ((bits:Nat):Int))),(50, .v (.func (.func 142) #[] #[.pointer (some ⟨g6,0,none⟩), .pointer (some ⟨g8,0,none⟩), .pointer (some ⟨g7,0,none⟩)]))] [] ?_
     obtain ⟨r23,hr23⟩:∃ r,Za5 false (isq Y) ((e - sh) / 2) bits (decide (sh < 0∨isq Y * isq Y≠Y))=r:=⟨_,rfl⟩
     refine xqc 132 [.bool false, .slice A22 l22 c22, .int .i64 ((e - sh) / 2), .int .i64 ((bits:Nat):Int), .func (.func 142) #[] #[.pointer (some ⟨g6,0,none⟩), .pointer (some ⟨g8,0,none⟩), .pointer (some ⟨g7,0,none⟩)]] 51 (shNb r23) _ (fun w R Q=>((show Calls _ _ _ _ (ZaH w r23) from by rw [← hr23]; exact ZeM false _ _ _ _ _ bits g6 g8 g7 sh A22 l22 c22 (isq Y) A21 l21 c21 Y _ Q.1.1.1.1.1.1.1.1 Q.1.1.1.2 (by omega) (by omega) (by omega) (by omega) Q.1.1.2 Q.1.2 Q.2 Q.1.1.1.2 Q.1.1.1.1.2 (by omega))).mono (fun _ _=>ZaJ)) (fun xx=>?_)
     obtain ⟨A23,l23,c23⟩:=xx
     refine xq 4 [(5, .v (.int .i64 r23.err))] [(4,109,[.v (.bool r23.s), .v (.slice A23 l23 c23), .v (.int .i64 r23.e)])] ?_
     refine xe (Zaa (Zag ?_))
     refine Zaf (v:=.tuple #[.agg #[.bool r23.s, .slice A23 l23 c23, .int .i64 r23.e], .int .i64 r23.err]) (by kernel_rfl) (fun w' R Q=>?_)
     have hrs:=Zeo hm1 e (by omega) sh hev hlo hhi
     rw [hY,show Zb9 x sh=decide (sh < 0∨isq Y * isq Y≠Y) from by unfold Zb9; rw [hY]] at hrs
     rw [show ZcJ s x e bits=Zfp x e bits from by unfold ZcJ; rw [if_neg (by rw [hs1]; decide),if_neg h0],← hrs,hr23]
     exact ⟨(A23,l23,c23),rfl,Q.2,R⟩
    ·obtain ⟨j,hj⟩:∃ j:Nat,sh = -(j:Int):=⟨(-sh).toNat,by omega⟩
     have hYe:x * 2 ^ 0 / 2 ^ j=Y:=by rw [Nat.pow_zero,Nat.mul_one,← hY,ZmT hj]
     have hj1:j≤10000000:=by omega
     have hwu:wl (x * 2 ^ 0)≤4000000:=Zfq (by omega) (by omega)
     refine ZaK 11 (by kernel_rfl) (by kernel_rfl) Zao ?_
     refine xqg 4 [eS1 33 A l c,(35, .v (.int .i64 (if 0 > sh then 0 else sh)))] ?_
     rw [(show (if 0 > sh then 0 else sh)=((0:Nat):Int) from by split<;>omega)]
     refine xqd 101 [.slice A l c, .int .i64 ((0:Nat):Int)] 36 ZaA _ (fun w R Q=>(ZbS 0 Q.1.2 (by omega) (by omega)).mono (fun _ _=>Zau)) (fun xx=>?_)
     obtain ⟨A24,l24,c24⟩:=xx
     refine xqg 2 [(38, .v (.int .i64 (IntKind.i64.wrap (0 - (sh)))))] ?_
     rw [show IntKind.i64.wrap (0 - (sh)) = -sh from by rw [IntKind.wrap_i64]; omega]
     refine xqg 1 [(39, .v (.int .i64 (if 0 > (-sh) then 0 else (-sh))))] ?_
     rw [(show (if 0 > (-sh) then 0 else (-sh))=((j:Nat):Int) from by split<;>omega)]
     refine xqd 140 [.slice A24 l24 c24, .int .i64 ((j:Nat):Int)] 40 ZaA _ (fun w R Q=>(Zch j Q.2 (by omega) (by omega)).mono (fun _ _ h=>Zau (by rw [hYe] at h; exact h))) (fun xx=>?_)
     obtain ⟨A25,l25,c25⟩:=xx
     refine xqf 2 [(7, .p 7 0)] [(7,107,[.v (.slice A25 l25 c25)]),(7,107,[.v (.slice none 0 0)]),(6,3,[.v (.int .i64 sh)]),(4,109,[.v (.bool false), .v (.slice none 0 0), .v (.int .i64 0)]),(2,109,[.v (.bool s), .v (.slice A l c), .v (.int .i64 e)])] ?_
     refine xz (xe (Zaa (Zac (Zab (xr 1 [(1, .v (.int .i64 ((bits:Nat):Int))),(2, .p 2 0),(4, .p 4 0),(5, .v (.int .i64 0)),(6, .p 6 0),(7, .p 7 0),eS1 41 A25 l25 c25] [(7,107,[.v (.slice A25 l25 c25)]),(6,3,[.v (.int .i64 sh)]),(4,109,[.v (.bool false), .v (.slice none 0 0), .v (.int .i64 0)]),(2,109,[.v (.bool s), .v (.slice A l c), .v (.int .i64 e)])] ?_)))))
     refine xqc 141 [.slice A25 l25 c25] 42 ZaA _ (fun w R Q=>(ZfA A25 l25 c25 Y _ Q.2 (by omega)).mono (fun _ _=>Zau)) (fun xx=>?_)
     obtain ⟨A26,l26,c26⟩:=xx
     refine xq 2 [(8, .p 8 0)] [(8,107,[.v (.slice A26 l26 c26)])] ?_
     refine xe (Zaa (Zac ?_))
     refine SXc.freeze 6 3 [.int .i64 sh] (fun g6=>[(1, .v (.int .i64 ((bits:Nat):Int))),(2, .p 2 0),(4, .p 4 0),(5, .v (.int .i64 0)),(6, .v (.pointer (some ⟨g6,0,none⟩))),(7, .p 7 0),(8, .p 8 0)]) [(8,107,[.v (.slice A26 l26 c26)]),(7,107,[.v (.slice A25 l25 c25)]),(4,109,[.v (.bool false), .v (.slice none 0 0), .v (.int .i64 0)]),(2,109,[.v (.bool s), .v (.slice A l c), .v (.int .i64 e)])] (by kernel_rfl) (fun _=>by kernel_rfl) (by kernel_rfl) (by kernel_rfl) (fun _=>by kernel_rfl) (fun g6=>?_)
     refine SXc.freeze 8 107 [.slice A26 l26 c26] (fun g8=>[(1, .v (.int .i64 ((bits:Nat):Int))),(2, .p 2 0),(4, .p 4 0),(5, .v (.int .i64 0)),(6, .v (.pointer (some ⟨g6,0,none⟩))),(7, .p 7 0),(8, .v (.pointer (some ⟨g8,0,none⟩)))]) [(7,107,[.v (.slice A25 l25 c25)]),(4,109,[.v (.bool false), .v (.slice none 0 0), .v (.int .i64 0)]),(2,109,[.v (.bool s), .v (.slice A l c), .v (.int .i64 e)])] (by kernel_rfl) (fun _=>by kernel_rfl) (by kernel_rfl) (by kernel_rfl) (fun _=>by kernel_rfl) (fun g8=>?_)
     refine SXc.freeze 7 107 [.slice A25 l25 c25] (fun g7=>[(1, .v (.int .i64 ((bits:Nat):Int))),(2, .p 2 0),(4, .p 4 0),(5, .v (.int .i64 0)),(6, .v (.pointer (some ⟨g6,0,none⟩))),(7, .v (.pointer (some ⟨g7,0,none⟩))),(8, .v (.pointer (some ⟨g8,0,none⟩)))]) [(4,109,[.v (.bool false), .v (.slice none 0 0), .v (.int .i64 0)]),(2,109,[.v (.bool s), .v (.slice A l c), .v (.int .i64 e)])] (by kernel_rfl) (fun _=>by kernel_rfl) (by kernel_rfl) (by kernel_rfl) (fun _=>by kernel_rfl) (fun g7=>?_)
     refine Zab ?_
     refine xqk 43 (.slice A26 l26 c26) (fun w R Q=>Za4 (t:=107) (x:=(Operand.tmp 8)) (g:=g8) (off:=0) (Blk.cell (Q.1.2) 0)) ?_
     refine xq 2 [(45, .v (.int .i64 e))] [] ?_
     refine xqk 46 (.int .i64 sh) (fun w R Q=>Za4 (t:=3) (x:=(Operand.tmp 6)) (g:=g6) (off:=0) (Blk.cell (Q.1.1.2) 0)) ?_
     refine xq 1 [(47, .v (.int .i64 (IntKind.i64.wrap (e - sh))))] [] ?_
     rw [show IntKind.i64.wrap (e - sh)=e - sh from by rw [IntKind.wrap_i64]; omega]
     refine xq 1 [(48, .v (.int .i64 (IntKind.i64.wrap (((e - sh)).tdiv 2))))] [] ?_
     rw [show IntKind.i64.wrap ((e - sh).tdiv 2)=(e - sh) / 2 from by rw [ZkD hev,IntKind.wrap_i64]; omega]
     refine xq 2 [(49, .v (.int .i64 ((bits:Nat):Int))),(50, .v (.func (.func 142) #[] #[.pointer (some ⟨g6,0,none⟩), .pointer (some ⟨g8,0,none⟩), .pointer (some ⟨g7,0,none⟩)]))] [] ?_
     obtain ⟨r27,hr27⟩:∃ r,Za5 false (isq Y) ((e - sh) / 2) bits (decide (sh < 0∨isq Y * isq Y≠Y))=r:=⟨_,rfl⟩
     refine xqc 132 [.bool false, .slice A26 l26 c26, .int .i64 ((e - sh) / 2), .int .i64 ((bits:Nat):Int), .func (.func 142) #[] #[.pointer (some ⟨g6,0,none⟩), .pointer (some ⟨g8,0,none⟩), .pointer (some ⟨g7,0,none⟩)]] 51 (shNb r27) _ (fun w R Q=>((show Calls _ _ _ _ (ZaH w r27) from by rw [← hr27]; exact ZeM false _ _ _ _ _ bits g6 g8 g7 sh A26 l26 c26 (isq Y) A25 l25 c25 Y _ Q.1.1.1.1.1.1.1.1 Q.1.1.1.2 (by omega) (by omega) (by omega) (by omega) Q.1.1.2 Q.1.2 Q.2 Q.1.1.1.2 Q.1.1.1.1.2 (by omega))).mono (fun _ _=>ZaJ)) (fun xx=>?_)
     obtain ⟨A27,l27,c27⟩:=xx
     refine xq 4 [(5, .v (.int .i64 r27.err))] [(4,109,[.v (.bool r27.s), .v (.slice A27 l27 c27), .v (.int .i64 r27.e)])] ?_
     refine xe (Zaa (Zag ?_))
     refine Zaf (v:=.tuple #[.agg #[.bool r27.s, .slice A27 l27 c27, .int .i64 r27.e], .int .i64 r27.err]) (by kernel_rfl) (fun w' R Q=>?_)
     have hrs:=Zeo hm1 e (by omega) sh hev hlo hhi
     rw [hY,show Zb9 x sh=decide (sh < 0∨isq Y * isq Y≠Y) from by unfold Zb9; rw [hY]] at hrs
     rw [show ZcJ s x e bits=Zfp x e bits from by unfold ZcJ; rw [if_neg (by rw [hs1]; decide),if_neg h0],← hrs,hr27]
     exact ⟨(A27,l27,c27),rfl,Q.2,R⟩
end Go.Proofs.YtenchljfmfgeoaaGreatDoor

namespace Go.Proofs.YtenchljfmfgeoaaGreatDoor
open Go.RowKit
theorem Zn0 (s:Bool) (A:Option Addr) (l c:Nat) (e:Int) (w:World) (hX:Zad w (.slice A l c) 0) :
 Calls Tryz.prog 169 #[.agg #[.bool s, .slice A l c, .int .i64 e]] w (RetV w (.agg #[.bool s, .slice A l c, .int .i64 e])):=by
 refine Zas (Φ:=fun w=>Zad w (.slice A l c) (0)) Tryz.func169 rfl (by kernel_rfl) (fun w' hf=>hX.ext hf) ?_
 refine Zac ?_
 have hln:=hX.len0
 have hzz:=@Zbk 0
 refine Zab (xq 2 [(1, .p 1 0),(2, .p 2 0)] [(2,109,[.v (.bool false), .v (.slice none 0 0), .v (.int .i64 0)]),(1,109,[.v (.bool s), .v (.slice A l c), .v (.int .i64 e)])] ?_)
 refine xe (Zaa (Zac (Zac (Zab (xq 4 [(6, .v (.bool (decide (((l:Nat):Int) > 0))))] [] ?_)))))
 rw [show decide (((l:Nat):Int) > 0)=false from decide_eq_false (by omega)]
 refine xe (Zaa (xb (Zal (Zaa (Zac (Zab (xq 2 [] [(2,109,[.v (.bool s), .v (.slice A l c), .v (.int .i64 e)])] ?_)))))))
 refine xe (Zaa (Zag ?_))
 refine Zaf (v:=.agg #[.bool s, .slice A l c, .int .i64 e]) (by kernel_rfl) (fun w' R Q=>?_)
 exact ⟨rfl,R⟩
theorem Zpo (s:Bool) (A:Option Addr) (l c x:Nat) (e:Int) (t:Bool) (B:Option Addr) (m d y:Nat) (f:Int) (bits:Nat) (hb0:0 < bits) (hb:bits≤4096) (w:World) (hg:Glob w) (hX:Zad w (.slice A l c) x) (hwx:wl x≤100000) (he1 : -1073741824≤e) (he2:e≤1073741824) (hY:Zad w (.slice B m d) y) (hwy:wl y≤100000) (hf1 : -1073741824≤f) (hf2:f≤1073741824) :
 Calls Tryz.prog 129 #[.agg #[.bool s, .slice A l c, .int .i64 e], .agg #[.bool t, .slice B m d, .int .i64 f], .int .i64 ((bits:Nat):Int)] w (ZaH w (sumR s x e (if y=0 then t else !t) y f bits)):=by
 refine Zas (Φ:=fun w=>((Glob w∧Zad w (.slice A l c) (x))∧Zad w (.slice B m d) (y))) Tryz.func129 rfl (by kernel_rfl) (fun w' hf=>⟨⟨hg.ext hf,hX.ext hf⟩,hY.ext hf⟩) ?_
 refine Zac (Zab (xq 4 [(3, .p 3 0),(4, .p 4 0),(6, .p 6 0),(7, .v (.int .i64 0))] [(6,109,[.v (.bool false), .v (.slice none 0 0), .v (.int .i64 0)]),(4,109,[.v (.bool t), .v (.slice B m d), .v (.int .i64 f)]),(3,109,[.v (.bool s), .v (.slice A l c), .v (.int .i64 e)])] ?_))
 refine xe (Zaa (Zac ?_))
 by_cases hy0:y=0
 ·refine ZaK 9 (by kernel_rfl) (by kernel_rfl) Zao ?_
  refine xqg 2 [(8, .v (.agg #[.bool s, .slice A l c, .int .i64 e])),(9, .v (.agg #[.bool t, .slice B m d, .int .i64 f]))] ?_
  refine xqd 169 [.agg #[.bool t, .slice B m d, .int .i64 f]] 10 (fun _:Unit=>.agg #[.bool t, .slice B m d, .int .i64 f]) _ (fun w R Q=>(Zn0 t B m d f _ (by have h:=Q.2; rw [hy0] at h; exact h)).mono (fun _ _ h=>Zam h rfl)) (fun xx=>?_)
  refine xqg 1 [(11, .v (.int .i64 ((bits:Nat):Int)))] ?_
  obtain ⟨r10,hr10⟩:∃ r,sumR s x e t y f bits=r:=⟨_,rfl⟩
  refine xqd 91 [.agg #[.bool s, .slice A l c, .int .i64 e], .agg #[.bool t, .slice B m d, .int .i64 f], .int .i64 ((bits:Nat):Int)] 12 (shNb r10) _ (fun w R Q=>((show Calls _ _ _ _ (ZaH w r10) from by rw [← hr10]; exact Zj7 s A l c x e t B m d y f bits hb0 hb _ Q.1.1.1 Q.1.1.2 hwx he1 he2 Q.1.2 hwy hf1 hf2)).mono (fun _ _=>ZaJ)) (fun xx=>?_)
  obtain ⟨A10,l10,c10⟩:=xx
  refine xqf 4 [(7, .v (.int .i64 r10.err))] [(6,109,[.v (.bool r10.s), .v (.slice A10 l10 c10), .v (.int .i64 r10.e)]),(6,109,[.v (.bool false), .v (.slice none 0 0), .v (.int .i64 0)]),(4,109,[.v (.bool t), .v (.slice B m d), .v (.int .i64 f)]),(3,109,[.v (.bool s), .v (.slice A l c), .v (.int .i64 e)])] ?_
  refine xz (xe (Zaa (Zag ?_)))
  refine Zaf (v:=.tuple #[.agg #[.bool r10.s, .slice A10 l10 c10, .int .i64 r10.e], .int .i64 r10.err]) (by kernel_rfl) (fun w' R Q=>?_)
  rw [show (if y=0 then t else !t)=t from if_pos hy0,hr10]
  exact ⟨(A10,l10,c10),rfl,Q.2,R⟩
 ·refine ZaK 9 (by kernel_rfl) (by kernel_rfl) Zao ?_
  refine xqg 2 [(8, .v (.agg #[.bool s, .slice A l c, .int .i64 e])),(9, .v (.agg #[.bool t, .slice B m d, .int .i64 f]))] ?_
  refine xqd 169 [.agg #[.bool t, .slice B m d, .int .i64 f]] 10 (fun _:Unit=>.agg #[.bool (!t), .slice B m d, .int .i64 f]) _ (fun w R Q=>(Zpk t B m d y f _ Q.2 (by omega)).mono (fun _ _ h=>Zam h rfl)) (fun xx=>?_)
  refine xqg 1 [(11, .v (.int .i64 ((bits:Nat):Int)))] ?_
  obtain ⟨r11,hr11⟩:∃ r,sumR s x e ((!t)) y f bits=r:=⟨_,rfl⟩
  refine xqd 91 [.agg #[.bool s, .slice A l c, .int .i64 e], .agg #[.bool (!t), .slice B m d, .int .i64 f], .int .i64 ((bits:Nat):Int)] 12 (shNb r11) _ (fun w R Q=>((show Calls _ _ _ _ (ZaH w r11) from by rw [← hr11]; exact Zj7 s A l c x e ((!t)) B m d y f bits hb0 hb _ Q.1.1.1 Q.1.1.2 hwx he1 he2 Q.1.2 hwy hf1 hf2)).mono (fun _ _=>ZaJ)) (fun xx=>?_)
  obtain ⟨A11,l11,c11⟩:=xx
  refine xqf 4 [(7, .v (.int .i64 r11.err))] [(6,109,[.v (.bool r11.s), .v (.slice A11 l11 c11), .v (.int .i64 r11.e)]),(6,109,[.v (.bool false), .v (.slice none 0 0), .v (.int .i64 0)]),(4,109,[.v (.bool t), .v (.slice B m d), .v (.int .i64 f)]),(3,109,[.v (.bool s), .v (.slice A l c), .v (.int .i64 e)])] ?_
  refine xz (xe (Zaa (Zag ?_)))
  refine Zaf (v:=.tuple #[.agg #[.bool r11.s, .slice A11 l11 c11, .int .i64 r11.e], .int .i64 r11.err]) (by kernel_rfl) (fun w' R Q=>?_)
  rw [show (if y=0 then t else !t)=(!t) from if_neg hy0,hr11]
  exact ⟨(A11,l11,c11),rfl,Q.2,R⟩
end Go.Proofs.YtenchljfmfgeoaaGreatDoor
