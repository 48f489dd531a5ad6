/-
 My texts Nx, Ny, FlE, FllL, Rb23, Nz, FslL, Ne, Fvl, Rn1, Rn2, Rn3 put together.
-/
import Derived.Test.YtklpdkpcocnglaaGreatDoorW17
import Derived.Test.YtklpdkpcocnglaaGreatDoorW18
import Derived.Test.YtklpdkpcocnglaaGreatDoorW19
import Derived.Test.YtklpdkpcocnglaaGreatDoorW21
import Derived.Test.YtklpdkpcocnglaaGreatDoorW16
import Derived.Laws.StructEq
import Derived.Deep.RegionHeld3
set_option maxRecDepth 100000
set_option maxHeartbeats 8000000
namespace Go.Proofs.YtklpdkpcocnglaaGreatDoor
open Go.RowKit
def ldR (l:List UInt8) (x:Int):FR:=if fvB l x=true then ⟨(xA l).1,zL (xA l).2,x,0⟩ else ⟨false,0,0,0⟩
def shLd (v:Bool) (r:FR) (x:ShN):Value:=.tuple #[yV r.s x.1 x.2.1 x.2.2 r.e,.bool v]
def kK (w:World) (v:Bool) (r:FR) (e:Ending) (w':World):Prop:=∃ x:ShN,e=.returned (shLd v r x)∧zJ w' (xJ x) r.m∧Ext w w'
theorem lD {w w':World}{e:Ending}{v:Bool}{r:FR}(h:kK w v r e w'):kF (shLd v r) (fun x w=>zJ w (xJ x) r.m) w e w':=by
 obtain⟨x,rfl,a,Q⟩:=h
 exact⟨x,rfl,Q,boxn Q (fun S b c d=>a.nrb c d)⟩
def frT (r:FR):List UInt8:=if r.err=0 then Lib.itoa (sg r.s r.m) else []
def frE (r:FR):Int:=if r.err=0 then r.e else 0
abbrev kG (w:World) (r:FR):Ending→World→Prop:=RetV w (.tuple #[yS ⟨(frT r).toArray⟩ (frE r),.int .i64 r.err])
def Fine (r:FR):Prop:=(r.s=true→0<r.m)∧wl r.m≤1000000
theorem Zae (k:Int):Fine ⟨false,0,0,k⟩:=⟨(fun h=>by cases h),(by show (0:Nat)≤1000000;decide)⟩
theorem Zg8 {s:Bool}{n:Nat}{e:Int}(h:wl n≤1000000):Fine (wV s n e):=by
 unfold wV
 split
 ·exact Zae 0
 rename_i a
 split
 ·obtain⟨b,c⟩:=fO (show 0<n by omega)
  exact⟨fun _=>by show 0<oddM n;omega,uA (wW (uO _ _)) h⟩
 exact Zae 2
theorem bU {s:Bool}{n d bits:Nat}{e:Int}(a:0<d)(b:0<bits)(c:bits≤4096):Fine (xK s n d e bits):=by
 unfold xK
 split
 ·exact Zae 0
 refine Zg8 ?_
 have f:=ZaD (n:=n) (d:=d) (bits:=bits) (by omega) a b
 have h:=(Zd6 (fa n (rndK n d bits)) (fb d (rndK n d bits))).2
 have i:fa n (rndK n d bits)/fb d (rndK n d bits)<2^bits:=by
  have:=iF (fq n d (rndK n d bits))
  rw[f] at this
  exact this
 have g:rndM n d bits≤2^bits:=by unfold rndM;omega
 have j:wl (2^bits)≤1000:=ZfN (by omega)
 have:=wW g
 omega
theorem ZiO {sx c:Bool}{d ym bits:Nat}{xe e:Int}(b:0<bits)(a:bits≤4096):Fine (sumR sx d xe c ym e bits):=by
 unfold sumR
 split
 ·exact bU (by decide) b a
 split
 ·exact bU (by decide) b a
 exact bU (by decide) b a
theorem Zop {s:Bool}{m n bits:Nat}{e:Int}(b:0<bits)(a:bits≤4096):Fine (ZbD s m n e bits):=by
 unfold ZbD
 split
 ·exact Zae 5
 exact bU (by omega) b a
theorem ZpL (n:Nat):(Lib.decDigits n).length≤20*wl n+1:=by
 rw[Lib.decDigits_length]
 refine ZbT (20*wl n) n ?_
 have b:=ZdU n
 have a:W64^wl n≤(10^20)^wl n:=sD (by rw[zO];decide) _
 rw[←sS] at a
 have c:10^(20*wl n)≤10^(20*wl n+1):=uY (by decide) (by omega)
 omega
theorem wO {l:List UInt8}{x:Int}(h:fvB l x=true) : -1048576≤x∧x≤1048576∧(xA l).2.all zV=true∧((xA l).1=true→0<zL (xA l).2):=by
 unfold fvB at h
 by_cases a:l=[48]
 ·rw[uP a] at h
  have:=uC h
  subst a
  exact⟨by omega,by omega,by decide,fun h=>by cases h⟩
 rw[uN a] at h
 obtain⟨_,_,b,c,d⟩:=uC h
 exact⟨b.1,b.2,c,fun _=>by omega⟩
theorem ZaQ (l:List UInt8):(xA l).2.length≤l.length:=by
 unfold xA;split
 ·simp
 exact uK _
theorem dL {l:List UInt8}{x:Int}(c:l.length≤100000):wl (ldR l x).m≤100000:=by
 unfold ldR
 split
 ·rename_i h
  have a:=wO h
  have b:=kC _ a.2.2.1
  have d:=ZaQ l
  exact Zbf b (by omega)
 show (0:Nat)≤100000;decide
theorem wA (s:ByteArray)(x:Int)(w:World)(l:(bytes s).length≤100000) :
 yA 64 #[yS s x] w (kK w (fvB (bytes s) x) (ldR (bytes s) x)):=by
 refine zX (Φ:=fun w=>True) Tryz.func64 rfl (by kernel_rfl) (fun w' t=>trivial) ?_
 refine zC ?_
 by_cases a:fvB (bytes s) x=true
 ·refine zB (xq 3 [(1,.p 1 0),(2,.p 2 0),yB 3 false] [yF 2 79 false none 0 0 0,yG 1 24 s x] ?_)
  refine xe (zA (zC (zC (zB (xq 1 [(6,.v (yS s x))] [] ?_)))))
  refine xqc 19 [yS s x] 7 (fun _:Unit=>.bool true) _ (fun w R Q=>(ZcI s x _ (by omega)).mono (fun _ _ h=>zG h (by rw[a]))) fun m=>?_
  refine xq 1 [yB 8 false] [] ?_
  refine xe (zA (xb (zK (zA (zC (zC ?_))))))
  by_cases b:bytes s=[48]
  ·refine zB (xq 3 [yB 12 ((s:ByteArray).toList == (⟨#[48]⟩:ByteArray).toList)] [] ?_)
   rw[Zkk b]
   refine xe (zA (xa (zC (zB (xq 3 [yB 3 true] [] ?_)))))
   refine xe (zA (zF (zE ?_)))
   refine yR (.tuple #[yV false none 0 0 0,.bool true]) fun w' R Q=>?_
   have n:x=0:=by have h:=a;unfold fvB at h;rw[uP b] at h;exact uC h
   have j:ldR (bytes s) x=⟨false,0,0,0⟩:=by unfold ldR;rw[uP a,b,n];rfl
   rw[a,j]
   exact⟨(none,0,0),rfl,zJ.zero _,R⟩
  refine zB (xq 3 [yB 12 ((s:ByteArray).toList == (⟨#[48]⟩:ByteArray).toList)] [] ?_)
  rw[Zkl b]
  refine xe (zA (xb (zK (zA (zC (zB (xq 2 [yT 16 s] [] ?_)))))))
  refine xqc 63 [.string s] 17 ZfW _ (fun w R Q=>yM ZdF (ZdG s _)) fun⟨r,neg⟩=>?_
  refine xq 5 [yB 4 neg,yT 5 r] [] ?_
  refine xe (zA (zC ?_))
  refine SXc.know (p:=xA (bytes s)=(neg,bytes r)) (fun w _ Q=>Q.2) fun k=>?_
  have i:=wO a
  rw[k] at i
  have f:(bytes r).all zV=true:=i.2.2.1
  have g:=ZaQ (bytes s)
  rw[k] at g
  have o:r.size≤100000:=by rw[←zQ];exact uA g l
  have q:wl (zL (bytes r))≤100000:=Zbf (kC _ f) (uA g l)
  refine yO 6 zM ?_
  refine xqg 2 [yB 20 neg,yT 21 r] ?_
  refine xqd 100 [.string r] 22 xJ _ (fun w R Q=>yM xE (ZcM r _ (zL (bytes r)) f rfl (by omega) (by omega))) fun⟨c,d,e⟩=>?_
  refine xqg 3 [(25,.v (yV neg c d e x))] ?_
  refine xz (xq 2 [yB 3 true] [yF 2 79 neg c d e x] ?_)
  refine xe (zA (zF ?_))
  refine yR (.tuple #[yV neg c d e x,.bool true]) fun w' R Q=>?_
  rw[a,show ldR (bytes s) x=⟨neg,zL (bytes r),x,0⟩ by unfold ldR;rw[uP a,k]]
  exact⟨(c,d,e),rfl,Q.2,R⟩
 refine zB (xq 3 [(1,.p 1 0),(2,.p 2 0),yB 3 false] [yF 2 79 false none 0 0 0,yG 1 24 s x] ?_)
 refine xe (zA (zC (zC (zB (xq 1 [(6,.v (yS s x))] [] ?_)))))
 refine xqc 19 [yS s x] 7 (fun _:Unit=>.bool false) _ (fun w R Q=>(ZcI s x _ (by omega)).mono (fun _ _ h=>zG h (by rw[vR.2 a]))) fun m=>?_
 refine xq 1 [yB 8 true] [] ?_
 refine xe (zA (xa (zC (zB (xq 3 [yB 3 false] [] ?_)))))
 refine xe (zA (zF (zE ?_)))
 refine yR (.tuple #[yV false none 0 0 0,.bool false]) fun w' R Q=>?_
 rw[vR.2 a,show ldR (bytes s) x=⟨false,0,0,0⟩ from uN a]
 exact⟨(none,0,0),rfl,zJ.zero _,R⟩
theorem ZjL (s:Bool)(A:Option Addr)(l c m:Nat)(e:Int)(w:World)(g:Glob w)(i:zJ w (.slice A l c) m)(n:wl m≤1000000)(j:s=true→0<m) :
 yA 97 #[yV s A l c e] w (RetV w (yS ⟨(Lib.itoa (sg s m)).toArray⟩ e)):=by
 refine zX (Φ:=fun w=>(Glob w∧zJ w (.slice A l c) (m))) Tryz.func97 rfl (by kernel_rfl) (fun w' f=>⟨g.ext f,i.ext f⟩) ?_
 refine zC (zB (xq 2 [(1,.p 1 0),(2,.p 2 0)] [yG 2 24 ⟨#[]⟩ 0,yF 1 79 s A l c e] ?_))
 refine xe (zA (zC (zB (xq 2 [eS1 5 A l c] [] ?_))))
 refine xqc 67 [.slice A l c] 6 (fun _:Unit=>.string ⟨(Lib.decDigits m).toArray⟩) _ (fun w R Q=>yN (ZiM A l c m _ Q.1 Q.2 (by omega))) fun o=>?_
 refine xq 1 [yT 3 ⟨(Lib.decDigits m).toArray⟩] [] ?_
 refine xe (zA (zC (zC (zB (xq 2 [yB 8 s] [] ?_)))))
 refine xe (zA ?_)
 refine yQ (s) (fun b=>?_) fun b=>?_
 ·have d:=b
  refine zB (xq 1 [yT 9 ⟨(Lib.decDigits m).toArray⟩] [] ?_)
  refine yK 10 (.string ⟨(45 :: Lib.decDigits m).toArray⟩) (fun w R Q=>Zk3 (x:=(Operand.const (Value.string { data:=#[45] }))) (y:=.tmp 9) (t:=9) (k:=9) (by kernel_rfl) (by kernel_rfl) (by kernel_rfl) (by have q:=ZpL m;rw[←zQ ⟨(Lib.decDigits m).toArray⟩,cC];have:(⟨#[45]⟩:ByteArray).size=1:=rfl;omega) (Zd9 [45] (Lib.decDigits m))) ?_
  refine xr 1 [(1,.p 1 0),(2,.p 2 0),yT 3 ⟨(45 :: Lib.decDigits m).toArray⟩] [yG 2 24 ⟨#[]⟩ 0,yF 1 79 s A l c e] ?_
  refine xe (zA (zC (zB (xq 5 [] [yG 2 24 ⟨(45 :: Lib.decDigits m).toArray⟩ e] ?_))))
  refine xe (zA (zF ?_))
  refine yR (yS ⟨(45 :: Lib.decDigits m).toArray⟩ e) fun w' R Q=>?_
  exact⟨by rw[d,Zca (neg:=true) (a:=m) (fun h=>by have:=j d;omega)];rfl,R⟩
 have d:=b
 refine zK (zA (zC (zB (xq 5 [] [yG 2 24 ⟨(Lib.decDigits m).toArray⟩ e] ?_))))
 refine xe (zA (zF ?_))
 refine yR (yS ⟨(Lib.decDigits m).toArray⟩ e) fun w' R Q=>?_
 exact⟨by rw[d,Zca (neg:=false) (a:=m) (fun _=>rfl)];rfl,R⟩
theorem dE (r:FR)(A:Option Addr)(l c:Nat)(w:World)(h:Glob w)(i:zJ w (.slice A l c) r.m)(f:Fine r) :
 yA 56 #[yV r.s A l c r.e,.int .i64 r.err] w (kG w r):=by
 refine zX (Φ:=fun w=>(Glob w∧zJ w (.slice A l c) (r.m))) Tryz.func56 rfl (by kernel_rfl) (fun w' g=>⟨h.ext g,i.ext g⟩) ?_
 refine zC (zB (xq 3 [(2,.p 2 0),(4,.p 4 0),yJ 5 0] [yG 4 24 ⟨#[]⟩ 0,yF 2 79 r.s A l c r.e] ?_))
 refine xe (zA (zC (zC (zB (xq 2 [yB 7 ((r.err:Int) != 0)] [] ?_)))))
 refine xe (zA ?_)
 refine yQ (((r.err:Int) != 0)) (fun a=>?_) fun a=>?_
 ·have b:=gK a
  refine zC (zB (xq 4 [yJ 5 r.err] [] ?_))
  refine xe (zA (zF (zE ?_)))
  refine yR (.tuple #[yS ⟨#[]⟩ 0,.int .i64 r.err]) fun w' R Q=>?_
  exact⟨by rw[show frT r=[] from uN (by omega),show frE r=0 from uN (by omega)],R⟩
 have b:=gL a
 refine zK (zA (zC (zB (xq 1 [(10,.v (yV r.s A l c r.e))] [] ?_))))
 refine xqc 97 [yV r.s A l c r.e] 11 (fun _:Unit=>.agg #[.string ⟨(Lib.itoa (sg r.s r.m)).toArray⟩,.int .i64 r.e]) _ (fun w R Q=>yN (ZjL r.s A l c r.m r.e _ Q.1 Q.2 f.2 f.1)) fun j=>?_
 refine xq 2 [yJ 5 0] [yG 4 24 ⟨(Lib.itoa (sg r.s r.m)).toArray⟩ r.e] ?_
 refine xe (zA (zF ?_))
 refine yR (.tuple #[yS ⟨(Lib.itoa (sg r.s r.m)).toArray⟩ r.e,.int .i64 0]) fun w' R Q=>?_
 have d:r.err=0:=by omega
 exact⟨by rw[show frT r=Lib.itoa (sg r.s r.m) from uP d,show frE r=r.e from uP d,d],R⟩
theorem Zm5 (s:ByteArray)(x:Int)(w:World)(n:(bytes s).length≤100000) :
 yA 20 #[yS s x] w (RetV w (.int .i64 ((blen (ldR (bytes s) x).m:Nat):Int))):=by
 refine zX (Φ:=fun w=>True) Tryz.func20 rfl (by kernel_rfl) (fun w' y=>trivial) ?_
 refine zC (zB (xq 2 [(1,.p 1 0),yJ 2 0] [yG 1 24 s x] ?_))
 refine xe (zA (zC (zB (xq 1 [(6,.v (yS s x))] [] ?_))))
 by_cases l:fvB (bytes s) x=true
 ·obtain⟨a,b⟩:=yE (ldR (bytes s) x)
  have o:=wO l
  have q:wl a.m≤100000:=by rw[←b];exact dL n
  have r:a.e=x:=by rw[←b,show ldR (bytes s) x=_ from uP l]
  have t:a.s=true→0<a.m:=by rw[←b,show ldR (bytes s) x=_ from uP l];exact o.2.2.2
  refine xqc 64 [yS s x] 7 (shLd true a) _ (fun w R Q=>yM lD ((show Calls _ _ _ _ (kK w true a) by rw[←b,← l];exact wA s x _ n))) fun⟨f,g,h⟩=>?_
  refine xq 6 [(3,.p 3 0)] [yF 3 79 a.s f g h a.e] ?_
  refine xe (zA (zC (zB (xq 2 [eS1 11 f g h] [] ?_))))
  refine xqc 65 [.slice f g h] 12 (fun _:Unit=>.int .i64 ((blen a.m:Nat):Int)) _ (fun w R Q=>yN (kL Q.2 (by omega))) fun u=>?_
  refine xq 1 [yJ 2 ((blen a.m:Nat):Int)] [] ?_
  refine xe (zA (zF ?_))
  refine yR (.int .i64 ((blen a.m:Nat):Int)) fun w' R Q=>?_
  exact⟨by rw[b],R⟩
 obtain⟨c,d⟩:=yE (ldR (bytes s) x)
 refine xqc 64 [yS s x] 7 (shLd false c) _ (fun w R Q=>yM lD ((show Calls _ _ _ _ (kK w false c) by rw[←d,← vR.2 l];exact wA s x _ n))) fun⟨i,j,k⟩=>?_
 refine xq 6 [(3,.p 3 0)] [yF 3 79 c.s i j k c.e] ?_
 refine xe (zA (zC (zB (xq 2 [eS1 11 i j k] [] ?_))))
 refine xqc 65 [.slice i j k] 12 (fun _:Unit=>.int .i64 ((blen c.m:Nat):Int)) _ (fun w R Q=>yN (kL Q.2 (by rw[←d,show ldR (bytes s) x=_ from uN l];decide))) fun u=>?_
 refine xq 1 [yJ 2 ((blen c.m:Nat):Int)] [] ?_
 refine xe (zA (zF ?_))
 refine yR (.int .i64 ((blen c.m:Nat):Int)) fun w' R Q=>?_
 exact⟨by rw[d],R⟩
def binR (op:FR→FR→Nat→FR) (l l':List UInt8) (x y b:Int):FR:=if fvB l x=true∧fvB l' y=true then (if 8≤b∧b≤1024 then op (ldR l x) (ldR l' y) b.toNat else ⟨false,0,0,3⟩) else ⟨false,0,0,1⟩
def iM (a b:FR) (bits:Nat):FR:=sumR a.s a.m a.e b.s b.m b.e bits
def iN (a b:FR) (bits:Nat):FR:=xK (a.s != b.s) (a.m*b.m) 1 (a.e+b.e) bits
def jK (a b:FR) (bits:Nat):FR:=ZbD (a.s != b.s) a.m b.m (a.e-b.e) bits
theorem Zhu (s t:ByteArray)(x y b:Int)(w:World)(hg:Glob w)(T:(bytes s).length≤100000)(l:(bytes t).length≤100000) :
 yA 81 #[yS s x, yS t y,.int .i64 b,.func (.func 84) #[] #[]] w (kG w (binR iM (bytes s) (bytes t) x y b)):=by
 refine zX (Φ:=fun w=>Glob w) Tryz.func81 rfl (by kernel_rfl) (fun w' hf=>hg.ext hf) ?_
 refine zC (zB (xq 4 [(4,.p 4 0),(5,.p 5 0),(8,.p 8 0),yJ 9 0] [yG 8 24 ⟨#[]⟩ 0,yG 5 24 t y,yG 4 24 s x] ?_))
 refine xe (zA (zC (zB (xq 1 [(15,.v (yS s x))] [] ?_))))
 by_cases r:fvB (bytes s) x=true
 ·obtain⟨d,g⟩:=yE (ldR (bytes s) x)
  have U:=wO r
  have h0:wl d.m≤100000:=by rw[←g];exact dL T
  have i0:d.e=x:=by rw[←g,show ldR (bytes s) x=_ from uP r]
  have j0:d.s=true→0<d.m:=by rw[←g,show ldR (bytes s) x=_ from uP r];exact U.2.2.2
  refine xqc 64 [yS s x] 16 (shLd true d) _ (fun w R Q=>yM lD ((show Calls _ _ _ _ (kK w true d) by rw[←g,← r];exact wA s x _ T))) fun⟨B,C,D⟩=>?_
  refine xq 6 [(10,.p 10 0),yB 11 true] [yF 10 79 d.s B C D d.e] ?_
  refine xe (zA (zC (zB (xq 1 [(20,.v (yS t y))] [] ?_))))
  by_cases c:fvB (bytes t) y=true
  ·obtain⟨f,i⟩:=yE (ldR (bytes t) y)
   have o:=wO c
   have K:wl f.m≤100000:=by rw[←i];exact dL l
   have L:f.e=y:=by rw[←i,show ldR (bytes t) y=_ from uP c]
   have M:f.s=true→0<f.m:=by rw[←i,show ldR (bytes t) y=_ from uP c];exact o.2.2.2
   refine xqc 64 [yS t y] 21 (shLd true f) _ (fun w R Q=>yM lD ((show Calls _ _ _ _ (kK w true f) by rw[←i,← c];exact wA t y _ l))) fun⟨E,F,G⟩=>?_
   refine xq 6 [(12,.p 12 0),yB 13 true] [yF 12 79 f.s E F G f.e] ?_
   refine xe (zA (zC (zC (zB (xq 6 [yB 29 false] [] ?_)))))
   refine xe (zA (xb (zK (zA (zC (zC ?_))))))
   by_cases S:8≤b∧b≤1024
   ·obtain⟨n,hn⟩:∃ n:Nat,b=n:=⟨b.toNat,by omega⟩
    subst hn
    refine zB (xq 1 [yJ 31 (n:Int)] [] ?_)
    refine xqc 55 [.int .i64 (n:Int)] 32 (fun _:Unit=>.bool true) _ (fun w R Q=>(kT _ _).mono (fun _ _ h=>zG h (by rw[uQ S]))) fun xx=>?_
    refine xq 1 [yB 33 false] [] ?_
    refine xe (zA (xb (zK (zA (zC (zB (xq 4 [(35,.v (.func (.func 84) #[] #[])),(36,.v (yV d.s B C D d.e)),(37,.v (yV f.s E F G f.e)),yJ 38 (n:Int)] [] ?_)))))))
    obtain⟨a,q⟩:=yE (iM d f n)
    refine xqc 84 [yV d.s B C D d.e, yV f.s E F G f.e,.int .i64 (n:Int)] 39 (shNb a) _ (fun w R Q=>yM xU ((show Calls _ _ _ _ (xY w a) by rw[←q];exact Zdx _ _ _ _ _ _ _ _ _ _ _ _ n (by omega) (by omega) _ Q.1.1.1 Q.1.1.2 (by omega) (by omega) (by omega) Q.1.2 (by omega) (by omega) (by omega)))) fun⟨H,I,J⟩=>?_
    refine xq 2 [(40,.v (yV a.s H I J a.e)),yJ 41 a.err] [] ?_
    refine xqc 56 [yV a.s H I J a.e,.int .i64 a.err] 42 (fun _:Unit=>.tuple #[yS ⟨(frT a).toArray⟩ (frE a),.int .i64 a.err]) _ (fun w R Q=>yN (dE a H I J _ Q.1.1.1.1 Q.2 (by rw[←q];exact ZiO (by omega) (by omega)))) fun xx=>?_
    refine xq 4 [yJ 9 a.err] [yG 8 24 ⟨(frT a).toArray⟩ (frE a)] ?_
    refine xe (zA (zF ?_))
    refine yR (.tuple #[yS ⟨(frT a).toArray⟩ (frE a),.int .i64 a.err]) fun w' R Q=>?_
    rw[show binR iM (bytes s) (bytes t) x y (n:Int)=iM (ldR (bytes s) x) (ldR (bytes t) y) n by unfold binR;rw[uP ⟨r,c⟩,uP S];rfl,g,i,q]
    exact⟨rfl,R⟩
   refine zB (xq 1 [yJ 31 b] [] ?_)
   refine xqc 55 [.int .i64 b] 32 (fun _:Unit=>.bool false) _ (fun w R Q=>(kT _ _).mono (fun _ _ h=>zG h (by rw[uJ S]))) fun xx=>?_
   refine xq 1 [yB 33 true] [] ?_
   refine xe (zA (xa (zC (zB (xq 3 [yJ 9 3] [] ?_)))))
   refine xe (zA (zF (zE ?_)))
   refine yR (.tuple #[yS ⟨#[]⟩ 0,.int .i64 3]) fun w' R Q=>?_
   rw[show binR iM (bytes s) (bytes t) x y b=⟨false,0,0,3⟩ by unfold binR;rw[uP ⟨r,c⟩,uN S]]
   exact⟨rfl,R⟩
  obtain⟨u,N⟩:=yE (ldR (bytes t) y)
  refine xqc 64 [yS t y] 21 (shLd false u) _ (fun w R Q=>yM lD ((show Calls _ _ _ _ (kK w false u) by rw[←N,← vR.2 c];exact wA t y _ l))) fun⟨V,W,X⟩=>?_
  refine xq 6 [(12,.p 12 0),yB 13 false] [yF 12 79 u.s V W X u.e] ?_
  refine xe (zA (zC (zC (zB (xq 6 [yB 29 true] [] ?_)))))
  refine xe (zA (xa (zC (zB (xq 3 [yJ 9 1] [] ?_)))))
  refine xe (zA (zF (zE ?_)))
  refine yR (.tuple #[yS ⟨#[]⟩ 0,.int .i64 1]) fun w' R Q=>?_
  rw[show binR iM (bytes s) (bytes t) x y b=⟨false,0,0,1⟩ from uN (fun h=>c h.2)]
  exact⟨rfl,R⟩
 obtain⟨z,O⟩:=yE (ldR (bytes s) x)
 refine xqc 64 [yS s x] 16 (shLd false z) _ (fun w R Q=>yM lD ((show Calls _ _ _ _ (kK w false z) by rw[←O,← vR.2 r];exact wA s x _ T))) fun⟨Y,Z,a0⟩=>?_
 refine xq 6 [(10,.p 10 0),yB 11 false] [yF 10 79 z.s Y Z a0 z.e] ?_
 refine xe (zA (zC (zB (xq 1 [(20,.v (yS t y))] [] ?_))))
 by_cases c:fvB (bytes t) y=true
 ·obtain⟨j,k⟩:=yE (ldR (bytes t) y)
  have o:=wO c
  have K:wl j.m≤100000:=by rw[←k];exact dL l
  have L:j.e=y:=by rw[←k,show ldR (bytes t) y=_ from uP c]
  have M:j.s=true→0<j.m:=by rw[←k,show ldR (bytes t) y=_ from uP c];exact o.2.2.2
  refine xqc 64 [yS t y] 21 (shLd true j) _ (fun w R Q=>yM lD ((show Calls _ _ _ _ (kK w true j) by rw[←k,← c];exact wA t y _ l))) fun⟨b0,c0,d0⟩=>?_
  refine xq 6 [(12,.p 12 0),yB 13 true] [yF 12 79 j.s b0 c0 d0 j.e] ?_
  refine xe (zA (zC (zC (zB (xq 6 [yB 29 true] [] ?_)))))
  refine xe (zA (xa (zC (zB (xq 3 [yJ 9 1] [] ?_)))))
  refine xe (zA (zF (zE ?_)))
  refine yR (.tuple #[yS ⟨#[]⟩ 0,.int .i64 1]) fun w' R Q=>?_
  rw[show binR iM (bytes s) (bytes t) x y b=⟨false,0,0,1⟩ from uN (fun h=>r h.1)]
  exact⟨rfl,R⟩
 obtain⟨A,P⟩:=yE (ldR (bytes t) y)
 refine xqc 64 [yS t y] 21 (shLd false A) _ (fun w R Q=>yM lD ((show Calls _ _ _ _ (kK w false A) by rw[←P,← vR.2 c];exact wA t y _ l))) fun⟨e0,f0,g0⟩=>?_
 refine xq 6 [(12,.p 12 0),yB 13 false] [yF 12 79 A.s e0 f0 g0 A.e] ?_
 refine xe (zA (zC (zC (zB (xq 6 [yB 29 true] [] ?_)))))
 refine xe (zA (xa (zC (zB (xq 3 [yJ 9 1] [] ?_)))))
 refine xe (zA (zF (zE ?_)))
 refine yR (.tuple #[yS ⟨#[]⟩ 0,.int .i64 1]) fun w' R Q=>?_
 rw[show binR iM (bytes s) (bytes t) x y b=⟨false,0,0,1⟩ from uN (fun h=>r h.1)]
 exact⟨rfl,R⟩
theorem Zoq (s t:ByteArray)(x y b:Int)(w:World)(d:Glob w)(e:(bytes s).length≤100000)(a:(bytes t).length≤100000) :
 yA 46 #[yS s x, yS t y,.int .i64 b] w (kG w (binR iM (bytes s) (bytes t) x y b)):=by
 obtain⟨r,c⟩:=yE (binR iM (bytes s) (bytes t) x y b)
 rw[c]
 refine zX (Φ:=fun w=>Glob w) Tryz.func46 rfl (by kernel_rfl) (fun w' f=>d.ext f) ?_
 refine zC (zB (xq 4 [(3,.p 3 0),(4,.p 4 0),(6,.p 6 0),yJ 7 0] [yG 6 24 ⟨#[]⟩ 0,yG 4 24 t y,yG 3 24 s x] ?_))
 refine xe (zA (zC (zB (xq 3 [(8,.v (yS s x)),(9,.v (yS t y)),yJ 10 b] [] ?_))))
 refine xqc 81 [yS s x, yS t y,.int .i64 b,.func (.func 84) #[] #[]] 11 (fun _:Unit=>.tuple #[yS ⟨(frT r).toArray⟩ (frE r),.int .i64 r.err]) _ (fun w R Q=>yN ((show Calls _ _ _ _ (kG w r) by rw[←c];exact Zhu s t x y b _ Q e a))) fun g=>?_
 refine xq 4 [yJ 7 r.err] [yG 6 24 ⟨(frT r).toArray⟩ (frE r)] ?_
 refine xe (zA (zF ?_))
 refine yR (.tuple #[yS ⟨(frT r).toArray⟩ (frE r),.int .i64 r.err]) fun w' R Q=>?_
 exact⟨rfl,R⟩
theorem Zhv (s t:ByteArray)(x y b:Int)(w:World)(hg:Glob w)(T:(bytes s).length≤100000)(l:(bytes t).length≤100000) :
 yA 81 #[yS s x, yS t y,.int .i64 b,.func (.func 82) #[] #[]] w (kG w (binR iN (bytes s) (bytes t) x y b)):=by
 refine zX (Φ:=fun w=>Glob w) Tryz.func81 rfl (by kernel_rfl) (fun w' hf=>hg.ext hf) ?_
 refine zC (zB (xq 4 [(4,.p 4 0),(5,.p 5 0),(8,.p 8 0),yJ 9 0] [yG 8 24 ⟨#[]⟩ 0,yG 5 24 t y,yG 4 24 s x] ?_))
 refine xe (zA (zC (zB (xq 1 [(15,.v (yS s x))] [] ?_))))
 by_cases r:fvB (bytes s) x=true
 ·obtain⟨d,g⟩:=yE (ldR (bytes s) x)
  have U:=wO r
  have h0:wl d.m≤100000:=by rw[←g];exact dL T
  have i0:d.e=x:=by rw[←g,show ldR (bytes s) x=_ from uP r]
  have j0:d.s=true→0<d.m:=by rw[←g,show ldR (bytes s) x=_ from uP r];exact U.2.2.2
  refine xqc 64 [yS s x] 16 (shLd true d) _ (fun w R Q=>yM lD ((show Calls _ _ _ _ (kK w true d) by rw[←g,← r];exact wA s x _ T))) fun⟨B,C,D⟩=>?_
  refine xq 6 [(10,.p 10 0),yB 11 true] [yF 10 79 d.s B C D d.e] ?_
  refine xe (zA (zC (zB (xq 1 [(20,.v (yS t y))] [] ?_))))
  by_cases c:fvB (bytes t) y=true
  ·obtain⟨f,i⟩:=yE (ldR (bytes t) y)
   have o:=wO c
   have K:wl f.m≤100000:=by rw[←i];exact dL l
   have L:f.e=y:=by rw[←i,show ldR (bytes t) y=_ from uP c]
   have M:f.s=true→0<f.m:=by rw[←i,show ldR (bytes t) y=_ from uP c];exact o.2.2.2
   refine xqc 64 [yS t y] 21 (shLd true f) _ (fun w R Q=>yM lD ((show Calls _ _ _ _ (kK w true f) by rw[←i,← c];exact wA t y _ l))) fun⟨E,F,G⟩=>?_
   refine xq 6 [(12,.p 12 0),yB 13 true] [yF 12 79 f.s E F G f.e] ?_
   refine xe (zA (zC (zC (zB (xq 6 [yB 29 false] [] ?_)))))
   refine xe (zA (xb (zK (zA (zC (zC ?_))))))
   by_cases S:8≤b∧b≤1024
   ·obtain⟨n,hn⟩:∃ n:Nat,b=n:=⟨b.toNat,by omega⟩
    subst hn
    refine zB (xq 1 [yJ 31 (n:Int)] [] ?_)
    refine xqc 55 [.int .i64 (n:Int)] 32 (fun _:Unit=>.bool true) _ (fun w R Q=>(kT _ _).mono (fun _ _ h=>zG h (by rw[uQ S]))) fun xx=>?_
    refine xq 1 [yB 33 false] [] ?_
    refine xe (zA (xb (zK (zA (zC (zB (xq 4 [(35,.v (.func (.func 82) #[] #[])),(36,.v (yV d.s B C D d.e)),(37,.v (yV f.s E F G f.e)),yJ 38 (n:Int)] [] ?_)))))))
    obtain⟨a,q⟩:=yE (iN d f n)
    refine xqc 82 [yV d.s B C D d.e, yV f.s E F G f.e,.int .i64 (n:Int)] 39 (shNb a) _ (fun w R Q=>yM xU ((show Calls _ _ _ _ (xY w a) by rw[←q];exact ZmI _ _ _ _ _ _ _ _ _ _ _ _ n (by omega) (by omega) _ Q.1.1.1 Q.1.1.2 (by omega) (by omega) (by omega) Q.1.2 (by omega) (by omega) (by omega)))) fun⟨H,I,J⟩=>?_
    refine xq 2 [(40,.v (yV a.s H I J a.e)),yJ 41 a.err] [] ?_
    refine xqc 56 [yV a.s H I J a.e,.int .i64 a.err] 42 (fun _:Unit=>.tuple #[yS ⟨(frT a).toArray⟩ (frE a),.int .i64 a.err]) _ (fun w R Q=>yN (dE a H I J _ Q.1.1.1.1 Q.2 (by rw[←q];exact bU (by decide) (by omega) (by omega)))) fun xx=>?_
    refine xq 4 [yJ 9 a.err] [yG 8 24 ⟨(frT a).toArray⟩ (frE a)] ?_
    refine xe (zA (zF ?_))
    refine yR (.tuple #[yS ⟨(frT a).toArray⟩ (frE a),.int .i64 a.err]) fun w' R Q=>?_
    rw[show binR iN (bytes s) (bytes t) x y (n:Int)=iN (ldR (bytes s) x) (ldR (bytes t) y) n by unfold binR;rw[uP ⟨r,c⟩,uP S];rfl,g,i,q]
    exact⟨rfl,R⟩
   refine zB (xq 1 [yJ 31 b] [] ?_)
   refine xqc 55 [.int .i64 b] 32 (fun _:Unit=>.bool false) _ (fun w R Q=>(kT _ _).mono (fun _ _ h=>zG h (by rw[uJ S]))) fun xx=>?_
   refine xq 1 [yB 33 true] [] ?_
   refine xe (zA (xa (zC (zB (xq 3 [yJ 9 3] [] ?_)))))
   refine xe (zA (zF (zE ?_)))
   refine yR (.tuple #[yS ⟨#[]⟩ 0,.int .i64 3]) fun w' R Q=>?_
   rw[show binR iN (bytes s) (bytes t) x y b=⟨false,0,0,3⟩ by unfold binR;rw[uP ⟨r,c⟩,uN S]]
   exact⟨rfl,R⟩
  obtain⟨u,N⟩:=yE (ldR (bytes t) y)
  refine xqc 64 [yS t y] 21 (shLd false u) _ (fun w R Q=>yM lD ((show Calls _ _ _ _ (kK w false u) by rw[←N,← vR.2 c];exact wA t y _ l))) fun⟨V,W,X⟩=>?_
  refine xq 6 [(12,.p 12 0),yB 13 false] [yF 12 79 u.s V W X u.e] ?_
  refine xe (zA (zC (zC (zB (xq 6 [yB 29 true] [] ?_)))))
  refine xe (zA (xa (zC (zB (xq 3 [yJ 9 1] [] ?_)))))
  refine xe (zA (zF (zE ?_)))
  refine yR (.tuple #[yS ⟨#[]⟩ 0,.int .i64 1]) fun w' R Q=>?_
  rw[show binR iN (bytes s) (bytes t) x y b=⟨false,0,0,1⟩ from uN (fun h=>c h.2)]
  exact⟨rfl,R⟩
 obtain⟨z,O⟩:=yE (ldR (bytes s) x)
 refine xqc 64 [yS s x] 16 (shLd false z) _ (fun w R Q=>yM lD ((show Calls _ _ _ _ (kK w false z) by rw[←O,← vR.2 r];exact wA s x _ T))) fun⟨Y,Z,a0⟩=>?_
 refine xq 6 [(10,.p 10 0),yB 11 false] [yF 10 79 z.s Y Z a0 z.e] ?_
 refine xe (zA (zC (zB (xq 1 [(20,.v (yS t y))] [] ?_))))
 by_cases c:fvB (bytes t) y=true
 ·obtain⟨j,k⟩:=yE (ldR (bytes t) y)
  have o:=wO c
  have K:wl j.m≤100000:=by rw[←k];exact dL l
  have L:j.e=y:=by rw[←k,show ldR (bytes t) y=_ from uP c]
  have M:j.s=true→0<j.m:=by rw[←k,show ldR (bytes t) y=_ from uP c];exact o.2.2.2
  refine xqc 64 [yS t y] 21 (shLd true j) _ (fun w R Q=>yM lD ((show Calls _ _ _ _ (kK w true j) by rw[←k,← c];exact wA t y _ l))) fun⟨b0,c0,d0⟩=>?_
  refine xq 6 [(12,.p 12 0),yB 13 true] [yF 12 79 j.s b0 c0 d0 j.e] ?_
  refine xe (zA (zC (zC (zB (xq 6 [yB 29 true] [] ?_)))))
  refine xe (zA (xa (zC (zB (xq 3 [yJ 9 1] [] ?_)))))
  refine xe (zA (zF (zE ?_)))
  refine yR (.tuple #[yS ⟨#[]⟩ 0,.int .i64 1]) fun w' R Q=>?_
  rw[show binR iN (bytes s) (bytes t) x y b=⟨false,0,0,1⟩ from uN (fun h=>r h.1)]
  exact⟨rfl,R⟩
 obtain⟨A,P⟩:=yE (ldR (bytes t) y)
 refine xqc 64 [yS t y] 21 (shLd false A) _ (fun w R Q=>yM lD ((show Calls _ _ _ _ (kK w false A) by rw[←P,← vR.2 c];exact wA t y _ l))) fun⟨e0,f0,g0⟩=>?_
 refine xq 6 [(12,.p 12 0),yB 13 false] [yF 12 79 A.s e0 f0 g0 A.e] ?_
 refine xe (zA (zC (zC (zB (xq 6 [yB 29 true] [] ?_)))))
 refine xe (zA (xa (zC (zB (xq 3 [yJ 9 1] [] ?_)))))
 refine xe (zA (zF (zE ?_)))
 refine yR (.tuple #[yS ⟨#[]⟩ 0,.int .i64 1]) fun w' R Q=>?_
 rw[show binR iN (bytes s) (bytes t) x y b=⟨false,0,0,1⟩ from uN (fun h=>r h.1)]
 exact⟨rfl,R⟩
theorem Zor (s t:ByteArray)(x y b:Int)(w:World)(d:Glob w)(e:(bytes s).length≤100000)(a:(bytes t).length≤100000) :
 yA 44 #[yS s x, yS t y,.int .i64 b] w (kG w (binR iN (bytes s) (bytes t) x y b)):=by
 obtain⟨r,c⟩:=yE (binR iN (bytes s) (bytes t) x y b)
 rw[c]
 refine zX (Φ:=fun w=>Glob w) Tryz.func44 rfl (by kernel_rfl) (fun w' f=>d.ext f) ?_
 refine zC (zB (xq 4 [(3,.p 3 0),(4,.p 4 0),(6,.p 6 0),yJ 7 0] [yG 6 24 ⟨#[]⟩ 0,yG 4 24 t y,yG 3 24 s x] ?_))
 refine xe (zA (zC (zB (xq 3 [(8,.v (yS s x)),(9,.v (yS t y)),yJ 10 b] [] ?_))))
 refine xqc 81 [yS s x, yS t y,.int .i64 b,.func (.func 82) #[] #[]] 11 (fun _:Unit=>.tuple #[yS ⟨(frT r).toArray⟩ (frE r),.int .i64 r.err]) _ (fun w R Q=>yN ((show Calls _ _ _ _ (kG w r) by rw[←c];exact Zhv s t x y b _ Q e a))) fun g=>?_
 refine xq 4 [yJ 7 r.err] [yG 6 24 ⟨(frT r).toArray⟩ (frE r)] ?_
 refine xe (zA (zF ?_))
 refine yR (.tuple #[yS ⟨(frT r).toArray⟩ (frE r),.int .i64 r.err]) fun w' R Q=>?_
 exact⟨rfl,R⟩
theorem Zhw (s t:ByteArray)(x y b:Int)(w:World)(hg:Glob w)(T:(bytes s).length≤100000)(l:(bytes t).length≤100000) :
 yA 81 #[yS s x, yS t y,.int .i64 b,.func (.func 83) #[] #[]] w (kG w (binR jK (bytes s) (bytes t) x y b)):=by
 refine zX (Φ:=fun w=>Glob w) Tryz.func81 rfl (by kernel_rfl) (fun w' hf=>hg.ext hf) ?_
 refine zC (zB (xq 4 [(4,.p 4 0),(5,.p 5 0),(8,.p 8 0),yJ 9 0] [yG 8 24 ⟨#[]⟩ 0,yG 5 24 t y,yG 4 24 s x] ?_))
 refine xe (zA (zC (zB (xq 1 [(15,.v (yS s x))] [] ?_))))
 by_cases r:fvB (bytes s) x=true
 ·obtain⟨d,g⟩:=yE (ldR (bytes s) x)
  have U:=wO r
  have h0:wl d.m≤100000:=by rw[←g];exact dL T
  have i0:d.e=x:=by rw[←g,show ldR (bytes s) x=_ from uP r]
  have j0:d.s=true→0<d.m:=by rw[←g,show ldR (bytes s) x=_ from uP r];exact U.2.2.2
  refine xqc 64 [yS s x] 16 (shLd true d) _ (fun w R Q=>yM lD ((show Calls _ _ _ _ (kK w true d) by rw[←g,← r];exact wA s x _ T))) fun⟨B,C,D⟩=>?_
  refine xq 6 [(10,.p 10 0),yB 11 true] [yF 10 79 d.s B C D d.e] ?_
  refine xe (zA (zC (zB (xq 1 [(20,.v (yS t y))] [] ?_))))
  by_cases c:fvB (bytes t) y=true
  ·obtain⟨f,i⟩:=yE (ldR (bytes t) y)
   have o:=wO c
   have K:wl f.m≤100000:=by rw[←i];exact dL l
   have L:f.e=y:=by rw[←i,show ldR (bytes t) y=_ from uP c]
   have M:f.s=true→0<f.m:=by rw[←i,show ldR (bytes t) y=_ from uP c];exact o.2.2.2
   refine xqc 64 [yS t y] 21 (shLd true f) _ (fun w R Q=>yM lD ((show Calls _ _ _ _ (kK w true f) by rw[←i,← c];exact wA t y _ l))) fun⟨E,F,G⟩=>?_
   refine xq 6 [(12,.p 12 0),yB 13 true] [yF 12 79 f.s E F G f.e] ?_
   refine xe (zA (zC (zC (zB (xq 6 [yB 29 false] [] ?_)))))
   refine xe (zA (xb (zK (zA (zC (zC ?_))))))
   by_cases S:8≤b∧b≤1024
   ·obtain⟨n,hn⟩:∃ n:Nat,b=n:=⟨b.toNat,by omega⟩
    subst hn
    refine zB (xq 1 [yJ 31 (n:Int)] [] ?_)
    refine xqc 55 [.int .i64 (n:Int)] 32 (fun _:Unit=>.bool true) _ (fun w R Q=>(kT _ _).mono (fun _ _ h=>zG h (by rw[uQ S]))) fun xx=>?_
    refine xq 1 [yB 33 false] [] ?_
    refine xe (zA (xb (zK (zA (zC (zB (xq 4 [(35,.v (.func (.func 83) #[] #[])),(36,.v (yV d.s B C D d.e)),(37,.v (yV f.s E F G f.e)),yJ 38 (n:Int)] [] ?_)))))))
    obtain⟨a,q⟩:=yE (jK d f n)
    refine xqc 83 [yV d.s B C D d.e, yV f.s E F G f.e,.int .i64 (n:Int)] 39 (shNb a) _ (fun w R Q=>yM xU ((show Calls _ _ _ _ (xY w a) by rw[←q];exact ZmJ _ _ _ _ _ _ _ _ _ _ _ _ n (by omega) (by omega) _ Q.1.1.1 Q.1.1.2 (by omega) (by omega) (by omega) Q.1.2 (by omega) (by omega) (by omega)))) fun⟨H,I,J⟩=>?_
    refine xq 2 [(40,.v (yV a.s H I J a.e)),yJ 41 a.err] [] ?_
    refine xqc 56 [yV a.s H I J a.e,.int .i64 a.err] 42 (fun _:Unit=>.tuple #[yS ⟨(frT a).toArray⟩ (frE a),.int .i64 a.err]) _ (fun w R Q=>yN (dE a H I J _ Q.1.1.1.1 Q.2 (by rw[←q];exact Zop (by omega) (by omega)))) fun xx=>?_
    refine xq 4 [yJ 9 a.err] [yG 8 24 ⟨(frT a).toArray⟩ (frE a)] ?_
    refine xe (zA (zF ?_))
    refine yR (.tuple #[yS ⟨(frT a).toArray⟩ (frE a),.int .i64 a.err]) fun w' R Q=>?_
    rw[show binR jK (bytes s) (bytes t) x y (n:Int)=jK (ldR (bytes s) x) (ldR (bytes t) y) n by unfold binR;rw[uP ⟨r,c⟩,uP S];rfl,g,i,q]
    exact⟨rfl,R⟩
   refine zB (xq 1 [yJ 31 b] [] ?_)
   refine xqc 55 [.int .i64 b] 32 (fun _:Unit=>.bool false) _ (fun w R Q=>(kT _ _).mono (fun _ _ h=>zG h (by rw[uJ S]))) fun xx=>?_
   refine xq 1 [yB 33 true] [] ?_
   refine xe (zA (xa (zC (zB (xq 3 [yJ 9 3] [] ?_)))))
   refine xe (zA (zF (zE ?_)))
   refine yR (.tuple #[yS ⟨#[]⟩ 0,.int .i64 3]) fun w' R Q=>?_
   rw[show binR jK (bytes s) (bytes t) x y b=⟨false,0,0,3⟩ by unfold binR;rw[uP ⟨r,c⟩,uN S]]
   exact⟨rfl,R⟩
  obtain⟨u,N⟩:=yE (ldR (bytes t) y)
  refine xqc 64 [yS t y] 21 (shLd false u) _ (fun w R Q=>yM lD ((show Calls _ _ _ _ (kK w false u) by rw[←N,← vR.2 c];exact wA t y _ l))) fun⟨V,W,X⟩=>?_
  refine xq 6 [(12,.p 12 0),yB 13 false] [yF 12 79 u.s V W X u.e] ?_
  refine xe (zA (zC (zC (zB (xq 6 [yB 29 true] [] ?_)))))
  refine xe (zA (xa (zC (zB (xq 3 [yJ 9 1] [] ?_)))))
  refine xe (zA (zF (zE ?_)))
  refine yR (.tuple #[yS ⟨#[]⟩ 0,.int .i64 1]) fun w' R Q=>?_
  rw[show binR jK (bytes s) (bytes t) x y b=⟨false,0,0,1⟩ from uN (fun h=>c h.2)]
  exact⟨rfl,R⟩
 obtain⟨z,O⟩:=yE (ldR (bytes s) x)
 refine xqc 64 [yS s x] 16 (shLd false z) _ (fun w R Q=>yM lD ((show Calls _ _ _ _ (kK w false z) by rw[←O,← vR.2 r];exact wA s x _ T))) fun⟨Y,Z,a0⟩=>?_
 refine xq 6 [(10,.p 10 0),yB 11 false] [yF 10 79 z.s Y Z a0 z.e] ?_
 refine xe (zA (zC (zB (xq 1 [(20,.v (yS t y))] [] ?_))))
 by_cases c:fvB (bytes t) y=true
 ·obtain⟨j,k⟩:=yE (ldR (bytes t) y)
  have o:=wO c
  have K:wl j.m≤100000:=by rw[←k];exact dL l
  have L:j.e=y:=by rw[←k,show ldR (bytes t) y=_ from uP c]
  have M:j.s=true→0<j.m:=by rw[←k,show ldR (bytes t) y=_ from uP c];exact o.2.2.2
  refine xqc 64 [yS t y] 21 (shLd true j) _ (fun w R Q=>yM lD ((show Calls _ _ _ _ (kK w true j) by rw[←k,← c];exact wA t y _ l))) fun⟨b0,c0,d0⟩=>?_
  refine xq 6 [(12,.p 12 0),yB 13 true] [yF 12 79 j.s b0 c0 d0 j.e] ?_
  refine xe (zA (zC (zC (zB (xq 6 [yB 29 true] [] ?_)))))
  refine xe (zA (xa (zC (zB (xq 3 [yJ 9 1] [] ?_)))))
  refine xe (zA (zF (zE ?_)))
  refine yR (.tuple #[yS ⟨#[]⟩ 0,.int .i64 1]) fun w' R Q=>?_
  rw[show binR jK (bytes s) (bytes t) x y b=⟨false,0,0,1⟩ from uN (fun h=>r h.1)]
  exact⟨rfl,R⟩
 obtain⟨A,P⟩:=yE (ldR (bytes t) y)
 refine xqc 64 [yS t y] 21 (shLd false A) _ (fun w R Q=>yM lD ((show Calls _ _ _ _ (kK w false A) by rw[←P,← vR.2 c];exact wA t y _ l))) fun⟨e0,f0,g0⟩=>?_
 refine xq 6 [(12,.p 12 0),yB 13 false] [yF 12 79 A.s e0 f0 g0 A.e] ?_
 refine xe (zA (zC (zC (zB (xq 6 [yB 29 true] [] ?_)))))
 refine xe (zA (xa (zC (zB (xq 3 [yJ 9 1] [] ?_)))))
 refine xe (zA (zF (zE ?_)))
 refine yR (.tuple #[yS ⟨#[]⟩ 0,.int .i64 1]) fun w' R Q=>?_
 rw[show binR jK (bytes s) (bytes t) x y b=⟨false,0,0,1⟩ from uN (fun h=>r h.1)]
 exact⟨rfl,R⟩
theorem Zos (s t:ByteArray)(x y b:Int)(w:World)(d:Glob w)(e:(bytes s).length≤100000)(a:(bytes t).length≤100000) :
 yA 45 #[yS s x, yS t y,.int .i64 b] w (kG w (binR jK (bytes s) (bytes t) x y b)):=by
 obtain⟨r,c⟩:=yE (binR jK (bytes s) (bytes t) x y b)
 rw[c]
 refine zX (Φ:=fun w=>Glob w) Tryz.func45 rfl (by kernel_rfl) (fun w' f=>d.ext f) ?_
 refine zC (zB (xq 4 [(3,.p 3 0),(4,.p 4 0),(6,.p 6 0),yJ 7 0] [yG 6 24 ⟨#[]⟩ 0,yG 4 24 t y,yG 3 24 s x] ?_))
 refine xe (zA (zC (zB (xq 3 [(8,.v (yS s x)),(9,.v (yS t y)),yJ 10 b] [] ?_))))
 refine xqc 81 [yS s x, yS t y,.int .i64 b,.func (.func 83) #[] #[]] 11 (fun _:Unit=>.tuple #[yS ⟨(frT r).toArray⟩ (frE r),.int .i64 r.err]) _ (fun w R Q=>yN ((show Calls _ _ _ _ (kG w r) by rw[←c];exact Zhw s t x y b _ Q e a))) fun g=>?_
 refine xq 4 [yJ 7 r.err] [yG 6 24 ⟨(frT r).toArray⟩ (frE r)] ?_
 refine xe (zA (zF ?_))
 refine yR (.tuple #[yS ⟨(frT r).toArray⟩ (frE r),.int .i64 r.err]) fun w' R Q=>?_
 exact⟨rfl,R⟩
theorem Zg9 {l:List UInt8}{v:Rat}(h:wM l=some v):(Lib.itoa v.num).length≤l.length∧(Lib.itoa (v.den:Int)).length≤l.length+1:=by
 have a:=eA h
 rw[←a]
 unfold xD
 split
 ·rename_i b
  rw[b]
  refine⟨uK _,?_⟩
  have:(Lib.itoa ((1:Nat):Int)).length=1:=by rw[jQ,dD (by omega)];rfl
  omega
 simp only[vU,sH]
 omega
theorem ZlA {n k:Nat}(h:(Lib.decDigits n).length≤k):wl n≤k:=by
 have a:=kC (Lib.decDigits n) (kZ n)
 rw[iX] at a
 exact Zbf a h
theorem ZpM (z:Int):(Lib.decDigits z.natAbs).length≤(Lib.itoa z).length:=by
 have h:=ZaQ (Lib.itoa z)
 rw[Zaq] at h
 exact h
noncomputable def rndF (v:Rat) (n:Nat):FR:=xK (decide (v.num<0)) v.num.natAbs v.den 0 n
noncomputable def aK (l:List UInt8) (b:Int):FR:=if (wM l).isSome=true then (if 8≤b∧b≤1024 then rndF (valF l) b.toNat else ⟨false,0,0,3⟩) else ⟨false,0,0,1⟩
theorem ZiP (s:ByteArray)(v:Rat)(n:Nat)(w:World)(y:Glob w)(z:(bytes s).length≤570)(u:wM (bytes s)=some v)(A:8≤n)(B:n≤1024) :
 yA 57 #[.string s,.int .i64 ((n:Nat):Int)] w (xY w (rndF v n)):=by
 have C:valF (bytes s)=v:=ZbG u
 have D:=Zg9 u
 refine zX (Φ:=fun w=>Glob w) Tryz.func57 rfl (by kernel_rfl) (fun w' E=>y.ext E) ?_
 refine zC (zB (xq 2 [(4,.p 4 0),yJ 5 0] [yF 4 79 false none 0 0 0] ?_))
 refine xe (zA (zC (zB (xq 1 [yT 11 s] [] ?_))))
 refine xqc 98 [.string s] 12 (fun _:Unit=>.tuple #[.string ⟨(Lib.itoa v.num).toArray⟩,.string ⟨(Lib.itoa (v.den:Int)).toArray⟩]) _ (fun w R Q=>yN ((show Calls _ _ _ _ (RetV w (.tuple #[.string ⟨(Lib.itoa v.num).toArray⟩,.string ⟨(Lib.itoa (v.den:Int)).toArray⟩])) by rw[←C];exact Zly s _ Q z))) fun J=>?_
 refine xq 5 [yT 6 ⟨(Lib.itoa v.num).toArray⟩,yT 7 ⟨(Lib.itoa (v.den:Int)).toArray⟩] [] ?_
 refine xe (zA (zC (zB (xq 1 [yT 16 ⟨(Lib.itoa v.num).toArray⟩] [] ?_))))
 refine xqc 63 [.string ⟨(Lib.itoa v.num).toArray⟩] 17 ZfW _ (fun w R Q=>yM ZdF (ZdG ⟨(Lib.itoa v.num).toArray⟩ _)) fun⟨r,neg⟩=>?_
 refine xq 5 [yB 8 neg,yT 9 r] [] ?_
 refine xe (zA (zC ?_))
 refine SXc.know (p:=xA (bytes ⟨(Lib.itoa v.num).toArray⟩)=(neg,bytes r)) (fun w _ Q=>Q.2) fun x=>?_
 rw[cC,Zaq] at x
 injection x with hneg hr
 have i:(bytes r).length≤570:=by rw[←hr];have:=ZpM v.num;omega
 have F:r.size≤570:=by rw[←zQ];exact i
 have b:(bytes r).all zV=true:=by rw[←hr];exact kZ _
 have c:zL (bytes r)=v.num.natAbs:=by rw[←hr];exact iX _
 have G:wl v.num.natAbs≤1000:=by rw[←c];exact Zbf (kC _ b) (by omega)
 have H:wl v.den≤1000:=ZlA (by have:=D.2;rw[jQ] at this;omega)
 have j:(bytes ⟨(Lib.itoa (v.den:Int)).toArray⟩).length≤571:=by rw[cC];omega
 have I:(⟨(Lib.itoa (v.den:Int)).toArray⟩:ByteArray).size≤571:=by rw[←zQ];exact j
 refine zB (xq 2 [yB 20 neg,yT 21 r] [] ?_)
 refine xqc 100 [.string r] 22 xJ _ (fun w R Q=>yM xE (ZcM r _ v.num.natAbs b c (by omega) (by omega))) fun⟨k,l,m⟩=>?_
 refine xq 1 [yT 23 ⟨(Lib.itoa (v.den:Int)).toArray⟩] [] ?_
 refine xqc 100 [.string ⟨(Lib.itoa (v.den:Int)).toArray⟩] 24 xJ _ (fun w R Q=>yM xE (ZcM _ _ v.den (by rw[cC,jQ];exact kZ _) (by rw[cC,jQ];exact iX _) (by omega) (by omega))) fun⟨o,q,t⟩=>?_
 refine xq 1 [yJ 25 (n:Int)] [] ?_
 obtain⟨a,d⟩:=yE (xK neg v.num.natAbs v.den 0 n)
 refine xqc 99 [.bool neg,.slice k l m,.slice o q t,.int .i64 0,.int .i64 (n:Int)] 26 (shNb a) _ (fun w R Q=>yM xU ((show Calls _ _ _ _ (xY w a) by rw[←d];exact Zdw neg _ _ _ _ _ _ _ _ 0 n _ Q.1.1.1.1 Q.1.2 Q.2 (by omega) (by omega) v.den_pos (by omega) (by omega) (by omega) (by omega)))) fun⟨f,g,h⟩=>?_
 refine xq 4 [yJ 5 a.err] [yF 4 79 a.s f g h a.e] ?_
 refine xe (zA (zF ?_))
 refine yR (.tuple #[yV a.s f g h a.e,.int .i64 a.err]) fun w' R Q=>?_
 rw[show rndF v n=xK neg v.num.natAbs v.den 0 n by unfold rndF;rw[hneg],d]
 exact⟨(f,g,h),rfl,Q.2,R⟩
theorem ZlB (s:ByteArray)(b:Int)(w:World)(o:Glob w)(m:(bytes s).length≤570) :
 yA 15 #[.string s,.int .i64 b] w (kG w (aK (bytes s) b)):=by
 refine zX (Φ:=fun w=>Glob w) Tryz.func15 rfl (by kernel_rfl) (fun w' q=>o.ext q) ?_
 refine zC (zB (xq 2 [(4,.p 4 0),yJ 5 0] [yG 4 24 ⟨#[]⟩ 0] ?_))
 refine xe (zA (zC (zC ?_)))
 by_cases i:(wM (bytes s)).isSome=true
 ·obtain⟨v,j⟩:=sN.1 i
  refine zB (xq 1 [yT 6 s] [] ?_)
  refine xqc 54 [.string s] 7 (fun _:Unit=>.bool true) _ (fun w R Q=>(ZbI s _ Q m).mono (fun _ _ h=>zG h (by rw[i]))) fun k=>?_
  refine xq 1 [yB 8 false] [] ?_
  refine xe (zA (xb (zK (zA (zC (zC ?_))))))
  by_cases l:8≤b∧b≤1024
  ·obtain⟨n,r⟩:∃ n:Nat,b=n:=⟨b.toNat,by omega⟩
   subst r
   refine zB (xq 1 [yJ 10 (n:Int)] [] ?_)
   refine xqc 55 [.int .i64 (n:Int)] 11 (fun _:Unit=>.bool true) _ (fun w R Q=>(kT _ _).mono (fun _ _ h=>zG h (by rw[uQ l]))) fun k=>?_
   refine xq 1 [yB 12 false] [] ?_
   refine xe (zA (xb (zK (zA (zC (zB (xq 2 [yT 14 s,yJ 15 (n:Int)] [] ?_)))))))
   obtain⟨a,c⟩:=yE (rndF v n)
   refine xqc 57 [.string s,.int .i64 (n:Int)] 16 (shNb a) _ (fun w R Q=>yM xU ((show Calls _ _ _ _ (xY w a) by rw[←c];exact ZiP s v n _ Q.1.1 m j (by omega) (by omega)))) fun⟨d,f,g⟩=>?_
   refine xq 2 [(17,.v (yV a.s d f g a.e)),yJ 18 a.err] [] ?_
   refine xqc 56 [yV a.s d f g a.e,.int .i64 a.err] 19 (fun _:Unit=>.tuple #[yS ⟨(frT a).toArray⟩ (frE a),.int .i64 a.err]) _ (fun w R Q=>yN (dE a d f g _ Q.1.1.1 Q.2 (by rw[←c];exact bU v.den_pos (by omega) (by omega)))) fun k=>?_
   refine xq 4 [yJ 5 a.err] [yG 4 24 ⟨(frT a).toArray⟩ (frE a)] ?_
   refine xe (zA (zF ?_))
   refine yR (.tuple #[yS ⟨(frT a).toArray⟩ (frE a),.int .i64 a.err]) fun w' R Q=>?_
   rw[show aK (bytes s) (n:Int)=rndF v n by unfold aK;rw[uP i,uP l,ZbG j];rfl,c]
   exact⟨rfl,R⟩
  refine zB (xq 1 [yJ 10 b] [] ?_)
  refine xqc 55 [.int .i64 b] 11 (fun _:Unit=>.bool false) _ (fun w R Q=>(kT _ _).mono (fun _ _ h=>zG h (by rw[uJ l]))) fun k=>?_
  refine xq 1 [yB 12 true] [] ?_
  refine xe (zA (xa (zC (zB (xq 3 [yJ 5 3] [] ?_)))))
  refine xe (zA (zF (zE ?_)))
  refine yR (.tuple #[yS ⟨#[]⟩ 0,.int .i64 3]) fun w' R Q=>?_
  rw[show aK (bytes s) b=⟨false,0,0,3⟩ by unfold aK;rw[uP i,uN l]]
  exact⟨rfl,R⟩
 refine zB (xq 1 [yT 6 s] [] ?_)
 refine xqc 54 [.string s] 7 (fun _:Unit=>.bool false) _ (fun w R Q=>(ZbI s _ Q m).mono (fun _ _ h=>zG h (by rw[vR.2 i]))) fun k=>?_
 refine xq 1 [yB 8 true] [] ?_
 refine xe (zA (xa (zC (zB (xq 3 [yJ 5 1] [] ?_)))))
 refine xe (zA (zF (zE ?_)))
 refine yR (.tuple #[yS ⟨#[]⟩ 0,.int .i64 1]) fun w' R Q=>?_
 rw[show aK (bytes s) b=⟨false,0,0,1⟩ from uN i]
 exact⟨rfl,R⟩
theorem ZpN (a b:ByteArray)(d c:Int)(w:World):(Op.equalIn 10000 24 (yS a d) (yS b c)).run Tryz.prog w =
 .ok ((a.toList == b.toList) && (d == c)) w:=by
 have e:Tryz.prog.underlying 24=some (.struct (Tryz.prog.fieldsOf 24)):=by kernel_rfl
 have f:Tryz.prog.stoodInHeld 24=false:=by kernel_rfl
 have g:=Tryz.underlying3
 have h:=Tryz.isAgg3
 have i:=Tryz.underlying9
 have j:=Tryz.isAgg9
 rw[show (10000:Nat)=9999+1 from rfl,run_equalIn_agg w 9999 _ _ _ e f]
 simp only[Program.fieldsOf,Tryz.underlying24]
 go_simp
 cases h1:(a.toList == b.toList)<;>cases h3:(d == c)<;>simp_all
theorem Zkx {o:Oper}{ρ:Operand→Value}{w:World}(x y:Operand)(k:TypeId)(a b:ByteArray)(d c:Int)(r:Bool)(e:o.op=Op.binOp .eql 24 x y k)(f:ρ x=.agg #[.string a,.int .i64 d])(g:ρ y=.agg #[.string b,.int .i64 c])(h:((a.toList == b.toList) && (d == c))=r):(execOp ρ o).run Tryz.prog w=.ok (.value (.bool r)) w:=by
 have i:Tryz.prog.eqGuardType Tryz.prog.depth 24=false:=by kernel_rfl
 subst h
 simp only[execOp,e,f,g,Sem.run_bind,run_eqGuard_agg w _ _ _ _ _ _ i,Result.andThen_ok,run_eql_struct,ZpN,Sem.run_pure]
theorem ZoP (a:ByteArray)(d:Int):((a.toList == a.toList) && (d == d))=true:=by simp
/-! ### 5/3 to 8 bits -/
def q53:Rat:=⟨5,3,by decide,by decide⟩
theorem Zky:wM [53,47,51]=some q53:=by
 rw[Zog]
 unfold xD
 rw[uN (by decide)]
 show Lib.itoa ((5:Nat):Int) ++ [47] ++ Lib.itoa ((3:Nat):Int)=_
 rw[jQ,jQ,dD (by omega),dD (by omega)];rfl
theorem ZiQ:blen 213=8:=Zd5 (k:=7) (by decide) (by decide)
theorem ZqB:rndF q53 8=⟨false,213,-7,0⟩:=by
 have b:fq 5 3 (-7)=213:=by decide
 have a:rndK 5 3 8 = -7:=Zgn (by decide) (by decide) (by decide) (by rw[b,ZiQ])
 have c:rndM 5 3 8=213:=by unfold rndM;rw[a];decide
 show xK false 5 3 0 8=_
 unfold xK
 rw[uN (by decide),a,c,Zis false (by decide) (by rw[Zb7 (by decide)];omega) (by rw[Zb7 (by decide)];omega),Zb7 (by decide),show oddM 213=213 by have:=Zgo (o:=213) (by decide) 0;simpa using this]
 rfl
theorem Zot:aK [53,47,51] 8=⟨false,213,-7,0⟩:=by
 unfold aK
 rw[uP (by rw[Zky];rfl),uP (by omega),ZbG Zky]
 exact ZqB
theorem ZiR:Lib.itoa 213=[50,49,51]:=by
 rw[show (213:Int)=((213:Nat):Int) from rfl,jQ]
 decide +kernel
theorem ZpO:frT ⟨false,213,-7,0⟩=[50,49,51]:=ZiR
theorem Zm6:fvB [50,49,51] (-7)=true:=by
 rw[←ZiR,Zkf];decide
theorem ZqC:(ldR [50,49,51] (-7)).m=213:=by
 unfold ldR
 rw[uP Zm6];rfl
theorem ZpP (w:World)(a:Glob w):yA 15 #[.string ⟨#[53,47,51]⟩,.int .i64 8] w (RetV w (.tuple #[yS ⟨#[50,49,51]⟩ (-7),.int .i64 0])):=by
 have h:=ZlB ⟨#[53,47,51]⟩ 8 w a (by decide)
 rw[show aK (bytes ⟨#[53,47,51]⟩) 8=⟨false,213,-7,0⟩ from Zot] at h
 unfold kG at h
 rw[ZpO] at h
 exact h
theorem ZpQ (w:World):yA 19 #[yS ⟨#[50,49,51]⟩ (-7)] w (RetV w (.bool true)):=by
 have h:=ZcI ⟨#[50,49,51]⟩ (-7) w (by decide)
 rw[show fvB (bytes ⟨#[50,49,51]⟩) (-7)=true from Zm6] at h
 exact h
theorem ZqD (w:World):yA 20 #[yS ⟨#[50,49,51]⟩ (-7)] w (RetV w (.int .i64 8)):=by
 have h:=Zm5 ⟨#[50,49,51]⟩ (-7) w (by decide)
 rw[show (ldR (bytes ⟨#[50,49,51]⟩) (-7)).m=213 from ZqC,ZiQ] at h
 exact h
theorem Zat (w:World)(b:Glob w) :
 yA 14 #[] w (RetV w (.bool true)):=by
 refine zX (Φ:=fun w=>Glob w) Tryz.func14 rfl (by kernel_rfl) (fun w' c=>b.ext c) ?_
 refine zC (zB (xq 1 [yB 0 false] [] ?_))
 refine xe (zA (zC (zB ?_)))
 refine xqc 15 [.string ⟨#[53,47,51]⟩,.int .i64 8] 4 (fun _:Unit=>.tuple #[yS ⟨#[50,49,51]⟩ (-7),.int .i64 0]) _ (fun w R Q=>yN (ZpP _ Q)) fun a=>?_
 refine xq 6 [(1,.p 1 0),yJ 2 0] [yG 1 24 ⟨#[50,49,51]⟩ (-7)] ?_
 refine xe (zA (zC (zB (xq 5 [yB 9 true,(10,.v (yS ⟨#[50,49,51]⟩ (-7))),(11,.v (yS ⟨#[50,49,51]⟩ (-7)))] [] ?_))))
 refine xqk 12 (.bool true) (fun w R Q=>Zkx (.tmp 10) (.tmp 11) 24 ⟨#[50,49,51]⟩ ⟨#[50,49,51]⟩ (-7) (-7) true (by kernel_rfl) (by kernel_rfl) (by kernel_rfl) (ZoP _ _)) ?_
 refine xq 3 [yB 14 true,(15,.v (yS ⟨#[50,49,51]⟩ (-7)))] [] ?_
 refine xqc 19 [yS ⟨#[50,49,51]⟩ (-7)] 16 (fun _:Unit=>.bool true) _ (fun w R Q=>yN (ZpQ _)) fun a=>?_
 refine xq 3 [yB 18 true,(19,.v (yS ⟨#[50,49,51]⟩ (-7)))] [] ?_
 refine xqc 20 [yS ⟨#[50,49,51]⟩ (-7)] 20 (fun _:Unit=>.int .i64 8) _ (fun w R Q=>yN (ZqD _)) fun a=>?_
 refine xq 3 [yB 0 true] [] ?_
 refine xe (zA (zF ?_))
 refine yR (.bool true) fun w' R Q=>?_
 exact⟨rfl,R⟩
theorem lY {w:World}{s:Bool}{A:Option Addr}{l c:Nat}{z:Int}(h:zI w (.agg #[.bool s,.slice A l c]) z)(g:z≠0):∃ xs,zH .u32 w A xs∧0<xs.length∧xs[0]?.getD 0=z.natAbs%W32∧l=xs.length∧A≠none:=by
 have a:=h.lenp g
 obtain⟨k,xs,m,e,n,d,i,p,f⟩:=h.mag
 injection e with e1 e2 e3
 subst e1 e2
 refine⟨xs,d,a,?_,rfl,?_⟩
 ·cases xs with
  | nil=>simp at a
  | cons x xs =>
   rw[iY] at f
   have j:x<W32:=i x (by simp)
   rw[←f,tZ,vC j];rfl
 obtain⟨b,o,e,_⟩:=d.at a
 rw[e];simp
theorem ZqE (z:Int):z.natAbs%W32%2=z.natAbs%2:=by rw[zP];omega
theorem ZlC (a:Nat)(ha:a<4294967296):bits .and .u32 (a:Int) 1=((a%2:Nat):Int):=by
 have b:(BitVec.ofInt 32 (a:Int)).toNat=a:=by
  rw[sV,rE];exact vC (by omega)
 show IntKind.u32.wrap ((BitVec.ofInt 32 (a:Int) &&& BitVec.ofInt 32 1).toNat:Int)=_
 rw[BitVec.toNat_and,b,show (BitVec.ofInt 32 1).toNat=1 from rfl,qE,IntKind.wrap_u32];omega
theorem ZqF {fn:Func}{t t2:Tmp}{a:Array Value}{d:World}{r:Nat}{s h b:Bool}{A i:Option Addr}{l c j c0:Nat}{x k:Int}{R:Ending→World→Prop}(e:fn.results=#[.cell t 52,.tmp t2])(m:a[t]? = some (.pointer (some ⟨r,0,none⟩)))(f:a[t2]? = some (.bool b))(n:Blk 52 d r #[.bool h,.slice i j c0,.int .i64 k])(o:R (.returned (.tuple #[yV s A l c x,.bool b])) (((d.setCell ⟨r,0,none⟩ (.bool s)).setCell ⟨r,1,none⟩ (.slice A l c)).setCell ⟨r,2,none⟩ (.int .i64 x))) :
 bodyPost Tryz.prog fn R .ret ⟨a,[]⟩ (((d.setCell ⟨r,0,none⟩ (.bool s)).setCell ⟨r,1,none⟩ (.slice A l c)).setCell ⟨r,2,none⟩ (.int .i64 x)):=by
 have g:Blk 52 (((d.setCell ⟨r,0,none⟩ (.bool s)).setCell ⟨r,1,none⟩ (.slice A l c)).setCell ⟨r,2,none⟩ (.int .i64 x)) r #[.bool s,.slice A l c,.int .i64 x]:=((n.set_ 0 _).set_ 1 _).set_ 2 _
 obtain⟨p,q,u,_⟩:=g.cell3n
 generalize ((d.setCell ⟨r,0,none⟩ (.bool s)).setCell ⟨r,1,none⟩ (.slice A l c)).setCell ⟨r,2,none⟩ (.int .i64 x)=W at *
 exact bodyPost_ret (v:=.tuple #[yV s A l c x,.bool b]) (by simp[results,e,m,f,go_sem,p,q,u]) rfl o
theorem ZqG {s:Bool}{A:Option Addr}{l c:Nat}{x:Int}:Zd2 #[.bool s,.slice A l c,.int .i64 x]:=by
 intro i k z;rcases i with _|_|_|i<;>simp
 intro h _;exact h.symm
theorem far3 {t:TypeId}{w:World}{g r:Nat}{cs:Array Value}(h:Blk t w g cs)(c:g≠r)(a b d:Value):Blk t (((w.setCell ⟨r,0,none⟩ a).setCell ⟨r,1,none⟩ b).setCell ⟨r,2,none⟩ d) g cs :=
 ((h.far (p:=⟨r,0,none⟩) c a).far (p:=⟨r,1,none⟩) c b).far (p:=⟨r,2,none⟩) c d
theorem fr3 (w:World)(r:Nat)(a b d:Value):Fr (fun i=>i=r) w (((w.setCell ⟨r,0,none⟩ a).setCell ⟨r,1,none⟩ b).setCell ⟨r,2,none⟩ d) :=
 (((show Fr (fun i=>i=r) w w from Fr.refl _ _).setCell (p:=⟨r,0,none⟩) (Or.inl rfl) a).setCell (p:=⟨r,1,none⟩) (Or.inl rfl) b).setCell (p:=⟨r,2,none⟩) (Or.inl rfl) d
theorem Zha (s:ByteArray)(x:Int)(q:Rat)(w:World)(hs:(bytes s).length≤1000)(J:wM (bytes s)=some q)(K:q.den=1)(l0 : -1048576≤x)(m0:x≤1048576)(L:q.num≠0) :
 yA 35 #[yS s x] w (fun e w'=>∃ (b:Bool) (A:Option Addr) (l c:Nat),e=.returned (.tuple #[yV b A l c x,.bool (((q.num.natAbs%2:Nat):Int) == 1)])∧zI w' (.agg #[.bool b,.slice A l c]) q.num∧Ext w w'):=by
 have M:s.size≤65536:=by rw[←zQ];omega
 have HS:=zh M
 have HR:=zh J
 have HD:=zh K
 have HZ:=zh L
 clear M J K L hs
 go_enter Tryz.func35,Tryz.ntmps35
 go_wp2_with fail
 refine (ZbJ s _ (uA HS.out (by decide))).mono ?_
 rintro e y h1
 obtain⟨⟨s1,A1,l1,c1,t1,B1,m1,d1⟩,rfl,N,o⟩:=aJ h1 HR.out
 have o:=(o (fun _=>False) (fun i h=>h.elim)).self
 dsimp only at o
 have O:=zh o
 have D:=zh N
 clear o N h1
 simp only[cL]
 have a0:Hid (Blk 24 y w.heap.size #[.string s,.int .i64 x]):=((Blk.new w 24 #[.string s,.int .i64 x]).alloc (.cells #[.bool false,.slice none 0 0,.int .i64 0] 52)).ext D.out
 have P:Hid (Blk 52 y (w.heap.size+1) #[.bool false,.slice none 0 0,.int .i64 0]):=by
  have h:=Blk.new (w.alloc (.cells #[.string s,.int .i64 x] 24)) 52 #[.bool false,.slice none 0 0,.int .i64 0]
  rw[World.size_alloc] at h
  exact h.ext D.out
 have Q:Hid (Ext w y):=(((Fr.refl _ _).alloc _).alloc _).trans D.out
 go_wp2_with fail
 refine (ZeO _ q _ (O.out.ext ((Fr.refl _ _).alloc _))).mono ?_
 rintro e w2 ⟨v2,rfl,E,F⟩
 obtain⟨s2,A2,l2,c2,rfl⟩:=E.shp
 have b0:Hid (Blk 34 w2 y.heap.size #[.bool s1,.slice A1 l1 c1,.bool t1,.slice B1 m1 d1]):=(Blk.new y _ _).ext F
 have c0:Hid (Ext y w2):=((Fr.refl _ _).alloc _).trans F
 have d0:=zh E
 clear E F
 go_wp2_with fail
 refine (kR _ _ _ d0.out (by rw[HD.out];exact nfit (k:=1) (xX.2 (by rw[zP];decide)) (by decide))).mono ?_
 rintro e w3 ⟨rfl,G⟩
 have H:=zh (c0.out.trans G)
 have r:=zh (b0.out.ext G)
 rw[show ((blen ((q.den:Nat):Int).natAbs:Nat):Int)=1 by rw[HD.out];rw[show (((1:Nat):Int)).natAbs=1 from rfl,Zii];rfl]
 have t:=a0.out.ext H.out
 have e0:=t.cell 1
 have f0:=r.out.cell 0
 have g0:=r.out.cell 1
 have R:=zh t
 clear G t
 go_wp2_with fail
 have S:=O.out.ext H.out
 obtain⟨n0,o0,p0,q0,r0,s0,t0,u0,e',u,_⟩:=S
 injection e' with e'
 have e2:=vG Array.toList e'
 simp only[List.cons.injEq,Value.bool.injEq,Value.slice.injEq,and_true] at e2
 obtain⟨rfl,⟨rfl,rfl,rfl⟩,rfl,⟨rfl,rfl,rfl⟩⟩:=e2
 have T:=zh u
 clear u e'
 refine (wU _ q.num _ T.out).mono ?_
 rintro e I ⟨rfl,v⟩
 have U:=zh (H.out.trans v)
 have m:=zh (r.out.ext v)
 have z:=zh (R.out.ext v)
 have n:=zh (P.out.ext U.out)
 have V:=zh (T.out.ext v)
 have v0:(q.num.sign == 0)=false:=by have:=mt vM.1 HZ.out;simpa using this
 clear v e0 f0 g0
 obtain⟨zs,hS,W,X,h0,_⟩:=lY V.out HZ.out
 obtain⟨g,f,rfl,hg,j⟩:=hS.at W
 rw[X,vV] at j
 obtain⟨d,hd⟩:=yE (q.num.natAbs%W32)
 rw[hd] at j
 have i0:d<4294967296:=by rw[←hd,zP];omega
 have w0:=ZlC d i0
 have x0:0<l1:=by omega
 have j0:g≠w.heap.size+1:=by
  intro e
  subst e
  rw[n.out.cell f] at j
  rcases f with _|_|_|f<;>simp at j
 have B:∀ a b c:Value,(((I.setCell ⟨w.heap.size+1,0,none⟩ a).setCell ⟨w.heap.size+1,1,none⟩ b).setCell ⟨w.heap.size+1,2,none⟩ c).cell? ⟨g,f,none⟩=some (.int .u32 (d:Int)):=fun a b c=>by
  rw[(fr3 I (w.heap.size+1) a b c).cell (p:=⟨g,f,none⟩) hg j0];exact j
 have Y:=zh B
 have k0:=zh j
 have Z:Hid (d%2=q.num.natAbs%2):=by rw[Hid,← hd];exact ZqE q.num
 have y0:=Q.out.size
 have C:y.heap.size≠w.heap.size+1:=by have:=P.out.lt;omega
 obtain⟨z0,z1,z2,z3,z4,z5⟩:=n.out.cell3n
 clear hS W X h0 hd B j
 go_wp2_with fail
 go_region_held3 (fun w'=>w'.cell? ⟨w.heap.size,1,none⟩=some (.int .i64 x)∧w'.cell? ⟨y.heap.size,0,none⟩=some (.bool s1)∧w'.cell? ⟨y.heap.size,1,none⟩=some (.slice (some ⟨g,f,none⟩) l1 c1)∧w'.cell? ⟨g,f,none⟩=some (.int .u32 (d:Int)))
  (first|exact⟨z.out.cell 1,m.out.cell 0,m.out.cell 1,k0.out⟩|exact⟨(far3 z.out (by omega) _ _ _).cell 1,(far3 m.out C _ _ _).cell 0,(far3 m.out C _ _ _).cell 1,Y.out _ _ _⟩)
  (first|fail|fail)
 go_wp2
 refine ZqF rfl rfl rfl (show Blk _ I.drew _ _ from n.out) ?_
 refine⟨s1,some ⟨g,f,none⟩,l1,c1,?_,?_,?_⟩
 ·rw[←Z.out];rfl
 ·exact (show zI I.drew _ _ from V.out).oth (show Blk _ I.drew _ _ from n.out) ZqG (fr3 I.drew (w.heap.size+1) _ _ _)
 exact ((((Q.out.trans U.out).drew).setCell (p:=⟨w.heap.size+1,0,none⟩) (Or.inr (by simp)) _).setCell (p:=⟨w.heap.size+1,1,none⟩) (Or.inr (by simp)) _).setCell (p:=⟨w.heap.size+1,2,none⟩) (Or.inr (by simp)) _
def shF (x:Int) (y:ShI):Value:=.agg #[.bool y.1,.slice y.2.1 y.2.2.1 y.2.2.2,.int .i64 x]
def shRF (v:Bool) (x:Int) (y:ShI):Value:=.tuple #[shF x y,.bool v]
def ZoQ (w:World) (z x:Int) (e:Ending) (w':World):Prop:=∃ y:ShI,e=.returned (shRF true x y)∧zI w' (zZ y) z∧Ext w w'
def ZoR (w:World) (e:Ending) (w':World):Prop:=∃ y:ShI×Int,e=.returned (shRF false y.2 y.1)∧Ext w w'
theorem iG {w w':World}{e:Ending}{z x:Int}(h:ZoQ w z x e w'):kF (shRF true x) (fun y w=>zI w (zZ y) z) w e w':=by
 obtain⟨y,rfl,a,Q⟩:=h
 exact⟨y,rfl,Q,boxn Q (fun S b c d=>a.nrb c d)⟩
theorem gS {w w':World}{e:Ending}(h:ZoR w e w'):kF (fun y:ShI×Int=>shRF false y.2 y.1) (fun _ _=>True) w e w':=by
 obtain⟨y,rfl,Q⟩:=h
 exact⟨y,rfl,Q,BoxN.pure trivial⟩
theorem jY {P:Program}{o:Oper}{ρ:Operand→Value}{w:World}{t k:TypeId}{x y:Operand}{a:Nat}(b:o.op=Op.binOp .and t x y k)(c:ρ x=.int .u32 ((a:Nat):Int))(d:ρ y=.int .u32 1)(ha:a<4294967296):(execOp ρ o).run P w=.ok (.value (.int .u32 ((a%2:Nat):Int))) w:=by
 have h:bits .and .u32 (a:Int) 1=((a%2:Nat):Int):=by
  have e:(BitVec.ofInt 32 (a:Int)).toNat=a:=by
   rw[sV,rE];exact vC (by omega)
  show IntKind.u32.wrap ((BitVec.ofInt 32 (a:Int) &&& BitVec.ofInt 32 1).toNat:Int)=_
  rw[BitVec.toNat_and,e,show (BitVec.ofInt 32 1).toNat=1 from rfl,qE,IntKind.wrap_u32];omega
 rw[←h]
 simp only[execOp,b,c,d,eqGuard,binOp]
 rfl
theorem Zq0 {l:List UInt8}{x:Int}(h:fvB l x=true):wM l=some ((flM l:Int):Rat)∧((flM l=0∧x=0)∨(flM l%2=1∧okE x)):=by
 obtain⟨a,b⟩:=Zke h
 exact⟨by rw[a,ZeT];exact ZgZ _,b⟩
theorem ZdH:ml ((1:Nat))≤65536:=uA (xX.2 (show (1:Nat)<W32^1 by rw[zP];decide)) (by decide)
theorem ZiS {w:World}{s:Bool}{A:Option Addr}{l c:Nat}{z:Int}(h:zI w (.agg #[.bool s,.slice A l c]) z):xN w (.agg #[.bool s,.slice A l c,.bool false,.slice none 0 0]) ((z:Int):Rat) :=
 ⟨s,false,A,none,l,c,0,0,rfl,h,zI.nil w⟩
theorem Zgs (z:Int):xD ((z:Int):Rat)=Lib.itoa z:=by
 exact Zol z
theorem Zm7 {w:World}{s:Bool}{A:Option Addr}{l c:Nat}{z:Int}(h:zI w (.agg #[.bool s,.slice A l c]) z)(a:ml z.natAbs≤65536):yA 31 #[.agg #[.bool s,.slice A l c,.bool false,.slice none 0 0]] w (RetV w (.string ⟨(Lib.itoa z).toArray⟩)):=by
 have b:=ZdD _ _ _ (ZiS h) a (ZdH)
 rwa [Zgs] at b
theorem jG (s:ByteArray)(x z:Int)(w:World)(H:(bytes s).length≤1000)(F:fvB (bytes s) x=true)(I:flM (bytes s)=z) :
 yA 35 #[yS s x] w (ZoQ w z x):=by
 obtain⟨q,r⟩:=Zq0 F
 rw[I] at q r
 have t:s.size≤65536:=by rw[←zQ];omega
 have G:=wO F
 have u:=G.1
 have y:=G.2.1
 rcases Decidable.em (z=0) with i|i
 rotate_left
 ·refine (Zha s x _ w H q rfl u y (show z≠0 from i)).mono ?_
  rintro e w' ⟨b,A,l,c,rfl,J,R⟩
  exact⟨(b,A,l,c),by rw[show ((((z:Int):Rat).num.natAbs%2:Nat):Int)=1 by show ((z.natAbs%2:Nat):Int)=1;omega];rfl,J,R⟩
 refine zX (Φ:=fun w=>True) Tryz.func35 rfl (by kernel_rfl) (fun w' L=>trivial) ?_
 refine zC (zB (xq 3 [(1,.p 1 0),(2,.p 2 0),yB 3 false] [yF 2 52 false none 0 0 0,yG 1 24 s x] ?_))
 refine xe (zA (zC (zB (xq 2 [yT 8 s] [] ?_))))
 refine xqc 18 [.string s] 9 (fun x:ShQ=>.tuple #[cL x,.bool true]) _ (fun w R Q=>(ZbJ s _ (uA t (by decide))).mono (fun _ _ h=>aJ h q)) fun⟨a,d,f,g,j,m,n,o⟩=>?_
 refine xq 6 [(4,.p 4 0),yB 5 true] [bR4 4 34 a d f g j m n o] ?_
 refine xe (zA (zC (zC (zB (xq 4 [yB 14 false,eR4 15 a d f g j m n o] [] ?_)))))
 refine xqc 79 [vR4 a d f g j m n o] 16 zZ _ (fun w R Q=>(ZeO _ (((z:Int):Rat)) _ Q.2).mono (fun _ _ h=>xC (by rw[show ((((z:Int):Rat)).den:Int)=1 from rfl] at h;exact h))) fun⟨B,C,D,E⟩=>?_
 refine xqc 37 [vI2 B C D E] 17 (fun _:Unit=>.int .i64 1) _ (fun w R Q=>(kR _ _ _ Q.2 (nfit (k:=1) (xX.2 (by rw[zP];decide)) (by decide))).mono (fun _ _ h=>zG h (by rw[show (1:Int).natAbs=1 from rfl,Zii];rfl))) fun K=>?_
 refine xq 6 [yB 20 false,yB 23 (decide (x<(-1048576)))] [] ?_
 rw[(show decide (x<(-1048576))=false from uJ (by omega))]
 refine xq 5 [yB 25 false,yB 28 (decide (x>1048576))] [] ?_
 rw[(show decide (x>1048576)=false from uJ (by omega))]
 refine xq 1 [yB 29 false] [] ?_
 refine xe (zA (xb (zK (zA (zC (zC (zB (xq 2 [eI2 32 a d f g] [] ?_))))))))
 refine xqc 62 [vI2 a d f g] 33 (fun _:Unit=>.int .i64 0) _ (fun w R Q=>(wU _ z _ Q.1.1.2.num).mono (fun _ _ h=>zG h (by rw[i];rfl))) fun K=>?_
 refine xq 1 [yB 34 true] [] ?_
 refine xe (zA (xa (zC ?_)))
 refine yO 6 zM ?_
 refine xqg 4 [(35,.v (yV false none 0 0 0)),yB 38 ((x:Int) == 0)] ?_
 rw[(show ((x:Int) == 0)=true from tA.2 (by omega))]
 refine xqf 2 [yB 3 true] [yF 2 52 false none 0 0 0,bR4 4 34 a d f g j m n o,yF 2 52 false none 0 0 0,yG 1 24 s x] ?_
 refine xz (xe (zA (zF (zE ?_))))
 refine yR (.tuple #[yV false none 0 0 0,.bool true]) fun w' R Q=>?_
 exact⟨(false,none,0,0),by rw[show x=0 by omega];rfl,by rw[i];exact zI.nil _,R⟩
theorem Zm8 {n k:Nat}(h:(Lib.decDigits n).length≤k):ml n≤k:=by
 have a:=kC _ (kZ n)
 rw[iX] at a
 exact ZmX (uU a (uY (by decide) h))
theorem Zm9 {l:List UInt8}{q:Rat}(h:wM l=some q)(b:l.length≤1000):xT ((q.den:Nat):Int):=by
 have a:=(Zg9 h).2
 rw[jQ] at a
 exact nfit (k:=1001) (mlc (Zm8 (by omega))) (by decide)
theorem iH (s:ByteArray)(x:Int)(w:World)(hs:(bytes s).length≤1000)(hv:¬ fvB (bytes s) x=true) :
 yA 35 #[yS s x] w (ZoR w):=by
 have E:s.size≤65536:=by rw[←zQ];omega
 rcases Decidable.em (∃ q,wM (bytes s)=some q∧q.den=1∧(-1048576≤x∧x≤1048576)∧q.num≠0) with m|m
 ·obtain⟨q,a,n,⟨F,G⟩,r⟩:=m
  refine (Zha s x q w hs a n F G r).mono ?_
  rintro e w' ⟨b,A,l,c,rfl,hN,R⟩
  have H:q.num.natAbs%2=0:=by
   rcases Nat.mod_two_eq_zero_or_one q.num.natAbs with h|h
   ·exact h
   exact absurd (by rw[(Zkg a n x).1];exact uQ (Or.inr ⟨by omega,F,G⟩)) hv
  exact⟨((b,A,l,c),x),by rw[H];rfl,R⟩
 refine zX (Φ:=fun w=>True) Tryz.func35 rfl (by kernel_rfl) (fun w' hf=>trivial) ?_
 refine zC (zB (xq 3 [(1,.p 1 0),(2,.p 2 0),yB 3 false] [yF 2 52 false none 0 0 0,yG 1 24 s x] ?_))
 refine xe (zA (zC ?_))
 by_cases I:(wM (bytes s)).isSome=true
 ·obtain⟨q,a⟩:=sN.1 I
  have J:=Zm9 a hs
  refine zB (xq 2 [yT 8 s] [] ?_)
  refine xqc 18 [.string s] 9 (fun x:ShQ=>.tuple #[cL x,.bool true]) _ (fun w R Q=>(ZbJ s _ (uA E (by decide))).mono (fun _ _ h=>aJ h a)) fun⟨g,i,j,k,t,u,y,z⟩=>?_
  refine xq 6 [(4,.p 4 0),yB 5 true] [bR4 4 34 g i j k t u y z] ?_
  refine xe (zA (zC (zC (zB (xq 4 [yB 14 false,eR4 15 g i j k t u y z] [] ?_)))))
  refine xqc 79 [vR4 g i j k t u y z] 16 zZ _ (fun w R Q=>yM xC (ZeO _ (q) _ Q.2)) fun⟨K,L,M,N⟩=>?_
  refine xqc 37 [vI2 K L M N] 17 (fun _:Unit=>.int .i64 ((blen q.den:Nat):Int)) _ (fun w R Q=>yN (kR _ _ _ Q.2 J)) fun xx=>?_
  refine xq 3 [yB 20 ((((blen q.den:Nat):Int):Int) != 1)] [] ?_
  rcases bl2 (((((blen q.den:Nat):Int):Int) != 1)) with d|d
  ·rw[d]
   have B:=gK d
   refine xq 9 [yB 29 true] [] ?_
   refine xe (zA (xa (zC (zB (xq 3 [yB 3 false] [] ?_)))))
   refine xe (zA (zF (zE ?_)))
   refine yR (.tuple #[yV false none 0 0 0,.bool false]) fun w' R Q=>?_
   exact⟨((false,none,0,0),0),rfl,R⟩
  rw[d]
  have B:=gL d
  refine xq 5 [yB 25 (decide (x<(-1048576)))] [] ?_
  rcases bl2 ((decide (x<(-1048576)))) with f|f
  ·rw[f]
   have C:=uC f
   refine xq 4 [yB 29 true] [] ?_
   refine xe (zA (xa (zC (zB (xq 3 [yB 3 false] [] ?_)))))
   refine xe (zA (zF (zE ?_)))
   refine yR (.tuple #[yV false none 0 0 0,.bool false]) fun w' R Q=>?_
   exact⟨((false,none,0,0),0),rfl,R⟩
  rw[f]
  have C:=uD f
  refine xq 4 [yB 29 (decide (x>1048576))] [] ?_
  refine xe (zA ?_)
  refine yQ ((decide (x>1048576))) (fun o=>?_) fun o=>?_
  ·have D:=uC o
   refine zC (zB (xq 3 [yB 3 false] [] ?_))
   refine xe (zA (zF (zE ?_)))
   refine yR (.tuple #[yV false none 0 0 0,.bool false]) fun w' R Q=>?_
   exact⟨((false,none,0,0),0),rfl,R⟩
  have D:=uD o
  refine zK (zA (zC (zC ?_)))
  have n:q.den=1:=iL.1 (by omega)
  have O:okE x:=⟨by omega,by omega⟩
  have a0:=O.1
  have P:¬ ((q.num=0∧x=0)∨(q.num%2=1∧okE x)):=fun h=>hv (by rw[(Zkg a n x).1];exact uQ h)
  have r:q.num=0:=Decidable.byContradiction (fun h=>m ⟨q,a,n,⟨by omega,by omega⟩,h⟩)
  refine zB (xq 2 [eI2 32 g i j k] [] ?_)
  refine xqc 62 [vI2 g i j k] 33 (fun _:Unit=>.int .i64 0) _ (fun w R Q=>(wU _ q.num _ Q.1.1.2.num).mono (fun _ _ h=>zG h (by rw[r];rfl))) fun xx=>?_
  refine xq 1 [yB 34 true] [] ?_
  refine xe (zA (xa (zC ?_)))
  refine yO 6 zM ?_
  refine xqg 4 [(35,.v (yV false none 0 0 0)),yB 38 ((x:Int) == 0)] ?_
  rw[(show ((x:Int) == 0)=false from tG.2 (fun e=>P (Or.inl ⟨r,e⟩)))]
  refine xqf 2 [yB 3 false] [yF 2 52 false none 0 0 0,bR4 4 34 g i j k t u y z,yF 2 52 false none 0 0 0,yG 1 24 s x] ?_
  refine xz (xe (zA (zF (zE ?_))))
  refine yR (.tuple #[yV false none 0 0 0,.bool false]) fun w' R Q=>?_
  exact⟨((false,none,0,0),0),rfl,R⟩
 have a:wM (bytes s)=none:=by cases h:wM (bytes s) with|none=>rfl|some q=>rw[h] at I;exact absurd rfl I
 refine zB (xq 2 [yT 8 s] [] ?_)
 refine xqc 18 [.string s] 9 (fun x:ShQ=>.tuple #[cL x,.bool false]) _ (fun w R Q=>(ZbJ s _ (uA E (by decide))).mono (fun _ _ h=>ZfV h a)) fun⟨S,T,U,V,W,X,Y,Z⟩=>?_
 refine xq 6 [(4,.p 4 0),yB 5 false] [bR4 4 34 S T U V W X Y Z] ?_
 refine xe (zA (zC (zC (zB (xq 18 [yB 29 true] [] ?_)))))
 refine xe (zA (xa (zC (zB (xq 3 [yB 3 false] [] ?_)))))
 refine xe (zA (zF (zE ?_)))
 refine yR (.tuple #[yV false none 0 0 0,.bool false]) fun w' R Q=>?_
 exact⟨((false,none,0,0),0),rfl,R⟩
theorem aL (s:Bool)(A:Option Addr)(l c:Nat)(z x:Int)(w:World)(a:zI w (.agg #[.bool s,.slice A l c]) z)(b:ml z.natAbs≤65536) :
 yA 38 #[yV s A l c x] w (RetV w (yS ⟨(Lib.itoa z).toArray⟩ x)):=by
 refine zX (Φ:=fun w=>zI w (.agg #[.bool s,.slice A l c]) (z)) Tryz.func38 rfl (by kernel_rfl) (fun w' d=>a.ext d) ?_
 refine zC (zB (xq 2 [(1,.p 1 0),(2,.p 2 0)] [yG 2 24 ⟨#[]⟩ 0,yF 1 52 s A l c x] ?_))
 refine xe (zA (zC ?_))
 refine yO 8 zM ?_
 refine xqg 3 [eR4 5 s A l c false none 0 0] ?_
 refine xqd 31 [vR4 s A l c false none 0 0] 6 (fun _:Unit=>.string ⟨(Lib.itoa z).toArray⟩) _ (fun w R Q=>(Zm7 Q b).mono (fun _ _ h=>zG h (rfl))) fun e=>?_
 refine xqf 4 [] [yG 2 24 ⟨(Lib.itoa z).toArray⟩ x,yG 2 24 ⟨#[]⟩ 0,yF 1 52 s A l c x] ?_
 refine xz (xe (zA (zF ?_)))
 refine yR (yS ⟨(Lib.itoa z).toArray⟩ x) fun w' R Q=>?_
 exact⟨rfl,R⟩
theorem ZpR (l:List UInt8):(flM l).natAbs=zL (xA l).2:=by
 unfold flM sg
 split<;>omega
theorem aM (T:List UInt8)(e k:Int)(w:World) :
 yA 17 #[yS ⟨T.toArray⟩ e,.int .i64 k, yS ⟨T.toArray⟩ e,.int .i64 k] w (RetV w (.bool true)):=by
 refine zX (Φ:=fun w=>True) Tryz.func17 rfl (by kernel_rfl) (fun w' a=>trivial) ?_
 refine zC (zB (xq 3 [(4,.p 4 0),(6,.p 6 0),yB 8 false] [yG 6 24 ⟨T.toArray⟩ e,yG 4 24 ⟨T.toArray⟩ e] ?_))
 refine xe (zA (zC (zB (xq 2 [(9,.v (yS ⟨T.toArray⟩ e)),(10,.v (yS ⟨T.toArray⟩ e))] [] ?_))))
 refine xqk 11 (.bool true) (fun w R Q=>Zkx (.tmp 9) (.tmp 10) 24 ⟨T.toArray⟩ ⟨T.toArray⟩ e e true (by kernel_rfl) (by kernel_rfl) (by kernel_rfl) (ZoP _ _)) ?_
 refine xq 4 [yB 12 true,yB 15 ((k:Int) == k)] [] ?_
 rw[ZnQ]
 refine xq 2 [yB 8 true] [] ?_
 refine xe (zA (zF ?_))
 refine yR (.bool true) fun w' R Q=>?_
 exact⟨rfl,R⟩
def ZfX (w:World) (z x:Int) (e:Ending) (w':World):Prop:=∃ y:ShI,e=.returned (shF x y)∧zI w' (zZ y) z∧Ext w w'
theorem ZpS {w w':World}{e:Ending}{z x:Int}(h:ZfX w z x e w'):kF (shF x) (fun y w=>zI w (zZ y) z) w e w':=by
 obtain⟨y,rfl,a,Q⟩:=h
 exact⟨y,rfl,Q,boxn Q (fun S b c d=>a.nrb c d)⟩
theorem Zna {a b:Nat}(h:a<32*b):ml (2^a)≤b:=xX.2 (by rw[show W32=2^32 by rw[zP],← sS];exact qO (by decide) h)
theorem Znb {a b i j:Nat}(ha:ml a≤i)(c:ml b≤j):ml (a*b)≤i+j:=by
 refine xX.2 ?_
 rw[uT]
 exact qQ (xX.1 ha) (xX.1 c)
theorem cS {l:List UInt8}{x:Int}(h:fvB l x=true)(a:l.length≤1000):ml (flM l).natAbs≤1000:=by
 rw[ZpR]
 have b:=ZmX (kC _ (wO h).2.2.1)
 have c:=ZaQ l
 omega
theorem ZaE (b:Nat)(s:ByteArray)(x:Int)(w:World)(i:Blk 24 w b #[.string s,.int .i64 x])(n:s.size≤200) :
 yA 40 #[.slice (some ⟨b,0,none⟩) 1 1] w (RetV w (.bool (decide (-300≤x∧x≤300)))):=by
 have j:=zh i
 clear i
 obtain⟨d,e⟩:=yE (decide (-300≤x∧x≤300))
 rw[e]
 have f:=zh e
 clear e
 go_enter Tryz.func40,Tryz.ntmps40
 go_wp2
 go_loopw [7] (fun l wr=>∃ k:Nat,k≤1∧l=.int .i64 (k:Int)∧(k=1 → -300≤x∧x≤300)∧Hid (Ext w wr)) (fun v _=>1-(intOf v).toNat)
 case atStart=>exact⟨0,by omega,rfl,(fun h=>by omega),Fr.refl _ _⟩
 case round =>
  obtain⟨k,o,rfl,g,Q⟩:=hrel
  by_cases m:k<1
  ·obtain rfl:k=0:=by omega
   have a:=j.out.ext Q.out
   have p:=a.cell 0
   have r:=a.cell 1
   clear a
   by_cases t:x>300
   ·have c:Hid (d=false):=f.out.symm.trans (uJ (by omega))
    go_wp2
    go_ret
    exact⟨(vG (fun q=>Ending.returned (Value.bool q)) c.out).symm,Q.out.alloc _⟩
   by_cases u:x < -300
   ·have c:Hid (d=false):=f.out.symm.trans (uJ (by omega))
    go_wp2
    go_ret
    exact⟨(vG (fun q=>Ending.returned (Value.bool q)) c.out).symm,Q.out.alloc _⟩
   go_wp2
   go_roundw
   case rel=>exact⟨1,by omega,rfl,(fun _=>⟨by omega,by omega⟩),Q.out.alloc _⟩
   case measure=>simp[intOf]
  obtain rfl:k=1:=by omega
  have c:Hid (d=true):=f.out.symm.trans (uQ (g rfl))
  go_wp2
  go_ret
  exact⟨(vG (fun q=>Ending.returned (Value.bool q)) c.out).symm,Q.out⟩
theorem ZlD (s:Bool)(A:Option Addr)(l c:Nat)(z x:Int)(w:World)(f:zI w (.agg #[.bool s,.slice A l c]) z) :
 yA 39 #[yV s A l c x] w (ZfX w (-z) x):=by
 refine zX (Φ:=fun w=>zI w (.agg #[.bool s,.slice A l c]) (z)) Tryz.func39 rfl (by kernel_rfl) (fun w' g=>f.ext g) ?_
 refine zC (zB (xq 2 [(1,.p 1 0),(2,.p 2 0)] [yF 2 52 false none 0 0 0,yF 1 52 s A l c x] ?_))
 refine xe (zA (zC ?_))
 refine yO 7 zM ?_
 refine xqg 2 [eI2 4 s A l c] ?_
 refine xqd 68 [vI2 s A l c] 5 zZ _ (fun w R Q=>yM xC (aZ _ z _ Q)) fun⟨a,b,d,e⟩=>?_
 refine xqf 4 [] [yF 2 52 a b d e x,yF 2 52 false none 0 0 0,yF 1 52 s A l c x] ?_
 refine xz (xe (zA (zF ?_)))
 refine yR (yV a b d e x) fun w' R Q=>?_
 exact⟨(a,b,d,e),rfl,Q.2,R⟩
theorem Zec (s:Bool):sg s 0=0:=by cases s<;>rfl
theorem Zng (a:Nat):IntKind.u32.wrap (((a%W64:Nat):Int))=((a%W32:Nat):Int):=by
 rw[IntKind.wrap_u32,zO,zP];omega
section
variable {P:Program} {o:Oper} {ρ:Operand→Value} {w:World} {x y:Operand} {t k:TypeId}
theorem ZiU {a n:Nat}(h:n≤32)(b:o.op=Op.binOp .shr t x y k:=by kernel_rfl)(c:ρ x=.int .u32 (a:Int):=by kernel_rfl){ky:IntKind}(d:ρ y=.int ky (n:Int):=by kernel_rfl):(execOp ρ o).run P w=.ok (.value (.int .u32 ((a/2^n:Nat):Int))) w:=by
 have e:¬ ((n:Int)<0):=by omega
 have f:min ((n:Int)).toNat IntKind.u32.bits=n:=by show min ((n:Int)).toNat 32=n;omega
 have g:((a:Int)).fdiv (2^n)=((a/2^n:Nat):Int):=by
  rw[qM _ (by rw[show ((2:Int)^n)=((2^n:Nat):Int) by rw[vT];rfl];exact rQ _)]
  exact aB a n
 simp only[execOp,b,c,d,eqGuard,binOp,Op.shift,uN e,f,g]
 rfl
theorem ZpV {a b r:Nat}(ha:a<W32)(c:b<W32)(h:a ||| b=r)(d:o.op=Op.binOp .or t x y k:=by kernel_rfl)(e:ρ x=.int .u32 (a:Int):=by kernel_rfl)(f:ρ y=.int .u32 (b:Int):=by kernel_rfl):(execOp ρ o).run P w=.ok (.value (.int .u32 (r:Int))) w:=by
 have:=ZfF ha c
 rw[h] at this
 rw[←this]
 simp only[execOp,d,e,f,eqGuard,binOp]
 rfl
theorem Zow {a:Nat}(b:o.op=Op.binOp .and t x y k:=by kernel_rfl)(c:ρ x=.int .u32 (a:Int):=by kernel_rfl)(d:ρ y=.int .u32 1:=by kernel_rfl)(ha:a<W32:=by assumption):(execOp ρ o).run P w=.ok (.value (.int .u32 ((a%2:Nat):Int))) w:=jY b c d (by rw[zP] at ha;exact ha)
end
theorem Zed {a:Int}(h:a≤0):decide (a.sign>0)=false:=uJ (fun e=>by have:=Int.sign_eq_one_iff_pos.1 (show a.sign=1 by have:=Int.sign_trichotomy a;omega);omega)
def ZaR (z:Int):Prop:=ml z.natAbs≤1048576
theorem ZqI {z:Int}(h:ZaR z):xT z:=uA h (by decide)
theorem sfit {z:Int}{k:Nat}(h:ml z.natAbs≤k)(a:Nat.ble k 1048576=true):ZaR z:=uA h (sF a)
theorem len_zero {w:World}{s:Bool}{A:Option Addr}{l c:Nat}{z:Int}(h:zI w (.agg #[.bool s,.slice A l c]) z)(a:z=0):l=0:=by
 subst a
 obtain⟨g,i,j,b,m,n,d,e,f⟩:=h.opn.1
 injection b with e1 e2 e3
 have:=kH d e
 rw[f,show (0:Int).natAbs=0 from rfl,show ml 0=0 from Nat.le_zero.1 (xX.2 (by rw[vQ];decide))] at this
 omega
theorem Znh {b n v:Nat}{xs:List Nat}{w:World}(a:Own .u32 102 w b xs)(c:Dig W32 xs)(d:xs.length=n)(e:val W32 xs=v)(f:n≤1099511627776):yA 71 #[.slice (some ⟨b,0,none⟩) n n] w (dX w v):=by
 subst d e
 exact ZgU w ⟨xs,a.row (uK _),c,rfl⟩ (uA f (by decide))
theorem Zni (r:Bool)(A:Option Addr)(xs:List Nat)(c k:Nat)(w:World)(hX:zH .u32 w A xs)(hl:xs.length≤1048576)(hc:xs.length≤c)(X:Dig W32 xs)(g0:0<k)(hk:k≤1099511627776) :
 yA 25 #[.agg #[.bool r,.slice A xs.length c],.int .i64 (-((k:Nat):Int))] w (wN w (sg r (val W32 xs/2^k))):=by
 refine zX (Φ:=fun w=>zH .u32 w A xs) Tryz.func25 rfl (by kernel_rfl) (fun w' hf=>hX.ext hf) ?_
 refine zC (zB (xq 2 [(2,.p 2 0),(4,.p 4 0)] [bI2 4 32 false none 0 0,bI2 2 32 r A xs.length c] ?_))
 refine xe (zA (zC (zC (zB (xq 2 [(11,.v (.bool (decide ((-(k:Int))≥0))))] [] ?_)))))
 rw[show decide (-(k:Int)≥0)=false from uJ (by omega)]
 refine xe (zA (xb (zK (zA (zC (zB (xq 2 [(28,.v (.int .i64 (IntKind.i64.wrap (0-((-(k:Int)))))))] [] ?_)))))))
 rw[yW (0-(-(k:Int))) ((k:Int)) (by omega)]
 refine xq 1 [yJ 1 (k:Int)] [] ?_
 refine xe (zA (zC (zC (zB (xq 2 [(30,.v (.int .i64 (IntKind.i64.wrap (((k:Int)).tdiv 32))))] [] ?_)))))
 rw[show IntKind.i64.wrap ((((k:Int)).tdiv 32))=((k/32:Nat):Int) from tdq (k) 32 (by omega)]
 refine xq 4 [yB 34 (decide (((k/32:Nat):Int)≥((xs.length:Nat):Int)))] [] ?_
 refine xe (zA ?_)
 refine yQ ((decide (((k/32:Nat):Int)≥((xs.length:Nat):Int)))) (fun u=>?_) fun u=>?_
 ·have H:=uC u
  refine zC (zB (xq 2 [] [] ?_))
  refine xe (zA (zF (zE ?_)))
  refine yR (.agg #[.bool false,.slice none 0 0]) fun w' R Q=>?_
  exact⟨_,rfl,by rw[Zk6 X (by omega),Zec];exact zI.nil _,R⟩
 have H:=uD u
 refine zK (zA (zC ?_))
 obtain⟨ys,E⟩:=yE (xs.drop (k/32))
 have Y:ys.length=xs.length-k/32:=by rw[←E,vX]
 have M:Dig W32 ys:=by rw[←E];exact X.drop _
 obtain⟨B,hB⟩:=yE (if c=k/32 then A else A.map (·.add (k/32)))
 obtain⟨d,Z⟩:=yE (c-k/32)
 have a0:Value.slice (if c=k/32 then A else A.map (·.add (k/32))) (xs.length-k/32) (c-k/32)=.slice B ys.length d:=by rw[hB,Y,Z]
 refine yC [yJ 1 (k:Int),(2,.p 2 0),(4,.p 4 0)] [(4,32,[.v (.bool false),.v (.slice none 0 0)]),(2,32,[.v (.bool r),.v (.slice A xs.length c)])] (fun w=>zH .u32 w B ys) (fun w Q=>by rw[←hB,← E];exact zH.cut (Q) (by omega) hc) ?_
 refine zB (xq 4 [eS1 37 A xs.length c,(39,.v (.int .i64 (IntKind.i64.wrap (((k:Int)).tdiv 32))))] [] ?_)
 rw[show IntKind.i64.wrap ((((k:Int)).tdiv 32))=((k/32:Nat):Int) from tdq (k) 32 (by omega)]
 refine xqk 40 (.slice B ys.length d) (fun w R Q=>by rw[←a0];exact ZnS (t:=30) (e:=102) (x:=.tmp 37) (len:=xs.length) (cap:=c) (l:=k/32) (lo:=.tmp 39) (by omega)) ?_
 refine xq 1 [eS1 6 B ys.length d] [] ?_
 refine xe (zA (zC (zB (xq 2 [yJ 42 (((k:Int)).tmod 32)] [] ?_))))
 rw[show ((k:Int)).tmod 32=((k%32:Nat):Int) from tdr (k) 32]
 refine xq 1 [yU 43 (IntKind.u64.wrap (((k%32:Nat):Int)))] [] ?_
 rw[show IntKind.u64.wrap (((k%32:Nat):Int))=((k%32:Nat):Int) by rw[IntKind.wrap_u64];omega]
 refine xq 1 [yU 7 ((k%32:Nat):Int)] [] ?_
 refine xe (zA (zC (zB (xq 2 [yJ 45 ((ys.length:Nat):Int)] [] ?_))))
 refine Zby (d:=46) (t:=30) (e:=102) (k:=.u32) (kl:=.i64) (kc:=.i64) (l:=.tmp 45) (c:=.tmp 45) (ys.length) 4 (by omega) (by decide) fun f F _=>?_
 refine xr 1 [(2,.p 2 0),(4,.p 4 0),eS1 6 B ys.length d,yU 7 ((k%32:Nat):Int),eS1 8 (some ⟨f,0,none⟩) (ys.length) (ys.length)] [bI2 4 32 false none 0 0,bI2 2 32 r A xs.length c] ?_
 refine xe (zA (zC (zC (zB (xq 1 [yJ 9 0] [] ?_)))))
 refine xe (zA (xH ?_))
 refine yC [(2,.p 2 0),(4,.p 4 0),eS1 6 B ys.length d,yU 7 ((k%32:Nat):Int),eS1 8 (some ⟨f,0,none⟩) (ys.length) (ys.length),yJ 9 ((0:Nat):Int)] [(4,32,[.v (.bool false),.v (.slice none 0 0)]),(2,32,[.v (.bool r),.v (.slice A xs.length c)])] (fun w=>(Box (fun j=>f≤j) w (fun w=>zH .u32 w B (ys))∧Own .u32 102 w f ((List.replicate (ys.length) 0)))) (fun w Q=>⟨Q.1,Q.2⟩) ?_
 refine lW (fun nn ss ff=>∃ (i:Nat) (s:List Nat),ss=ofL [(2,.p 2 0),(4,.p 4 0),eS1 6 B ys.length d,yU 7 ((k%32:Nat):Int),eS1 8 (some ⟨f,0,none⟩) (ys.length) (ys.length),yJ 9 (i:Int)] [(4,32,[.v (.bool false),.v (.slice none 0 0)]),(2,32,[.v (.bool r),.v (.slice A xs.length c)])]∧ff=(fun w=>(Box (fun j=>f≤j) w (fun w=>zH .u32 w B (ys))∧Own .u32 102 w f (s)))∧(jF ys (k%32) i s)∧(i≤ys.length)∧nn=(ys.length-i)) ((ys.length-0)) ⟨0,(List.replicate (ys.length) 0),rfl,rfl,(jF.start ys (k%32)),by omega,rfl⟩ ?_
 rintro nn ss ff ⟨i,s,rfl,rfl,L,hi,rfl⟩
 refine zC (zC (zB (xq 4 [yB 50 (decide ((i:Int)<((ys.length:Nat):Int)))] [] ?_)))
 refine xe (zA ?_)
 refine yQ ((decide ((i:Int)<((ys.length:Nat):Int)))) (fun z=>?_) fun z=>?_
 ·have I:=uC z
  have N:s.length=ys.length:=L.1
  refine zK (zA (zC (xH (zC (zB (xq 4 [eS1 53 (some ⟨f,0,none⟩) (ys.length) (ys.length),yJ 54 (i:Int),eS1 55 B ys.length d,yJ 56 (i:Int)] [] ?_))))))
  refine xqk 57 (atA B i) (fun w R Q=>xO (t:=30) (e:=102) (x:=.tmp 55) (ix:=.tmp 56) (len:=ys.length) (cap:=d) (i:=i) (((Q.1).self).ne (j:=i) (by omega)) (by omega)) ?_
  obtain⟨g,q⟩:=yE (ys[i]?.getD 0)
  refine xqk 58 (.int .u32 (g:Int)) (fun w R Q=>by rw[←q];exact xW (t:=102) (x:=.tmp 57) ((Q.1).self) (j:=i) (by omega)) ?_
  have m:g<W32:=by rw[←q];exact M.getD zU _
  have b0:g<4294967296:=by have:=m;rw[zP] at this;exact this
  refine xq 1 [yU 59 ((k%32:Nat):Int)] [] ?_
  refine xqk 60 (.int .u32 ((g/2^(k%32):Nat):Int)) (fun w R Q=>ZiU (t:=102) (x:=.tmp 58) (y:=.tmp 59) (k:=103) (ky:=.u64) (a:=g) (n:=(k%32)) (by omega)) ?_
  refine xqk 61 (.pointer (some ⟨f,i,none⟩)) (fun w R Q=>lX (t:=30) (e:=102) (x:=.tmp 53) (ix:=.tmp 54) (len:=(ys.length)) (cap:=(ys.length)) (i:=i) (by omega)) ?_
  refine jN (t:=102) (x:=.tmp 61) (y:=.tmp 60) f (i) (g/2^(k%32)) (fun w=>(Box (fun j=>f≤j) w (fun w=>zH .u32 w B (ys))∧Own .u32 102 w f ((s).set (i) (g/2^(k%32))))) (fun w Q=>Q.2) (by omega) (Or.inl F) (fun w w' Q hF hO=>⟨((Q.1).fr (hF.mono (fun _ _ e=>by rw[e];exact uK _))),hO⟩) ?_
  refine xe (zA (zC (zB (xq 2 [yJ 63 (IntKind.i64.wrap ((i:Int)+1))] [] ?_))))
  rw[yW ((i:Int)+1) (((i+1:Nat):Int)) (by omega)]
  refine xq 3 [yB 66 (decide (((i+1:Nat):Int)<((ys.length:Nat):Int)))] [] ?_
  refine xe (zA ?_)
  refine yQ ((decide (((i+1:Nat):Int)<((ys.length:Nat):Int)))) (fun C=>?_) fun C=>?_
  ·have J:=uC C
   refine bN 16 [0,0,3,7,0,0,32,112,240,496,0,1024,4080,8176,16383,32767] (by kernel_rfl) (by kernel_rfl) zM ?_
   refine xqg 2 [eS1 67 (some ⟨f,0,none⟩) (ys.length) (ys.length),yJ 68 (i:Int)] ?_
   refine xqj 69 (.pointer (some ⟨f,i,none⟩)) (fun w Q=>lX (t:=30) (e:=102) (x:=.tmp 67) (ix:=.tmp 68) (len:=(ys.length)) (cap:=(ys.length)) (i:=i) (by omega)) ?_
   obtain⟨O,G⟩:=yE (((s).set (i) (g/2^(k%32)))[i]?.getD 0)
   refine xqj 70 (.int .u32 (O:Int)) (fun w Q=>by rw[←G];exact gQ (t:=102) (x:=.tmp 69) (Q.2) (j:=i) (by simp only[qU];omega)) ?_
   obtain rfl:O=g/2^(k%32):=by rw[←G,List.getElem?_set_self (by omega)];rfl
   refine xqg 3 [eS1 71 B ys.length d,yJ 73 (IntKind.i64.wrap ((i:Int)+1))] ?_
   rw[yW ((i:Int)+1) (((i+1:Nat):Int)) (by omega)]
   refine xqj 74 (atA B (i+1)) (fun w Q=>xO (t:=30) (e:=102) (x:=.tmp 71) (ix:=.tmp 73) (len:=ys.length) (cap:=d) (i:=i+1) (((Q.1).self).ne (j:=i+1) (by omega)) (by omega)) ?_
   obtain⟨h,D⟩:=yE (ys[i+1]?.getD 0)
   refine xqj 75 (.int .u32 (h:Int)) (fun w Q=>by rw[←D];exact xW (t:=102) (x:=.tmp 74) ((Q.1).self) (j:=i+1) (by omega)) ?_
   have K:h<W32:=by rw[←D];exact M.getD zU _
   have c0:h<4294967296:=by have:=K;rw[zP] at this;exact this
   refine xqg 1 [yU 76 (IntKind.u64.wrap ((h:Int)))] ?_
   rw[show IntKind.u64.wrap ((h:Int))=(h:Int) by rw[IntKind.wrap_u64];omega]
   refine xqg 2 [yU 78 (IntKind.u64.wrap (32-((k%32:Nat):Int)))] ?_
   rw[show IntKind.u64.wrap ((32-((k%32:Nat):Int)))=((32-(k%32):Nat):Int) by rw[IntKind.wrap_u64];have:=zO;omega]
   refine xqj 79 (.int .u64 ((h*2^(32-(k%32))%W64:Nat):Int)) (fun w Q=>Zie (t:=94) (x:=.tmp 76) (y:=.tmp 78) (k:=103) (ky:=.u64) (a:=h) (n:=(32-(k%32))) (by omega)) ?_
   refine xqg 1 [(80,.v (.int .u32 (IntKind.u32.wrap (((h*2^(32-(k%32))%W64:Nat):Int)))))] ?_
   rw[show IntKind.u32.wrap (((h*2^(32-(k%32))%W64:Nat):Int))=((h*2^(32-k%32)%W32:Nat):Int) from Zng _]
   have W:=L.step (x:=g) (y:=h) (by omega) (by omega) q D m
   refine xqj 81 (.int .u32 ((g/2^(k%32)+h%2^(k%32)*2^(32-k%32):Nat):Int)) (fun w Q=>ZpV (t:=102) (x:=.tmp 70) (y:=.tmp 80) (k:=102) (a:=((g/2^(k%32)))) (b:=(h*2^(32-k%32)%W32)) (vI (uO _ _) m) (uM _ zU) (ZeN (by omega) m)) ?_
   refine xqj 82 (.pointer (some ⟨f,i,none⟩)) (fun w Q=>lX (t:=30) (e:=102) (x:=.tmp 67) (ix:=.tmp 68) (len:=(ys.length)) (cap:=(ys.length)) (i:=i) (by omega)) ?_
   refine xz ?_
   refine jN (t:=102) (x:=.tmp 82) (y:=.tmp 81) f (i) (g/2^(k%32)+h%2^(k%32)*2^(32-k%32)) (fun w=>(Box (fun j=>f≤j) w (fun w=>zH .u32 w B (ys))∧Own .u32 102 w f (((s).set (i) (g/2^(k%32))).set (i) (g/2^(k%32)+h%2^(k%32)*2^(32-k%32))))) (fun w Q=>Q.2) (by simp only[qU];omega) (Or.inl F) (fun w w' Q hF hO=>⟨((Q.1).fr (hF.mono (fun _ _ e=>by rw[e];exact uK _))),hO⟩) ?_
   refine xe (wX (zA (zB (xq 2 [yJ 52 (IntKind.i64.wrap ((i:Int)+1))] [] ?_))))
   rw[yW ((i:Int)+1) (((i+1:Nat):Int)) (by omega)]
   refine xq 1 [yJ 9 ((i+1:Nat):Int)] [] ?_
   refine xe ?_
   refine yP [(2,.p 2 0),(4,.p 4 0),eS1 6 B ys.length d,yU 7 ((k%32:Nat):Int),eS1 8 (some ⟨f,0,none⟩) (ys.length) (ys.length),yJ 9 (((i+1):Nat):Int)] [(4,32,[.v (.bool false),.v (.slice none 0 0)]),(2,32,[.v (.bool r),.v (.slice A xs.length c)])] (fun w=>(Box (fun j=>f≤j) w (fun w=>zH .u32 w B (ys))∧Own .u32 102 w f ((((s).set (i) (g/2^(k%32))).set (i) (g/2^(k%32)+h%2^(k%32)*2^(32-k%32)))))) (fun w Q=>⟨Q.1,Q.2⟩) ?_
   exact wG ((ys.length-(i+1))) (by omega) ⟨(i+1),(((s).set (i) (g/2^(k%32))).set (i) (g/2^(k%32)+h%2^(k%32)*2^(32-k%32))),rfl,rfl,(by rw[pG];exact W),by omega,rfl⟩
  have J:=uD C
  have W:=L.step (x:=g) (y:=0) (by omega) (by omega) q (by rw[List.getElem?_eq_none (by omega)];rfl) m
  rw[pF,sI,vV] at W
  refine zK (wX (zA (zB (xq 2 [yJ 52 (IntKind.i64.wrap ((i:Int)+1))] [] ?_))))
  rw[yW ((i:Int)+1) (((i+1:Nat):Int)) (by omega)]
  refine xq 1 [yJ 9 ((i+1:Nat):Int)] [] ?_
  refine xe ?_
  refine yP [(2,.p 2 0),(4,.p 4 0),eS1 6 B ys.length d,yU 7 ((k%32:Nat):Int),eS1 8 (some ⟨f,0,none⟩) (ys.length) (ys.length),yJ 9 (((i+1):Nat):Int)] [(4,32,[.v (.bool false),.v (.slice none 0 0)]),(2,32,[.v (.bool r),.v (.slice A xs.length c)])] (fun w=>(Box (fun j=>f≤j) w (fun w=>zH .u32 w B (ys))∧Own .u32 102 w f (((s).set (i) (g/2^(k%32)))))) (fun w Q=>⟨Q.1,Q.2⟩) ?_
  exact wG ((ys.length-(i+1))) (by omega) ⟨(i+1),((s).set (i) (g/2^(k%32))),rfl,rfl,W,by omega,rfl⟩
 have I:=uD z
 have N:s.length=ys.length:=L.1
 obtain rfl:i=ys.length:=by omega
 have HD:=L.done
 rw[←E,ZgO xs (k/32) (k%32) X (by omega),show 32*(k/32)+k%32=k by omega] at HD
 refine lG (zW (zW (lV (zA (zC ?_)))))
 refine yO 6 zM ?_
 refine xqg 3 [yB 84 r,eS1 85 (some ⟨f,0,none⟩) (ys.length) (ys.length)] ?_
 refine xqd 71 [.slice (some ⟨f,0,none⟩) (ys.length) (ys.length)] 86 xJ _ (fun w R Q=>yM Zin (Znh Q.2 L.2.1 N HD (by omega))) fun⟨d0,e0,f0⟩=>?_
 refine xqd 61 [.bool r,.slice d0 e0 f0] 87 zZ _ (fun w R Q=>yM xC (eB r _ (val W32 xs/2^k) _ Q.2)) fun⟨S,T,U,V⟩=>?_
 refine xqf 1 [] [bI2 4 32 S T U V,bI2 4 32 false none 0 0,bI2 2 32 r A xs.length c] ?_
 refine xz (xe (zA (zF ?_)))
 refine yR (.agg #[.bool S,.slice T U V]) fun w' R Q=>?_
 exact⟨_,rfl,Q.2,R⟩
theorem ZiV (a:Value)(z:Int)(k:Nat)(w:World)(ha:zI w a z)(f:ZaR z)(m:k≤1099511627776):yA 25 #[a,.int .i64 (-((k:Nat):Int))] w (wN w (sg (decide (z<0)) (z.natAbs/2^k))):=by
 rcases uH k with rfl|b
 ·have h:=gM a z 0 w ha (ZqI f) (by omega)
  rw[Int.pow_zero,Int.mul_one] at h
  rw[vQ,sL,Zdz]
  exact h
 obtain⟨s0,A,l,c,rfl,p,d,q⟩:=ha.open
 obtain⟨D,r,E,s,u,v,g,B,i⟩:=p
 injection s with e1 e2 e3
 subst e1 e2 e3
 have e:=kH g B
 rw[i] at e
 have h:=Zni s0 A r c k w v (by unfold ZaR at f;omega) u g b m
 rw[i] at h
 have C:sg s0 (z.natAbs/2^k)=sg (decide (z<0)) (z.natAbs/2^k):=by
  by_cases j:z=0
  ·subst j
   rw[show (0:Int).natAbs=0 from rfl,Nat.zero_div,Zec,Zec]
  congr 1
  generalize z.natAbs=n at *
  subst d
  unfold sg at *
  cases s0
  ·simp
  simp;simp at j;omega
 rwa [C] at h
theorem ZiW (b:Bool)(A:Option Addr)(xs:List Nat)(c:Nat)(z e:Int)(w:World)(L:zI w (.agg #[.bool b,.slice A xs.length c]) z)(M:zH .u32 w A xs)(C:Dig W32 xs)(D:val W32 xs=z.natAbs)(N:z≠0)(O:ZaR z)(S:tzn z.natAbs≤1099511627776)(T : -1152921504606846976≤e)(U:e≤1152921504606846976) :
 yA 135 #[.agg #[.bool b,.slice A xs.length c],.int .i64 e] w (ZfX w (sg (decide (z<0)) (oddM z.natAbs)) (e+((tzn z.natAbs:Nat):Int))):=by
 refine zX (Φ:=fun w=>(zI w (.agg #[.bool b,.slice A xs.length c]) (z)∧zH .u32 w A xs)) Tryz.func135 rfl (by kernel_rfl) (fun w' H=>⟨L.ext H,M.ext H⟩) ?_
 refine zC (zB (xq 2 [(2,.p 2 0),(4,.p 4 0)] [yF 4 52 false none 0 0 0,bI2 2 32 b A xs.length c] ?_))
 refine xe (zA (zC (zC (zB (xq 1 [eI2 6 b A xs.length c] [] ?_)))))
 refine xqc 62 [vI2 b A xs.length c] 7 (fun _:Unit=>.int .i64 (Int.sign z)) _ (fun w R Q=>yN (wU _ z _ Q.1)) fun V=>?_
 refine xq 1 [yB 8 (((Int.sign z):Int) == 0)] [] ?_
 rw[(show (((Int.sign z):Int) == 0)=false by have:=mt vM.1 N;simpa using this)]
 refine xe (zA (xb (zK (zA (zC (zB (xq 1 [yJ 5 0] [] ?_)))))))
 refine xe (zA (zC (xH ?_)))
 refine yC [yJ 1 e,(2,.p 2 0),(4,.p 4 0),yJ 5 ((0:Nat):Int)] [yF 4 52 false none 0 0 0,(2,32,[.v (.bool b),.v (.slice A xs.length c)])] (fun w=>(zI w (.agg #[.bool b,.slice A xs.length c]) (z)∧zH .u32 w A (xs))) (fun w Q=>⟨Q.1.1,Q.1.2⟩) ?_
 refine lW (fun I J K=>∃ (k:Nat),J=ofL [yJ 1 e,(2,.p 2 0),(4,.p 4 0),yJ 5 (k:Int)] [yF 4 52 false none 0 0 0,(2,32,[.v (.bool b),.v (.slice A xs.length c)])]∧K=(fun w=>(zI w (.agg #[.bool b,.slice A xs.length c]) (z)∧zH .u32 w A (xs)))∧(k≤tzn z.natAbs)∧I=(tzn z.natAbs-k)) ((tzn z.natAbs-0)) ⟨0,rfl,rfl,rA _,rfl⟩ ?_
 rintro I J K ⟨k,rfl,rfl,E,rfl⟩
 refine zC (zC ?_)
 have B:k/32<xs.length:=Zmz C (by omega) (by rw[D];exact E)
 refine zB (xq 4 [eS1 11 A xs.length c,(13,.v (.int .i64 (IntKind.i64.wrap (((k:Int)).tdiv 32))))] [] ?_)
 rw[show IntKind.i64.wrap ((((k:Int)).tdiv 32))=((k/32:Nat):Int) from tdq (k) 32 (by omega)]
 refine xqk 14 (atA A (k/32)) (fun w R Q=>xO (t:=30) (e:=102) (x:=.tmp 11) (ix:=.tmp 13) (len:=xs.length) (cap:=c) (i:=k/32) ((Q.2).ne (j:=k/32) (by omega)) (by omega)) ?_
 obtain⟨d,f⟩:=yE (xs[k/32]?.getD 0)
 refine xqk 15 (.int .u32 (d:Int)) (fun w R Q=>by rw[←f];exact xW (t:=102) (x:=.tmp 14) (Q.2) (j:=k/32) (by omega)) ?_
 have h:d<W32:=by rw[←f];exact C.getD zU _
 refine xq 2 [yJ 17 (((k:Int)).tmod 32)] [] ?_
 rw[show ((k:Int)).tmod 32=((k%32:Nat):Int) from tdr (k) 32]
 refine xqk 18 (.int .u32 ((d/2^(k%32):Nat):Int)) (fun w R Q=>ZiU (t:=102) (x:=.tmp 15) (y:=.tmp 17) (k:=3) (ky:=.i64) (a:=d) (n:=(k%32)) (by omega)) ?_
 refine xqk 19 (.int .u32 (((d/2^(k%32))%2:Nat):Int)) (fun w R Q=>Zow (t:=102) (x:=.tmp 18) (y:=(Operand.const (Value.int IntKind.u32 1))) (k:=102) (a:=(d/2^(k%32))) (ha:=vI (uO _ _) h)) ?_
 refine xq 1 [(20,.v (.bool (((((d/2^(k%32))%2:Nat):Int):Int) == 0)))] [] ?_
 refine xe (zA ?_)
 refine yQ ((((((d/2^(k%32))%2:Nat):Int):Int) == 0)) (fun g=>?_) fun g=>?_
 ·have l:=tA.1 g
  have m:=ZgT C B f
  rw[D] at m
  have F:k+1≤tzn z.natAbs:=Zpm (by omega) E (by omega)
  refine zK (zA (xH (zB (xq 2 [yJ 22 (IntKind.i64.wrap ((k:Int)+1))] [] ?_))))
  rw[yW ((k:Int)+1) (((k+1:Nat):Int)) (by omega)]
  refine xq 1 [yJ 5 ((k+1:Nat):Int)] [] ?_
  refine xe (wX ?_)
  refine yP [yJ 1 e,(2,.p 2 0),(4,.p 4 0),yJ 5 (((k+1):Nat):Int)] [yF 4 52 false none 0 0 0,(2,32,[.v (.bool b),.v (.slice A xs.length c)])] (fun w=>(zI w (.agg #[.bool b,.slice A xs.length c]) (z)∧zH .u32 w A (xs))) (fun w Q=>⟨Q.1,Q.2⟩) ?_
  exact wG ((tzn z.natAbs-(k+1))) (by omega) ⟨(k+1),rfl,rfl,F,rfl⟩
 have l:=lB g
 have m:=ZgT C B f
 rw[D] at m
 have G:k=tzn z.natAbs:=Zpn (by omega) E (by omega)
 subst G
 refine lG (zW (zW (lV (zA (zC (zB (xq 3 [eI2 23 b A xs.length c,(25,.v (.int .i64 (IntKind.i64.wrap (0-((((tzn z.natAbs):Nat):Int))))))] [] ?_)))))))
 rw[show IntKind.i64.wrap (0-((tzn z.natAbs:Nat):Int)) = -((tzn z.natAbs:Nat):Int) by rw[IntKind.wrap_i64];omega]
 refine xqc 25 [vI2 b A xs.length c,.int .i64 (-((tzn z.natAbs:Nat):Int))] 26 zZ _ (fun w R Q=>yM xC (ZiV _ z (tzn z.natAbs) _ Q.1 O (by omega))) fun⟨q,r,s,u⟩=>?_
 refine xq 3 [(29,.v (.int .i64 (IntKind.i64.wrap (e+(((tzn z.natAbs):Nat):Int)))))] [] ?_
 rw[yW (e+((tzn z.natAbs:Nat):Int)) (e+((tzn z.natAbs:Nat):Int)) (by omega)]
 refine xq 2 [] [yF 4 52 q r s u (e+((tzn z.natAbs:Nat):Int))] ?_
 refine xe (zA (zF ?_))
 refine yR (yV q r s u (e+((tzn z.natAbs:Nat):Int))) fun w' R Q=>?_
 exact⟨(q,r,s,u),rfl,Q.2,R⟩
theorem iO (b:Bool)(A:Option Addr)(l c:Nat)(z e:Int)(w:World)(m:zI w (.agg #[.bool b,.slice A l c]) z)(p:z≠0)(n:ZaR z)(d : -1152921504606846976≤e)(f:e≤1152921504606846976) :
 yA 135 #[.agg #[.bool b,.slice A l c],.int .i64 e] w (ZfX w (sg (decide (z<0)) (oddM z.natAbs)) (e+((tzn z.natAbs:Nat):Int))):=by
 obtain⟨u,g,v,q,B,r,h,s,a⟩:=m.opn.1
 injection q with e1 e2 e3
 subst e1 e2 e3
 have i:=kH h s
 rw[a] at i
 have C:g.length≤1048576:=by unfold ZaR at n;omega
 have j:=Zmz h (by rw[a];omega) (k:=tzn (val W32 g)) (uK _)
 rw[a] at j
 exact ZiW b A g c z e w m r h a p n (by omega) d f
theorem ZdI (M:Bool)(N:Option Addr)(O c1:Nat)(l:Bool)(m:Option Addr)(n c2:Nat)(a b:Nat)(w:World)(hA:zI w (.agg #[.bool M,.slice N O c1]) ((a:Nat):Int))(hB:zI w (.agg #[.bool l,.slice m n c2]) ((b:Nat):Int))(ha:ml a≤90000)(hb:ml b≤90000)(C:0<b) :
 yA 147 #[.agg #[.bool M,.slice N O c1],.agg #[.bool l,.slice m n c2]] w (wN w ((kY a b:Nat):Int)):=by
 have Y:ml (2*(a%b))≤90001:=uA (Zfv _ _) (by have S:ml 2≤1:=xX.2 (by rw[zP];decide);have B:=wK (rM (uM a C));omega)
 have D:ml a≤100000:=by omega
 have Z:ml b≤100000:=by omega
 refine zX (Φ:=fun w=>(zI w (.agg #[.bool M,.slice N O c1]) ((a:Int))∧zI w (.agg #[.bool l,.slice m n c2]) ((b:Int)))) Tryz.func147 rfl (by kernel_rfl) (fun w' hf=>⟨hA.ext hf,hB.ext hf⟩) ?_
 refine zC (zB (xq 3 [(2,.p 2 0),(3,.p 3 0),(4,.p 4 0)] [bI2 4 32 false none 0 0,bI2 3 32 l m n c2,bI2 2 32 M N O c1] ?_))
 refine xe (zA (zC (zB (xq 2 [eI2 9 M N O c1,eI2 10 l m n c2] [] ?_))))
 refine xqc 70 [vI2 M N O c1,vI2 l m n c2] 11 aG _ (fun w R Q=>yM eC (ZcO Q.1 Q.2 D Z C)) fun xx=>?_
 obtain⟨⟨g,d,c,f⟩,⟨q,s,u,A⟩⟩:=xx
 refine xq 7 [(5,.p 5 0),(6,.p 6 0)] [bI2 6 32 q s u A,bI2 5 32 g d c f] ?_
 refine xe (zA (zC ?_))
 refine SXc.weak [(3,.p 3 0),(4,.p 4 0),(5,.p 5 0),(6,.p 6 0)] [(6,32,[.v (.bool q),.v (.slice s u A)]),(5,32,[.v (.bool g),.v (.slice d c f)]),(4,32,[.v (.bool false),.v (.slice none 0 0)]),(3,32,[.v (.bool l),.v (.slice m n c2)])] (xF.of (by kernel_rfl)) (by kernel_rfl) (fun _ h=>h) ?_
 refine yO 5 zM ?_
 refine xqg 1 [eI2 14 q s u A] ?_
 refine xqd 25 [vI2 q s u A,.int .i64 1] 15 zZ _ (fun w R Q=>(gM _ ((a%b:Nat):Int) 1 _ Q.2.2 (nfit (mlc (uA (wK (rM (uM a C))) hb)) (by decide)) (by omega)).mono (fun _ _ h=>xC (by rw[show ((a%b:Nat):Int)*2^1=((2*(a%b):Nat):Int) by omega] at h;exact h))) fun⟨a0,b0,c0,d0⟩=>?_
 refine xqg 1 [eI2 16 l m n c2] ?_
 refine xqd 133 [vI2 a0 b0 c0 d0,vI2 l m n c2] 17 (fun _:Unit=>.int .i64 (((2*(a%b):Nat):Int)-(b:Int)).sign) _ (fun w R Q=>yN (Zih _ _ ((2*(a%b):Nat):Int) (b:Int) _ Q.2 Q.1.1.2 (nfit (mlc Y) (by decide)) (nfit (mlc hb) (by decide)))) fun xx=>?_
 refine xqg 1 [(7,.v (.int .i64 (((2*(a%b):Nat):Int)-(b:Int)).sign))] ?_
 refine xz (xe (zA (zC (zC ?_))))
 by_cases n0:b<2*(a%b)
 ·refine zB (xq 2 [(19,.v (.bool (decide ((((2*(a%b):Nat):Int)-(b:Int)).sign>0))))] [] ?_)
  rw[show decide ((((2*(a%b):Nat):Int)-(b:Int)).sign>0)=true from uQ (by rw[rN (by omega)];decide)]
  refine xq 18 [yB 37 true] [] ?_
  refine xe (zA (xa ?_))
  refine SXc.weak [(4,.p 4 0),(5,.p 5 0)] [(5,32,[.v (.bool g),.v (.slice d c f)]),(4,32,[.v (.bool false),.v (.slice none 0 0)])] (xF.of (by kernel_rfl)) (by kernel_rfl) (fun _ h=>h) ?_
  refine yO 3 zM ?_
  refine xqg 1 [eI2 38 g d c f] ?_
  refine xqd 24 [.int .i64 1] 39 zZ _ (fun w R Q=>yM xC (lH 1 _ (by decide) (by decide))) fun⟨e0,f0,g0,h0⟩=>?_
  refine xqd 77 [vI2 g d c f,vI2 e0 f0 g0 h0] 40 zZ _ (fun w R Q=>yM xC (Zaf (x:=a/b) (r:=1) Q.1.1.1.2.1 Q.2 (uA (wK (uO a b)) D) (uA (xX.2 (show (1:Nat)<W32^1 by rw[zP];decide)) (by decide)))) fun⟨E,F,G,H⟩=>?_
  refine xz (xq 1 [] [bI2 5 32 E F G H] ?_)
  refine xe (zA (zC (zB (xq 2 [] [bI2 4 32 E F G H] ?_))))
  refine xe (zA (zF ?_))
  refine yR (.agg #[.bool E,.slice F G H]) fun w' R Q=>?_
  exact⟨_,rfl,by rw[Zka (by omega)];exact Q.2,R⟩
 by_cases o0:2*(a%b)=b
 ·by_cases p0:a/b=0
  ·refine SXc.know (p:=c=0) (fun w _ Q=>len_zero (Q.1.1.2.1) (by omega)) fun T=>?_
   refine zB (xq 2 [(19,.v (.bool (decide ((((2*(a%b):Nat):Int)-(b:Int)).sign>0))))] [] ?_)
   rw[show decide ((((2*(a%b):Nat):Int)-(b:Int)).sign>0)=false from Zed (by omega)]
   refine xq 3 [yB 20 false,(22,.v (.bool (((((2*(a%b):Nat):Int)-(b:Int)).sign:Int) == 0)))] [] ?_
   rw[show ((((2*(a%b):Nat):Int)-(b:Int)).sign == 0)=true from tA.2 (vM.2 (by omega))]
   refine xq 5 [yB 23 true,yB 27 (decide ((c:Int)>0))] [] ?_
   rw[show decide ((c:Int)>0)=false from uJ (by omega)]
   refine xq 10 [yB 37 false] [] ?_
   refine xe (zA (xb (zK (zA (zC (zB (xq 2 [] [bI2 4 32 g d c f] ?_)))))))
   refine xe (zA (zF ?_))
   refine yR (.agg #[.bool g,.slice d c f]) fun w' R Q=>?_
   exact⟨_,rfl,by rw[Zgp (by omega)];exact Q.1.1.2.1,R⟩
  by_cases m0:a/b%2=1
  ·refine SXc.know (p:=0<c) (fun w _ Q=>(Q.1.1.2.1).lenp (by omega)) fun T=>?_
   refine zB (xq 2 [(19,.v (.bool (decide ((((2*(a%b):Nat):Int)-(b:Int)).sign>0))))] [] ?_)
   rw[show decide ((((2*(a%b):Nat):Int)-(b:Int)).sign>0)=false from Zed (by omega)]
   refine xq 3 [yB 20 false,(22,.v (.bool (((((2*(a%b):Nat):Int)-(b:Int)).sign:Int) == 0)))] [] ?_
   rw[show ((((2*(a%b):Nat):Int)-(b:Int)).sign == 0)=true from tA.2 (vM.2 (by omega))]
   refine xq 5 [yB 23 true,yB 27 (decide ((c:Int)>0))] [] ?_
   rw[show decide ((c:Int)>0)=true from uQ (by omega)]
   refine xq 4 [yB 29 true,eS1 31 d c f] [] ?_
   refine xqk 32 (atA d 0) (fun w R Q=>(by obtain⟨U,V,S,B,W,X⟩:=lY (Q.1.1.2.1) (z:=((a/b:Nat):Int)) (by omega);exact xO (t:=30) (e:=102) (x:=.tmp 31) (ix:=.const (.int .i64 0)) (len:=c) (cap:=f) (i:=0) X (by have h5:c=U.length:=W;omega))) ?_
   refine xqk 33 (.int .u32 (((a/b)%W32:Nat):Int)) (fun w R Q=>(by obtain⟨U,V,S,B,W,X⟩:=lY (Q.1.1.2.1) (z:=((a/b:Nat):Int)) (by omega);rw[uS] at B;rw[←B];exact xW (t:=102) (x:=.tmp 32) V (j:=0) S)) ?_
   refine xqk 34 (.int .u32 (((a/b)%W32%2:Nat):Int)) (fun w R Q=>jY (t:=102) (k:=102) (x:=.tmp 33) (y:=.const (.int .u32 1)) (by kernel_rfl) (by kernel_rfl) (by kernel_rfl) (by have:=uM (a/b) (show 0<W32 by rw[zP];decide);rw[zP] at this ⊢;exact this)) ?_
   refine xq 1 [(35,.v (.bool (((((a/b)%W32%2:Nat):Int):Int) == 1)))] [] ?_
   rw[(show ((((a/b)%W32%2:Nat):Int) == 1)=true from tA.2 (by rw[zP];omega))]
   refine xq 2 [yB 37 true] [] ?_
   refine xe (zA (xa ?_))
   refine SXc.weak [(4,.p 4 0),(5,.p 5 0)] [(5,32,[.v (.bool g),.v (.slice d c f)]),(4,32,[.v (.bool false),.v (.slice none 0 0)])] (xF.of (by kernel_rfl)) (by kernel_rfl) (fun _ h=>h) ?_
   refine yO 3 zM ?_
   refine xqg 1 [eI2 38 g d c f] ?_
   refine xqd 24 [.int .i64 1] 39 zZ _ (fun w R Q=>yM xC (lH 1 _ (by decide) (by decide))) fun⟨i0,j0,k0,l0⟩=>?_
   refine xqd 77 [vI2 g d c f,vI2 i0 j0 k0 l0] 40 zZ _ (fun w R Q=>yM xC (Zaf (x:=a/b) (r:=1) Q.1.1.1.2.1 Q.2 (uA (wK (uO a b)) D) (uA (xX.2 (show (1:Nat)<W32^1 by rw[zP];decide)) (by decide)))) fun⟨I,J,K,L⟩=>?_
   refine xz (xq 1 [] [bI2 5 32 I J K L] ?_)
   refine xe (zA (zC (zB (xq 2 [] [bI2 4 32 I J K L] ?_))))
   refine xe (zA (zF ?_))
   refine yR (.agg #[.bool I,.slice J K L]) fun w' R Q=>?_
   exact⟨_,rfl,by rw[Zka (by omega)];exact Q.2,R⟩
  refine SXc.know (p:=0<c) (fun w _ Q=>(Q.1.1.2.1).lenp (by omega)) fun T=>?_
  refine zB (xq 2 [(19,.v (.bool (decide ((((2*(a%b):Nat):Int)-(b:Int)).sign>0))))] [] ?_)
  rw[show decide ((((2*(a%b):Nat):Int)-(b:Int)).sign>0)=false from Zed (by omega)]
  refine xq 3 [yB 20 false,(22,.v (.bool (((((2*(a%b):Nat):Int)-(b:Int)).sign:Int) == 0)))] [] ?_
  rw[show ((((2*(a%b):Nat):Int)-(b:Int)).sign == 0)=true from tA.2 (vM.2 (by omega))]
  refine xq 5 [yB 23 true,yB 27 (decide ((c:Int)>0))] [] ?_
  rw[show decide ((c:Int)>0)=true from uQ (by omega)]
  refine xq 4 [yB 29 true,eS1 31 d c f] [] ?_
  refine xqk 32 (atA d 0) (fun w R Q=>(by obtain⟨U,V,S,B,W,X⟩:=lY (Q.1.1.2.1) (z:=((a/b:Nat):Int)) (by omega);exact xO (t:=30) (e:=102) (x:=.tmp 31) (ix:=.const (.int .i64 0)) (len:=c) (cap:=f) (i:=0) X (by have h5:c=U.length:=W;omega))) ?_
  refine xqk 33 (.int .u32 (((a/b)%W32:Nat):Int)) (fun w R Q=>(by obtain⟨U,V,S,B,W,X⟩:=lY (Q.1.1.2.1) (z:=((a/b:Nat):Int)) (by omega);rw[uS] at B;rw[←B];exact xW (t:=102) (x:=.tmp 32) V (j:=0) S)) ?_
  refine xqk 34 (.int .u32 (((a/b)%W32%2:Nat):Int)) (fun w R Q=>jY (t:=102) (k:=102) (x:=.tmp 33) (y:=.const (.int .u32 1)) (by kernel_rfl) (by kernel_rfl) (by kernel_rfl) (by have:=uM (a/b) (show 0<W32 by rw[zP];decide);rw[zP] at this ⊢;exact this)) ?_
  refine xq 1 [(35,.v (.bool (((((a/b)%W32%2:Nat):Int):Int) == 1)))] [] ?_
  rw[(show ((((a/b)%W32%2:Nat):Int) == 1)=false from tG.2 (by rw[zP];omega))]
  refine xq 2 [yB 37 false] [] ?_
  refine xe (zA (xb (zK (zA (zC (zB (xq 2 [] [bI2 4 32 g d c f] ?_)))))))
  refine xe (zA (zF ?_))
  refine yR (.agg #[.bool g,.slice d c f]) fun w' R Q=>?_
  exact⟨_,rfl,by rw[Zgp (by omega)];exact Q.1.1.2.1,R⟩
 refine zB (xq 2 [(19,.v (.bool (decide ((((2*(a%b):Nat):Int)-(b:Int)).sign>0))))] [] ?_)
 rw[show decide ((((2*(a%b):Nat):Int)-(b:Int)).sign>0)=false from Zed (by omega)]
 refine xq 3 [yB 20 false,(22,.v (.bool (((((2*(a%b):Nat):Int)-(b:Int)).sign:Int) == 0)))] [] ?_
 rw[show ((((2*(a%b):Nat):Int)-(b:Int)).sign == 0)=false from tG.2 (fun e=>by have:=vM.1 e;omega)]
 refine xq 15 [yB 37 false] [] ?_
 refine xe (zA (xb (zK (zA (zC (zB (xq 2 [] [bI2 4 32 g d c f] ?_)))))))
 refine xe (zA (zF ?_))
 refine yR (.agg #[.bool g,.slice d c f]) fun w' R Q=>?_
 exact⟨_,rfl,by rw[Zgp (by omega)];exact Q.1.1.2.1,R⟩
theorem zI.absv {w:World}{s:Bool}{A:Option Addr}{l c:Nat}{z:Int}(h:zI w (.agg #[.bool s,.slice A l c]) z):zI w (.agg #[.bool false,.slice A l c]) ((z.natAbs:Nat):Int) :=
 ⟨false,_,z.natAbs,rfl,h.opn.1,fun _=>rfl,rfl⟩
theorem zI.sgn {w:World}{A:Option Addr}{l c n:Nat}(h:zI w (.agg #[.bool false,.slice A l c]) ((n:Nat):Int))(b:0<n)(t:Bool):zI w (.agg #[.bool t,.slice A l c]) (sg t n):=by
 have a:=h.opn.1
 rw[uS] at a
 exact⟨t,_,n,rfl,a,fun e=>by omega,rfl⟩
theorem zI.signb {w:World}{s:Bool}{A:Option Addr}{l c:Nat}{z:Int}(h:zI w (.agg #[.bool s,.slice A l c]) z):s=decide (z<0):=by
 obtain⟨_,a,b⟩:=h.opn
 cases s
 ·have:z=(z.natAbs:Int):=a
  exact (uJ (by omega)).symm
 have d:z = -(z.natAbs:Int):=a
 have f:z≠0:=fun e=>by have:=b e;cases this
 exact (uQ (by omega)).symm
abbrev CB (w:World) (g:Nat) (bits err:Int):Prop:=Blk 84 w g #[.int .i64 bits,.int .i64 err]
def RetC (w:World) (g:Nat) (bits:Int) (r:FR) (e:Ending) (w':World):Prop:=∃ y:ShI,e=.returned (shF r.e y)∧zI w' (zZ y) (sg r.s r.m)∧Fr (fun i=>i=g) w w'∧CB w' g bits r.err
theorem ZqJ (a b:Int):ZkS #[.int .i64 a,.int .i64 b]:=by
 intro i k z h;rcases i with _|_|i<;>simp at h
 ·exact h.1.symm
 exact h.1.symm
theorem Zq3 {t:TypeId}{w w':World}{g:Nat}{cs:Array Value}{φ:World→Prop}(b:Fr (fun i=>i=g) w w')(c:Blk t w' g cs)(d:ZkS cs)(h:∀ S w'',(∀ i,S i→NRB w' i)→Fr S w' w''→φ w''):BoxN w w' φ:=fun S f w'' j=>h S w'' (fun i k=>by
 by_cases e:i=g
 ·subst e;exact⟨_,_,c,d⟩
 obtain⟨l,a,m,n⟩:=(f i k).2
 exact⟨l,a,m.fr b e,n⟩) j
theorem jR {w w':World}{g:Nat}{bits:Int}{r:FR}{e:Ending}(h:RetC w g bits r e w'):∃ y:ShI,e=.returned (shF r.e y)∧Fr (fun i=>i=g) w w'∧Blk 84 w' g #[.int .i64 bits,.int .i64 r.err]∧BoxN w w' (fun w=>zI w (zZ y) (sg r.s r.m)):=by
 obtain⟨y,rfl,c,a,b⟩:=h
 exact⟨y,rfl,a,b,Zq3 a b (ZqJ _ _) (fun S d f j=>c.nrb f j)⟩
theorem eM {w w':World}{e:Ending}{z x:Int}(h:ZfX w z x e w'):kF (shF x) (fun y w=>zI w (zZ y) z) w e w':=by
 obtain⟨y,rfl,a,Q⟩:=h
 exact⟨y,rfl,Q,boxn Q (fun S b c d=>a.nrb c d)⟩
theorem Zhc (g:Nat)(bits e:Int)(w:World)(h:CB w g bits 0):yA 161 #[.pointer (some ⟨g,0,none⟩),.int .i64 e] w (fun a w'=>∃ x:Unit,a=.returned ((fun _:Unit=>Value.tuple #[]) x)∧Fr (fun i=>i=g) w w'∧Blk 84 w' g ((fun _:Unit=>#[.int .i64 bits,.int .i64 e]) x)∧BoxN w w' (fun _=>True)):=by
 have b:=h.set_ 1 (.int .i64 e)
 have c:=h.cell 1
 have d:=h.frozen 1
 go_enter Tryz.func161,Tryz.ntmps161
 go_wp2
 exact⟨rfl,.tuple #[],by simp[results,Tryz.f161],⟨(),rfl,(show Fr (fun i=>i=g) w w from Fr.refl _ _).setCell (p:=⟨g,1,none⟩) (Or.inl rfl) _,b,BoxN.pure trivial⟩⟩
def limR (s:Bool) (m:Nat) (e:Int):FR:=if okE e then ⟨s,m,e,0⟩ else ⟨false,0,0,2⟩
theorem ZeZ {s:Bool}{n:Nat}{e:Int}(h:0<n):wV s n e=limR s (oddM n) (e+tzn n):=by
 unfold wV limR
 rw[uN (by omega)];rfl
theorem aN {s:Bool}{n:Nat}(h:0<n):decide (sg s n<0)=s:=by
 unfold sg;cases s<;>simp<;>omega
theorem jI (s:Bool)(n:Nat):(sg s n).natAbs=n:=by unfold sg;cases s<;>simp
theorem ZoT {s:Bool}{n:Nat}(h:0<n):sg s n≠0:=by unfold sg;cases s<;>simp<;>omega
theorem Zgt {n k b j:Nat}(a:ml n≤b)(c:k<32*j):ml (n*2^k)≤b+j:=Znb a (Zna c)
theorem Ze0 {n k:Nat}(h:ml n≤k):blen n≤32*k:=by have:=Zcd n;omega
theorem Zkz {a b k:Nat}(ha:ml a≤k)(c:1≤k):ml (kY a b)≤k+1:=by
 have d:ml 1≤1:=xX.2 (by rw[zP];decide)
 exact uA (wK (Zd6 a b).2) (Zbb (uA (wK (uO a b)) ha) (uA d c))
theorem jS (g bits:Nat)(b:Bool)(A:Option Addr)(l c:Nat)(s:Bool)(m:Nat)(e:Int)(w:World)(n:CB w g ((bits:Nat):Int) 0)(o:zI w (.agg #[.bool b,.slice A l c]) (sg s m)) :
 yA 134 #[.pointer (some ⟨g,0,none⟩), yV b A l c e] w (RetC w g ((bits:Nat):Int) (limR s m e)):=by
 refine jH (fun i=>i=g) (Φ:=fun w=>(CB w g (bits:Int) 0∧zI w (.agg #[.bool b,.slice A l c]) (sg s m))) Tryz.func134 rfl (by kernel_rfl) (fun w' k=>⟨n.ext k,o.ext k⟩) ?_
 refine zC (zB (xq 2 [(3,.p 3 0),(4,.p 4 0)] [yF 4 52 false none 0 0 0,yF 3 52 b A l c e] ?_))
 refine xe (zA (zC (zC (zB (xq 4 [yB 8 (decide (e<(-1048576)))] [] ?_)))))
 rcases bl2 ((decide (e<(-1048576)))) with a|a
 ·rw[a]
  have h:=uC a
  refine xq 4 [yB 12 true] [] ?_
  refine xe (zA (xa (zC (zB (xq 1 [(13,.v (.pointer (some ⟨g,0,none⟩)))] [] ?_)))))
  refine wQ 161 [.pointer (some ⟨g,0,none⟩),.int .i64 2] (d:=14) (fun _:Unit=>.tuple #[]) (fun _:Unit=>#[.int .i64 (bits:Int),.int .i64 2]) (fun _ _=>True) (fun _=>True) (fun w Q=>Q.1) (vK _) (Or.inr rfl) (fun w R Q=>Zhc g _ 2 _ Q.1) (fun _ _ _ _=>trivial) fun _=>?_
  refine xr 0 [(3,.p 3 0),(4,.p 4 0)] [yF 4 52 false none 0 0 0,yF 3 52 b A l c e] ?_
  refine xe (zA (zC (zB (xq 2 [] [] ?_))))
  refine xe (zA (zF (zE ?_)))
  refine yR (yV false none 0 0 0) fun w' R Q=>?_
  rw[show limR s m e=⟨false,0,0,2⟩ from uN (by rintro⟨q,r⟩;omega)]
  exact⟨(false,none,0,0),rfl,zI.nil _,R,Q.1.2⟩
 rw[a]
 have h:=uD a
 refine xq 4 [yB 12 (decide (e>1048576))] [] ?_
 refine xe (zA ?_)
 refine yQ ((decide (e>1048576))) (fun f=>?_) fun f=>?_
 ·have j:=uC f
  refine zC (zB (xq 1 [(13,.v (.pointer (some ⟨g,0,none⟩)))] [] ?_))
  refine wQ 161 [.pointer (some ⟨g,0,none⟩),.int .i64 2] (d:=14) (fun _:Unit=>.tuple #[]) (fun _:Unit=>#[.int .i64 (bits:Int),.int .i64 2]) (fun _ _=>True) (fun _=>True) (fun w Q=>Q.1) (vK _) (Or.inr rfl) (fun w R Q=>Zhc g _ 2 _ Q.1) (fun _ _ _ _=>trivial) fun _=>?_
  refine xr 0 [(3,.p 3 0),(4,.p 4 0)] [yF 4 52 false none 0 0 0,yF 3 52 b A l c e] ?_
  refine xe (zA (zC (zB (xq 2 [] [] ?_))))
  refine xe (zA (zF (zE ?_)))
  refine yR (yV false none 0 0 0) fun w' R Q=>?_
  rw[show limR s m e=⟨false,0,0,2⟩ from uN (by rintro⟨q,r⟩;omega)]
  exact⟨(false,none,0,0),rfl,zI.nil _,R,Q.1.2⟩
 have j:=uD f
 refine zK (zA (zC (zB (xq 2 [] [yF 4 52 b A l c e] ?_))))
 refine xe (zA (zF ?_))
 refine yR (yV b A l c e) fun w' R Q=>?_
 rw[show limR s m e=⟨s,m,e,0⟩ from uP ⟨by omega,by omega⟩]
 exact⟨(b,A,l,c),rfl,Q.2,R,Q.1⟩
theorem jD (g bits:Nat)(b:Bool)(A:Option Addr)(l c:Nat)(z:Int)(a:Bool)(B:Option Addr)(m f d:Nat)(e:Int)(w:World)(hC:CB w g ((bits:Nat):Int) 0)(hN:zI w (.agg #[.bool b,.slice A l c]) z)(hD:zI w (.agg #[.bool a,.slice B m f]) ((d:Nat):Int))(hz:ml z.natAbs≤10000)(hd:ml d≤10000)(q:0<d)(G:0<bits)(hb:bits≤4096)(P0 : -1073741824≤e)(Q0:e≤1073741824) :
 yA 101 #[.pointer (some ⟨g,0,none⟩),.agg #[.bool b,.slice A l c],.agg #[.bool a,.slice B m f],.int .i64 e] w (RetC w g ((bits:Nat):Int) (xK (decide (z<0)) z.natAbs d e bits)):=by
 refine jH (fun i=>i=g) (Φ:=fun w=>((CB w g (bits:Int) 0∧zI w (.agg #[.bool b,.slice A l c]) (z))∧zI w (.agg #[.bool a,.slice B m f]) ((d:Int)))) Tryz.func101 rfl (by kernel_rfl) (fun w' hf=>⟨⟨hC.ext hf,hN.ext hf⟩,hD.ext hf⟩) ?_
 refine zC ?_
 by_cases h0:z=0
 ·refine zB (xq 3 [(5,.p 5 0),(6,.p 6 0),(8,.p 8 0)] [yF 8 52 false none 0 0 0,bI2 6 32 a B m f,bI2 5 32 b A l c] ?_)
  refine xe (zA (zC (zC (zB (xq 1 [eI2 16 b A l c] [] ?_)))))
  refine xqc 62 [vI2 b A l c] 17 (fun _:Unit=>.int .i64 0) _ (fun w R Q=>(wU _ z _ Q.1.2).mono (fun _ _ h=>zG h (by rw[h0];rfl))) fun xx=>?_
  refine xq 1 [yB 18 true] [] ?_
  refine xe (zA (xa (zC (zB (xq 2 [] [] ?_)))))
  refine xe (zA (zF (zE ?_)))
  refine yR (yV false none 0 0 0) fun w' R Q=>?_
  rw[h0,show (0:Int).natAbs=0 from rfl,jO]
  exact⟨(false,none,0,0),rfl,zI.nil _,R,Q.1.1.1⟩
 refine zB (xq 3 [(5,.p 5 0),(6,.p 6 0),(8,.p 8 0)] [yF 8 52 false none 0 0 0,bI2 6 32 a B m f,bI2 5 32 b A l c] ?_)
 refine xe (zA (zC (zC (zB (xq 1 [eI2 16 b A l c] [] ?_)))))
 refine xqc 62 [vI2 b A l c] 17 (fun _:Unit=>.int .i64 (Int.sign z)) _ (fun w R Q=>yN (wU _ z _ Q.1.2)) fun xx=>?_
 refine xq 1 [yB 18 (((Int.sign z):Int) == 0)] [] ?_
 rw[(show (((Int.sign z):Int) == 0)=false by have:=mt vM.1 h0;simpa using this)]
 refine xe (zA (xb (zK (zA (zC (zB (xq 3 [(9,.p 9 0)] [bI2 9 32 b A l c] ?_)))))))
 refine xe (zA (zC (zB (xq 2 [] [bI2 9 32 false A l c] ?_))))
 refine xe (zA (zC ?_))
 have R0:=Ze0 hz
 have S0:=Ze0 hd
 refine yO 11 zM ?_
 refine xqg 1 [eI2 22 false A l c] ?_
 refine xqd 37 [vI2 false A l c] 23 (fun _:Unit=>.int .i64 ((blen z.natAbs:Nat):Int)) _ (fun w R Q=>yN (kR _ _ _ (Q.1.1.2).absv (nfit (mlc hz) (by decide)))) fun xx=>?_
 refine xqg 1 [eI2 24 a B m f] ?_
 refine xqd 37 [vI2 a B m f] 25 (fun _:Unit=>.int .i64 ((blen d:Nat):Int)) _ (fun w R Q=>yN (kR _ _ _ Q.1.1.2 (nfit (mlc hd) (by decide)))) fun xx=>?_
 refine xqg 1 [yJ 26 (IntKind.i64.wrap (((blen z.natAbs:Nat):Int)-((blen d:Nat):Int)))] ?_
 rw[yW (((blen z.natAbs:Nat):Int)-((blen d:Nat):Int)) (((blen z.natAbs:Nat):Int)-((blen d:Nat):Int)) (by omega)]
 refine xqg 3 [(29,.v (.pointer (some ⟨g,0,none⟩)))] ?_
 refine xqj 30 (.int .i64 (bits:Int)) (fun w Q=>lP (t:=3) (x:=.tmp 29) (g:=g) (off:=0) (Blk.cell (Q.1.1.1) 0)) ?_
 refine xqg 1 [(31,.v (.int .i64 (IntKind.i64.wrap ((((blen z.natAbs:Nat):Int)-((blen d:Nat):Int))-(bits:Int)))))] ?_
 rw[show IntKind.i64.wrap ((((blen z.natAbs:Nat):Int)-((blen d:Nat):Int))-(bits:Int))=rk0 z.natAbs d bits by unfold rk0;rw[IntKind.wrap_i64];omega]
 refine xqg 1 [yJ 10 (rk0 z.natAbs d bits)] ?_
 refine xz (xe (zA (xH ?_)))
 refine yC [(0,.v (.pointer (some ⟨g,0,none⟩))),yJ 3 e,(5,.p 5 0),(6,.p 6 0),(8,.p 8 0),(9,.p 9 0),yJ 10 ((rk0 z.natAbs d bits))] [(9,32,[.v (.bool false),.v (.slice A l c)]),yF 8 52 false none 0 0 0,(6,32,[.v (.bool a),.v (.slice B m f)]),(5,32,[.v (.bool b),.v (.slice A l c)])] (fun w=>((CB w g (bits:Int) 0∧zI w (.agg #[.bool b,.slice A l c]) (z))∧zI w (.agg #[.bool a,.slice B m f]) ((d:Int)))) (fun w Q=>⟨⟨Q.1.1.1.1.1,Q.1.1.1.1.2⟩,Q.1.1.1.2⟩) ?_
 refine lW (fun nn ss ff=>∃ (k:Int),ss=ofL [(0,.v (.pointer (some ⟨g,0,none⟩))),yJ 3 e,(5,.p 5 0),(6,.p 6 0),(8,.p 8 0),(9,.p 9 0),yJ 10 k] [(9,32,[.v (.bool false),.v (.slice A l c)]),yF 8 52 false none 0 0 0,(6,32,[.v (.bool a),.v (.slice B m f)]),(5,32,[.v (.bool b),.v (.slice A l c)])]∧ff=(fun w=>((CB w g (bits:Int) 0∧zI w (.agg #[.bool b,.slice A l c]) (z))∧zI w (.agg #[.bool a,.slice B m f]) ((d:Int))))∧(k=rk0 z.natAbs d bits∨k=rndK z.natAbs d bits)∧nn=((rndK z.natAbs d bits-k).toNat)) (((rndK z.natAbs d bits-((rk0 z.natAbs d bits))).toNat)) ⟨((rk0 z.natAbs d bits)),rfl,rfl,(Or.inl rfl),rfl⟩ ?_
 rintro nn ss ff ⟨k,rfl,rfl,hk,rfl⟩
 refine xH (zC ?_)
 have T0:=Zpo hk
 refine yO 6 zM ?_
 refine xqf 6 [(11,.p 11 0),(12,.p 12 0)] [bI2 12 32 a B m f,bI2 11 32 false A l c,bI2 12 32 false none 0 0,bI2 11 32 false none 0 0,bI2 9 32 false A l c,yF 8 52 false none 0 0 0,bI2 6 32 a B m f,bI2 5 32 b A l c] ?_
 refine xz (xe (zA (zC (zC (zB (xq 2 [yB 35 (decide (k≥0))] [bI2 12 32 a B m f,bI2 11 32 false A l c] ?_))))))
 refine xe (zA ?_)
 refine yQ ((decide (k≥0))) (fun X=>?_) fun X=>?_
 ·have Y:=uC X
  obtain⟨j,rfl⟩:=uW Y
  have D:fa z.natAbs (j:Int)=z.natAbs:=Zqh (by omega)
  have E:fb d (j:Int)=d*2^j:=by unfold fb;rw[qY]
  have hj:j≤700000:=by omega
  have Z:ml z.natAbs≤90000:=by omega
  have N0:ml (d*2^j)≤90000:=uA (Zgt (j:=30000) hd (by omega)) (by omega)
  have a0:0<d*2^j:=sG q (p2 j)
  have b0:fq z.natAbs d ((j:Int))=z.natAbs/(d*2^j):=by unfold fq;rw[D,E]
  refine zB (xq 2 [eI2 36 a B m f,yJ 37 (j:Int)] [] ?_)
  refine xqc 25 [vI2 a B m f,.int .i64 (j:Int)] 38 zZ _ (fun w R Q=>(gM _ (d:Int) j _ Q.2 (nfit (mlc hd) (by decide)) (by omega)).mono (fun _ _ h=>xC (by rw[show (d:Int)*2^j=((d*2^j:Nat):Int) by rw[tD,vT];rfl] at h;exact h))) fun⟨H,I,J,K⟩=>?_
  refine xq 1 [] [bI2 12 32 H I J K] ?_
  refine xe (zA (zC (zB (xq 2 [eI2 44 false A l c,eI2 45 H I J K] [] ?_))))
  refine xqc 70 [vI2 false A l c,vI2 H I J K] 46 aG _ (fun w R Q=>yM eC (ZcO (x:=z.natAbs) (r:=d*2^j) (Q.1.1.2).absv Q.2 (by omega) (by omega) a0)) fun xx=>?_
  obtain⟨⟨i0,j0,k0,l0⟩,⟨U0,V0,W0,X0⟩⟩:=xx
  refine xq 7 [(13,.p 13 0)] [bI2 13 32 i0 j0 k0 l0] ?_
  refine xe (zA (zC (zC ?_)))
  refine yO 7 zM ?_
  refine xqg 1 [eI2 49 i0 j0 k0 l0] ?_
  refine xqd 37 [vI2 i0 j0 k0 l0] 50 (fun _:Unit=>.int .i64 ((blen (z.natAbs/(d*2^j)):Nat):Int)) _ (fun w R Q=>yN (kR _ _ _ Q.2.1 (nfit (mlc (uA (wK (uO _ _)) Z)) (by decide)))) fun xx=>?_
  refine xqg 3 [(53,.v (.pointer (some ⟨g,0,none⟩)))] ?_
  refine xqj 54 (.int .i64 (bits:Int)) (fun w Q=>lP (t:=3) (x:=.tmp 53) (g:=g) (off:=0) (Blk.cell (Q.1.1.1.1) 0)) ?_
  refine xqg 1 [(55,.v (.bool (decide (((blen (z.natAbs/(d*2^j)):Nat):Int)>(bits:Int)))))] ?_
  refine xz (xe (zA ?_))
  refine yQ ((decide (((blen (z.natAbs/(d*2^j)):Nat):Int)>(bits:Int)))) (fun c0=>?_) fun c0=>?_
  ·have m0:=uC c0
   have d0:=Zj8 (by omega) q G hk (by rw[b0];omega)
   refine zC (zB (xq 2 [yJ 57 (IntKind.i64.wrap ((j:Int)+1))] [] ?_))
   rw[yW ((j:Int)+1) ((j:Int)+1) (by omega)]
   refine xq 1 [yJ 10 ((j:Int)+1)] [] ?_
   refine xe (zA (lG (zW (lV ?_))))
   refine yP [(0,.v (.pointer (some ⟨g,0,none⟩))),yJ 3 e,(5,.p 5 0),(6,.p 6 0),(8,.p 8 0),(9,.p 9 0),yJ 10 (((j:Int)+1))] [(9,32,[.v (.bool false),.v (.slice A l c)]),yF 8 52 false none 0 0 0,(6,32,[.v (.bool a),.v (.slice B m f)]),(5,32,[.v (.bool b),.v (.slice A l c)])] (fun w=>((CB w g (bits:Int) 0∧zI w (.agg #[.bool b,.slice A l c]) (z))∧zI w (.agg #[.bool a,.slice B m f]) ((d:Int)))) (fun w Q=>⟨⟨Q.1.1.1.1.1,Q.1.1.1.1.2⟩,Q.1.1.1.2⟩) ?_
   exact wG (((rndK z.natAbs d bits-(((j:Int)+1))).toNat)) (by have:=d0.2;omega) ⟨(((j:Int)+1)),rfl,rfl,(Or.inr d0.1),rfl⟩
  have m0:=uD c0
  have F:=Zj9 (by omega) q G hk (by rw[b0];omega)
  have o:=Zil (n:=z.natAbs) (d:=d) (bits:=bits) (by omega) q G
  have n0:ml (rndM z.natAbs d bits)≤1048576:=by unfold rndM;rw[←F,D,E];exact uA (Zkz Z (by decide)) (by omega)
  refine zK (zA (zC (zB (xq 2 [eI2 58 false A l c,eI2 59 H I J K] [] ?_))))
  refine xqc 147 [vI2 false A l c,vI2 H I J K] 60 zZ _ (fun w R Q=>(ZdI false A l c H I J K (z.natAbs) (d*2^j) _ (Q.1.1.1.1.2).absv Q.1.1.2 (by omega) (by omega) a0).mono (fun _ _ h=>xC (by rw[show kY (z.natAbs) (d*2^j)=rndM z.natAbs d bits by unfold rndM;rw[←F,D,E]] at h;exact h))) fun⟨D0,L,M,N⟩=>?_
  refine xq 2 [(15,.p 15 0)] [bI2 15 32 D0 L M N] ?_
  refine xe (zA (zC (zB (xq 4 [] [bI2 15 32 b L M N] ?_))))
  refine xe (zA (zC (zB (xr 5 [(0,.v (.pointer (some ⟨g,0,none⟩))),yJ 3 e,(5,.p 5 0),(6,.p 6 0),(8,.p 8 0),(9,.p 9 0),yJ 10 (j:Int),(64,.v (.pointer (some ⟨g,0,none⟩))),eI2 65 b L M N,yJ 68 (IntKind.i64.wrap (e+(j:Int)))] [bI2 9 32 false A l c,yF 8 52 false none 0 0 0,bI2 6 32 a B m f,bI2 5 32 b A l c] ?_))))
  rw[yW (e+(j:Int)) (e+(j:Int)) (by omega)]
  refine xqc 135 [vI2 b L M N,.int .i64 (e+(j:Int))] 69 (shF ((e+(j:Int))+((tzn (rndM z.natAbs d bits):Nat):Int))) _ (fun w R Q=>(iO b L M N (sg b (rndM z.natAbs d bits)) ((e+(j:Int))) _ (by have h1:zI _ (.agg #[.bool D0,.slice L M N]) _:=Q.2;have h2:=h1.spos (rQ _);rw[h2] at h1;exact h1.sgn o b) (ZoT o) (by unfold ZaR;rw[jI];exact n0) (by omega) (by omega)).mono (fun _ _ h=>eM (by rw[jI,aN o] at h;exact h))) fun⟨E0,F0,G0,H0⟩=>?_
  obtain⟨u,f0⟩:=yE (limR b (oddM (rndM z.natAbs d bits)) (((e+(j:Int))+((tzn (rndM z.natAbs d bits):Nat):Int))))
  refine wQ 134 [.pointer (some ⟨g,0,none⟩), yV E0 F0 G0 H0 ((e+(j:Int))+((tzn (rndM z.natAbs d bits):Nat):Int))] (d:=70) (shF u.e) (fun _=>#[.int .i64 (bits:Int),.int .i64 u.err]) (fun y w=>zI w (zZ y) (sg u.s u.m)) (fun _=>True) (fun w Q=>Q.1.1.1.1.1.1.1) (vK _) (Or.inr rfl) (fun w R Q=>yM jR (show Calls _ _ _ _ (RetC w g (bits:Int) u) by rw[←f0];exact jS g bits E0 F0 G0 H0 b (oddM (rndM z.natAbs d bits)) (((e+(j:Int))+((tzn (rndM z.natAbs d bits):Nat):Int))) _ Q.1.1.1.1.1.1.1 Q.2)) (fun _ _ _ _=>trivial) fun⟨o0,p0,q0,r0⟩=>?_
  refine xr 1 [(0,.v (.pointer (some ⟨g,0,none⟩))),yJ 3 e,(5,.p 5 0),(6,.p 6 0),(8,.p 8 0),(9,.p 9 0),yJ 10 (j:Int)] [bI2 9 32 false A l c,yF 8 52 o0 p0 q0 r0 u.e,bI2 6 32 a B m f,bI2 5 32 b A l c] ?_
  refine xe (zA (zF (lA (zE (lA ?_)))))
  refine yR (yV o0 p0 q0 r0 u.e) fun w' R Q=>?_
  have s0:=hN.signb
  have t0:xK (decide (z<0)) z.natAbs d e bits=u:=by unfold xK;rw[uN (by omega),ZeZ o,← f0,← F,← s0]
  rw[t0]
  exact⟨(o0,p0,q0,r0),rfl,Q.2,R,Q.1.2⟩
 have Y:=uD X
 obtain⟨j,O0⟩:∃ j:Nat,-k=j:=uW (by omega)
 have D:fa z.natAbs k=z.natAbs*2^j:=by unfold fa;rw[O0,qY]
 have E:fb d k=d:=Zqi (by omega)
 have hj:j≤700000:=by omega
 have Z:ml (z.natAbs*2^j)≤90000:=uA (Zgt (j:=30000) hz (by omega)) (by omega)
 have N0:ml d≤90000:=by omega
 have a0:=q
 have b0:fq z.natAbs d k=(z.natAbs*2^j)/(d):=by unfold fq;rw[D,E]
 refine zB (xq 3 [eI2 39 false A l c,yJ 41 (IntKind.i64.wrap (0-(k)))] [] ?_)
 rw[yW (0-(k)) ((j:Int)) (by omega)]
 refine xqc 25 [vI2 false A l c,.int .i64 (j:Int)] 42 zZ _ (fun w R Q=>(gM _ ((z.natAbs:Nat):Int) j _ (Q.1.2).absv (nfit (mlc hz) (by decide)) (by omega)).mono (fun _ _ h=>xC (by rw[show ((z.natAbs:Nat):Int)*2^j=((z.natAbs*2^j:Nat):Int) by rw[tD,vT];rfl] at h;exact h))) fun⟨O,P,S,T⟩=>?_
 refine xq 1 [] [bI2 11 32 O P S T] ?_
 refine xe (zA (zC (zB (xq 2 [eI2 44 O P S T,eI2 45 a B m f] [] ?_))))
 refine xqc 70 [vI2 O P S T,vI2 a B m f] 46 aG _ (fun w R Q=>yM eC (ZcO (x:=z.natAbs*2^j) (r:=d) Q.2 Q.1.2 (by omega) (by omega) a0)) fun xx=>?_
 obtain⟨⟨u0,v0,w0,x0⟩,⟨Y0,Z0,a1,b1⟩⟩:=xx
 refine xq 7 [(13,.p 13 0)] [bI2 13 32 u0 v0 w0 x0] ?_
 refine xe (zA (zC (zC ?_)))
 refine yO 7 zM ?_
 refine xqg 1 [eI2 49 u0 v0 w0 x0] ?_
 refine xqd 37 [vI2 u0 v0 w0 x0] 50 (fun _:Unit=>.int .i64 ((blen (z.natAbs*2^j/d):Nat):Int)) _ (fun w R Q=>yN (kR _ _ _ Q.2.1 (nfit (mlc (uA (wK (uO _ _)) Z)) (by decide)))) fun xx=>?_
 refine xqg 3 [(53,.v (.pointer (some ⟨g,0,none⟩)))] ?_
 refine xqj 54 (.int .i64 (bits:Int)) (fun w Q=>lP (t:=3) (x:=.tmp 53) (g:=g) (off:=0) (Blk.cell (Q.1.1.1.1) 0)) ?_
 refine xqg 1 [(55,.v (.bool (decide (((blen (z.natAbs*2^j/d):Nat):Int)>(bits:Int)))))] ?_
 refine xz (xe (zA ?_))
 refine yQ ((decide (((blen (z.natAbs*2^j/d):Nat):Int)>(bits:Int)))) (fun e0=>?_) fun e0=>?_
 ·have y0:=uC e0
  have d0:=Zj8 (by omega) q G hk (by rw[b0];omega)
  refine zC (zB (xq 2 [yJ 57 (IntKind.i64.wrap (k+1))] [] ?_))
  rw[yW (k+1) (k+1) (by omega)]
  refine xq 1 [yJ 10 (k+1)] [] ?_
  refine xe (zA (lG (zW (lV ?_))))
  refine yP [(0,.v (.pointer (some ⟨g,0,none⟩))),yJ 3 e,(5,.p 5 0),(6,.p 6 0),(8,.p 8 0),(9,.p 9 0),yJ 10 ((k+1))] [(9,32,[.v (.bool false),.v (.slice A l c)]),yF 8 52 false none 0 0 0,(6,32,[.v (.bool a),.v (.slice B m f)]),(5,32,[.v (.bool b),.v (.slice A l c)])] (fun w=>((CB w g (bits:Int) 0∧zI w (.agg #[.bool b,.slice A l c]) (z))∧zI w (.agg #[.bool a,.slice B m f]) ((d:Int)))) (fun w Q=>⟨⟨Q.1.1.1.1.1,Q.1.1.1.1.2⟩,Q.1.1.1.2⟩) ?_
  exact wG (((rndK z.natAbs d bits-((k+1))).toNat)) (by have:=d0.2;omega) ⟨((k+1)),rfl,rfl,(Or.inr d0.1),rfl⟩
 have y0:=uD e0
 have F:=Zj9 (by omega) q G hk (by rw[b0];omega)
 have o:=Zil (n:=z.natAbs) (d:=d) (bits:=bits) (by omega) q G
 have n0:ml (rndM z.natAbs d bits)≤1048576:=by unfold rndM;rw[←F,D,E];exact uA (Zkz Z (by decide)) (by omega)
 refine zK (zA (zC (zB (xq 2 [eI2 58 O P S T,eI2 59 a B m f] [] ?_))))
 refine xqc 147 [vI2 O P S T,vI2 a B m f] 60 zZ _ (fun w R Q=>(ZdI O P S T a B m f (z.natAbs*2^j) (d) _ Q.1.1.2 Q.1.1.1.2 (by omega) (by omega) a0).mono (fun _ _ h=>xC (by rw[show kY (z.natAbs*2^j) (d)=rndM z.natAbs d bits by unfold rndM;rw[←F,D,E]] at h;exact h))) fun⟨I0,U,V,W⟩=>?_
 refine xq 2 [(15,.p 15 0)] [bI2 15 32 I0 U V W] ?_
 refine xe (zA (zC (zB (xq 4 [] [bI2 15 32 b U V W] ?_))))
 refine xe (zA (zC (zB (xr 5 [(0,.v (.pointer (some ⟨g,0,none⟩))),yJ 3 e,(5,.p 5 0),(6,.p 6 0),(8,.p 8 0),(9,.p 9 0),yJ 10 k,(64,.v (.pointer (some ⟨g,0,none⟩))),eI2 65 b U V W,yJ 68 (IntKind.i64.wrap (e+k))] [bI2 9 32 false A l c,yF 8 52 false none 0 0 0,bI2 6 32 a B m f,bI2 5 32 b A l c] ?_))))
 rw[yW (e+k) (e+k) (by omega)]
 refine xqc 135 [vI2 b U V W,.int .i64 (e+k)] 69 (shF ((e+k)+((tzn (rndM z.natAbs d bits):Nat):Int))) _ (fun w R Q=>(iO b U V W (sg b (rndM z.natAbs d bits)) ((e+k)) _ (by have h1:zI _ (.agg #[.bool I0,.slice U V W]) _:=Q.2;have h2:=h1.spos (rQ _);rw[h2] at h1;exact h1.sgn o b) (ZoT o) (by unfold ZaR;rw[jI];exact n0) (by omega) (by omega)).mono (fun _ _ h=>eM (by rw[jI,aN o] at h;exact h))) fun⟨J0,K0,L0,M0⟩=>?_
 obtain⟨C,g0⟩:=yE (limR b (oddM (rndM z.natAbs d bits)) (((e+k)+((tzn (rndM z.natAbs d bits):Nat):Int))))
 refine wQ 134 [.pointer (some ⟨g,0,none⟩), yV J0 K0 L0 M0 ((e+k)+((tzn (rndM z.natAbs d bits):Nat):Int))] (d:=70) (shF C.e) (fun _=>#[.int .i64 (bits:Int),.int .i64 C.err]) (fun y w=>zI w (zZ y) (sg C.s C.m)) (fun _=>True) (fun w Q=>Q.1.1.1.1.1.1.1) (vK _) (Or.inr rfl) (fun w R Q=>yM jR (show Calls _ _ _ _ (RetC w g (bits:Int) C) by rw[←g0];exact jS g bits J0 K0 L0 M0 b (oddM (rndM z.natAbs d bits)) (((e+k)+((tzn (rndM z.natAbs d bits):Nat):Int))) _ Q.1.1.1.1.1.1.1 Q.2)) (fun _ _ _ _=>trivial) fun⟨z0,A0,B0,C0⟩=>?_
 refine xr 1 [(0,.v (.pointer (some ⟨g,0,none⟩))),yJ 3 e,(5,.p 5 0),(6,.p 6 0),(8,.p 8 0),(9,.p 9 0),yJ 10 k] [bI2 9 32 false A l c,yF 8 52 z0 A0 B0 C0 C.e,bI2 6 32 a B m f,bI2 5 32 b A l c] ?_
 refine xe (zA (zF (lA (zE (lA ?_)))))
 refine yR (yV z0 A0 B0 C0 C.e) fun w' R Q=>?_
 have s0:=hN.signb
 have t0:xK (decide (z<0)) z.natAbs d e bits=C:=by unfold xK;rw[uN (by omega),ZeZ o,← g0,← F,← s0]
 rw[t0]
 exact⟨(z0,A0,B0,C0),rfl,Q.2,R,Q.1.2⟩
theorem ml_1:ml 1≤1:=xX.2 (by rw[zP];decide)
theorem Zox {z1 a:Int}{d bits:Nat}{e:Int}(h:a<0):xK (decide (-z1<0)) (-z1).natAbs d e bits=xK (decide (z1<0) != decide (a<0)) z1.natAbs d e bits:=by
 rw[qA,uQ h]
 by_cases b:z1=0
 ·rw[b];rfl
 congr 1
 rcases Int.lt_or_gt_of_ne b with c|c
 ·rw[uQ c,uJ (by omega)];rfl
 rw[uJ (p:=z1<0) (by omega),uQ (by omega)];rfl
theorem Znk {z1 a:Int}{d bits:Nat}{e:Int}(h:¬ a<0):xK (decide (z1<0)) z1.natAbs d e bits=xK (decide (z1<0) != decide (a<0)) z1.natAbs d e bits:=by
 rw[uJ h];congr 1;simp
def rsum (z1 e1 z2 e2:Int) (bits:Nat):FR:=if z1=0 then xK (decide (z2<0)) z2.natAbs 1 e2 bits else if z2=0 then xK (decide (z1<0)) z1.natAbs 1 e1 bits else
 xK (decide (z1*2^(e1-min e1 e2).toNat + z2*2^(e2-min e1 e2).toNat < 0)) (z1*2^(e1-min e1 e2).toNat + z2*2^(e2-min e1 e2).toNat).natAbs 1 (min e1 e2) bits
theorem ZiX {z1 c b d a:Int}{bits u v:Nat}(e:z1≠0)(f:b≠0)(g:min c d=a)(h:c-a=u)(i:d-a=v):rsum z1 c b d bits=xK (decide (z1*2^u+b*2^v<0)) (z1*2^u+b*2^v).natAbs 1 a bits:=by
 unfold rsum
 rw[uN e,uN f,g,h,i];rfl
theorem ZbM {z:Int}{u:Nat}(h:ml z.natAbs≤1000)(a:u≤4000):ml (z*2^u).natAbs≤1200:=by
 rw[Int.natAbs_mul,Int.natAbs_pow]
 exact Zgt (j:=200) h (by omega)
theorem Znl {x y:Int}{k:Nat}(a:ml x.natAbs≤k)(b:ml y.natAbs≤k):ml (x+y).natAbs≤k+1:=mla a b
theorem ZiY {m bits:Nat}{e k s:Int}(a:sqK m e bits=k)(b:e-2*k+2=s):(blen m:Int)+s=2*bits+1∨(blen m:Int)+s=2*bits+2:=by
 unfold sqK at a
 omega
theorem Znm {m bits Y:Nat}{s:Int}(a:0<m)(d:8≤bits)(h:(blen m:Int)+s=2*bits+1∨(blen m:Int)+s=2*bits+2)(b:fq m 1 (-s)=Y):2≤isq Y∧blen Y≤2*bits+2:=by
 have c:=Zbh a s (by omega)
 rw[b] at c
 refine⟨?_,by omega⟩
 have e:=fB.1 (show 2<blen Y by omega)
 have f:=(eI Y).2
 refine Nat.le_of_not_lt fun h=>?_
 have g:=tJ (show isq Y+1≤2 by omega) (show isq Y+1≤2 by omega)
 omega
theorem cF {m bits Y:Nat}{e k s:Int}{b:Bool}(a:sqK m e bits=k)(c:e-2*k+2=s)(d:fq m 1 (-s)=Y)(f:jB m s=b){X:Nat}(g:iA (isq Y) 0 b=X)(h:0<X):fH m e bits=limR false (oddM X) (k+((tzn X:Nat):Int)):=by
 unfold fH sqM
 rw[a,c,d,f,g,ZeZ h]
theorem Znn {m Y:Nat}{s:Int}(a:fq m 1 (-s)=Y)(h:s<0∨isq Y*isq Y≠Y):jB m s=true:=by
 unfold jB;rw[a];exact uQ h
theorem ZqK {m Y:Nat}{s:Int}(a:fq m 1 (-s)=Y)(b:¬ s<0)(c:isq Y*isq Y=Y):jB m s=false:=by
 unfold jB;rw[a];exact uJ (by rintro (h|h);exact b h;exact h c)
theorem ZpW {m j:Nat}:fq m 1 (-(-(j:Int)))=m/2^j:=by
 unfold fq fa fb
 rw[show (- -(-(j:Int))).toNat=0 by omega,show (- -(j:Int)).toNat=j by omega];simp
theorem Zno {Y k:Nat}(h:ml Y≤k):ml (isq Y)≤k:=uA (wK (by
 have:=(eI Y).1
 rcases uH (isq Y) with e|e
 ·omega
 exact uA (Nat.le_mul_of_pos_left _ e) this)) h
theorem Zee {Y k:Nat}(h:blen Y≤32*k):ml Y≤k:=xX.2 (by rw[cI];exact wT.1 h)
theorem Znp (g bits:Nat)(s:Bool)(A:Option Addr)(l c:Nat)(z1 x:Int)(t:Bool)(B:Option Addr)(m d:Nat)(b y:Int)(w:World)(I:CB w g ((bits:Nat):Int) 0)(J:zI w (.agg #[.bool s,.slice A l c]) z1)(K:zI w (.agg #[.bool t,.slice B m d]) b)(o:ml z1.natAbs≤1000)(q:ml b.natAbs≤1000)(L : -100000000≤x)(M:x≤100000000)(N : -100000000≤y)(O:y≤100000000)(P:0<bits)(S:bits≤4096) :
 yA 88 #[.pointer (some ⟨g,0,none⟩), yV s A l c x, yV t B m d y] w (RetC w g ((bits:Nat):Int) (xK (decide (z1*b<0)) (z1*b).natAbs 1 (x+y) bits)):=by
 refine jH (fun i=>i=g) (Φ:=fun w=>((CB w g (bits:Int) 0∧zI w (.agg #[.bool s,.slice A l c]) (z1))∧zI w (.agg #[.bool t,.slice B m d]) (b))) Tryz.func88 rfl (by kernel_rfl) (fun w' H=>⟨⟨I.ext H,J.ext H⟩,K.ext H⟩) ?_
 refine zC (zB (xq 3 [(4,.p 4 0),(5,.p 5 0),(6,.p 6 0)] [yF 6 52 false none 0 0 0,yF 5 52 t B m d y,yF 4 52 s A l c x] ?_))
 refine xe (zA (zC ?_))
 refine yO 12 zM ?_
 refine xqg 5 [(7,.v (.pointer (some ⟨g,0,none⟩))),eI2 9 s A l c,eI2 11 t B m d] ?_
 refine xqd 74 [vI2 s A l c,vI2 t B m d] 12 zZ _ (fun w R Q=>yM xC (Zh7 _ _ z1 b _ Q.1.2 Q.2 (nfit o (by decide)) (nfit q (by decide)))) fun⟨r,u,z,C⟩=>?_
 refine xqd 24 [.int .i64 1] 13 zZ _ (fun w R Q=>yM xC (lH 1 _ (by decide) (by decide))) fun⟨D,E,F,G⟩=>?_
 refine xqg 5 [yJ 18 (IntKind.i64.wrap (x+y))] ?_
 rw[yW (x+y) (x+y) (by omega)]
 refine xz ?_
 obtain⟨a,f⟩:=yE (xK (decide ((z1*b)<0)) (z1*b).natAbs (1) ((x+y)) bits)
 refine wQ 101 [.pointer (some ⟨g,0,none⟩),.agg #[.bool r,.slice u z C],.agg #[.bool D,.slice E F G],.int .i64 (x+y)] (d:=19) (shF a.e) (fun _=>#[.int .i64 (bits:Int),.int .i64 a.err]) (fun y w=>zI w (zZ y) (sg a.s a.m)) (fun _=>True) (fun w Q=>Q.1.1.1.1) (vK _) (Or.inr rfl) (fun w R Q=>yM jR (show Calls _ _ _ _ (RetC w g (bits:Int) a) by rw[←f];exact jD g bits r u z C (z1*b) D E F G (1) ((x+y)) _ Q.1.1.1.1 Q.1.2 Q.2 (uA (mlm o q) (by decide)) (uA ml_1 (by decide)) (by decide) (by omega) (by omega) (by omega) (by omega))) (fun _ _ _ _=>trivial) fun⟨h,j,k,n⟩=>?_
 refine xr 1 [(6,.p 6 0)] [yF 6 52 h j k n a.e] ?_
 refine xe (zA (zF ?_))
 refine yR (yV h j k n a.e) fun w' R Q=>?_
 rw[f]
 exact⟨(h,j,k,n),rfl,Q.2,R,Q.1.2⟩
theorem Znq (g bits:Nat)(s:Bool)(A:Option Addr)(l c:Nat)(z1 x:Int)(t:Bool)(B:Option Addr)(m d:Nat)(a y:Int)(w:World)(U:CB w g ((bits:Nat):Int) 0)(V:zI w (.agg #[.bool s,.slice A l c]) z1)(T:zI w (.agg #[.bool t,.slice B m d]) a)(N:ml z1.natAbs≤1000)(O:ml a.natAbs≤1000)(W : -100000000≤x)(X:x≤100000000)(Y : -100000000≤y)(Z:y≤100000000)(a0:0<bits)(hb:bits≤4096)(b0:a≠0) :
 yA 89 #[.pointer (some ⟨g,0,none⟩), yV s A l c x, yV t B m d y] w (RetC w g ((bits:Nat):Int) (xK (decide (z1<0) != decide (a<0)) z1.natAbs a.natAbs (x-y) bits)):=by
 refine jH (fun i=>i=g) (Φ:=fun w=>((CB w g (bits:Int) 0∧zI w (.agg #[.bool s,.slice A l c]) (z1))∧zI w (.agg #[.bool t,.slice B m d]) (a))) Tryz.func89 rfl (by kernel_rfl) (fun w' S=>⟨⟨U.ext S,V.ext S⟩,T.ext S⟩) ?_
 refine zC (zB (xq 3 [(4,.p 4 0),(5,.p 5 0),(6,.p 6 0)] [yF 6 52 false none 0 0 0,yF 5 52 t B m d y,yF 4 52 s A l c x] ?_))
 refine xe (zA (zC ?_))
 refine yO 8 zM ?_
 refine xqf 8 [(7,.p 7 0),(8,.p 8 0)] [bI2 8 32 t B m d,bI2 7 32 s A l c,bI2 8 32 false none 0 0,bI2 7 32 false none 0 0,yF 6 52 false none 0 0 0,yF 5 52 t B m d y,yF 4 52 s A l c x] ?_
 refine xz (xe (zA (zC (zC ?_))))
 have P:=T.signb
 refine zB (xq 2 [yB 14 t] [bI2 8 32 t B m d,bI2 7 32 s A l c] ?_)
 refine xe (zA ?_)
 refine yQ (t) (fun h=>?_) fun h=>?_
 ·have E:a<0:=uC (P.symm.trans h)
  refine yO 6 zM ?_
  refine xqg 1 [eI2 15 s A l c] ?_
  refine xqd 68 [vI2 s A l c] 16 zZ _ (fun w R Q=>yM xC (aZ _ z1 _ Q.1.2)) fun⟨j,k,n,o⟩=>?_
  refine xqg 1 [eI2 17 t B m d] ?_
  refine xqd 68 [vI2 t B m d] 18 zZ _ (fun w R Q=>yM xC (aZ _ a _ Q.1.2)) fun⟨q,r,u,z⟩=>?_
  refine xqf 2 [] [bI2 8 32 q r u z,bI2 7 32 j k n o,bI2 8 32 t B m d,bI2 7 32 s A l c,yF 6 52 false none 0 0 0,yF 5 52 t B m d y,yF 4 52 s A l c x] ?_
  refine xz (xe (zA (zC (zB (xq 8 [(19,.v (.pointer (some ⟨g,0,none⟩))),eI2 20 j k n o,eI2 21 q r u z,yJ 26 (IntKind.i64.wrap (x-y))] [bI2 8 32 q r u z,bI2 7 32 j k n o] ?_)))))
  rw[yW (x-y) (x-y) (by omega)]
  obtain⟨b,C⟩:=yE (xK (decide ((-(z1))<0)) (-(z1)).natAbs (a.natAbs) ((x-y)) bits)
  refine wQ 101 [.pointer (some ⟨g,0,none⟩),.agg #[.bool j,.slice k n o],.agg #[.bool q,.slice r u z],.int .i64 (x-y)] (d:=27) (shF b.e) (fun _=>#[.int .i64 (bits:Int),.int .i64 b.err]) (fun y w=>zI w (zZ y) (sg b.s b.m)) (fun _=>True) (fun w Q=>Q.1.1.1.1) (vK _) (Or.inr rfl) (fun w R Q=>yM jR (show Calls _ _ _ _ (RetC w g (bits:Int) b) by rw[←C];exact jD g bits j k n o (-(z1)) q r u z (a.natAbs) ((x-y)) _ Q.1.1.1.1 Q.1.2 (by rw[show ((a.natAbs:Nat):Int) = -(a) by omega];exact Q.2) (by rw[qA];exact uA N (by decide)) (uA O (by decide)) (by omega) (by omega) (by omega) (by omega) (by omega))) (fun _ _ _ _=>trivial) fun⟨F,G,H,I⟩=>?_
  refine xr 1 [(6,.p 6 0)] [yF 6 52 F G H I b.e] ?_
  refine xe (zA (zF ?_))
  refine yR (yV F G H I b.e) fun w' R Q=>?_
  rw[←Zox (z1:=z1) E,C]
  exact⟨(F,G,H,I),rfl,Q.2,R,Q.1.2⟩
 have E:¬ a<0:=uD (P.symm.trans h)
 refine zK (zA (zC (zB (xq 8 [(19,.v (.pointer (some ⟨g,0,none⟩))),eI2 20 s A l c,eI2 21 t B m d,yJ 26 (IntKind.i64.wrap (x-y))] [] ?_))))
 rw[yW (x-y) (x-y) (by omega)]
 obtain⟨f,D⟩:=yE (xK (decide (z1<0)) (z1).natAbs (a.natAbs) ((x-y)) bits)
 refine wQ 101 [.pointer (some ⟨g,0,none⟩),.agg #[.bool s,.slice A l c],.agg #[.bool t,.slice B m d],.int .i64 (x-y)] (d:=27) (shF f.e) (fun _=>#[.int .i64 (bits:Int),.int .i64 f.err]) (fun y w=>zI w (zZ y) (sg f.s f.m)) (fun _=>True) (fun w Q=>Q.1.1) (vK _) (Or.inr rfl) (fun w R Q=>yM jR (show Calls _ _ _ _ (RetC w g (bits:Int) f) by rw[←D];exact jD g bits s A l c (z1) t B m d (a.natAbs) ((x-y)) _ Q.1.1 Q.1.2 (by rw[show ((a.natAbs:Nat):Int)=a by omega];exact Q.2) (uA N (by decide)) (uA O (by decide)) (by omega) (by omega) (by omega) (by omega) (by omega))) (fun _ _ _ _=>trivial) fun⟨J,K,L,M⟩=>?_
 refine xr 1 [(6,.p 6 0)] [yF 6 52 J K L M f.e] ?_
 refine xe (zA (zF ?_))
 refine yR (yV J K L M f.e) fun w' R Q=>?_
 rw[←Znk (z1:=z1) E,D]
 exact⟨(J,K,L,M),rfl,Q.2,R,Q.1.2⟩
theorem Znr (g bits:Nat)(s:Bool)(A:Option Addr)(l c:Nat)(z1 x:Int)(t:Bool)(B:Option Addr)(m d:Nat)(b y:Int)(w:World)(hC:CB w g ((bits:Nat):Int) 0)(hX:zI w (.agg #[.bool s,.slice A l c]) z1)(hY:zI w (.agg #[.bool t,.slice B m d]) b)(q:ml z1.natAbs≤1000)(r:ml b.natAbs≤1000)(s0 : -100000000≤x)(t0:x≤100000000)(u0 : -100000000≤y)(v0:y≤100000000)(w0:0<bits)(hb:bits≤4096)(x0:x-y≤4000)(y0:y-x≤4000) :
 yA 87 #[.pointer (some ⟨g,0,none⟩), yV s A l c x,.int .i64 1, yV t B m d y] w (RetC w g ((bits:Nat):Int) (rsum z1 x b y bits)):=by
 refine jH (fun i=>i=g) (Φ:=fun w=>((CB w g (bits:Int) 0∧zI w (.agg #[.bool s,.slice A l c]) (z1))∧zI w (.agg #[.bool t,.slice B m d]) (b))) Tryz.func87 rfl (by kernel_rfl) (fun w' hf=>⟨⟨hC.ext hf,hX.ext hf⟩,hY.ext hf⟩) ?_
 refine zC (zB (xq 3 [(5,.p 5 0),(7,.p 7 0),(8,.p 8 0)] [yF 8 52 false none 0 0 0,yF 7 52 t B m d y,yF 5 52 s A l c x] ?_))
 refine xe (zA (zC (zC (zB (xq 2 [yB 11 false] [] ?_)))))
 refine xe (zA (xb (zK (zA (zC (zC (zB (xq 2 [eI2 15 s A l c] [] ?_))))))))
 by_cases o:z1=0
 ·refine xqc 62 [vI2 s A l c] 16 (fun _:Unit=>.int .i64 0) _ (fun w R Q=>(wU _ z1 _ Q.1.2).mono (fun _ _ h=>zG h (by rw[o];rfl))) fun xx=>?_
  refine xq 1 [yB 17 true] [] ?_
  refine xe (zA (xa (zC ?_)))
  refine yO 6 zM ?_
  refine xqg 3 [(18,.v (.pointer (some ⟨g,0,none⟩))),eI2 20 t B m d] ?_
  refine xqd 24 [.int .i64 1] 21 zZ _ (fun w R Q=>yM xC (lH 1 _ (by decide) (by decide))) fun⟨U,V,W,X⟩=>?_
  refine xqg 2 [yJ 23 y] ?_
  refine xz ?_
  obtain⟨f,C⟩:=yE (xK (decide (b<0)) (b).natAbs (1) (y) bits)
  refine wQ 101 [.pointer (some ⟨g,0,none⟩),.agg #[.bool t,.slice B m d],.agg #[.bool U,.slice V W X],.int .i64 y] (d:=24) (shF f.e) (fun _=>#[.int .i64 (bits:Int),.int .i64 f.err]) (fun y w=>zI w (zZ y) (sg f.s f.m)) (fun _=>True) (fun w Q=>Q.1.1.1.1) (vK _) (Or.inr rfl) (fun w R Q=>yM jR (show Calls _ _ _ _ (RetC w g (bits:Int) f) by rw[←C];exact jD g bits t B m d (b) U V W X (1) (y) _ Q.1.1.1.1 Q.1.1.2 Q.2 (uA r (by decide)) (uA ml_1 (by decide)) (by decide) (by omega) (by omega) (by omega) (by omega))) (fun _ _ _ _=>trivial) fun⟨G,H,I,J⟩=>?_
  refine xr 1 [(0,.v (.pointer (some ⟨g,0,none⟩))),(5,.p 5 0),(7,.p 7 0),(8,.p 8 0)] [yF 8 52 G H I J f.e,yF 7 52 t B m d y,yF 5 52 s A l c x] ?_
  refine xe (zA (zF (zE ?_)))
  refine yR (yV G H I J f.e) fun w' R Q=>?_
  rw[show rsum z1 x b y bits=xK (decide (b<0)) (b).natAbs 1 y bits from uP o,C]
  exact⟨(G,H,I,J),rfl,Q.2,R,Q.1.2⟩
 refine xqc 62 [vI2 s A l c] 16 (fun _:Unit=>.int .i64 (Int.sign z1)) _ (fun w R Q=>yN (wU _ z1 _ Q.1.2)) fun xx=>?_
 refine xq 1 [yB 17 (((Int.sign z1):Int) == 0)] [] ?_
 rw[(show (((Int.sign z1):Int) == 0)=false by have:=mt vM.1 o;simpa using this)]
 refine xe (zA (xb (zK (zA (zC (zC (zB (xq 2 [eI2 26 t B m d] [] ?_))))))))
 by_cases z:b=0
 ·refine xqc 62 [vI2 t B m d] 27 (fun _:Unit=>.int .i64 0) _ (fun w R Q=>(wU _ b _ Q.1.2).mono (fun _ _ h=>zG h (by rw[z];rfl))) fun xx=>?_
  refine xq 1 [yB 28 true] [] ?_
  refine xe (zA (xa (zC ?_)))
  refine yO 6 zM ?_
  refine xqg 3 [(29,.v (.pointer (some ⟨g,0,none⟩))),eI2 31 s A l c] ?_
  refine xqd 24 [.int .i64 1] 32 zZ _ (fun w R Q=>yM xC (lH 1 _ (by decide) (by decide))) fun⟨Y,Z,a0,b0⟩=>?_
  refine xqg 2 [yJ 34 x] ?_
  refine xz ?_
  obtain⟨j,D⟩:=yE (xK (decide (z1<0)) (z1).natAbs (1) (x) bits)
  refine wQ 101 [.pointer (some ⟨g,0,none⟩),.agg #[.bool s,.slice A l c],.agg #[.bool Y,.slice Z a0 b0],.int .i64 x] (d:=35) (shF j.e) (fun _=>#[.int .i64 (bits:Int),.int .i64 j.err]) (fun y w=>zI w (zZ y) (sg j.s j.m)) (fun _=>True) (fun w Q=>Q.1.1.1.1.1) (vK _) (Or.inr rfl) (fun w R Q=>yM jR (show Calls _ _ _ _ (RetC w g (bits:Int) j) by rw[←D];exact jD g bits s A l c (z1) Y Z a0 b0 (1) (x) _ Q.1.1.1.1.1 Q.1.1.1.1.2 Q.2 (uA q (by decide)) (uA ml_1 (by decide)) (by decide) (by omega) (by omega) (by omega) (by omega))) (fun _ _ _ _=>trivial) fun⟨K,L,M,N⟩=>?_
  refine xr 1 [(0,.v (.pointer (some ⟨g,0,none⟩))),(5,.p 5 0),(7,.p 7 0),(8,.p 8 0)] [yF 8 52 K L M N j.e,yF 7 52 t B m d y,yF 5 52 s A l c x] ?_
  refine xe (zA (zF (zE ?_)))
  refine yR (yV K L M N j.e) fun w' R Q=>?_
  rw[show rsum z1 x b y bits=xK (decide (z1<0)) z1.natAbs 1 x bits by unfold rsum;rw[uN o,uP z],D]
  exact⟨(K,L,M,N),rfl,Q.2,R,Q.1.2⟩
 refine xqc 62 [vI2 t B m d] 27 (fun _:Unit=>.int .i64 (Int.sign b)) _ (fun w R Q=>yN (wU _ b _ Q.1.2)) fun xx=>?_
 refine xq 1 [yB 28 (((Int.sign b):Int) == 0)] [] ?_
 rw[(show (((Int.sign b):Int) == 0)=false by have:=mt vM.1 z;simpa using this)]
 refine xe (zA (xb (zK (zA (zC ?_)))))
 obtain⟨a,E⟩:=yE (min x y)
 obtain⟨u,hu⟩:∃ u:Nat,x-a=u:=uW (by omega)
 obtain⟨v,hv⟩:∃ v:Nat,y-a=v:=uW (by omega)
 refine zB (xq 5 [yJ 40 (if y<x then y else x)] [] ?_)
 rw[(show (if y<x then y else x)=a from Zb9.trans E)]
 refine xq 1 [yJ 9 a] [] ?_
 refine xe (zA (zC ?_))
 refine bN 18 [0,0,2,0,8,0,56,126,0,256,0,1024,0,7168,16382,32766,65534,0] (by kernel_rfl) (by kernel_rfl) zM ?_
 refine xqg 7 [(41,.v (.pointer (some ⟨g,0,none⟩))),eI2 43 s A l c,yJ 47 (IntKind.i64.wrap (x-a))] ?_
 rw[yW (x-a) ((u:Int)) (by omega)]
 refine xqd 25 [vI2 s A l c,.int .i64 (u:Int)] 48 zZ _ (fun w R Q=>yM xC (gM _ z1 u _ Q.1.1.1.2 (nfit (k:=1000) q (by decide)) (by omega))) fun⟨k0,l0,m0,n0⟩=>?_
 refine xqg 6 [eI2 50 t B m d,yJ 54 (IntKind.i64.wrap (y-a))] ?_
 rw[yW (y-a) ((v:Int)) (by omega)]
 refine xqd 25 [vI2 t B m d,.int .i64 (v:Int)] 55 zZ _ (fun w R Q=>yM xC (gM _ b v _ Q.1.1.1.2 (nfit (k:=1000) r (by decide)) (by omega))) fun⟨o0,p0,q0,r0⟩=>?_
 refine xqd 77 [vI2 k0 l0 m0 n0,vI2 o0 p0 q0 r0] 56 zZ _ (fun w R Q=>yM xC (Zcr _ _ (z1*2^u) (b*2^v) _ Q.1.2 Q.2 (nfit (ZbM q (by omega)) (by decide)) (nfit (ZbM r (by omega)) (by decide)))) fun⟨c0,d0,e0,f0⟩=>?_
 refine xqd 24 [.int .i64 1] 57 zZ _ (fun w R Q=>yM xC (lH 1 _ (by decide) (by decide))) fun⟨g0,h0,i0,j0⟩=>?_
 refine xqg 1 [yJ 58 a] ?_
 refine xz ?_
 obtain⟨n,F⟩:=yE (xK (decide ((z1*2^u+b*2^v)<0)) (z1*2^u+b*2^v).natAbs (1) (a) bits)
 refine wQ 101 [.pointer (some ⟨g,0,none⟩),.agg #[.bool c0,.slice d0 e0 f0],.agg #[.bool g0,.slice h0 i0 j0],.int .i64 a] (d:=59) (shF n.e) (fun _=>#[.int .i64 (bits:Int),.int .i64 n.err]) (fun y w=>zI w (zZ y) (sg n.s n.m)) (fun _=>True) (fun w Q=>Q.1.1.1.1.1.1.1.1) (vK _) (Or.inr rfl) (fun w R Q=>yM jR (show Calls _ _ _ _ (RetC w g (bits:Int) n) by rw[←F];exact jD g bits c0 d0 e0 f0 (z1*2^u+b*2^v) g0 h0 i0 j0 (1) (a) _ Q.1.1.1.1.1.1.1.1 Q.1.2 Q.2 (uA (Znl (ZbM q (by omega)) (ZbM r (by omega))) (by decide)) (uA ml_1 (by decide)) (by decide) (by omega) (by omega) (by omega) (by omega))) (fun _ _ _ _=>trivial) fun⟨O,P,S,T⟩=>?_
 refine xr 1 [(8,.p 8 0)] [yF 8 52 O P S T n.e] ?_
 refine xe (zA (zF ?_))
 refine yR (yV O P S T n.e) fun w' R Q=>?_
 rw[ZiX o z E hu hv,F]
 exact⟨(O,P,S,T),rfl,Q.2,R,Q.1.2⟩
theorem Zns (g bits:Nat)(s:Bool)(A:Option Addr)(l c:Nat)(z1 x:Int)(t:Bool)(B:Option Addr)(m d:Nat)(o y:Int)(w:World)(hC:CB w g ((bits:Nat):Int) 0)(hX:zI w (.agg #[.bool s,.slice A l c]) z1)(hY:zI w (.agg #[.bool t,.slice B m d]) o)(D:ml z1.natAbs≤1000)(E:ml o.natAbs≤1000)(w0 : -100000000≤x)(x0:x≤100000000)(y0 : -100000000≤y)(z0:y≤100000000)(A0:0<bits)(hb:bits≤4096)(B0:x-y≤4000)(C0:y-x≤4000) :
 yA 87 #[.pointer (some ⟨g,0,none⟩), yV s A l c x,.int .i64 (-1), yV t B m d y] w (RetC w g ((bits:Nat):Int) (rsum z1 x (-o) y bits)):=by
 refine jH (fun i=>i=g) (Φ:=fun w=>((CB w g (bits:Int) 0∧zI w (.agg #[.bool s,.slice A l c]) (z1))∧zI w (.agg #[.bool t,.slice B m d]) (o))) Tryz.func87 rfl (by kernel_rfl) (fun w' hf=>⟨⟨hC.ext hf,hX.ext hf⟩,hY.ext hf⟩) ?_
 refine zC (zB (xq 3 [(5,.p 5 0),(7,.p 7 0),(8,.p 8 0)] [yF 8 52 false none 0 0 0,yF 7 52 t B m d y,yF 5 52 s A l c x] ?_))
 refine xe (zA (zC (zC (zB (xq 2 [yB 11 true] [] ?_)))))
 refine xe (zA (xa (zB (xq 1 [(12,.v (yV t B m d y))] [] ?_))))
 refine xqc 39 [yV t B m d y] 13 (shF y) _ (fun w R Q=>yM ZpS (ZlD t B m d _ y _ Q.2)) fun⟨b,f,j,n⟩=>?_
 refine xq 1 [] [yF 7 52 b f j n y] ?_
 refine xe (zA (zC (zC (zB (xq 2 [eI2 15 s A l c] [] ?_)))))
 by_cases C:z1=0
 ·refine xqc 62 [vI2 s A l c] 16 (fun _:Unit=>.int .i64 0) _ (fun w R Q=>(wU _ z1 _ Q.1.1.2).mono (fun _ _ h=>zG h (by rw[C];rfl))) fun xx=>?_
  refine xq 1 [yB 17 true] [] ?_
  refine xe (zA (xa (zC ?_)))
  refine yO 6 zM ?_
  refine xqg 3 [(18,.v (.pointer (some ⟨g,0,none⟩))),eI2 20 b f j n] ?_
  refine xqd 24 [.int .i64 1] 21 zZ _ (fun w R Q=>yM xC (lH 1 _ (by decide) (by decide))) fun⟨Y,Z,a0,b0⟩=>?_
  refine xqg 2 [yJ 23 y] ?_
  refine xz ?_
  obtain⟨q,G⟩:=yE (xK (decide (((-o))<0)) ((-o)).natAbs (1) (y) bits)
  refine wQ 101 [.pointer (some ⟨g,0,none⟩),.agg #[.bool b,.slice f j n],.agg #[.bool Y,.slice Z a0 b0],.int .i64 y] (d:=24) (shF q.e) (fun _=>#[.int .i64 (bits:Int),.int .i64 q.err]) (fun y w=>zI w (zZ y) (sg q.s q.m)) (fun _=>True) (fun w Q=>Q.1.1.1.1.1) (vK _) (Or.inr rfl) (fun w R Q=>yM jR (show Calls _ _ _ _ (RetC w g (bits:Int) q) by rw[←G];exact jD g bits b f j n ((-o)) Y Z a0 b0 (1) (y) _ Q.1.1.1.1.1 Q.1.1.2 Q.2 (uA (by rw[qA];exact E) (by decide)) (uA ml_1 (by decide)) (by decide) (by omega) (by omega) (by omega) (by omega))) (fun _ _ _ _=>trivial) fun⟨K,L,M,N⟩=>?_
  refine xr 1 [(0,.v (.pointer (some ⟨g,0,none⟩))),(5,.p 5 0),(7,.p 7 0),(8,.p 8 0)] [yF 7 52 b f j n y,yF 8 52 K L M N q.e,yF 5 52 s A l c x] ?_
  refine xe (zA (zF (zE ?_)))
  refine yR (yV K L M N q.e) fun w' R Q=>?_
  rw[show rsum z1 x (-o) y bits=xK (decide ((-o)<0)) ((-o)).natAbs 1 y bits from uP C,G]
  exact⟨(K,L,M,N),rfl,Q.2,R,Q.1.2⟩
 refine xqc 62 [vI2 s A l c] 16 (fun _:Unit=>.int .i64 (Int.sign z1)) _ (fun w R Q=>yN (wU _ z1 _ Q.1.1.2)) fun xx=>?_
 refine xq 1 [yB 17 (((Int.sign z1):Int) == 0)] [] ?_
 rw[(show (((Int.sign z1):Int) == 0)=false by have:=mt vM.1 C;simpa using this)]
 refine xe (zA (xb (zK (zA (zC (zC (zB (xq 2 [eI2 26 b f j n] [] ?_))))))))
 by_cases F:(-o)=0
 ·refine xqc 62 [vI2 b f j n] 27 (fun _:Unit=>.int .i64 0) _ (fun w R Q=>(wU _ (-o) _ Q.1.2).mono (fun _ _ h=>zG h (by rw[F];rfl))) fun xx=>?_
  refine xq 1 [yB 28 true] [] ?_
  refine xe (zA (xa (zC ?_)))
  refine yO 6 zM ?_
  refine xqg 3 [(29,.v (.pointer (some ⟨g,0,none⟩))),eI2 31 s A l c] ?_
  refine xqd 24 [.int .i64 1] 32 zZ _ (fun w R Q=>yM xC (lH 1 _ (by decide) (by decide))) fun⟨c0,d0,e0,f0⟩=>?_
  refine xqg 2 [yJ 34 x] ?_
  refine xz ?_
  obtain⟨r,H⟩:=yE (xK (decide (z1<0)) (z1).natAbs (1) (x) bits)
  refine wQ 101 [.pointer (some ⟨g,0,none⟩),.agg #[.bool s,.slice A l c],.agg #[.bool c0,.slice d0 e0 f0],.int .i64 x] (d:=35) (shF r.e) (fun _=>#[.int .i64 (bits:Int),.int .i64 r.err]) (fun y w=>zI w (zZ y) (sg r.s r.m)) (fun _=>True) (fun w Q=>Q.1.1.1.1.1.1) (vK _) (Or.inr rfl) (fun w R Q=>yM jR (show Calls _ _ _ _ (RetC w g (bits:Int) r) by rw[←H];exact jD g bits s A l c (z1) c0 d0 e0 f0 (1) (x) _ Q.1.1.1.1.1.1 Q.1.1.1.1.1.2 Q.2 (uA D (by decide)) (uA ml_1 (by decide)) (by decide) (by omega) (by omega) (by omega) (by omega))) (fun _ _ _ _=>trivial) fun⟨O,P,S,T⟩=>?_
  refine xr 1 [(0,.v (.pointer (some ⟨g,0,none⟩))),(5,.p 5 0),(7,.p 7 0),(8,.p 8 0)] [yF 7 52 b f j n y,yF 8 52 O P S T r.e,yF 5 52 s A l c x] ?_
  refine xe (zA (zF (zE ?_)))
  refine yR (yV O P S T r.e) fun w' R Q=>?_
  rw[show rsum z1 x (-o) y bits=xK (decide (z1<0)) z1.natAbs 1 x bits by unfold rsum;rw[uN C,uP F],H]
  exact⟨(O,P,S,T),rfl,Q.2,R,Q.1.2⟩
 refine xqc 62 [vI2 b f j n] 27 (fun _:Unit=>.int .i64 (Int.sign (-o))) _ (fun w R Q=>yN (wU _ (-o) _ Q.1.2)) fun xx=>?_
 refine xq 1 [yB 28 (((Int.sign (-o)):Int) == 0)] [] ?_
 rw[(show (((Int.sign (-o)):Int) == 0)=false by have:=mt vM.1 F;simpa using this)]
 refine xe (zA (xb (zK (zA (zC ?_)))))
 obtain⟨a,I⟩:=yE (min x y)
 obtain⟨u,hu⟩:∃ u:Nat,x-a=u:=uW (by omega)
 obtain⟨v,hv⟩:∃ v:Nat,y-a=v:=uW (by omega)
 refine zB (xq 5 [yJ 40 (if y<x then y else x)] [] ?_)
 rw[(show (if y<x then y else x)=a from Zb9.trans I)]
 refine xq 1 [yJ 9 a] [] ?_
 refine xe (zA (zC ?_))
 refine bN 18 [0,0,2,0,8,0,56,126,0,256,0,1024,0,7168,16382,32766,65534,0] (by kernel_rfl) (by kernel_rfl) zM ?_
 refine xqg 7 [(41,.v (.pointer (some ⟨g,0,none⟩))),eI2 43 s A l c,yJ 47 (IntKind.i64.wrap (x-a))] ?_
 rw[yW (x-a) ((u:Int)) (by omega)]
 refine xqd 25 [vI2 s A l c,.int .i64 (u:Int)] 48 zZ _ (fun w R Q=>yM xC (gM _ z1 u _ Q.1.1.1.1.2 (nfit (k:=1000) D (by decide)) (by omega))) fun⟨o0,p0,q0,r0⟩=>?_
 refine xqg 6 [eI2 50 b f j n,yJ 54 (IntKind.i64.wrap (y-a))] ?_
 rw[yW (y-a) ((v:Int)) (by omega)]
 refine xqd 25 [vI2 b f j n,.int .i64 (v:Int)] 55 zZ _ (fun w R Q=>yM xC (gM _ (-o) v _ Q.1.1.1.2 (nfit (k:=1000) (by rw[qA];exact E) (by decide)) (by omega))) fun⟨s0,t0,u0,v0⟩=>?_
 refine xqd 77 [vI2 o0 p0 q0 r0,vI2 s0 t0 u0 v0] 56 zZ _ (fun w R Q=>yM xC (Zcr _ _ (z1*2^u) ((-o)*2^v) _ Q.1.2 Q.2 (nfit (ZbM D (by omega)) (by decide)) (nfit (ZbM (by rw[qA];exact E) (by omega)) (by decide)))) fun⟨g0,h0,i0,j0⟩=>?_
 refine xqd 24 [.int .i64 1] 57 zZ _ (fun w R Q=>yM xC (lH 1 _ (by decide) (by decide))) fun⟨k0,l0,m0,n0⟩=>?_
 refine xqg 1 [yJ 58 a] ?_
 refine xz ?_
 obtain⟨z,J⟩:=yE (xK (decide ((z1*2^u+(-o)*2^v)<0)) (z1*2^u+(-o)*2^v).natAbs (1) (a) bits)
 refine wQ 101 [.pointer (some ⟨g,0,none⟩),.agg #[.bool g0,.slice h0 i0 j0],.agg #[.bool k0,.slice l0 m0 n0],.int .i64 a] (d:=59) (shF z.e) (fun _=>#[.int .i64 (bits:Int),.int .i64 z.err]) (fun y w=>zI w (zZ y) (sg z.s z.m)) (fun _=>True) (fun w Q=>Q.1.1.1.1.1.1.1.1.1) (vK _) (Or.inr rfl) (fun w R Q=>yM jR (show Calls _ _ _ _ (RetC w g (bits:Int) z) by rw[←J];exact jD g bits g0 h0 i0 j0 (z1*2^u+(-o)*2^v) k0 l0 m0 n0 (1) (a) _ Q.1.1.1.1.1.1.1.1.1 Q.1.2 Q.2 (uA (Znl (ZbM D (by omega)) (ZbM (by rw[qA];exact E) (by omega))) (by decide)) (uA ml_1 (by decide)) (by decide) (by omega) (by omega) (by omega) (by omega))) (fun _ _ _ _=>trivial) fun⟨U,V,W,X⟩=>?_
 refine xr 1 [(8,.p 8 0)] [yF 8 52 U V W X z.e] ?_
 refine xe (zA (zF ?_))
 refine yR (yV U V W X z.e) fun w' R Q=>?_
 rw[ZiX C F I hu hv,J]
 exact⟨(U,V,W,X),rfl,Q.2,R,Q.1.2⟩
theorem Znt (n:Int)(w:World)(c : -1000000000≤n)(d:n≤1000000000) :
 yA 131 #[.int .i64 n] w (RetV w (.int .i64 (n/2))):=by
 refine zX (Φ:=fun w=>True) Tryz.func131 rfl (by kernel_rfl) (fun w' e=>trivial) ?_
 refine zC (zB (xq 1 [yJ 2 0] [] ?_))
 refine xe (zA (zC (zC (zB (xq 2 [yB 4 (decide (n<0))] [] ?_)))))
 refine xe (zA ?_)
 refine yQ ((decide (n<0))) (fun a=>?_) fun a=>?_
 ·have b:=uC a
  refine zC (zB (xq 2 [yJ 6 (IntKind.i64.wrap (1-n))] [] ?_))
  rw[yW (1-n) (1-n) (by omega)]
  refine xq 1 [yJ 7 (IntKind.i64.wrap (((1-n)).tdiv 2))] [] ?_
  rw[show IntKind.i64.wrap ((1-n).tdiv 2)=(1-n).tdiv 2 by rw[tF (by omega),IntKind.wrap_i64];omega]
  refine xq 1 [(8,.v (.int .i64 (IntKind.i64.wrap (0-(((1-n).tdiv 2))))))] [] ?_
  rw[show IntKind.i64.wrap (0-((1-n).tdiv 2))=n/2 by rw[tF (by omega),IntKind.wrap_i64];omega]
  refine xq 1 [yJ 2 (n/2)] [] ?_
  refine xe (zA (zF (zE ?_)))
  refine yR (.int .i64 (n/2)) fun w' R Q=>?_
  exact⟨rfl,R⟩
 have b:=uD a
 refine zK (zA (zC (zB (xq 2 [yJ 10 (IntKind.i64.wrap ((n).tdiv 2))] [] ?_))))
 rw[show IntKind.i64.wrap ((n).tdiv 2)=n/2 by rw[tF (by omega),IntKind.wrap_i64];omega]
 refine xq 1 [yJ 2 (n/2)] [] ?_
 refine xe (zA (zF ?_))
 refine yR (.int .i64 (n/2)) fun w' R Q=>?_
 exact⟨rfl,R⟩
def sqR (m:Nat) (e:Int) (bits:Nat):FR:=if m=0 then Zd7 else fH m e bits
theorem ZlF (g bits:Nat)(b:Bool)(A:Option Addr)(l c m:Nat)(e:Int)(w:World)(hC:CB w g ((bits:Nat):Int) 0)(hN:zI w (.agg #[.bool b,.slice A l c]) ((m:Nat):Int))(hm:ml m≤1000)(I2 : -1000000≤e)(J2:e≤1000000)(f2:8≤bits)(hb:bits≤4096) :
 yA 90 #[.pointer (some ⟨g,0,none⟩), yV b A l c e] w (RetC w g ((bits:Nat):Int) (sqR m e bits)):=by
 refine jH (fun i=>i=g) (Φ:=fun w=>(CB w g (bits:Int) 0∧zI w (.agg #[.bool b,.slice A l c]) ((m:Int)))) Tryz.func90 rfl (by kernel_rfl) (fun w' hf=>⟨hC.ext hf,hN.ext hf⟩) ?_
 refine zC ?_
 by_cases J:m=0
 ·refine zB (xq 2 [(3,.p 3 0),(4,.p 4 0)] [yF 4 52 false none 0 0 0,yF 3 52 b A l c e] ?_)
  refine xe (zA (zC (zC (zB (xq 2 [eI2 13 b A l c] [] ?_)))))
  refine xqc 62 [vI2 b A l c] 14 (fun _:Unit=>.int .i64 0) _ (fun w R Q=>(wU _ (m:Int) _ Q.2).mono (fun _ _ h=>zG h (by rw[J];rfl))) fun xx=>?_
  refine xq 1 [yB 15 true] [] ?_
  refine xe (zA (xa (zC (zB (xq 2 [] [] ?_)))))
  refine xe (zA (zF (zE ?_)))
  refine yR (yV false none 0 0 0) fun w' R Q=>?_
  rw[show sqR m e bits=Zd7 from uP J]
  exact⟨(false,none,0,0),rfl,zI.nil _,R,Q.1.1⟩
 refine zB (xq 2 [(3,.p 3 0),(4,.p 4 0)] [yF 4 52 false none 0 0 0,yF 3 52 b A l c e] ?_)
 refine xe (zA (zC (zC (zB (xq 2 [eI2 13 b A l c] [] ?_)))))
 refine xqc 62 [vI2 b A l c] 14 (fun _:Unit=>.int .i64 1) _ (fun w R Q=>(wU _ (m:Int) _ Q.2).mono (fun _ _ h=>zG h (by rw[rN (by omega)]))) fun xx=>?_
 refine xq 1 [yB 15 false] [] ?_
 refine xe (zA (xb (zK (zA (zC ?_)))))
 obtain⟨k,hk⟩:=yE (sqK m e bits)
 obtain⟨s,hs⟩:=yE (e-2*k+2)
 have g2:=ZiY hk hs
 have K2:=Ze0 hm
 have i2:sqK m e bits=(((blen m:Nat):Int)+e-1)/2-((bits:Int)-1):=rfl
 rw[hk] at i2
 refine yO 9 zM ?_
 refine xqg 2 [eI2 18 b A l c] ?_
 refine xqd 37 [vI2 b A l c] 19 (fun _:Unit=>.int .i64 ((blen m:Nat):Int)) _ (fun w R Q=>yN (kR _ _ _ Q.1.2 (nfit (mlc hm) (by decide)))) fun xx=>?_
 refine xqg 3 [yJ 22 (IntKind.i64.wrap (((blen m:Nat):Int)+e))] ?_
 rw[yW (((blen m:Nat):Int)+e) (((blen m:Nat):Int)+e) (by omega)]
 refine xqg 1 [(23,.v (.int .i64 (IntKind.i64.wrap ((((blen m:Nat):Int)+e)-1))))] ?_
 rw[yW (((blen m:Nat):Int)+e-1) (((blen m:Nat):Int)+e-1) (by omega)]
 refine xqd 131 [.int .i64 (((blen m:Nat):Int)+e-1)] 24 (fun _:Unit=>.int .i64 ((((blen m:Nat):Int)+e-1)/2)) _ (fun w R Q=>yN (Znt (((blen m:Nat):Int)+e-1) _ (by omega) (by omega))) fun xx=>?_
 refine xqg 1 [yJ 5 ((((blen m:Nat):Int)+e-1)/2)] ?_
 refine xz (xe (zA (zC (zB (xq 4 [yJ 25 ((((blen m:Nat):Int)+e-1)/2),(28,.v (.pointer (some ⟨g,0,none⟩)))] [] ?_)))))
 refine xqk 29 (.int .i64 (bits:Int)) (fun w R Q=>lP (t:=3) (x:=.tmp 28) (g:=g) (off:=0) (Blk.cell (Q.1.1.1.1) 0)) ?_
 refine xq 1 [yJ 30 (IntKind.i64.wrap ((bits:Int)-1))] [] ?_
 rw[yW ((bits:Int)-1) ((bits:Int)-1) (by omega)]
 refine xq 1 [(31,.v (.int .i64 (IntKind.i64.wrap (((((blen m:Nat):Int)+e-1)/2)-((bits:Int)-1)))))] [] ?_
 rw[show IntKind.i64.wrap (((((blen m:Nat):Int)+e-1)/2)-((bits:Int)-1))=k by rw[←hk];unfold sqK;rw[IntKind.wrap_i64];omega]
 refine xq 1 [yJ 6 k] [] ?_
 refine xe (zA (zC (zB (xq 4 [yJ 33 e,yJ 35 (IntKind.i64.wrap (2*k))] [] ?_))))
 rw[yW (2*k) (2*k) (by omega)]
 refine xr 1 [(0,.v (.pointer (some ⟨g,0,none⟩))),(3,.p 3 0),(4,.p 4 0),yJ 6 k,yJ 36 (IntKind.i64.wrap (e-(2*k)))] [yF 4 52 false none 0 0 0,yF 3 52 b A l c e] ?_
 rw[yW (e-(2*k)) (e-2*k) (by omega)]
 refine xq 1 [yJ 37 (IntKind.i64.wrap ((e-2*k)+2))] [] ?_
 rw[yW ((e-2*k)+2) (s) (by omega)]
 refine xq 1 [yJ 7 s] [] ?_
 refine xe (zA (zC ?_))
 obtain⟨Y,hY⟩:=yE (fq m 1 (-s))
 obtain⟨j2,L2⟩:=Znm (by omega) f2 g2 hY
 have k2:ml Y≤300:=Zee (by omega)
 obtain⟨r,hr⟩:=yE (isq Y)
 obtain⟨L0,M0⟩:=eI Y
 have l2:=Zno k2
 rw[hr] at L0 M0 j2 l2
 by_cases m2:0≤s
 ·obtain⟨j,rfl⟩:=uW m2
  refine zB (xq 3 [eI2 39 b A l c,yJ 40 (j:Int)] [] ?_)
  refine xqc 25 [vI2 b A l c,.int .i64 (j:Int)] 41 zZ _ (fun w R Q=>(gM _ (m:Int) j _ Q.1.1.1.2 (nfit (mlc hm) (by decide)) (by omega)).mono (fun _ _ h=>xC (by rw[show (m:Int)*2^j=(Y:Int) by rw[←hY,ZaY,tD,vT];rfl] at h;exact h))) fun⟨K,L,M,N⟩=>?_
  refine xq 2 [(8,.p 8 0)] [bI2 8 32 K L M N] ?_
  refine xe (zA (zC (zB (xq 1 [eI2 42 K L M N] [] ?_))))
  refine xqc 132 [vI2 K L M N] 43 zZ _ (fun w R Q=>yM xC (Zhb _ (Y:Int) r _ Q.2 (by omega) (by rw[uS];omega) (by rw[uS];exact L0) (by rw[uS];exact M0))) fun⟨o,f,a,n⟩=>?_
  refine xq 2 [(9,.p 9 0)] [bI2 9 32 o f a n] ?_
  refine xe (zA (zC ?_))
  by_cases q1:r*r=Y
  ·refine SXc.weak [(0,.v (.pointer (some ⟨g,0,none⟩))),(4,.p 4 0),yJ 6 k,yJ 7 (j:Int),(8,.p 8 0),(9,.p 9 0)] [(9,32,[.v (.bool o),.v (.slice f a n)]),(8,32,[.v (.bool K),.v (.slice L M N)]),yF 4 52 false none 0 0 0] (xF.of (by kernel_rfl)) (by kernel_rfl) (fun _ h=>h) ?_
   refine yO 11 zM ?_
   refine xqg 2 [yB 45 (decide ((j:Int)≥0))] ?_
   rw[show decide ((j:Int)≥0)=true from uQ (by omega)]
   refine xqg 3 [yB 46 true,eI2 47 o f a n,eI2 48 o f a n] ?_
   refine xqd 74 [vI2 o f a n,vI2 o f a n] 49 zZ _ (fun w R Q=>yM xC (ZiT (x:=r) (r:=r) Q.2 Q.2 (by omega) (by omega))) fun⟨n2,o2,p2,q2⟩=>?_
   refine xqg 1 [eI2 50 K L M N] ?_
   refine xqd 133 [vI2 n2 o2 p2 q2,vI2 K L M N] 51 (fun _:Unit=>.int .i64 (((r*r:Nat):Int)-(Y:Int)).sign) _ (fun w R Q=>yN (ZcP (x:=r*r) (r:=Y) Q.2 Q.1.1.2 (uA (Zfv _ _) (by omega)) (by omega))) fun xx=>?_
   refine xqg 1 [(52,.v (.bool (((((r*r:Nat):Int)-(Y:Int)).sign:Int) == 0)))] ?_
   rw[show ((((r*r:Nat):Int)-(Y:Int)).sign == 0)=true from tA.2 (vM.2 (by omega))]
   refine xqg 2 [yB 10 true] ?_
   refine xz (xe (zA (zC (zC ?_))))
   have O:=ZqK hY (by omega) (by rw[hr];exact q1)
   by_cases F0:r%2=1
   ·by_cases M2:r/2%2=1
    ·refine zB (xq 2 [eS1 55 f a n] [] ?_)
     refine xqk 56 (atA f 0) (fun w R Q=>(by obtain⟨D,E,u,h2,F,G⟩:=lY (Q.1.1.2) (z:=(r:Int)) (by omega);exact xO (t:=30) (e:=102) (x:=.tmp 55) (ix:=.const (.int .i64 0)) (len:=a) (cap:=n) (i:=0) G (by have h5:a=D.length:=F;omega))) ?_
     refine xqk 57 (.int .u32 (((r)%W32:Nat):Int)) (fun w R Q=>(by obtain⟨D,E,u,h2,F,G⟩:=lY (Q.1.1.2) (z:=(r:Int)) (by omega);rw[uS] at h2;rw[←h2];exact xW (t:=102) (x:=.tmp 56) E (j:=0) u)) ?_
     refine xqk 58 (.int .u32 (((r)%W32%2:Nat):Int)) (fun w R Q=>jY (t:=102) (k:=102) (x:=.tmp 57) (y:=.const (.int .u32 1)) (by kernel_rfl) (by kernel_rfl) (by kernel_rfl) (by have:=uM (r) (show 0<W32 by rw[zP];decide);rw[zP] at this ⊢;exact this)) ?_
     refine xq 1 [(59,.v (.bool (((((r)%W32%2:Nat):Int):Int) == 1)))] [] ?_
     rw[(show ((((r)%W32%2:Nat):Int) == 1)=true from tA.2 (by rw[zP];omega))]
     refine xe (zA (xa (zC (zB (xq 1 [eI2 60 o f a n] [] ?_)))))
     refine xqc 25 [vI2 o f a n,.int .i64 (-1)] 61 zZ _ (fun w R Q=>yM xC (cE (x:=r) Q.1.1.2 (by omega) (by omega))) fun⟨f0,S,H,T⟩=>?_
     refine xq 2 [(11,.p 11 0)] [bI2 11 32 f0 S H T] ?_
     refine xe (zA (zC (zC ?_)))
     refine SXc.know (p:=0<H) (fun w _ Q=>(Q.2).lenp (by omega)) fun r2=>?_
     refine zB (xq 7 [yB 64 false,yB 68 (decide ((H:Int)>0))] [] ?_)
     rw[show decide ((H:Int)>0)=true from uQ (by omega)]
     refine xq 3 [yB 69 true,eS1 71 S H T] [] ?_
     refine xqk 72 (atA S 0) (fun w R Q=>(by obtain⟨D,E,u,h2,F,G⟩:=lY (Q.2) (z:=((r/2^1:Nat):Int)) (by omega);exact xO (t:=30) (e:=102) (x:=.tmp 71) (ix:=.const (.int .i64 0)) (len:=H) (cap:=T) (i:=0) G (by have h5:H=D.length:=F;omega))) ?_
     refine xqk 73 (.int .u32 (((r/2^1)%W32:Nat):Int)) (fun w R Q=>(by obtain⟨D,E,u,h2,F,G⟩:=lY (Q.2) (z:=((r/2^1:Nat):Int)) (by omega);rw[uS] at h2;rw[←h2];exact xW (t:=102) (x:=.tmp 72) E (j:=0) u)) ?_
     refine xqk 74 (.int .u32 (((r/2^1)%W32%2:Nat):Int)) (fun w R Q=>jY (t:=102) (k:=102) (x:=.tmp 73) (y:=.const (.int .u32 1)) (by kernel_rfl) (by kernel_rfl) (by kernel_rfl) (by have:=uM (r/2^1) (show 0<W32 by rw[zP];decide);rw[zP] at this ⊢;exact this)) ?_
     refine xq 1 [(75,.v (.bool (((((r/2^1)%W32%2:Nat):Int):Int) == 1)))] [] ?_
     rw[(show ((((r/2^1)%W32%2:Nat):Int) == 1)=true from tA.2 (by rw[zP];omega))]
     refine xr 2 [(0,.v (.pointer (some ⟨g,0,none⟩))),(4,.p 4 0),yJ 6 k,(9,.p 9 0),(11,.p 11 0),yB 77 true] [bI2 11 32 f0 S H T,bI2 9 32 o f a n,yF 4 52 false none 0 0 0] ?_
     refine xe (zA (xa ?_))
     refine yO 4 zM ?_
     refine xqg 1 [eI2 78 f0 S H T] ?_
     refine xqd 24 [.int .i64 1] 79 zZ _ (fun w R Q=>yM xC (lH 1 _ (by decide) (by decide))) fun⟨s2,t2,u2,v2⟩=>?_
     refine xqd 77 [vI2 f0 S H T,vI2 s2 t2 u2 v2] 80 zZ _ (fun w R Q=>yM xC (Zaf (x:=r/2^1) (r:=1) Q.1.2 Q.2 (uA (wK (uO _ _)) (by omega)) (uA ml_1 (by decide)))) fun⟨g0,h0,i0,j0⟩=>?_
     refine xqf 1 [] [bI2 11 32 g0 h0 i0 j0,bI2 11 32 f0 S H T,bI2 9 32 o f a n,yF 4 52 false none 0 0 0] ?_
     refine xz (xe (zA (zC (zB (xq 3 [(81,.v (.pointer (some ⟨g,0,none⟩))),eI2 82 g0 h0 i0 j0,yJ 83 k] [bI2 11 32 g0 h0 i0 j0] ?_)))))
     refine xqc 135 [vI2 g0 h0 i0 j0,.int .i64 k] 84 (shF (k+((tzn (r/2^1+1):Nat):Int))) _ (fun w R Q=>(iO g0 h0 i0 j0 ((r/2^1+1:Nat):Int) k _ Q.2 (by omega) (sfit (mlc (show ml (r/2^1+1)≤2000 from uA (Zbb (k:=1000) (uA (wK (uO _ _)) (by omega)) (uA ml_1 (by decide))) (by decide))) (by decide)) (by omega) (by omega)).mono (fun _ _ h=>eM (by rw[uS,show decide (((r/2^1+1:Nat):Int)<0)=false from uJ (by omega)] at h;exact h))) fun⟨r1,s1,t1,u1⟩=>?_
     obtain⟨U,G0⟩:=yE (limR false (oddM (r/2^1+1)) ((k+((tzn (r/2^1+1):Nat):Int))))
     refine wQ 134 [.pointer (some ⟨g,0,none⟩), yV r1 s1 t1 u1 (k+((tzn (r/2^1+1):Nat):Int))] (d:=85) (shF U.e) (fun _=>#[.int .i64 (bits:Int),.int .i64 U.err]) (fun y w=>zI w (zZ y) (sg U.s U.m)) (fun _=>True) (fun w Q=>Q.1.1.1.1.1.1.1.1.1.1.1.1) (vK _) (Or.inr rfl) (fun w R Q=>yM jR (show Calls _ _ _ _ (RetC w g (bits:Int) U) by rw[←G0];exact jS g bits r1 s1 t1 u1 false (oddM (r/2^1+1)) ((k+((tzn (r/2^1+1):Nat):Int))) _ Q.1.1.1.1.1.1.1.1.1.1.1.1 Q.2)) (fun _ _ _ _=>trivial) fun⟨N0,O0,P0,Q0⟩=>?_
     refine xr 1 [(0,.v (.pointer (some ⟨g,0,none⟩))),(4,.p 4 0),yJ 6 k,(9,.p 9 0)] [bI2 9 32 o f a n,yF 4 52 N0 O0 P0 Q0 U.e] ?_
     refine xe (zA (zF (zE ?_)))
     refine yR (yV N0 O0 P0 Q0 U.e) fun w' R Q=>?_
     rw[show sqR m e bits=fH m e bits from uN J,cF hk hs hY O (X:=r/2^1+1) (by rw[hr,ZeQ (by omega) (by first|exact Or.inr rfl | (left;omega))]) (by omega),G0]
     exact⟨(N0,O0,P0,Q0),rfl,Q.2,R,Q.1.2⟩
    refine zB (xq 2 [eS1 55 f a n] [] ?_)
    refine xqk 56 (atA f 0) (fun w R Q=>(by obtain⟨D,E,u,h2,F,G⟩:=lY (Q.1.1.2) (z:=(r:Int)) (by omega);exact xO (t:=30) (e:=102) (x:=.tmp 55) (ix:=.const (.int .i64 0)) (len:=a) (cap:=n) (i:=0) G (by have h5:a=D.length:=F;omega))) ?_
    refine xqk 57 (.int .u32 (((r)%W32:Nat):Int)) (fun w R Q=>(by obtain⟨D,E,u,h2,F,G⟩:=lY (Q.1.1.2) (z:=(r:Int)) (by omega);rw[uS] at h2;rw[←h2];exact xW (t:=102) (x:=.tmp 56) E (j:=0) u)) ?_
    refine xqk 58 (.int .u32 (((r)%W32%2:Nat):Int)) (fun w R Q=>jY (t:=102) (k:=102) (x:=.tmp 57) (y:=.const (.int .u32 1)) (by kernel_rfl) (by kernel_rfl) (by kernel_rfl) (by have:=uM (r) (show 0<W32 by rw[zP];decide);rw[zP] at this ⊢;exact this)) ?_
    refine xq 1 [(59,.v (.bool (((((r)%W32%2:Nat):Int):Int) == 1)))] [] ?_
    rw[(show ((((r)%W32%2:Nat):Int) == 1)=true from tA.2 (by rw[zP];omega))]
    refine xe (zA (xa (zC (zB (xq 1 [eI2 60 o f a n] [] ?_)))))
    refine xqc 25 [vI2 o f a n,.int .i64 (-1)] 61 zZ _ (fun w R Q=>yM xC (cE (x:=r) Q.1.1.2 (by omega) (by omega))) fun⟨k0,V,I,W⟩=>?_
    refine xq 2 [(11,.p 11 0)] [bI2 11 32 k0 V I W] ?_
    refine xe (zA (zC (zC ?_)))
    refine SXc.know (p:=0<I) (fun w _ Q=>(Q.2).lenp (by omega)) fun r2=>?_
    refine zB (xq 7 [yB 64 false,yB 68 (decide ((I:Int)>0))] [] ?_)
    rw[show decide ((I:Int)>0)=true from uQ (by omega)]
    refine xq 3 [yB 69 true,eS1 71 V I W] [] ?_
    refine xqk 72 (atA V 0) (fun w R Q=>(by obtain⟨D,E,u,h2,F,G⟩:=lY (Q.2) (z:=((r/2^1:Nat):Int)) (by omega);exact xO (t:=30) (e:=102) (x:=.tmp 71) (ix:=.const (.int .i64 0)) (len:=I) (cap:=W) (i:=0) G (by have h5:I=D.length:=F;omega))) ?_
    refine xqk 73 (.int .u32 (((r/2^1)%W32:Nat):Int)) (fun w R Q=>(by obtain⟨D,E,u,h2,F,G⟩:=lY (Q.2) (z:=((r/2^1:Nat):Int)) (by omega);rw[uS] at h2;rw[←h2];exact xW (t:=102) (x:=.tmp 72) E (j:=0) u)) ?_
    refine xqk 74 (.int .u32 (((r/2^1)%W32%2:Nat):Int)) (fun w R Q=>jY (t:=102) (k:=102) (x:=.tmp 73) (y:=.const (.int .u32 1)) (by kernel_rfl) (by kernel_rfl) (by kernel_rfl) (by have:=uM (r/2^1) (show 0<W32 by rw[zP];decide);rw[zP] at this ⊢;exact this)) ?_
    refine xq 1 [(75,.v (.bool (((((r/2^1)%W32%2:Nat):Int):Int) == 1)))] [] ?_
    rw[(show ((((r/2^1)%W32%2:Nat):Int) == 1)=false from tG.2 (by rw[zP];omega))]
    refine xr 2 [(0,.v (.pointer (some ⟨g,0,none⟩))),(4,.p 4 0),yJ 6 k,(9,.p 9 0),(11,.p 11 0),yB 77 false] [bI2 11 32 k0 V I W,bI2 9 32 o f a n,yF 4 52 false none 0 0 0] ?_
    refine xe (zA (xb (zK (zA (zC (zB (xq 3 [(81,.v (.pointer (some ⟨g,0,none⟩))),eI2 82 k0 V I W,yJ 83 k] [] ?_)))))))
    refine xqc 135 [vI2 k0 V I W,.int .i64 k] 84 (shF (k+((tzn (r/2^1):Nat):Int))) _ (fun w R Q=>(iO k0 V I W ((r/2^1:Nat):Int) k _ Q.2 (by omega) (sfit (mlc (show ml (r/2^1)≤2000 from uA (wK (uO _ _)) (by omega))) (by decide)) (by omega) (by omega)).mono (fun _ _ h=>eM (by rw[uS,show decide (((r/2^1:Nat):Int)<0)=false from uJ (by omega)] at h;exact h))) fun⟨v1,w1,x1,y1⟩=>?_
    obtain⟨Z,hr20⟩:=yE (limR false (oddM (r/2^1)) ((k+((tzn (r/2^1):Nat):Int))))
    refine wQ 134 [.pointer (some ⟨g,0,none⟩), yV v1 w1 x1 y1 (k+((tzn (r/2^1):Nat):Int))] (d:=85) (shF Z.e) (fun _=>#[.int .i64 (bits:Int),.int .i64 Z.err]) (fun y w=>zI w (zZ y) (sg Z.s Z.m)) (fun _=>True) (fun w Q=>Q.1.1.1.1.1.1.1.1.1.1) (vK _) (Or.inr rfl) (fun w R Q=>yM jR (show Calls _ _ _ _ (RetC w g (bits:Int) Z) by rw[←hr20];exact jS g bits v1 w1 x1 y1 false (oddM (r/2^1)) ((k+((tzn (r/2^1):Nat):Int))) _ Q.1.1.1.1.1.1.1.1.1.1 Q.2)) (fun _ _ _ _=>trivial) fun⟨R0,S0,T0,U0⟩=>?_
    refine xr 1 [(0,.v (.pointer (some ⟨g,0,none⟩))),(4,.p 4 0),yJ 6 k,(9,.p 9 0)] [bI2 9 32 o f a n,yF 4 52 R0 S0 T0 U0 Z.e] ?_
    refine xe (zA (zF (zE ?_)))
    refine yR (yV R0 S0 T0 U0 Z.e) fun w' R Q=>?_
    rw[show sqR m e bits=fH m e bits from uN J,cF hk hs hY O (X:=r/2^1) (by rw[hr,Zcy (by rintro⟨u,h2|h2⟩;omega;cases h2)]) (by omega),hr20]
    exact⟨(R0,S0,T0,U0),rfl,Q.2,R,Q.1.2⟩
   refine zB (xq 2 [eS1 55 f a n] [] ?_)
   refine xqk 56 (atA f 0) (fun w R Q=>(by obtain⟨D,E,u,h2,F,G⟩:=lY (Q.1.1.2) (z:=(r:Int)) (by omega);exact xO (t:=30) (e:=102) (x:=.tmp 55) (ix:=.const (.int .i64 0)) (len:=a) (cap:=n) (i:=0) G (by have h5:a=D.length:=F;omega))) ?_
   refine xqk 57 (.int .u32 (((r)%W32:Nat):Int)) (fun w R Q=>(by obtain⟨D,E,u,h2,F,G⟩:=lY (Q.1.1.2) (z:=(r:Int)) (by omega);rw[uS] at h2;rw[←h2];exact xW (t:=102) (x:=.tmp 56) E (j:=0) u)) ?_
   refine xqk 58 (.int .u32 (((r)%W32%2:Nat):Int)) (fun w R Q=>jY (t:=102) (k:=102) (x:=.tmp 57) (y:=.const (.int .u32 1)) (by kernel_rfl) (by kernel_rfl) (by kernel_rfl) (by have:=uM (r) (show 0<W32 by rw[zP];decide);rw[zP] at this ⊢;exact this)) ?_
   refine xq 1 [(59,.v (.bool (((((r)%W32%2:Nat):Int):Int) == 1)))] [] ?_
   rw[(show ((((r)%W32%2:Nat):Int) == 1)=false from tG.2 (by rw[zP];omega))]
   refine xe (zA (xb (zK (zA (zC (zB (xq 2 [(86,.v (.pointer (some ⟨g,0,none⟩))),eI2 87 o f a n] [] ?_)))))))
   refine xqc 25 [vI2 o f a n,.int .i64 (-1)] 88 zZ _ (fun w R Q=>yM xC (cE (x:=r) Q.1.1.2 (by omega) (by omega))) fun⟨z1,A1,B1,C1⟩=>?_
   refine xq 1 [yJ 89 k] [] ?_
   refine xqc 135 [vI2 z1 A1 B1 C1,.int .i64 k] 90 (shF (k+((tzn (r/2^1):Nat):Int))) _ (fun w R Q=>(iO z1 A1 B1 C1 ((r/2^1:Nat):Int) k _ Q.2 (by omega) (sfit (mlc (show ml (r/2^1)≤2000 from uA (wK (uO _ _)) (by omega))) (by decide)) (by omega) (by omega)).mono (fun _ _ h=>eM (by rw[uS,show decide (((r/2^1:Nat):Int)<0)=false from uJ (by omega)] at h;exact h))) fun⟨D1,E1,F1,G1⟩=>?_
   obtain⟨a0,hr23⟩:=yE (limR false (oddM (r/2^1)) ((k+((tzn (r/2^1):Nat):Int))))
   refine wQ 134 [.pointer (some ⟨g,0,none⟩), yV D1 E1 F1 G1 (k+((tzn (r/2^1):Nat):Int))] (d:=91) (shF a0.e) (fun _=>#[.int .i64 (bits:Int),.int .i64 a0.err]) (fun y w=>zI w (zZ y) (sg a0.s a0.m)) (fun _=>True) (fun w Q=>Q.1.1.1.1.1.1.1.1.1.1) (vK _) (Or.inr rfl) (fun w R Q=>yM jR (show Calls _ _ _ _ (RetC w g (bits:Int) a0) by rw[←hr23];exact jS g bits D1 E1 F1 G1 false (oddM (r/2^1)) ((k+((tzn (r/2^1):Nat):Int))) _ Q.1.1.1.1.1.1.1.1.1.1 Q.2)) (fun _ _ _ _=>trivial) fun⟨V0,W0,X0,Y0⟩=>?_
   refine xr 1 [(4,.p 4 0)] [yF 4 52 V0 W0 X0 Y0 a0.e] ?_
   refine xe (zA (zF ?_))
   refine yR (yV V0 W0 X0 Y0 a0.e) fun w' R Q=>?_
   rw[show sqR m e bits=fH m e bits from uN J,cF hk hs hY O (X:=r/2^1) (by rw[hr,Zcy (by rintro⟨u,h2|h2⟩;omega;cases h2)]) (by omega),hr23]
   exact⟨(V0,W0,X0,Y0),rfl,Q.2,R,Q.1.2⟩
  refine SXc.weak [(0,.v (.pointer (some ⟨g,0,none⟩))),(4,.p 4 0),yJ 6 k,yJ 7 (j:Int),(8,.p 8 0),(9,.p 9 0)] [(9,32,[.v (.bool o),.v (.slice f a n)]),(8,32,[.v (.bool K),.v (.slice L M N)]),yF 4 52 false none 0 0 0] (xF.of (by kernel_rfl)) (by kernel_rfl) (fun _ h=>h) ?_
  refine yO 11 zM ?_
  refine xqg 2 [yB 45 (decide ((j:Int)≥0))] ?_
  rw[show decide ((j:Int)≥0)=true from uQ (by omega)]
  refine xqg 3 [yB 46 true,eI2 47 o f a n,eI2 48 o f a n] ?_
  refine xqd 74 [vI2 o f a n,vI2 o f a n] 49 zZ _ (fun w R Q=>yM xC (ZiT (x:=r) (r:=r) Q.2 Q.2 (by omega) (by omega))) fun⟨w2,x2,y2,z2⟩=>?_
  refine xqg 1 [eI2 50 K L M N] ?_
  refine xqd 133 [vI2 w2 x2 y2 z2,vI2 K L M N] 51 (fun _:Unit=>.int .i64 (((r*r:Nat):Int)-(Y:Int)).sign) _ (fun w R Q=>yN (ZcP (x:=r*r) (r:=Y) Q.2 Q.1.1.2 (uA (Zfv _ _) (by omega)) (by omega))) fun xx=>?_
  refine xqg 1 [(52,.v (.bool (((((r*r:Nat):Int)-(Y:Int)).sign:Int) == 0)))] ?_
  rw[show ((((r*r:Nat):Int)-(Y:Int)).sign == 0)=false from tG.2 (fun e'=>by have:=vM.1 e';omega)]
  refine xqg 2 [yB 10 false] ?_
  refine xz (xe (zA (zC (zC ?_))))
  have O:=Znn hY (Or.inr (by rw[hr];exact q1))
  by_cases F0:r%2=1
  ·refine zB (xq 2 [eS1 55 f a n] [] ?_)
   refine xqk 56 (atA f 0) (fun w R Q=>(by obtain⟨D,E,u,h2,F,G⟩:=lY (Q.1.1.2) (z:=(r:Int)) (by omega);exact xO (t:=30) (e:=102) (x:=.tmp 55) (ix:=.const (.int .i64 0)) (len:=a) (cap:=n) (i:=0) G (by have h5:a=D.length:=F;omega))) ?_
   refine xqk 57 (.int .u32 (((r)%W32:Nat):Int)) (fun w R Q=>(by obtain⟨D,E,u,h2,F,G⟩:=lY (Q.1.1.2) (z:=(r:Int)) (by omega);rw[uS] at h2;rw[←h2];exact xW (t:=102) (x:=.tmp 56) E (j:=0) u)) ?_
   refine xqk 58 (.int .u32 (((r)%W32%2:Nat):Int)) (fun w R Q=>jY (t:=102) (k:=102) (x:=.tmp 57) (y:=.const (.int .u32 1)) (by kernel_rfl) (by kernel_rfl) (by kernel_rfl) (by have:=uM (r) (show 0<W32 by rw[zP];decide);rw[zP] at this ⊢;exact this)) ?_
   refine xq 1 [(59,.v (.bool (((((r)%W32%2:Nat):Int):Int) == 1)))] [] ?_
   rw[(show ((((r)%W32%2:Nat):Int) == 1)=true from tA.2 (by rw[zP];omega))]
   refine xe (zA (xa (zC (zB (xq 1 [eI2 60 o f a n] [] ?_)))))
   refine xqc 25 [vI2 o f a n,.int .i64 (-1)] 61 zZ _ (fun w R Q=>yM xC (cE (x:=r) Q.1.1.2 (by omega) (by omega))) fun⟨l0,m0,n0,o0⟩=>?_
   refine xq 2 [(11,.p 11 0)] [bI2 11 32 l0 m0 n0 o0] ?_
   refine xe (zA (zC (zC (zB (xq 16 [yB 77 true] [] ?_)))))
   refine xe (zA (xa ?_))
   refine SXc.weak [(0,.v (.pointer (some ⟨g,0,none⟩))),(4,.p 4 0),yJ 6 k,(9,.p 9 0),(11,.p 11 0)] [(11,32,[.v (.bool l0),.v (.slice m0 n0 o0)]),(9,32,[.v (.bool o),.v (.slice f a n)]),yF 4 52 false none 0 0 0] (xF.of (by kernel_rfl)) (by kernel_rfl) (fun _ h=>h) ?_
   refine yO 4 zM ?_
   refine xqg 1 [eI2 78 l0 m0 n0 o0] ?_
   refine xqd 24 [.int .i64 1] 79 zZ _ (fun w R Q=>yM xC (lH 1 _ (by decide) (by decide))) fun⟨A2,B2,C2,D2⟩=>?_
   refine xqd 77 [vI2 l0 m0 n0 o0,vI2 A2 B2 C2 D2] 80 zZ _ (fun w R Q=>yM xC (Zaf (x:=r/2^1) (r:=1) Q.1.2 Q.2 (uA (wK (uO _ _)) (by omega)) (uA ml_1 (by decide)))) fun⟨p0,q0,r0,s0⟩=>?_
   refine xqf 1 [] [bI2 11 32 p0 q0 r0 s0,bI2 11 32 l0 m0 n0 o0,bI2 9 32 o f a n,yF 4 52 false none 0 0 0] ?_
   refine xz (xe (zA (zC (zB (xq 3 [(81,.v (.pointer (some ⟨g,0,none⟩))),eI2 82 p0 q0 r0 s0,yJ 83 k] [bI2 11 32 p0 q0 r0 s0] ?_)))))
   refine xqc 135 [vI2 p0 q0 r0 s0,.int .i64 k] 84 (shF (k+((tzn (r/2^1+1):Nat):Int))) _ (fun w R Q=>(iO p0 q0 r0 s0 ((r/2^1+1:Nat):Int) k _ Q.2 (by omega) (sfit (mlc (show ml (r/2^1+1)≤2000 from uA (Zbb (k:=1000) (uA (wK (uO _ _)) (by omega)) (uA ml_1 (by decide))) (by decide))) (by decide)) (by omega) (by omega)).mono (fun _ _ h=>eM (by rw[uS,show decide (((r/2^1+1:Nat):Int)<0)=false from uJ (by omega)] at h;exact h))) fun⟨H1,I1,J1,K1⟩=>?_
   obtain⟨b0,H0⟩:=yE (limR false (oddM (r/2^1+1)) ((k+((tzn (r/2^1+1):Nat):Int))))
   refine wQ 134 [.pointer (some ⟨g,0,none⟩), yV H1 I1 J1 K1 (k+((tzn (r/2^1+1):Nat):Int))] (d:=85) (shF b0.e) (fun _=>#[.int .i64 (bits:Int),.int .i64 b0.err]) (fun y w=>zI w (zZ y) (sg b0.s b0.m)) (fun _=>True) (fun w Q=>Q.1.1.1.1.1.1.1.1.1.1.1.1) (vK _) (Or.inr rfl) (fun w R Q=>yM jR (show Calls _ _ _ _ (RetC w g (bits:Int) b0) by rw[←H0];exact jS g bits H1 I1 J1 K1 false (oddM (r/2^1+1)) ((k+((tzn (r/2^1+1):Nat):Int))) _ Q.1.1.1.1.1.1.1.1.1.1.1.1 Q.2)) (fun _ _ _ _=>trivial) fun⟨Z0,a1,b1,c1⟩=>?_
   refine xr 1 [(0,.v (.pointer (some ⟨g,0,none⟩))),(4,.p 4 0),yJ 6 k,(9,.p 9 0)] [bI2 9 32 o f a n,yF 4 52 Z0 a1 b1 c1 b0.e] ?_
   refine xe (zA (zF (zE ?_)))
   refine yR (yV Z0 a1 b1 c1 b0.e) fun w' R Q=>?_
   rw[show sqR m e bits=fH m e bits from uN J,cF hk hs hY O (X:=r/2^1+1) (by rw[hr,ZeQ (by omega) (by first|exact Or.inr rfl | (left;omega))]) (by omega),H0]
   exact⟨(Z0,a1,b1,c1),rfl,Q.2,R,Q.1.2⟩
  refine zB (xq 2 [eS1 55 f a n] [] ?_)
  refine xqk 56 (atA f 0) (fun w R Q=>(by obtain⟨D,E,u,h2,F,G⟩:=lY (Q.1.1.2) (z:=(r:Int)) (by omega);exact xO (t:=30) (e:=102) (x:=.tmp 55) (ix:=.const (.int .i64 0)) (len:=a) (cap:=n) (i:=0) G (by have h5:a=D.length:=F;omega))) ?_
  refine xqk 57 (.int .u32 (((r)%W32:Nat):Int)) (fun w R Q=>(by obtain⟨D,E,u,h2,F,G⟩:=lY (Q.1.1.2) (z:=(r:Int)) (by omega);rw[uS] at h2;rw[←h2];exact xW (t:=102) (x:=.tmp 56) E (j:=0) u)) ?_
  refine xqk 58 (.int .u32 (((r)%W32%2:Nat):Int)) (fun w R Q=>jY (t:=102) (k:=102) (x:=.tmp 57) (y:=.const (.int .u32 1)) (by kernel_rfl) (by kernel_rfl) (by kernel_rfl) (by have:=uM (r) (show 0<W32 by rw[zP];decide);rw[zP] at this ⊢;exact this)) ?_
  refine xq 1 [(59,.v (.bool (((((r)%W32%2:Nat):Int):Int) == 1)))] [] ?_
  rw[(show ((((r)%W32%2:Nat):Int) == 1)=false from tG.2 (by rw[zP];omega))]
  refine xe (zA (xb (zK (zA (zC (zB (xq 2 [(86,.v (.pointer (some ⟨g,0,none⟩))),eI2 87 o f a n] [] ?_)))))))
  refine xqc 25 [vI2 o f a n,.int .i64 (-1)] 88 zZ _ (fun w R Q=>yM xC (cE (x:=r) Q.1.1.2 (by omega) (by omega))) fun⟨L1,M1,N1,O1⟩=>?_
  refine xq 1 [yJ 89 k] [] ?_
  refine xqc 135 [vI2 L1 M1 N1 O1,.int .i64 k] 90 (shF (k+((tzn (r/2^1):Nat):Int))) _ (fun w R Q=>(iO L1 M1 N1 O1 ((r/2^1:Nat):Int) k _ Q.2 (by omega) (sfit (mlc (show ml (r/2^1)≤2000 from uA (wK (uO _ _)) (by omega))) (by decide)) (by omega) (by omega)).mono (fun _ _ h=>eM (by rw[uS,show decide (((r/2^1:Nat):Int)<0)=false from uJ (by omega)] at h;exact h))) fun⟨P1,Q1,R1,S1⟩=>?_
  obtain⟨c0,I0⟩:=yE (limR false (oddM (r/2^1)) ((k+((tzn (r/2^1):Nat):Int))))
  refine wQ 134 [.pointer (some ⟨g,0,none⟩), yV P1 Q1 R1 S1 (k+((tzn (r/2^1):Nat):Int))] (d:=91) (shF c0.e) (fun _=>#[.int .i64 (bits:Int),.int .i64 c0.err]) (fun y w=>zI w (zZ y) (sg c0.s c0.m)) (fun _=>True) (fun w Q=>Q.1.1.1.1.1.1.1.1.1.1) (vK _) (Or.inr rfl) (fun w R Q=>yM jR (show Calls _ _ _ _ (RetC w g (bits:Int) c0) by rw[←I0];exact jS g bits P1 Q1 R1 S1 false (oddM (r/2^1)) ((k+((tzn (r/2^1):Nat):Int))) _ Q.1.1.1.1.1.1.1.1.1.1 Q.2)) (fun _ _ _ _=>trivial) fun⟨d1,e1,f1,g1⟩=>?_
  refine xr 1 [(4,.p 4 0)] [yF 4 52 d1 e1 f1 g1 c0.e] ?_
  refine xe (zA (zF ?_))
  refine yR (yV d1 e1 f1 g1 c0.e) fun w' R Q=>?_
  rw[show sqR m e bits=fH m e bits from uN J,cF hk hs hY O (X:=r/2^1) (by rw[hr,Zcy (by rintro⟨u,h2|h2⟩;omega;omega)]) (by omega),I0]
  exact⟨(d1,e1,f1,g1),rfl,Q.2,R,Q.1.2⟩
 obtain⟨j,hj⟩:∃ j:Nat,s = -(j:Int):=⟨(-s).toNat,by omega⟩
 subst hj
 refine zB (xq 3 [eI2 39 b A l c,yJ 40 (-(j:Int))] [] ?_)
 refine xqc 25 [vI2 b A l c,.int .i64 (-(j:Int))] 41 zZ _ (fun w R Q=>(ZiV _ (m:Int) j _ Q.1.1.1.2 (sfit (mlc hm) (by decide)) (by omega)).mono (fun _ _ h=>xC (by rw[show sg (decide ((m:Int)<0)) (((m:Int)).natAbs/2^j)=(Y:Int) by rw[←hY,ZpW,uJ (by omega),uS];rfl] at h;exact h))) fun⟨B0,C0,D0,E0⟩=>?_
 refine xq 2 [(8,.p 8 0)] [bI2 8 32 B0 C0 D0 E0] ?_
 refine xe (zA (zC (zB (xq 1 [eI2 42 B0 C0 D0 E0] [] ?_))))
 refine xqc 132 [vI2 B0 C0 D0 E0] 43 zZ _ (fun w R Q=>yM xC (Zhb _ (Y:Int) r _ Q.2 (by omega) (by rw[uS];omega) (by rw[uS];exact L0) (by rw[uS];exact M0))) fun⟨P,B,q,C⟩=>?_
 refine xq 2 [(9,.p 9 0)] [bI2 9 32 P B q C] ?_
 refine xe (zA (zC ?_))
 refine SXc.weak [(0,.v (.pointer (some ⟨g,0,none⟩))),(4,.p 4 0),yJ 6 k,yJ 7 (-(j:Int)),(8,.p 8 0),(9,.p 9 0)] [(9,32,[.v (.bool P),.v (.slice B q C)]),(8,32,[.v (.bool B0),.v (.slice C0 D0 E0)]),yF 4 52 false none 0 0 0] (xF.of (by kernel_rfl)) (by kernel_rfl) (fun _ h=>h) ?_
 refine yO 11 zM ?_
 refine xqg 2 [(45,.v (.bool (decide ((-(j:Int))≥0))))] ?_
 rw[show decide ((-(j:Int))≥0)=false from uJ (by omega)]
 refine xqg 9 [yB 10 false] ?_
 refine xz (xe (zA (zC (zC ?_))))
 have O:=Znn hY (Or.inl (by omega))
 by_cases F0:r%2=1
 ·refine zB (xq 2 [eS1 55 B q C] [] ?_)
  refine xqk 56 (atA B 0) (fun w R Q=>(by obtain⟨D,E,u,h2,F,G⟩:=lY (Q.2) (z:=(r:Int)) (by omega);exact xO (t:=30) (e:=102) (x:=.tmp 55) (ix:=.const (.int .i64 0)) (len:=q) (cap:=C) (i:=0) G (by have h5:q=D.length:=F;omega))) ?_
  refine xqk 57 (.int .u32 (((r)%W32:Nat):Int)) (fun w R Q=>(by obtain⟨D,E,u,h2,F,G⟩:=lY (Q.2) (z:=(r:Int)) (by omega);rw[uS] at h2;rw[←h2];exact xW (t:=102) (x:=.tmp 56) E (j:=0) u)) ?_
  refine xqk 58 (.int .u32 (((r)%W32%2:Nat):Int)) (fun w R Q=>jY (t:=102) (k:=102) (x:=.tmp 57) (y:=.const (.int .u32 1)) (by kernel_rfl) (by kernel_rfl) (by kernel_rfl) (by have:=uM (r) (show 0<W32 by rw[zP];decide);rw[zP] at this ⊢;exact this)) ?_
  refine xq 1 [(59,.v (.bool (((((r)%W32%2:Nat):Int):Int) == 1)))] [] ?_
  rw[(show ((((r)%W32%2:Nat):Int) == 1)=true from tA.2 (by rw[zP];omega))]
  refine xe (zA (xa (zC (zB (xq 1 [eI2 60 P B q C] [] ?_)))))
  refine xqc 25 [vI2 P B q C,.int .i64 (-1)] 61 zZ _ (fun w R Q=>yM xC (cE (x:=r) Q.2 (by omega) (by omega))) fun⟨t0,u0,v0,w0⟩=>?_
  refine xq 2 [(11,.p 11 0)] [bI2 11 32 t0 u0 v0 w0] ?_
  refine xe (zA (zC (zC (zB (xq 16 [yB 77 true] [] ?_)))))
  refine xe (zA (xa ?_))
  refine SXc.weak [(0,.v (.pointer (some ⟨g,0,none⟩))),(4,.p 4 0),yJ 6 k,(9,.p 9 0),(11,.p 11 0)] [(11,32,[.v (.bool t0),.v (.slice u0 v0 w0)]),(9,32,[.v (.bool P),.v (.slice B q C)]),yF 4 52 false none 0 0 0] (xF.of (by kernel_rfl)) (by kernel_rfl) (fun _ h=>h) ?_
  refine yO 4 zM ?_
  refine xqg 1 [eI2 78 t0 u0 v0 w0] ?_
  refine xqd 24 [.int .i64 1] 79 zZ _ (fun w R Q=>yM xC (lH 1 _ (by decide) (by decide))) fun⟨E2,F2,G2,H2⟩=>?_
  refine xqd 77 [vI2 t0 u0 v0 w0,vI2 E2 F2 G2 H2] 80 zZ _ (fun w R Q=>yM xC (Zaf (x:=r/2^1) (r:=1) Q.1.2 Q.2 (uA (wK (uO _ _)) (by omega)) (uA ml_1 (by decide)))) fun⟨x0,y0,z0,A0⟩=>?_
  refine xqf 1 [] [bI2 11 32 x0 y0 z0 A0,bI2 11 32 t0 u0 v0 w0,bI2 9 32 P B q C,yF 4 52 false none 0 0 0] ?_
  refine xz (xe (zA (zC (zB (xq 3 [(81,.v (.pointer (some ⟨g,0,none⟩))),eI2 82 x0 y0 z0 A0,yJ 83 k] [bI2 11 32 x0 y0 z0 A0] ?_)))))
  refine xqc 135 [vI2 x0 y0 z0 A0,.int .i64 k] 84 (shF (k+((tzn (r/2^1+1):Nat):Int))) _ (fun w R Q=>(iO x0 y0 z0 A0 ((r/2^1+1:Nat):Int) k _ Q.2 (by omega) (sfit (mlc (show ml (r/2^1+1)≤2000 from uA (Zbb (k:=1000) (uA (wK (uO _ _)) (by omega)) (uA ml_1 (by decide))) (by decide))) (by decide)) (by omega) (by omega)).mono (fun _ _ h=>eM (by rw[uS,show decide (((r/2^1+1:Nat):Int)<0)=false from uJ (by omega)] at h;exact h))) fun⟨T1,U1,V1,W1⟩=>?_
  obtain⟨d0,J0⟩:=yE (limR false (oddM (r/2^1+1)) ((k+((tzn (r/2^1+1):Nat):Int))))
  refine wQ 134 [.pointer (some ⟨g,0,none⟩), yV T1 U1 V1 W1 (k+((tzn (r/2^1+1):Nat):Int))] (d:=85) (shF d0.e) (fun _=>#[.int .i64 (bits:Int),.int .i64 d0.err]) (fun y w=>zI w (zZ y) (sg d0.s d0.m)) (fun _=>True) (fun w Q=>Q.1.1.1.1.1.1.1.1.1.1) (vK _) (Or.inr rfl) (fun w R Q=>yM jR (show Calls _ _ _ _ (RetC w g (bits:Int) d0) by rw[←J0];exact jS g bits T1 U1 V1 W1 false (oddM (r/2^1+1)) ((k+((tzn (r/2^1+1):Nat):Int))) _ Q.1.1.1.1.1.1.1.1.1.1 Q.2)) (fun _ _ _ _=>trivial) fun⟨i1,j1,k1,l1⟩=>?_
  refine xr 1 [(0,.v (.pointer (some ⟨g,0,none⟩))),(4,.p 4 0),yJ 6 k,(9,.p 9 0)] [bI2 9 32 P B q C,yF 4 52 i1 j1 k1 l1 d0.e] ?_
  refine xe (zA (zF (zE ?_)))
  refine yR (yV i1 j1 k1 l1 d0.e) fun w' R Q=>?_
  rw[show sqR m e bits=fH m e bits from uN J,cF hk hs hY O (X:=r/2^1+1) (by rw[hr,ZeQ (by omega) (by first|exact Or.inr rfl | (left;omega))]) (by omega),J0]
  exact⟨(i1,j1,k1,l1),rfl,Q.2,R,Q.1.2⟩
 refine zB (xq 2 [eS1 55 B q C] [] ?_)
 refine xqk 56 (atA B 0) (fun w R Q=>(by obtain⟨D,E,u,h2,F,G⟩:=lY (Q.2) (z:=(r:Int)) (by omega);exact xO (t:=30) (e:=102) (x:=.tmp 55) (ix:=.const (.int .i64 0)) (len:=q) (cap:=C) (i:=0) G (by have h5:q=D.length:=F;omega))) ?_
 refine xqk 57 (.int .u32 (((r)%W32:Nat):Int)) (fun w R Q=>(by obtain⟨D,E,u,h2,F,G⟩:=lY (Q.2) (z:=(r:Int)) (by omega);rw[uS] at h2;rw[←h2];exact xW (t:=102) (x:=.tmp 56) E (j:=0) u)) ?_
 refine xqk 58 (.int .u32 (((r)%W32%2:Nat):Int)) (fun w R Q=>jY (t:=102) (k:=102) (x:=.tmp 57) (y:=.const (.int .u32 1)) (by kernel_rfl) (by kernel_rfl) (by kernel_rfl) (by have:=uM (r) (show 0<W32 by rw[zP];decide);rw[zP] at this ⊢;exact this)) ?_
 refine xq 1 [(59,.v (.bool (((((r)%W32%2:Nat):Int):Int) == 1)))] [] ?_
 rw[(show ((((r)%W32%2:Nat):Int) == 1)=false from tG.2 (by rw[zP];omega))]
 refine xe (zA (xb (zK (zA (zC (zB (xq 2 [(86,.v (.pointer (some ⟨g,0,none⟩))),eI2 87 P B q C] [] ?_)))))))
 refine xqc 25 [vI2 P B q C,.int .i64 (-1)] 88 zZ _ (fun w R Q=>yM xC (cE (x:=r) Q.2 (by omega) (by omega))) fun⟨X1,Y1,Z1,a2⟩=>?_
 refine xq 1 [yJ 89 k] [] ?_
 refine xqc 135 [vI2 X1 Y1 Z1 a2,.int .i64 k] 90 (shF (k+((tzn (r/2^1):Nat):Int))) _ (fun w R Q=>(iO X1 Y1 Z1 a2 ((r/2^1:Nat):Int) k _ Q.2 (by omega) (sfit (mlc (show ml (r/2^1)≤2000 from uA (wK (uO _ _)) (by omega))) (by decide)) (by omega) (by omega)).mono (fun _ _ h=>eM (by rw[uS,show decide (((r/2^1:Nat):Int)<0)=false from uJ (by omega)] at h;exact h))) fun⟨b2,c2,d2,e2⟩=>?_
 obtain⟨e0,K0⟩:=yE (limR false (oddM (r/2^1)) ((k+((tzn (r/2^1):Nat):Int))))
 refine wQ 134 [.pointer (some ⟨g,0,none⟩), yV b2 c2 d2 e2 (k+((tzn (r/2^1):Nat):Int))] (d:=91) (shF e0.e) (fun _=>#[.int .i64 (bits:Int),.int .i64 e0.err]) (fun y w=>zI w (zZ y) (sg e0.s e0.m)) (fun _=>True) (fun w Q=>Q.1.1.1.1.1.1.1.1) (vK _) (Or.inr rfl) (fun w R Q=>yM jR (show Calls _ _ _ _ (RetC w g (bits:Int) e0) by rw[←K0];exact jS g bits b2 c2 d2 e2 false (oddM (r/2^1)) ((k+((tzn (r/2^1):Nat):Int))) _ Q.1.1.1.1.1.1.1.1 Q.2)) (fun _ _ _ _=>trivial) fun⟨m1,n1,o1,p1⟩=>?_
 refine xr 1 [(4,.p 4 0)] [yF 4 52 m1 n1 o1 p1 e0.e] ?_
 refine xe (zA (zF ?_))
 refine yR (yV m1 n1 o1 p1 e0.e) fun w' R Q=>?_
 rw[show sqR m e bits=fH m e bits from uN J,cF hk hs hY O (X:=r/2^1) (by rw[hr,Zcy (by rintro⟨u,h2|h2⟩;omega;omega)]) (by omega),K0]
 exact⟨(m1,n1,o1,p1),rfl,Q.2,R,Q.1.2⟩
end Go.Proofs.YtklpdkpcocnglaaGreatDoor
