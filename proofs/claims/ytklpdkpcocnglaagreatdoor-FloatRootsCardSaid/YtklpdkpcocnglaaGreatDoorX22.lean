/-
 My texts Nx, Ny, FlE, FllL, Rb23, Nz, FslL, Ne, Fvl, FlJ, Nc, FlK, FvmL, FlX, FlZ, Sh2, FcmL, Rn1, Rn2, Rn3, Tp, Nsq, FlY put together.
-/
import Derived.Test.YtklpdkpcocnglaaGreatDoorX17
import Derived.Test.YtklpdkpcocnglaaGreatDoorX18
import Derived.Test.YtklpdkpcocnglaaGreatDoorX19
import Derived.Test.YtklpdkpcocnglaaGreatDoorX21
import Derived.Test.YtklpdkpcocnglaaGreatDoorX16
import Derived.Laws.StructEq
import Derived.Deep.RegionHeld3
import Derived.Test.YtklpdkpcocnglaaGreatDoorX14
set_option maxRecDepth 100000
set_option maxHeartbeats 8000000
namespace Go.Proofs.YtklpdkpcocnglaaGreatDoor
open Go.RowKit
def ldR (l:List UInt8) (x:Int):FR:=if fvB l x=true then ⟨(zQ l).1,zH (zQ l).2,x,0⟩ else ⟨false,0,0,0⟩
def shLd (v:Bool) (r:FR) (x:ShN):Value:=.tuple #[yV r.s x.1 x.2.1 x.2.2 r.e,.bool v]
def lQ (w:World) (v:Bool) (r:FR) (e:Ending) (w':World):Prop:=∃ x:ShN,e=.returned (shLd v r x)∧zK w' (xH x) r.m∧Ext w w'
theorem wP {w w':World}{e:Ending}{v:Bool}{r:FR}(h:lQ w v r e w'):kM (shLd v r) (fun x w=>zK w (xH x) r.m) w e w':=by
 obtain⟨x,rfl,a,Q⟩:=h
 exact⟨x,rfl,Q,boxn Q (fun S b c d=>a.nrb c d)⟩
def frT (r:FR):List UInt8:=if r.err=0 then Lib.itoa (sg r.s r.m) else []
def frE (r:FR):Int:=if r.err=0 then r.e else 0
abbrev bJ (w:World) (r:FR):Ending→World→Prop:=RetV w (.tuple #[yS ⟨(frT r).toArray⟩ (frE r),.int .i64 r.err])
def Fine (r:FR):Prop:=(r.s=true→0<r.m)∧wl r.m≤1000000
theorem ZbT (k:Int):Fine ⟨false,0,0,k⟩:=⟨(fun h=>by cases h),(by show (0:Nat)≤1000000;decide)⟩
theorem Ziq {s:Bool}{n:Nat}{e:Int}(h:wl n≤1000000):Fine (wV s n e):=by
 unfold wV
 split
 ·exact ZbT 0
 rename_i a
 split
 ·obtain⟨b,c⟩:=kZ (show 0<n by omega)
  exact⟨fun _=>by show 0<oddM n;omega,uE (wR (uZ _ _)) h⟩
 exact ZbT 2
theorem Za3 {s:Bool}{n d bits:Nat}{e:Int}(a:0<d)(b:0<bits)(c:bits≤4096):Fine (wN s n d e bits):=by
 unfold wN
 split
 ·exact ZbT 0
 refine Ziq ?_
 have f:=Zd8 (n:=n) (d:=d) (bits:=bits) (by omega) a b
 have h:=(Zlz (fa n (rndK n d bits)) (fb d (rndK n d bits))).2
 have i:fa n (rndK n d bits)/fb d (rndK n d bits)<2^bits:=by
  have:=gL (fq n d (rndK n d bits))
  rw[f] at this
  exact this
 have g:rndM n d bits≤2^bits:=by unfold rndM;omega
 have j:wl (2^bits)≤1000:=ZcM (by omega)
 have:=wR g
 omega
theorem Zkb {sx c:Bool}{d ym bits:Nat}{xe e:Int}(b:0<bits)(a:bits≤4096):Fine (sumR sx d xe c ym e bits):=by
 unfold sumR
 split
 ·exact Za3 (by decide) b a
 split
 ·exact Za3 (by decide) b a
 exact Za3 (by decide) b a
theorem ZeS (n:Nat):(Lib.decDigits n).length≤20*wl n+1:=by
 rw[Lib.decDigits_length]
 refine Zcv (20*wl n) n ?_
 have b:=ZeG n
 have a:W64^wl n≤(10^20)^wl n:=sF (by rw[zO];decide) _
 rw[←sZ] at a
 have c:10^(20*wl n)≤10^(20*wl n+1):=uR (by decide) (by omega)
 omega
theorem kG {l:List UInt8}{x:Int}(h:fvB l x=true) : -1048576≤x∧x≤1048576∧(zQ l).2.all zU=true∧((zQ l).1=true→0<zH (zQ l).2):=by
 unfold fvB at h
 by_cases a:l=[48]
 ·rw[uL a] at h
  have:=uD h
  subst a
  exact⟨by omega,by omega,by decide,fun h=>by cases h⟩
 rw[uJ a] at h
 obtain⟨_,_,b,c,d⟩:=uD h
 exact⟨b.1,b.2,c,fun _=>by omega⟩
theorem Zbj (l:List UInt8):(zQ l).2.length≤l.length:=by
 unfold zQ;split
 ·simp
 exact uM _
theorem fZ {l:List UInt8}{x:Int}(c:l.length≤100000):wl (ldR l x).m≤100000:=by
 unfold ldR
 split
 ·rename_i h
  have a:=kG h
  have b:=lR _ a.2.2.1
  have d:=Zbj l
  exact ZbH b (by omega)
 show (0:Nat)≤100000;decide
theorem xY (s:ByteArray)(x:Int)(w:World)(l:(bytes s).length≤100000) :
 yA 64 #[yS s x] w (lQ w (fvB (bytes s) x) (ldR (bytes s) x)):=by
 refine zV (Φ:=fun w=>True) Tryz.func64 rfl (by kernel_rfl) (fun w' t=>trivial) ?_
 refine zC ?_
 by_cases a:fvB (bytes s) x=true
 ·refine zB (xq 3 [(1,.p 1 0),(2,.p 2 0),yB 3 false] [yF 2 79 false none 0 0 0,yG 1 24 s x] ?_)
  refine xe (zA (zC (zC (zB (xq 1 [(6,.v (yS s x))] [] ?_)))))
  refine xqc 19 [yS s x] 7 (fun _:Unit=>.bool true) _ (fun w R Q=>(fP s x _ (by omega)).mono (fun _ _ h=>zD h (by rw[a]))) fun m=>?_
  refine xq 1 [yB 8 false] [] ?_
  refine xe (zA (xb (zN (zA (zC (zC ?_))))))
  by_cases b:bytes s=[48]
  ·refine zB (xq 3 [yB 12 ((s:ByteArray).toList == (⟨#[48]⟩:ByteArray).toList)] [] ?_)
   rw[Zhw b]
   refine xe (zA (xa (zC (zB (xq 3 [yB 3 true] [] ?_)))))
   refine xe (zA (zG (zI ?_)))
   refine yR (.tuple #[yV false none 0 0 0,.bool true]) fun w' R Q=>?_
   have n:x=0:=by have h:=a;unfold fvB at h;rw[uL b] at h;exact uD h
   have j:ldR (bytes s) x=⟨false,0,0,0⟩:=by unfold ldR;rw[uL a,b,n];rfl
   rw[a,j]
   exact⟨(none,0,0),rfl,zK.zero _,R⟩
  refine zB (xq 3 [yB 12 ((s:ByteArray).toList == (⟨#[48]⟩:ByteArray).toList)] [] ?_)
  rw[Zhx b]
  refine xe (zA (xb (zN (zA (zC (zB (xq 2 [yT 16 s] [] ?_)))))))
  refine xqc 63 [.string s] 17 Zes _ (fun w R Q=>yM Zcl (Zcm s _)) fun⟨r,neg⟩=>?_
  refine xq 5 [yB 4 neg,yT 5 r] [] ?_
  refine xe (zA (zC ?_))
  refine SXc.know (p:=zQ (bytes s)=(neg,bytes r)) (fun w _ Q=>Q.2) fun k=>?_
  have i:=kG a
  rw[k] at i
  have f:(bytes r).all zU=true:=i.2.2.1
  have g:=Zbj (bytes s)
  rw[k] at g
  have o:r.size≤100000:=by rw[←zP];exact uE g l
  have q:wl (zH (bytes r))≤100000:=ZbH (lR _ f) (uE g l)
  refine yO 6 zL ?_
  refine xqg 2 [yB 20 neg,yT 21 r] ?_
  refine xqd 100 [.string r] 22 xH _ (fun w R Q=>yM xD (Zdw r _ (zH (bytes r)) f rfl (by omega) (by omega))) fun⟨c,d,e⟩=>?_
  refine xqg 3 [(25,.v (yV neg c d e x))] ?_
  refine xz (xq 2 [yB 3 true] [yF 2 79 neg c d e x] ?_)
  refine xe (zA (zG ?_))
  refine yR (.tuple #[yV neg c d e x,.bool true]) fun w' R Q=>?_
  rw[a,show ldR (bytes s) x=⟨neg,zH (bytes r),x,0⟩ by unfold ldR;rw[uL a,k]]
  exact⟨(c,d,e),rfl,Q.2,R⟩
 refine zB (xq 3 [(1,.p 1 0),(2,.p 2 0),yB 3 false] [yF 2 79 false none 0 0 0,yG 1 24 s x] ?_)
 refine xe (zA (zC (zC (zB (xq 1 [(6,.v (yS s x))] [] ?_)))))
 refine xqc 19 [yS s x] 7 (fun _:Unit=>.bool false) _ (fun w R Q=>(fP s x _ (by omega)).mono (fun _ _ h=>zD h (by rw[vK.2 a]))) fun m=>?_
 refine xq 1 [yB 8 true] [] ?_
 refine xe (zA (xa (zC (zB (xq 3 [yB 3 false] [] ?_)))))
 refine xe (zA (zG (zI ?_)))
 refine yR (.tuple #[yV false none 0 0 0,.bool false]) fun w' R Q=>?_
 rw[vK.2 a,show ldR (bytes s) x=⟨false,0,0,0⟩ from uJ a]
 exact⟨(none,0,0),rfl,zK.zero _,R⟩
theorem Zlg (s:Bool)(A:Option Addr)(l c m:Nat)(e:Int)(w:World)(g:Glob w)(i:zK w (.slice A l c) m)(n:wl m≤1000000)(j:s=true→0<m) :
 yA 97 #[yV s A l c e] w (RetV w (yS ⟨(Lib.itoa (sg s m)).toArray⟩ e)):=by
 refine zV (Φ:=fun w=>(Glob w∧zK w (.slice A l c) (m))) Tryz.func97 rfl (by kernel_rfl) (fun w' f=>⟨g.ext f,i.ext f⟩) ?_
 refine zC (zB (xq 2 [(1,.p 1 0),(2,.p 2 0)] [yG 2 24 ⟨#[]⟩ 0,yF 1 79 s A l c e] ?_))
 refine xe (zA (zC (zB (xq 2 [eS1 5 A l c] [] ?_))))
 refine xqc 67 [.slice A l c] 6 (fun _:Unit=>.string ⟨(Lib.decDigits m).toArray⟩) _ (fun w R Q=>yN (Zaf A l c m _ Q.1 Q.2 (by omega))) fun o=>?_
 refine xq 1 [yT 3 ⟨(Lib.decDigits m).toArray⟩] [] ?_
 refine xe (zA (zC (zC (zB (xq 2 [yB 8 s] [] ?_)))))
 refine xe (zA ?_)
 refine yQ (s) (fun b=>?_) fun b=>?_
 ·have d:=b
  refine zB (xq 1 [yT 9 ⟨(Lib.decDigits m).toArray⟩] [] ?_)
  refine yK 10 (.string ⟨(45 :: Lib.decDigits m).toArray⟩) (fun w R Q=>Zab (x:=(Operand.const (Value.string { data:=#[45] }))) (y:=.tmp 9) (t:=9) (k:=9) (by kernel_rfl) (by kernel_rfl) (by kernel_rfl) (by have q:=ZeS m;rw[←zP ⟨(Lib.decDigits m).toArray⟩,zJ];have:(⟨#[45]⟩:ByteArray).size=1:=rfl;omega) (ZcR [45] (Lib.decDigits m))) ?_
  refine xr 1 [(1,.p 1 0),(2,.p 2 0),yT 3 ⟨(45 :: Lib.decDigits m).toArray⟩] [yG 2 24 ⟨#[]⟩ 0,yF 1 79 s A l c e] ?_
  refine xe (zA (zC (zB (xq 5 [] [yG 2 24 ⟨(45 :: Lib.decDigits m).toArray⟩ e] ?_))))
  refine xe (zA (zG ?_))
  refine yR (yS ⟨(45 :: Lib.decDigits m).toArray⟩ e) fun w' R Q=>?_
  exact⟨by rw[d,Zax (neg:=true) (a:=m) (fun h=>by have:=j d;omega)];rfl,R⟩
 have d:=b
 refine zN (zA (zC (zB (xq 5 [] [yG 2 24 ⟨(Lib.decDigits m).toArray⟩ e] ?_))))
 refine xe (zA (zG ?_))
 refine yR (yS ⟨(Lib.decDigits m).toArray⟩ e) fun w' R Q=>?_
 exact⟨by rw[d,Zax (neg:=false) (a:=m) (fun _=>rfl)];rfl,R⟩
theorem bV (r:FR)(A:Option Addr)(l c:Nat)(w:World)(h:Glob w)(i:zK w (.slice A l c) r.m)(f:Fine r) :
 yA 56 #[yV r.s A l c r.e,.int .i64 r.err] w (bJ w r):=by
 refine zV (Φ:=fun w=>(Glob w∧zK w (.slice A l c) (r.m))) Tryz.func56 rfl (by kernel_rfl) (fun w' g=>⟨h.ext g,i.ext g⟩) ?_
 refine zC (zB (xq 3 [(2,.p 2 0),(4,.p 4 0),yJ 5 0] [yG 4 24 ⟨#[]⟩ 0,yF 2 79 r.s A l c r.e] ?_))
 refine xe (zA (zC (zC (zB (xq 2 [yB 7 ((r.err:Int) != 0)] [] ?_)))))
 refine xe (zA ?_)
 refine yQ (((r.err:Int) != 0)) (fun a=>?_) fun a=>?_
 ·have b:=ZaX a
  refine zC (zB (xq 4 [yJ 5 r.err] [] ?_))
  refine xe (zA (zG (zI ?_)))
  refine yR (.tuple #[yS ⟨#[]⟩ 0,.int .i64 r.err]) fun w' R Q=>?_
  exact⟨by rw[show frT r=[] from uJ (by omega),show frE r=0 from uJ (by omega)],R⟩
 have b:=ZaY a
 refine zN (zA (zC (zB (xq 1 [(10,.v (yV r.s A l c r.e))] [] ?_))))
 refine xqc 97 [yV r.s A l c r.e] 11 (fun _:Unit=>.agg #[.string ⟨(Lib.itoa (sg r.s r.m)).toArray⟩,.int .i64 r.e]) _ (fun w R Q=>yN (Zlg r.s A l c r.m r.e _ Q.1 Q.2 f.2 f.1)) fun j=>?_
 refine xq 2 [yJ 5 0] [yG 4 24 ⟨(Lib.itoa (sg r.s r.m)).toArray⟩ r.e] ?_
 refine xe (zA (zG ?_))
 refine yR (.tuple #[yS ⟨(Lib.itoa (sg r.s r.m)).toArray⟩ r.e,.int .i64 0]) fun w' R Q=>?_
 have d:r.err=0:=by omega
 exact⟨by rw[show frT r=Lib.itoa (sg r.s r.m) from uL d,show frE r=r.e from uL d,d],R⟩
theorem Zet (s:ByteArray)(x:Int)(w:World)(n:(bytes s).length≤100000) :
 yA 20 #[yS s x] w (RetV w (.int .i64 ((blen (ldR (bytes s) x).m:Nat):Int))):=by
 refine zV (Φ:=fun w=>True) Tryz.func20 rfl (by kernel_rfl) (fun w' y=>trivial) ?_
 refine zC (zB (xq 2 [(1,.p 1 0),yJ 2 0] [yG 1 24 s x] ?_))
 refine xe (zA (zC (zB (xq 1 [(6,.v (yS s x))] [] ?_))))
 by_cases l:fvB (bytes s) x=true
 ·obtain⟨a,b⟩:=yE (ldR (bytes s) x)
  have o:=kG l
  have q:wl a.m≤100000:=by rw[←b];exact fZ n
  have r:a.e=x:=by rw[←b,show ldR (bytes s) x=_ from uL l]
  have t:a.s=true→0<a.m:=by rw[←b,show ldR (bytes s) x=_ from uL l];exact o.2.2.2
  refine xqc 64 [yS s x] 7 (shLd true a) _ (fun w R Q=>yM wP ((show Calls _ _ _ _ (lQ w true a) by rw[←b,← l];exact xY s x _ n))) fun⟨f,g,h⟩=>?_
  refine xq 6 [(3,.p 3 0)] [yF 3 79 a.s f g h a.e] ?_
  refine xe (zA (zC (zB (xq 2 [eS1 11 f g h] [] ?_))))
  refine xqc 65 [.slice f g h] 12 (fun _:Unit=>.int .i64 ((blen a.m:Nat):Int)) _ (fun w R Q=>yN (kD Q.2 (by omega))) fun u=>?_
  refine xq 1 [yJ 2 ((blen a.m:Nat):Int)] [] ?_
  refine xe (zA (zG ?_))
  refine yR (.int .i64 ((blen a.m:Nat):Int)) fun w' R Q=>?_
  exact⟨by rw[b],R⟩
 obtain⟨c,d⟩:=yE (ldR (bytes s) x)
 refine xqc 64 [yS s x] 7 (shLd false c) _ (fun w R Q=>yM wP ((show Calls _ _ _ _ (lQ w false c) by rw[←d,← vK.2 l];exact xY s x _ n))) fun⟨i,j,k⟩=>?_
 refine xq 6 [(3,.p 3 0)] [yF 3 79 c.s i j k c.e] ?_
 refine xe (zA (zC (zB (xq 2 [eS1 11 i j k] [] ?_))))
 refine xqc 65 [.slice i j k] 12 (fun _:Unit=>.int .i64 ((blen c.m:Nat):Int)) _ (fun w R Q=>yN (kD Q.2 (by rw[←d,show ldR (bytes s) x=_ from uJ l];decide))) fun u=>?_
 refine xq 1 [yJ 2 ((blen c.m:Nat):Int)] [] ?_
 refine xe (zA (zG ?_))
 refine yR (.int .i64 ((blen c.m:Nat):Int)) fun w' R Q=>?_
 exact⟨by rw[d],R⟩
def binR (op:FR→FR→Nat→FR) (l l':List UInt8) (x y b:Int):FR:=if fvB l x=true∧fvB l' y=true then (if 8≤b∧b≤1024 then op (ldR l x) (ldR l' y) b.toNat else ⟨false,0,0,3⟩) else ⟨false,0,0,1⟩
def fQ (a b:FR) (bits:Nat):FR:=sumR a.s a.m a.e b.s b.m b.e bits
def gZ (a b:FR) (bits:Nat):FR:=wN (a.s != b.s) (a.m*b.m) 1 (a.e+b.e) bits
theorem ZiK (s t:ByteArray)(x y b:Int)(w:World)(hg:Glob w)(T:(bytes s).length≤100000)(l:(bytes t).length≤100000) :
 yA 81 #[yS s x, yS t y,.int .i64 b,.func (.func 84) #[] #[]] w (bJ w (binR fQ (bytes s) (bytes t) x y b)):=by
 refine zV (Φ:=fun w=>Glob w) Tryz.func81 rfl (by kernel_rfl) (fun w' hf=>hg.ext hf) ?_
 refine zC (zB (xq 4 [(4,.p 4 0),(5,.p 5 0),(8,.p 8 0),yJ 9 0] [yG 8 24 ⟨#[]⟩ 0,yG 5 24 t y,yG 4 24 s x] ?_))
 refine xe (zA (zC (zB (xq 1 [(15,.v (yS s x))] [] ?_))))
 by_cases r:fvB (bytes s) x=true
 ·obtain⟨d,g⟩:=yE (ldR (bytes s) x)
  have U:=kG r
  have h0:wl d.m≤100000:=by rw[←g];exact fZ T
  have i0:d.e=x:=by rw[←g,show ldR (bytes s) x=_ from uL r]
  have j0:d.s=true→0<d.m:=by rw[←g,show ldR (bytes s) x=_ from uL r];exact U.2.2.2
  refine xqc 64 [yS s x] 16 (shLd true d) _ (fun w R Q=>yM wP ((show Calls _ _ _ _ (lQ w true d) by rw[←g,← r];exact xY s x _ T))) fun⟨B,C,D⟩=>?_
  refine xq 6 [(10,.p 10 0),yB 11 true] [yF 10 79 d.s B C D d.e] ?_
  refine xe (zA (zC (zB (xq 1 [(20,.v (yS t y))] [] ?_))))
  by_cases c:fvB (bytes t) y=true
  ·obtain⟨f,i⟩:=yE (ldR (bytes t) y)
   have o:=kG c
   have K:wl f.m≤100000:=by rw[←i];exact fZ l
   have L:f.e=y:=by rw[←i,show ldR (bytes t) y=_ from uL c]
   have M:f.s=true→0<f.m:=by rw[←i,show ldR (bytes t) y=_ from uL c];exact o.2.2.2
   refine xqc 64 [yS t y] 21 (shLd true f) _ (fun w R Q=>yM wP ((show Calls _ _ _ _ (lQ w true f) by rw[←i,← c];exact xY t y _ l))) fun⟨E,F,G⟩=>?_
   refine xq 6 [(12,.p 12 0),yB 13 true] [yF 12 79 f.s E F G f.e] ?_
   refine xe (zA (zC (zC (zB (xq 6 [yB 29 false] [] ?_)))))
   refine xe (zA (xb (zN (zA (zC (zC ?_))))))
   by_cases S:8≤b∧b≤1024
   ·obtain⟨n,hn⟩:∃ n:Nat,b=n:=⟨b.toNat,by omega⟩
    subst hn
    refine zB (xq 1 [yJ 31 (n:Int)] [] ?_)
    refine xqc 55 [.int .i64 (n:Int)] 32 (fun _:Unit=>.bool true) _ (fun w R Q=>(jN _ _).mono (fun _ _ h=>zD h (by rw[uW S]))) fun xx=>?_
    refine xq 1 [yB 33 false] [] ?_
    refine xe (zA (xb (zN (zA (zC (zB (xq 4 [(35,.v (.func (.func 84) #[] #[])),(36,.v (yV d.s B C D d.e)),(37,.v (yV f.s E F G f.e)),yJ 38 (n:Int)] [] ?_)))))))
    obtain⟨a,q⟩:=yE (fQ d f n)
    refine xqc 84 [yV d.s B C D d.e, yV f.s E F G f.e,.int .i64 (n:Int)] 39 (shNb a) _ (fun w R Q=>yM xX ((show Calls _ _ _ _ (wA w a) by rw[←q];exact Zem _ _ _ _ _ _ _ _ _ _ _ _ n (by omega) (by omega) _ Q.1.1.1 Q.1.1.2 (by omega) (by omega) (by omega) Q.1.2 (by omega) (by omega) (by omega)))) fun⟨H,I,J⟩=>?_
    refine xq 2 [(40,.v (yV a.s H I J a.e)),yJ 41 a.err] [] ?_
    refine xqc 56 [yV a.s H I J a.e,.int .i64 a.err] 42 (fun _:Unit=>.tuple #[yS ⟨(frT a).toArray⟩ (frE a),.int .i64 a.err]) _ (fun w R Q=>yN (bV a H I J _ Q.1.1.1.1 Q.2 (by rw[←q];exact Zkb (by omega) (by omega)))) fun xx=>?_
    refine xq 4 [yJ 9 a.err] [yG 8 24 ⟨(frT a).toArray⟩ (frE a)] ?_
    refine xe (zA (zG ?_))
    refine yR (.tuple #[yS ⟨(frT a).toArray⟩ (frE a),.int .i64 a.err]) fun w' R Q=>?_
    rw[show binR fQ (bytes s) (bytes t) x y (n:Int)=fQ (ldR (bytes s) x) (ldR (bytes t) y) n by unfold binR;rw[uL ⟨r,c⟩,uL S];rfl,g,i,q]
    exact⟨rfl,R⟩
   refine zB (xq 1 [yJ 31 b] [] ?_)
   refine xqc 55 [.int .i64 b] 32 (fun _:Unit=>.bool false) _ (fun w R Q=>(jN _ _).mono (fun _ _ h=>zD h (by rw[vF S]))) fun xx=>?_
   refine xq 1 [yB 33 true] [] ?_
   refine xe (zA (xa (zC (zB (xq 3 [yJ 9 3] [] ?_)))))
   refine xe (zA (zG (zI ?_)))
   refine yR (.tuple #[yS ⟨#[]⟩ 0,.int .i64 3]) fun w' R Q=>?_
   rw[show binR fQ (bytes s) (bytes t) x y b=⟨false,0,0,3⟩ by unfold binR;rw[uL ⟨r,c⟩,uJ S]]
   exact⟨rfl,R⟩
  obtain⟨u,N⟩:=yE (ldR (bytes t) y)
  refine xqc 64 [yS t y] 21 (shLd false u) _ (fun w R Q=>yM wP ((show Calls _ _ _ _ (lQ w false u) by rw[←N,← vK.2 c];exact xY t y _ l))) fun⟨V,W,X⟩=>?_
  refine xq 6 [(12,.p 12 0),yB 13 false] [yF 12 79 u.s V W X u.e] ?_
  refine xe (zA (zC (zC (zB (xq 6 [yB 29 true] [] ?_)))))
  refine xe (zA (xa (zC (zB (xq 3 [yJ 9 1] [] ?_)))))
  refine xe (zA (zG (zI ?_)))
  refine yR (.tuple #[yS ⟨#[]⟩ 0,.int .i64 1]) fun w' R Q=>?_
  rw[show binR fQ (bytes s) (bytes t) x y b=⟨false,0,0,1⟩ from uJ (fun h=>c h.2)]
  exact⟨rfl,R⟩
 obtain⟨z,O⟩:=yE (ldR (bytes s) x)
 refine xqc 64 [yS s x] 16 (shLd false z) _ (fun w R Q=>yM wP ((show Calls _ _ _ _ (lQ w false z) by rw[←O,← vK.2 r];exact xY s x _ T))) fun⟨Y,Z,a0⟩=>?_
 refine xq 6 [(10,.p 10 0),yB 11 false] [yF 10 79 z.s Y Z a0 z.e] ?_
 refine xe (zA (zC (zB (xq 1 [(20,.v (yS t y))] [] ?_))))
 by_cases c:fvB (bytes t) y=true
 ·obtain⟨j,k⟩:=yE (ldR (bytes t) y)
  have o:=kG c
  have K:wl j.m≤100000:=by rw[←k];exact fZ l
  have L:j.e=y:=by rw[←k,show ldR (bytes t) y=_ from uL c]
  have M:j.s=true→0<j.m:=by rw[←k,show ldR (bytes t) y=_ from uL c];exact o.2.2.2
  refine xqc 64 [yS t y] 21 (shLd true j) _ (fun w R Q=>yM wP ((show Calls _ _ _ _ (lQ w true j) by rw[←k,← c];exact xY t y _ l))) fun⟨b0,c0,d0⟩=>?_
  refine xq 6 [(12,.p 12 0),yB 13 true] [yF 12 79 j.s b0 c0 d0 j.e] ?_
  refine xe (zA (zC (zC (zB (xq 6 [yB 29 true] [] ?_)))))
  refine xe (zA (xa (zC (zB (xq 3 [yJ 9 1] [] ?_)))))
  refine xe (zA (zG (zI ?_)))
  refine yR (.tuple #[yS ⟨#[]⟩ 0,.int .i64 1]) fun w' R Q=>?_
  rw[show binR fQ (bytes s) (bytes t) x y b=⟨false,0,0,1⟩ from uJ (fun h=>r h.1)]
  exact⟨rfl,R⟩
 obtain⟨A,P⟩:=yE (ldR (bytes t) y)
 refine xqc 64 [yS t y] 21 (shLd false A) _ (fun w R Q=>yM wP ((show Calls _ _ _ _ (lQ w false A) by rw[←P,← vK.2 c];exact xY t y _ l))) fun⟨e0,f0,g0⟩=>?_
 refine xq 6 [(12,.p 12 0),yB 13 false] [yF 12 79 A.s e0 f0 g0 A.e] ?_
 refine xe (zA (zC (zC (zB (xq 6 [yB 29 true] [] ?_)))))
 refine xe (zA (xa (zC (zB (xq 3 [yJ 9 1] [] ?_)))))
 refine xe (zA (zG (zI ?_)))
 refine yR (.tuple #[yS ⟨#[]⟩ 0,.int .i64 1]) fun w' R Q=>?_
 rw[show binR fQ (bytes s) (bytes t) x y b=⟨false,0,0,1⟩ from uJ (fun h=>r h.1)]
 exact⟨rfl,R⟩
theorem ZbU (s t:ByteArray)(x y b:Int)(w:World)(d:Glob w)(e:(bytes s).length≤100000)(a:(bytes t).length≤100000) :
 yA 46 #[yS s x, yS t y,.int .i64 b] w (bJ w (binR fQ (bytes s) (bytes t) x y b)):=by
 obtain⟨r,c⟩:=yE (binR fQ (bytes s) (bytes t) x y b)
 rw[c]
 refine zV (Φ:=fun w=>Glob w) Tryz.func46 rfl (by kernel_rfl) (fun w' f=>d.ext f) ?_
 refine zC (zB (xq 4 [(3,.p 3 0),(4,.p 4 0),(6,.p 6 0),yJ 7 0] [yG 6 24 ⟨#[]⟩ 0,yG 4 24 t y,yG 3 24 s x] ?_))
 refine xe (zA (zC (zB (xq 3 [(8,.v (yS s x)),(9,.v (yS t y)),yJ 10 b] [] ?_))))
 refine xqc 81 [yS s x, yS t y,.int .i64 b,.func (.func 84) #[] #[]] 11 (fun _:Unit=>.tuple #[yS ⟨(frT r).toArray⟩ (frE r),.int .i64 r.err]) _ (fun w R Q=>yN ((show Calls _ _ _ _ (bJ w r) by rw[←c];exact ZiK s t x y b _ Q e a))) fun g=>?_
 refine xq 4 [yJ 7 r.err] [yG 6 24 ⟨(frT r).toArray⟩ (frE r)] ?_
 refine xe (zA (zG ?_))
 refine yR (.tuple #[yS ⟨(frT r).toArray⟩ (frE r),.int .i64 r.err]) fun w' R Q=>?_
 exact⟨rfl,R⟩
theorem ZiL (s t:ByteArray)(x y b:Int)(w:World)(hg:Glob w)(T:(bytes s).length≤100000)(l:(bytes t).length≤100000) :
 yA 81 #[yS s x, yS t y,.int .i64 b,.func (.func 82) #[] #[]] w (bJ w (binR gZ (bytes s) (bytes t) x y b)):=by
 refine zV (Φ:=fun w=>Glob w) Tryz.func81 rfl (by kernel_rfl) (fun w' hf=>hg.ext hf) ?_
 refine zC (zB (xq 4 [(4,.p 4 0),(5,.p 5 0),(8,.p 8 0),yJ 9 0] [yG 8 24 ⟨#[]⟩ 0,yG 5 24 t y,yG 4 24 s x] ?_))
 refine xe (zA (zC (zB (xq 1 [(15,.v (yS s x))] [] ?_))))
 by_cases r:fvB (bytes s) x=true
 ·obtain⟨d,g⟩:=yE (ldR (bytes s) x)
  have U:=kG r
  have h0:wl d.m≤100000:=by rw[←g];exact fZ T
  have i0:d.e=x:=by rw[←g,show ldR (bytes s) x=_ from uL r]
  have j0:d.s=true→0<d.m:=by rw[←g,show ldR (bytes s) x=_ from uL r];exact U.2.2.2
  refine xqc 64 [yS s x] 16 (shLd true d) _ (fun w R Q=>yM wP ((show Calls _ _ _ _ (lQ w true d) by rw[←g,← r];exact xY s x _ T))) fun⟨B,C,D⟩=>?_
  refine xq 6 [(10,.p 10 0),yB 11 true] [yF 10 79 d.s B C D d.e] ?_
  refine xe (zA (zC (zB (xq 1 [(20,.v (yS t y))] [] ?_))))
  by_cases c:fvB (bytes t) y=true
  ·obtain⟨f,i⟩:=yE (ldR (bytes t) y)
   have o:=kG c
   have K:wl f.m≤100000:=by rw[←i];exact fZ l
   have L:f.e=y:=by rw[←i,show ldR (bytes t) y=_ from uL c]
   have M:f.s=true→0<f.m:=by rw[←i,show ldR (bytes t) y=_ from uL c];exact o.2.2.2
   refine xqc 64 [yS t y] 21 (shLd true f) _ (fun w R Q=>yM wP ((show Calls _ _ _ _ (lQ w true f) by rw[←i,← c];exact xY t y _ l))) fun⟨E,F,G⟩=>?_
   refine xq 6 [(12,.p 12 0),yB 13 true] [yF 12 79 f.s E F G f.e] ?_
   refine xe (zA (zC (zC (zB (xq 6 [yB 29 false] [] ?_)))))
   refine xe (zA (xb (zN (zA (zC (zC ?_))))))
   by_cases S:8≤b∧b≤1024
   ·obtain⟨n,hn⟩:∃ n:Nat,b=n:=⟨b.toNat,by omega⟩
    subst hn
    refine zB (xq 1 [yJ 31 (n:Int)] [] ?_)
    refine xqc 55 [.int .i64 (n:Int)] 32 (fun _:Unit=>.bool true) _ (fun w R Q=>(jN _ _).mono (fun _ _ h=>zD h (by rw[uW S]))) fun xx=>?_
    refine xq 1 [yB 33 false] [] ?_
    refine xe (zA (xb (zN (zA (zC (zB (xq 4 [(35,.v (.func (.func 82) #[] #[])),(36,.v (yV d.s B C D d.e)),(37,.v (yV f.s E F G f.e)),yJ 38 (n:Int)] [] ?_)))))))
    obtain⟨a,q⟩:=yE (gZ d f n)
    refine xqc 82 [yV d.s B C D d.e, yV f.s E F G f.e,.int .i64 (n:Int)] 39 (shNb a) _ (fun w R Q=>yM xX ((show Calls _ _ _ _ (wA w a) by rw[←q];exact Zn1 _ _ _ _ _ _ _ _ _ _ _ _ n (by omega) (by omega) _ Q.1.1.1 Q.1.1.2 (by omega) (by omega) (by omega) Q.1.2 (by omega) (by omega) (by omega)))) fun⟨H,I,J⟩=>?_
    refine xq 2 [(40,.v (yV a.s H I J a.e)),yJ 41 a.err] [] ?_
    refine xqc 56 [yV a.s H I J a.e,.int .i64 a.err] 42 (fun _:Unit=>.tuple #[yS ⟨(frT a).toArray⟩ (frE a),.int .i64 a.err]) _ (fun w R Q=>yN (bV a H I J _ Q.1.1.1.1 Q.2 (by rw[←q];exact Za3 (by decide) (by omega) (by omega)))) fun xx=>?_
    refine xq 4 [yJ 9 a.err] [yG 8 24 ⟨(frT a).toArray⟩ (frE a)] ?_
    refine xe (zA (zG ?_))
    refine yR (.tuple #[yS ⟨(frT a).toArray⟩ (frE a),.int .i64 a.err]) fun w' R Q=>?_
    rw[show binR gZ (bytes s) (bytes t) x y (n:Int)=gZ (ldR (bytes s) x) (ldR (bytes t) y) n by unfold binR;rw[uL ⟨r,c⟩,uL S];rfl,g,i,q]
    exact⟨rfl,R⟩
   refine zB (xq 1 [yJ 31 b] [] ?_)
   refine xqc 55 [.int .i64 b] 32 (fun _:Unit=>.bool false) _ (fun w R Q=>(jN _ _).mono (fun _ _ h=>zD h (by rw[vF S]))) fun xx=>?_
   refine xq 1 [yB 33 true] [] ?_
   refine xe (zA (xa (zC (zB (xq 3 [yJ 9 3] [] ?_)))))
   refine xe (zA (zG (zI ?_)))
   refine yR (.tuple #[yS ⟨#[]⟩ 0,.int .i64 3]) fun w' R Q=>?_
   rw[show binR gZ (bytes s) (bytes t) x y b=⟨false,0,0,3⟩ by unfold binR;rw[uL ⟨r,c⟩,uJ S]]
   exact⟨rfl,R⟩
  obtain⟨u,N⟩:=yE (ldR (bytes t) y)
  refine xqc 64 [yS t y] 21 (shLd false u) _ (fun w R Q=>yM wP ((show Calls _ _ _ _ (lQ w false u) by rw[←N,← vK.2 c];exact xY t y _ l))) fun⟨V,W,X⟩=>?_
  refine xq 6 [(12,.p 12 0),yB 13 false] [yF 12 79 u.s V W X u.e] ?_
  refine xe (zA (zC (zC (zB (xq 6 [yB 29 true] [] ?_)))))
  refine xe (zA (xa (zC (zB (xq 3 [yJ 9 1] [] ?_)))))
  refine xe (zA (zG (zI ?_)))
  refine yR (.tuple #[yS ⟨#[]⟩ 0,.int .i64 1]) fun w' R Q=>?_
  rw[show binR gZ (bytes s) (bytes t) x y b=⟨false,0,0,1⟩ from uJ (fun h=>c h.2)]
  exact⟨rfl,R⟩
 obtain⟨z,O⟩:=yE (ldR (bytes s) x)
 refine xqc 64 [yS s x] 16 (shLd false z) _ (fun w R Q=>yM wP ((show Calls _ _ _ _ (lQ w false z) by rw[←O,← vK.2 r];exact xY s x _ T))) fun⟨Y,Z,a0⟩=>?_
 refine xq 6 [(10,.p 10 0),yB 11 false] [yF 10 79 z.s Y Z a0 z.e] ?_
 refine xe (zA (zC (zB (xq 1 [(20,.v (yS t y))] [] ?_))))
 by_cases c:fvB (bytes t) y=true
 ·obtain⟨j,k⟩:=yE (ldR (bytes t) y)
  have o:=kG c
  have K:wl j.m≤100000:=by rw[←k];exact fZ l
  have L:j.e=y:=by rw[←k,show ldR (bytes t) y=_ from uL c]
  have M:j.s=true→0<j.m:=by rw[←k,show ldR (bytes t) y=_ from uL c];exact o.2.2.2
  refine xqc 64 [yS t y] 21 (shLd true j) _ (fun w R Q=>yM wP ((show Calls _ _ _ _ (lQ w true j) by rw[←k,← c];exact xY t y _ l))) fun⟨b0,c0,d0⟩=>?_
  refine xq 6 [(12,.p 12 0),yB 13 true] [yF 12 79 j.s b0 c0 d0 j.e] ?_
  refine xe (zA (zC (zC (zB (xq 6 [yB 29 true] [] ?_)))))
  refine xe (zA (xa (zC (zB (xq 3 [yJ 9 1] [] ?_)))))
  refine xe (zA (zG (zI ?_)))
  refine yR (.tuple #[yS ⟨#[]⟩ 0,.int .i64 1]) fun w' R Q=>?_
  rw[show binR gZ (bytes s) (bytes t) x y b=⟨false,0,0,1⟩ from uJ (fun h=>r h.1)]
  exact⟨rfl,R⟩
 obtain⟨A,P⟩:=yE (ldR (bytes t) y)
 refine xqc 64 [yS t y] 21 (shLd false A) _ (fun w R Q=>yM wP ((show Calls _ _ _ _ (lQ w false A) by rw[←P,← vK.2 c];exact xY t y _ l))) fun⟨e0,f0,g0⟩=>?_
 refine xq 6 [(12,.p 12 0),yB 13 false] [yF 12 79 A.s e0 f0 g0 A.e] ?_
 refine xe (zA (zC (zC (zB (xq 6 [yB 29 true] [] ?_)))))
 refine xe (zA (xa (zC (zB (xq 3 [yJ 9 1] [] ?_)))))
 refine xe (zA (zG (zI ?_)))
 refine yR (.tuple #[yS ⟨#[]⟩ 0,.int .i64 1]) fun w' R Q=>?_
 rw[show binR gZ (bytes s) (bytes t) x y b=⟨false,0,0,1⟩ from uJ (fun h=>r h.1)]
 exact⟨rfl,R⟩
theorem Zaz (s t:ByteArray)(x y b:Int)(w:World)(d:Glob w)(e:(bytes s).length≤100000)(a:(bytes t).length≤100000) :
 yA 44 #[yS s x, yS t y,.int .i64 b] w (bJ w (binR gZ (bytes s) (bytes t) x y b)):=by
 obtain⟨r,c⟩:=yE (binR gZ (bytes s) (bytes t) x y b)
 rw[c]
 refine zV (Φ:=fun w=>Glob w) Tryz.func44 rfl (by kernel_rfl) (fun w' f=>d.ext f) ?_
 refine zC (zB (xq 4 [(3,.p 3 0),(4,.p 4 0),(6,.p 6 0),yJ 7 0] [yG 6 24 ⟨#[]⟩ 0,yG 4 24 t y,yG 3 24 s x] ?_))
 refine xe (zA (zC (zB (xq 3 [(8,.v (yS s x)),(9,.v (yS t y)),yJ 10 b] [] ?_))))
 refine xqc 81 [yS s x, yS t y,.int .i64 b,.func (.func 82) #[] #[]] 11 (fun _:Unit=>.tuple #[yS ⟨(frT r).toArray⟩ (frE r),.int .i64 r.err]) _ (fun w R Q=>yN ((show Calls _ _ _ _ (bJ w r) by rw[←c];exact ZiL s t x y b _ Q e a))) fun g=>?_
 refine xq 4 [yJ 7 r.err] [yG 6 24 ⟨(frT r).toArray⟩ (frE r)] ?_
 refine xe (zA (zG ?_))
 refine yR (.tuple #[yS ⟨(frT r).toArray⟩ (frE r),.int .i64 r.err]) fun w' R Q=>?_
 exact⟨rfl,R⟩
theorem Zom {l:List UInt8}{v:Rat}(h:xS l=some v):(Lib.itoa v.num).length≤l.length∧(Lib.itoa (v.den:Int)).length≤l.length+1:=by
 have a:=gV h
 rw[←a]
 unfold xA
 split
 ·rename_i b
  rw[b]
  refine⟨uM _,?_⟩
  have:(Lib.itoa ((1:Nat):Int)).length=1:=by rw[jR,dN (by omega)];rfl
  omega
 simp only[vH,sQ]
 omega
theorem Zm1 {n k:Nat}(h:(Lib.decDigits n).length≤k):wl n≤k:=by
 have a:=lR (Lib.decDigits n) (jK n)
 rw[jL] at a
 exact ZbH a h
theorem ZqY (z:Int):(Lib.decDigits z.natAbs).length≤(Lib.itoa z).length:=by
 have h:=Zbj (Lib.itoa z)
 rw[jC] at h
 exact h
noncomputable def rndF (v:Rat) (n:Nat):FR:=wN (decide (v.num<0)) v.num.natAbs v.den 0 n
noncomputable def kJ (l:List UInt8) (b:Int):FR:=if (xS l).isSome=true then (if 8≤b∧b≤1024 then rndF (valF l) b.toNat else ⟨false,0,0,3⟩) else ⟨false,0,0,1⟩
theorem Zkc (s:ByteArray)(v:Rat)(n:Nat)(w:World)(y:Glob w)(z:(bytes s).length≤570)(u:xS (bytes s)=some v)(A:8≤n)(B:n≤1024) :
 yA 57 #[.string s,.int .i64 ((n:Nat):Int)] w (wA w (rndF v n)):=by
 have C:valF (bytes s)=v:=cU u
 have D:=Zom u
 refine zV (Φ:=fun w=>Glob w) Tryz.func57 rfl (by kernel_rfl) (fun w' E=>y.ext E) ?_
 refine zC (zB (xq 2 [(4,.p 4 0),yJ 5 0] [yF 4 79 false none 0 0 0] ?_))
 refine xe (zA (zC (zB (xq 1 [yT 11 s] [] ?_))))
 refine xqc 98 [.string s] 12 (fun _:Unit=>.tuple #[.string ⟨(Lib.itoa v.num).toArray⟩,.string ⟨(Lib.itoa (v.den:Int)).toArray⟩]) _ (fun w R Q=>yN ((show Calls _ _ _ _ (RetV w (.tuple #[.string ⟨(Lib.itoa v.num).toArray⟩,.string ⟨(Lib.itoa (v.den:Int)).toArray⟩])) by rw[←C];exact ZmZ s _ Q z))) fun J=>?_
 refine xq 5 [yT 6 ⟨(Lib.itoa v.num).toArray⟩,yT 7 ⟨(Lib.itoa (v.den:Int)).toArray⟩] [] ?_
 refine xe (zA (zC (zB (xq 1 [yT 16 ⟨(Lib.itoa v.num).toArray⟩] [] ?_))))
 refine xqc 63 [.string ⟨(Lib.itoa v.num).toArray⟩] 17 Zes _ (fun w R Q=>yM Zcl (Zcm ⟨(Lib.itoa v.num).toArray⟩ _)) fun⟨r,neg⟩=>?_
 refine xq 5 [yB 8 neg,yT 9 r] [] ?_
 refine xe (zA (zC ?_))
 refine SXc.know (p:=zQ (bytes ⟨(Lib.itoa v.num).toArray⟩)=(neg,bytes r)) (fun w _ Q=>Q.2) fun x=>?_
 rw[zJ,jC] at x
 injection x with hneg hr
 have i:(bytes r).length≤570:=by rw[←hr];have:=ZqY v.num;omega
 have F:r.size≤570:=by rw[←zP];exact i
 have b:(bytes r).all zU=true:=by rw[←hr];exact jK _
 have c:zH (bytes r)=v.num.natAbs:=by rw[←hr];exact jL _
 have G:wl v.num.natAbs≤1000:=by rw[←c];exact ZbH (lR _ b) (by omega)
 have H:wl v.den≤1000:=Zm1 (by have:=D.2;rw[jR] at this;omega)
 have j:(bytes ⟨(Lib.itoa (v.den:Int)).toArray⟩).length≤571:=by rw[zJ];omega
 have I:(⟨(Lib.itoa (v.den:Int)).toArray⟩:ByteArray).size≤571:=by rw[←zP];exact j
 refine zB (xq 2 [yB 20 neg,yT 21 r] [] ?_)
 refine xqc 100 [.string r] 22 xH _ (fun w R Q=>yM xD (Zdw r _ v.num.natAbs b c (by omega) (by omega))) fun⟨k,l,m⟩=>?_
 refine xq 1 [yT 23 ⟨(Lib.itoa (v.den:Int)).toArray⟩] [] ?_
 refine xqc 100 [.string ⟨(Lib.itoa (v.den:Int)).toArray⟩] 24 xH _ (fun w R Q=>yM xD (Zdw _ _ v.den (by rw[zJ,jR];exact jK _) (by rw[zJ,jR];exact jL _) (by omega) (by omega))) fun⟨o,q,t⟩=>?_
 refine xq 1 [yJ 25 (n:Int)] [] ?_
 obtain⟨a,d⟩:=yE (wN neg v.num.natAbs v.den 0 n)
 refine xqc 99 [.bool neg,.slice k l m,.slice o q t,.int .i64 0,.int .i64 (n:Int)] 26 (shNb a) _ (fun w R Q=>yM xX ((show Calls _ _ _ _ (wA w a) by rw[←d];exact ZjS neg _ _ _ _ _ _ _ _ 0 n _ Q.1.1.1.1 Q.1.2 Q.2 (by omega) (by omega) v.den_pos (by omega) (by omega) (by omega) (by omega)))) fun⟨f,g,h⟩=>?_
 refine xq 4 [yJ 5 a.err] [yF 4 79 a.s f g h a.e] ?_
 refine xe (zA (zG ?_))
 refine yR (.tuple #[yV a.s f g h a.e,.int .i64 a.err]) fun w' R Q=>?_
 rw[show rndF v n=wN neg v.num.natAbs v.den 0 n by unfold rndF;rw[hneg],d]
 exact⟨(f,g,h),rfl,Q.2,R⟩
theorem dA (s:ByteArray)(b:Int)(w:World)(o:Glob w)(m:(bytes s).length≤570) :
 yA 15 #[.string s,.int .i64 b] w (bJ w (kJ (bytes s) b)):=by
 refine zV (Φ:=fun w=>Glob w) Tryz.func15 rfl (by kernel_rfl) (fun w' q=>o.ext q) ?_
 refine zC (zB (xq 2 [(4,.p 4 0),yJ 5 0] [yG 4 24 ⟨#[]⟩ 0] ?_))
 refine xe (zA (zC (zC ?_)))
 by_cases i:(xS (bytes s)).isSome=true
 ·obtain⟨v,j⟩:=tP.1 i
  refine zB (xq 1 [yT 6 s] [] ?_)
  refine xqc 54 [.string s] 7 (fun _:Unit=>.bool true) _ (fun w R Q=>(Zcj s _ Q m).mono (fun _ _ h=>zD h (by rw[i]))) fun k=>?_
  refine xq 1 [yB 8 false] [] ?_
  refine xe (zA (xb (zN (zA (zC (zC ?_))))))
  by_cases l:8≤b∧b≤1024
  ·obtain⟨n,r⟩:∃ n:Nat,b=n:=⟨b.toNat,by omega⟩
   subst r
   refine zB (xq 1 [yJ 10 (n:Int)] [] ?_)
   refine xqc 55 [.int .i64 (n:Int)] 11 (fun _:Unit=>.bool true) _ (fun w R Q=>(jN _ _).mono (fun _ _ h=>zD h (by rw[uW l]))) fun k=>?_
   refine xq 1 [yB 12 false] [] ?_
   refine xe (zA (xb (zN (zA (zC (zB (xq 2 [yT 14 s,yJ 15 (n:Int)] [] ?_)))))))
   obtain⟨a,c⟩:=yE (rndF v n)
   refine xqc 57 [.string s,.int .i64 (n:Int)] 16 (shNb a) _ (fun w R Q=>yM xX ((show Calls _ _ _ _ (wA w a) by rw[←c];exact Zkc s v n _ Q.1.1 m j (by omega) (by omega)))) fun⟨d,f,g⟩=>?_
   refine xq 2 [(17,.v (yV a.s d f g a.e)),yJ 18 a.err] [] ?_
   refine xqc 56 [yV a.s d f g a.e,.int .i64 a.err] 19 (fun _:Unit=>.tuple #[yS ⟨(frT a).toArray⟩ (frE a),.int .i64 a.err]) _ (fun w R Q=>yN (bV a d f g _ Q.1.1.1 Q.2 (by rw[←c];exact Za3 v.den_pos (by omega) (by omega)))) fun k=>?_
   refine xq 4 [yJ 5 a.err] [yG 4 24 ⟨(frT a).toArray⟩ (frE a)] ?_
   refine xe (zA (zG ?_))
   refine yR (.tuple #[yS ⟨(frT a).toArray⟩ (frE a),.int .i64 a.err]) fun w' R Q=>?_
   rw[show kJ (bytes s) (n:Int)=rndF v n by unfold kJ;rw[uL i,uL l,cU j];rfl,c]
   exact⟨rfl,R⟩
  refine zB (xq 1 [yJ 10 b] [] ?_)
  refine xqc 55 [.int .i64 b] 11 (fun _:Unit=>.bool false) _ (fun w R Q=>(jN _ _).mono (fun _ _ h=>zD h (by rw[vF l]))) fun k=>?_
  refine xq 1 [yB 12 true] [] ?_
  refine xe (zA (xa (zC (zB (xq 3 [yJ 5 3] [] ?_)))))
  refine xe (zA (zG (zI ?_)))
  refine yR (.tuple #[yS ⟨#[]⟩ 0,.int .i64 3]) fun w' R Q=>?_
  rw[show kJ (bytes s) b=⟨false,0,0,3⟩ by unfold kJ;rw[uL i,uJ l]]
  exact⟨rfl,R⟩
 refine zB (xq 1 [yT 6 s] [] ?_)
 refine xqc 54 [.string s] 7 (fun _:Unit=>.bool false) _ (fun w R Q=>(Zcj s _ Q m).mono (fun _ _ h=>zD h (by rw[vK.2 i]))) fun k=>?_
 refine xq 1 [yB 8 true] [] ?_
 refine xe (zA (xa (zC (zB (xq 3 [yJ 5 1] [] ?_)))))
 refine xe (zA (zG (zI ?_)))
 refine yR (.tuple #[yS ⟨#[]⟩ 0,.int .i64 1]) fun w' R Q=>?_
 rw[show kJ (bytes s) b=⟨false,0,0,1⟩ from uJ i]
 exact⟨rfl,R⟩
theorem ZlX (a b:ByteArray)(d d':Int)(w:World):(Op.equalIn 10000 24 (yS a d) (yS b d')).run Tryz.prog w =
 .ok ((a.toList == b.toList) && (d == d')) w:=by
 have c:Tryz.prog.underlying 24=some (.struct (Tryz.prog.fieldsOf 24)):=by kernel_rfl
 have e:Tryz.prog.stoodInHeld 24=false:=by kernel_rfl
 have f:=Tryz.underlying3
 have g:=Tryz.isAgg3
 have h:=Tryz.underlying9
 have i:=Tryz.isAgg9
 rw[show (10000:Nat)=9999+1 from rfl,run_equalIn_agg w 9999 _ _ _ c e]
 simp only[Program.fieldsOf,Tryz.underlying24]
 go_simp
 cases h1:(a.toList == b.toList)<;>cases h3:(d == d')<;>simp_all
theorem Zbr {o:Oper}{ρ:Operand→Value}{w:World}(x y:Operand)(k:TypeId)(a b:ByteArray)(d d':Int)(r:Bool)(c:o.op=Op.binOp .eql 24 x y k)(e:ρ x=.agg #[.string a,.int .i64 d])(f:ρ y=.agg #[.string b,.int .i64 d'])(g:((a.toList == b.toList) && (d == d'))=r):(execOp ρ o).run Tryz.prog w=.ok (.value (.bool r)) w:=by
 have h:Tryz.prog.eqGuardType Tryz.prog.depth 24=false:=by kernel_rfl
 subst g
 simp only[execOp,c,e,f,Sem.run_bind,run_eqGuard_agg w _ _ _ _ _ _ h,Result.andThen_ok,run_eql_struct,ZlX,Sem.run_pure]
theorem ZgO (a:ByteArray)(d:Int):((a.toList == a.toList) && (d == d))=true:=by simp
/-! ### 5/3 to 8 bits -/
def q53:Rat:=⟨5,3,by decide,by decide⟩
theorem ZlY:xS [53,47,51]=some q53:=by
 rw[Zpw]
 unfold xA
 rw[uJ (by decide)]
 show Lib.itoa ((5:Nat):Int) ++ [47] ++ Lib.itoa ((3:Nat):Int)=_
 rw[jR,jR,dN (by omega),dN (by omega)];rfl
theorem Zkd:blen 213=8:=ZeM (k:=7) (by decide) (by decide)
theorem ZrP:rndF q53 8=⟨false,213,-7,0⟩:=by
 have b:fq 5 3 (-7)=213:=by decide
 have a:rndK 5 3 8 = -7:=Zhq (by decide) (by decide) (by decide) (by rw[b,Zkd])
 have c:rndM 5 3 8=213:=by unfold rndM;rw[a];decide
 show wN false 5 3 0 8=_
 unfold wN
 rw[uJ (by decide),a,c,ZjR false (by decide) (by rw[ZcC (by decide)];omega) (by rw[ZcC (by decide)];omega),ZcC (by decide),show oddM 213=213 by have:=ZcE (o:=213) (by decide) 0;simpa using this]
 rfl
theorem ZpE:kJ [53,47,51] 8=⟨false,213,-7,0⟩:=by
 unfold kJ
 rw[uL (by rw[ZlY];rfl),uL (by omega),cU ZlY]
 exact ZrP
theorem Zke:Lib.itoa 213=[50,49,51]:=by
 rw[show (213:Int)=((213:Nat):Int) from rfl,jR]
 decide +kernel
theorem ZqZ:frT ⟨false,213,-7,0⟩=[50,49,51]:=Zke
theorem Zon:fvB [50,49,51] (-7)=true:=by
 rw[←Zke,ZcP];decide
theorem ZrQ:(ldR [50,49,51] (-7)).m=213:=by
 unfold ldR
 rw[uL Zon];rfl
theorem Zq0 (w:World)(a:Glob w):yA 15 #[.string ⟨#[53,47,51]⟩,.int .i64 8] w (RetV w (.tuple #[yS ⟨#[50,49,51]⟩ (-7),.int .i64 0])):=by
 have h:=dA ⟨#[53,47,51]⟩ 8 w a (by decide)
 rw[show kJ (bytes ⟨#[53,47,51]⟩) 8=⟨false,213,-7,0⟩ from ZpE] at h
 unfold bJ at h
 rw[ZqZ] at h
 exact h
theorem Zq1 (w:World):yA 19 #[yS ⟨#[50,49,51]⟩ (-7)] w (RetV w (.bool true)):=by
 have h:=fP ⟨#[50,49,51]⟩ (-7) w (by decide)
 rw[show fvB (bytes ⟨#[50,49,51]⟩) (-7)=true from Zon] at h
 exact h
theorem ZrR (w:World):yA 20 #[yS ⟨#[50,49,51]⟩ (-7)] w (RetV w (.int .i64 8)):=by
 have h:=Zet ⟨#[50,49,51]⟩ (-7) w (by decide)
 rw[show (ldR (bytes ⟨#[50,49,51]⟩) (-7)).m=213 from ZrQ,Zkd] at h
 exact h
theorem jD (w:World)(b:Glob w) :
 yA 14 #[] w (RetV w (.bool true)):=by
 refine zV (Φ:=fun w=>Glob w) Tryz.func14 rfl (by kernel_rfl) (fun w' c=>b.ext c) ?_
 refine zC (zB (xq 1 [yB 0 false] [] ?_))
 refine xe (zA (zC (zB ?_)))
 refine xqc 15 [.string ⟨#[53,47,51]⟩,.int .i64 8] 4 (fun _:Unit=>.tuple #[yS ⟨#[50,49,51]⟩ (-7),.int .i64 0]) _ (fun w R Q=>yN (Zq0 _ Q)) fun a=>?_
 refine xq 6 [(1,.p 1 0),yJ 2 0] [yG 1 24 ⟨#[50,49,51]⟩ (-7)] ?_
 refine xe (zA (zC (zB (xq 5 [yB 9 true,(10,.v (yS ⟨#[50,49,51]⟩ (-7))),(11,.v (yS ⟨#[50,49,51]⟩ (-7)))] [] ?_))))
 refine xqk 12 (.bool true) (fun w R Q=>Zbr (.tmp 10) (.tmp 11) 24 ⟨#[50,49,51]⟩ ⟨#[50,49,51]⟩ (-7) (-7) true (by kernel_rfl) (by kernel_rfl) (by kernel_rfl) (ZgO _ _)) ?_
 refine xq 3 [yB 14 true,(15,.v (yS ⟨#[50,49,51]⟩ (-7)))] [] ?_
 refine xqc 19 [yS ⟨#[50,49,51]⟩ (-7)] 16 (fun _:Unit=>.bool true) _ (fun w R Q=>yN (Zq1 _)) fun a=>?_
 refine xq 3 [yB 18 true,(19,.v (yS ⟨#[50,49,51]⟩ (-7)))] [] ?_
 refine xqc 20 [yS ⟨#[50,49,51]⟩ (-7)] 20 (fun _:Unit=>.int .i64 8) _ (fun w R Q=>yN (ZrR _)) fun a=>?_
 refine xq 3 [yB 0 true] [] ?_
 refine xe (zA (zG ?_))
 refine yR (.bool true) fun w' R Q=>?_
 exact⟨rfl,R⟩
theorem aQ:ml ((1:Nat))≤65536:=uE (lL.2 (show (1:Nat)<W32^1 by rw[xB];decide)) (by decide)
theorem ZpF {w:World}{s:Bool}{A:Option Addr}{l c:Nat}{z:Int}(h:zZ w (.agg #[.bool s,.slice A l c]) z):zT w (.agg #[.bool s,.slice A l c,.bool false,.slice none 0 0]) ((z:Int):Rat) :=
 ⟨s,false,A,none,l,c,0,0,rfl,h,zZ.nil w⟩
theorem ZeT (z:Int):xA ((z:Int):Rat)=Lib.itoa z:=by
 exact ZfN z
theorem ZhB (l:List UInt8):(flM l).natAbs=zH (zQ l).2:=by
 unfold flM sg
 split<;>omega
def exT (l:List UInt8) (x:Int):List UInt8:=if fvB l x=true then (if flM l=0 then [48] else if x<0 then l ++ [47] ++ Lib.decDigits (2^(-x).toNat) else Lib.itoa (flM l*2^x.toNat)) else [48]
theorem Zkf {l:List UInt8}{x:Int}(a:fvB l x=true)(h:flM l=0):exT l x=[48]:=by unfold exT;rw[uL a,uL h]
theorem ZpG {s:ByteArray}{x:Int}{k:Nat}(a:fvB (bytes s) x=true)(h:flM (bytes s)≠0)(b : -x=k)(c:x<0):(⟨(exT (bytes s) x).toArray⟩:ByteArray)=s ++ ⟨#[47]⟩ ++ ⟨(Lib.decDigits (1*2^k)).toArray⟩:=by
 unfold exT
 rw[uL a,uJ h,uL c,b,sV]
 apply ZcQ
 rw[zJ]
 simp[bytes]
theorem ZlZ {l:List UInt8}{x:Int}{k:Nat}(b:fvB l x=true)(c:x=k):exT l x=(if zH (zQ l).2=0 then [48] else (if (zQ l).1 then [45] else []) ++ Lib.decDigits (zH (zQ l).2*2^k)):=by
 have d:=ZhB l
 unfold exT
 rw[uL b,uJ (show ¬ x<0 by omega),c,tN]
 by_cases a:flM l=0
 ·rw[uL a,uL (by omega)]
 rw[uJ a,uJ (by omega)]
 have e:flM l*2^k=sg (zQ l).1 (zH (zQ l).2*2^k):=by
  unfold flM sg
  split
  ·rw[tB,vI,pL];rfl
  rw[tB,vI];rfl
 have f:=tV (show 0<zH (zQ l).2 by omega) (p2 k)
 rw[e,Zax (fun h=>by omega)]
theorem kK (s:ByteArray)(x:Int)(w:World)(hg:Glob w)(P:(bytes s).length≤100000)(hx:fvB (bytes s) x=true → -1000≤x∧x≤1000) :
 yA 22 #[yS s x] w (RetV w (.string ⟨(exT (bytes s) x).toArray⟩)):=by
 refine zV (Φ:=fun w=>Glob w) Tryz.func22 rfl (by kernel_rfl) (fun w' hf=>hg.ext hf) ?_
 refine zC (zB (xq 2 [(1,.p 1 0),yT 2 ⟨#[]⟩] [yG 1 24 s x] ?_))
 refine xe (zA (zC (zB (xq 1 [(6,.v (yS s x))] [] ?_))))
 by_cases h:fvB (bytes s) x=true
 ·obtain⟨a,f⟩:=yE (ldR (bytes s) x)
  have S:=kG h
  have a0:wl a.m≤100000:=by rw[←f];exact fZ P
  have b0:a.e=x:=by rw[←f,show ldR (bytes s) x=_ from uL h]
  have c0:a.s=true→0<a.m:=by rw[←f,show ldR (bytes s) x=_ from uL h];exact S.2.2.2
  refine xqc 64 [yS s x] 7 (shLd true a) _ (fun w R Q=>yM wP ((show Calls _ _ _ _ (lQ w true a) by rw[←f,← h];exact xY s x _ P))) fun⟨c,b,d⟩=>?_
  refine xq 6 [(3,.p 3 0)] [yF 3 79 a.s c b d a.e] ?_
  refine xe (zA (zC (xM (zC ?_))))
  refine SXc.know (p:=b=wl a.m) (fun w _ Q=>(Q.2).len0) fun T=>?_
  have U:=@kT a.m
  have d0:=hx h
  have q:=f
  rw[show ldR (bytes s) x=⟨(zQ (bytes s)).1,zH (zQ (bytes s)).2,x,0⟩ from uL h] at q
  have e0:=ZhB (bytes s)
  have B:a.m=zH (zQ (bytes s)).2:=by rw[←q]
  have C:a.s=(zQ (bytes s)).1:=by rw[←q]
  by_cases r:a.m=0
  ·refine zB (xq 4 [yB 14 (((b:Int):Int) == 0)] [] ?_)
   rw[(show (((b:Int):Int) == 0)=true from tY.2 (by omega))]
   refine xq 1 [yB 10 true] [] ?_
   refine xe (zA (xa (zC (zB (xq 1 [yT 2 ⟨#[48]⟩] [] ?_)))))
   refine xe (zA (zG (wU (zI ?_))))
   refine yR (.string ⟨#[48]⟩) fun w' R Q=>?_
   exact⟨by rw[Zkf h (by omega)],R⟩
  refine zB (xq 4 [yB 14 (((b:Int):Int) == 0)] [] ?_)
  rw[(show (((b:Int):Int) == 0)=false from rH.2 (by omega))]
  refine xq 1 [yB 10 false] [] ?_
  refine xe (zA (xb (zC (zB (xq 4 [yB 15 (decide (a.e<0))] [] ?_)))))
  refine xe (zA ?_)
  refine yQ ((decide (a.e<0))) (fun i=>?_) fun i=>?_
  ·have u:=uD i
   refine zC ?_
   obtain⟨k,N⟩:∃ k:Nat,-x=k:=uB (by omega)
   have V:k≤1000:=by omega
   have W:wl (1*2^k)≤110000:=by have O:=ZaQ 1 (2^k);have h2:wl (2^k)≤100:=ZcM (by omega);have h3:wl 1≤1:=bL.2 (by rw[zO];decide);omega
   refine gT 11 [0,1,3,0,0,16,48,120,248,511,1023] (by kernel_rfl) (by kernel_rfl) zL ?_
   refine xqg 2 [yT 20 s] ?_
   refine Zbn 21 (.string (s ++ ⟨#[47]⟩)) (by kernel_rfl) (by kernel_rfl) (by kernel_rfl) (by kernel_rfl) (by kernel_rfl) (by kernel_rfl) (fun w Q=>Zab (x:=.tmp 20) (y:=(Operand.const (Value.string { data:=#[47] }))) (t:=9) (k:=9) (by kernel_rfl) (by kernel_rfl) (by kernel_rfl) (by have O:=zP s;have h2:(⟨#[47]⟩:ByteArray).size=1:=rfl;omega) rfl) ?_
   refine xf 0 [yT 2 ⟨#[]⟩,(3,.p 3 0),yT 21 (s ++ ⟨#[47]⟩)] [yF 3 79 a.s c b d a.e,yG 1 24 s x] ?_
   refine ZlE 22 (fun X:Nat=>.slice (some ⟨X,0,none⟩) 1 1) (fun X zw=>Blk 94 zw X #[.int .u64 1]) (by kernel_rfl) (by kernel_rfl) (by kernel_rfl) (by kernel_rfl) (by kernel_rfl) (by kernel_rfl) (by kernel_rfl) (fun w R Q=>kC (t:=77) (e:=94) (n:=1) (sz:=1) (z:=.int .u64 0) (parts:=#[(0,Operand.const (Value.int IntKind.u64 1))]) (by kernel_rfl) (by kernel_rfl) (by kernel_rfl) (by kernel_rfl) (by kernel_rfl) (by kernel_rfl)) fun D=>?_
   refine xf 3 [yT 2 ⟨#[]⟩,(3,.p 3 0),yT 21 (s ++ ⟨#[47]⟩),eS1 22 (some ⟨D,0,none⟩) 1 1,yJ 25 (IntKind.i64.wrap (0-(a.e)))] [yF 3 79 a.s c b d a.e,yG 1 24 s x] ?_
   rw[yW (0-(a.e)) ((k:Int)) (by omega)]
   refine xqd 66 [.slice (some ⟨D,0,none⟩) 1 1,.int .i64 (k:Int)] 26 xH _ (fun w R Q=>yM xD (kL k (fE Q.2) wl_1 (by omega))) fun⟨E,F,G⟩=>?_
   refine xqd 67 [.slice E F G] 27 (fun _:Unit=>.string ⟨(Lib.decDigits (1*2^k)).toArray⟩) _ (fun w R Q=>yN (Zaf E F G (1*2^k) _ Q.1.1.1 Q.2 (by omega))) fun xx=>?_
   refine Zbn 28 (.string (s ++ ⟨#[47]⟩ ++ ⟨(Lib.decDigits (1*2^k)).toArray⟩)) (by kernel_rfl) (by kernel_rfl) (by kernel_rfl) (by kernel_rfl) (by kernel_rfl) (by kernel_rfl) (fun w Q=>Zab (x:=.tmp 21) (y:=.tmp 27) (t:=9) (k:=9) (by kernel_rfl) (by kernel_rfl) (by kernel_rfl) (by have O:=ZeS (1*2^k);have h3:=zP s;have h4:(⟨#[47]⟩:ByteArray).size=1:=rfl;rw[ByteArray.size_append,← zP ⟨(Lib.decDigits (1*2^k)).toArray⟩,zJ];omega) rfl) ?_
   refine xf 1 [yT 2 (s ++ ⟨#[47]⟩ ++ ⟨(Lib.decDigits (1*2^k)).toArray⟩),(3,.p 3 0)] [yF 3 79 a.s c b d a.e,yG 1 24 s x] ?_
   refine xz (xe (zA (zG (wU (zI ?_)))))
   refine yR (.string (s ++ ⟨#[47]⟩ ++ ⟨(Lib.decDigits (1*2^k)).toArray⟩)) fun w' R Q=>?_
   exact⟨by rw[ZpG h (by omega) N (by omega)],R⟩
  have u:=uH i
  refine zC ?_
  obtain⟨k,N⟩:∃ k:Nat,x=k:=uB (by omega)
  have V:k≤1000:=by omega
  have W:wl (a.m*2^k)≤110000:=by have O:=ZaQ a.m (2^k);have h2:wl (2^k)≤100:=ZcM (by omega);omega
  rw[show a.e=(k:Int) by omega]
  refine zB (xq 3 [yB 29 a.s] [] ?_)
  refine xe (zA ?_)
  refine yQ (a.s) (fun j=>?_) fun j=>?_
  ·have A:=j
   refine zC (zB (xq 4 [eS1 33 c b d,yJ 35 (k:Int)] [] ?_))
   refine xqc 66 [.slice c b d,.int .i64 (k:Int)] 36 xH _ (fun w R Q=>yM xD (kL k Q.2 (by omega) (by omega))) fun⟨H,I,J⟩=>?_
   refine xqc 67 [.slice H I J] 37 (fun _:Unit=>.string ⟨(Lib.decDigits (a.m*2^k)).toArray⟩) _ (fun w R Q=>yN (Zaf H I J (a.m*2^k) _ Q.1.1 Q.2 (by omega))) fun xx=>?_
   refine yK 38 (.string ⟨(45 :: Lib.decDigits (a.m*2^k)).toArray⟩) (fun w R Q=>Zab (x:=(Operand.const (Value.string { data:=#[45] }))) (y:=.tmp 37) (t:=9) (k:=9) (by kernel_rfl) (by kernel_rfl) (by kernel_rfl) (by have O:=ZeS (a.m*2^k);have h4:(⟨#[45]⟩:ByteArray).size=1:=rfl;rw[←zP ⟨(Lib.decDigits (a.m*2^k)).toArray⟩,zJ];omega) (ZcR [45] (Lib.decDigits (a.m*2^k)))) ?_
   refine xr 1 [yT 2 ⟨(45 :: Lib.decDigits (a.m*2^k)).toArray⟩,(3,.p 3 0)] [yF 3 79 a.s c b d (k:Int)] ?_
   refine xe (zA (zG (wU (zI ?_))))
   refine yR (.string ⟨(45 :: Lib.decDigits (a.m*2^k)).toArray⟩) fun w' R Q=>?_
   exact⟨by rw[ZlZ h N,← B,← C,A,uJ r];rfl,R⟩
  have A:=j
  refine zN (lN (zA (zC (zB (xq 4 [eS1 40 c b d,yJ 42 (k:Int)] [] ?_)))))
  refine xqc 66 [.slice c b d,.int .i64 (k:Int)] 43 xH _ (fun w R Q=>yM xD (kL k Q.2 (by omega) (by omega))) fun⟨K,L,M⟩=>?_
  refine xqc 67 [.slice K L M] 44 (fun _:Unit=>.string ⟨(Lib.decDigits (a.m*2^k)).toArray⟩) _ (fun w R Q=>yN (Zaf K L M (a.m*2^k) _ Q.1.1 Q.2 (by omega))) fun xx=>?_
  refine xq 1 [yT 2 ⟨(Lib.decDigits (a.m*2^k)).toArray⟩] [] ?_
  refine xe (zA (zG ?_))
  refine yR (.string ⟨(Lib.decDigits (a.m*2^k)).toArray⟩) fun w' R Q=>?_
  exact⟨by rw[ZlZ h N,← B,← C,A,uJ r];rfl,R⟩
 obtain⟨g,o⟩:=yE (ldR (bytes s) x)
 refine xqc 64 [yS s x] 7 (shLd false g) _ (fun w R Q=>yM wP ((show Calls _ _ _ _ (lQ w false g) by rw[←o,← vK.2 h];exact xY s x _ P))) fun⟨Y,l,Z⟩=>?_
 refine xq 6 [(3,.p 3 0)] [yF 3 79 g.s Y l Z g.e] ?_
 refine xe (zA (zC (xM (zC ?_))))
 refine SXc.know (p:=l=wl g.m) (fun w _ Q=>(Q.2).len0) fun T=>?_
 have U:=@kT g.m
 have r:g.m=0:=by rw[←o,show ldR (bytes s) x=⟨false,0,0,0⟩ from uJ h]
 refine zB (xq 4 [yB 14 (((l:Int):Int) == 0)] [] ?_)
 rw[(show (((l:Int):Int) == 0)=true from tY.2 (by omega))]
 refine xq 1 [yB 10 true] [] ?_
 refine xe (zA (xa (zC (zB (xq 1 [yT 2 ⟨#[48]⟩] [] ?_)))))
 refine xe (zA (zG (wU (zI ?_))))
 refine yR (.string ⟨#[48]⟩) fun w' R Q=>?_
 exact⟨by rw[show exT (bytes s) x=[48] from uJ h],R⟩
def zfl (l:List UInt8) (x:Int):Int:=if fvB l x=true then flM l else 0
theorem Zoq {s r:ByteArray}{x:Int}{neg:Bool}(i:fvB (bytes s) x=true)(a:¬ bytes s=[48])(b:zQ (bytes s)=(neg,bytes r)):flM (bytes s)≠0∧Lib.itoa (-(flM (bytes s)))=(if neg then bytes r else 45 :: bytes r):=by
 have h:=i
 unfold fvB at h
 rw[uJ a] at h
 obtain⟨c,d,l,f,h5⟩:=uD h
 rw[b] at c d f h5
 have j:=ZgH _ _ rfl f c d
 have g:flM (bytes s)=sg neg (zH (bytes r)):=by unfold flM;rw[b]
 have k:zH (bytes r)≠0:=fun e=>by rw[e] at h5;cases h5
 refine⟨?_,?_⟩
 ·rw[g];unfold sg;split<;>omega
 rw[g,show -(sg neg (zH (bytes r)))=sg (!neg) (zH (bytes r)) by unfold sg;cases neg<;>simp,Zax (fun h=>absurd h k),j]
 cases neg<;>rfl
theorem ZrT {l:List UInt8}{x:Int}(a:fvB l x=true)(h:l=[48]):flM l=0∧x=0:=by
 subst h
 unfold fvB at a
 rw[uL rfl] at a
 exact⟨ZfI,uD a⟩
def exQ (z x:Int):Rat:=if 0≤x then ((z*2^x.toNat:Int):Rat) else Rat.divInt z (2^(-x).toNat)
theorem aR {z x:Int}{k:Nat}(h:x=k):exQ z x=((z*2^k:Int):Rat):=by unfold exQ;rw[uL (by omega),h,tN]
theorem aS {z x:Int}{k:Nat}(h : -x=k)(a:¬ 0≤x):exQ z x=Rat.divInt z (2^k):=by unfold exQ;rw[uJ a,h,tN]
theorem Zag {z:Int}{k:Nat}(b:z%2=1):(Rat.divInt z (2^k)).num=z∧(Rat.divInt z (2^k)).den=2^k:=by
 have a:z.natAbs.Coprime (2^k):=by
  refine Nat.Coprime.pow_right k ?_
  rw[Nat.coprime_comm,Nat.Coprime,qN,show z.natAbs%2=1 by omega];decide
 have h:=sO ⟨z,2^k,by have:=p2 k;omega,a⟩
 have e:(((2:Nat)^k:Nat):Int)=(2:Int)^k:=by rw[vI];rfl
 dsimp only at h
 rw[e] at h
 rw[h]
 exact⟨rfl,rfl⟩
theorem Zq2 {l:List UInt8}{x:Int}(c:fvB l x=true):xA (exQ (flM l) x)=exT l x:=by
 obtain⟨f,j⟩:=ZlJ c
 by_cases d:flM l=0
 ·have e:x=0:=by omega
  rw[Zkf c d,d,aR (k:=0) (by omega),Int.zero_mul,ZfN]
  exact fL
 have a:flM l%2=1:=by omega
 by_cases e:0≤x
 ·obtain⟨k,b⟩:=uB e
  rw[aR b,ZfN]
  unfold exT
  rw[uL c,uJ d,uJ (by omega),b,tN]
 obtain⟨k,b⟩:=uB (show 0 ≤ -x by omega)
 obtain⟨g,h⟩:=Zag (k:=k) a
 have i:1<2^k:=pK (by omega)
 rw[aS b e]
 unfold xA exT
 rw[g,h,uJ (by omega),uL c,uJ d,uL (by omega),b,tN,jR,← f]
theorem Zkg (s:ByteArray)(x:Int)(w:World)(m:(bytes s).length≤100000) :
 yA 36 #[yS s x] w (RetV w (yS ⟨(Lib.itoa (-(zfl (bytes s) x))).toArray⟩ (if fvB (bytes s) x=true then x else 0))):=by
 refine zV (Φ:=fun w=>True) Tryz.func36 rfl (by kernel_rfl) (fun w' u=>trivial) ?_
 refine zC (zB (xq 2 [(1,.p 1 0),(2,.p 2 0)] [yG 2 24 ⟨#[]⟩ 0,yG 1 24 s x] ?_))
 refine xe (zA (zC (zC ?_)))
 by_cases a:fvB (bytes s) x=true
 ·by_cases b:bytes s=[48]
  ·refine zB (xq 1 [(5,.v (yS s x))] [] ?_)
   refine xqc 19 [yS s x] 6 (fun _:Unit=>.bool true) _ (fun w R Q=>(fP s x _ (by omega)).mono (fun _ _ h=>zD h (by rw[a]))) fun i=>?_
   refine xq 5 [yB 8 false,yB 11 ((s:ByteArray).toList == (⟨#[48]⟩:ByteArray).toList)] [] ?_
   rw[Zhw b]
   refine xq 1 [yB 12 true] [] ?_
   refine xe (zA (xa (zC (zB (xq 2 [] [yG 2 24 ⟨#[48]⟩ 0] ?_)))))
   refine xe (zA (zG (zI ?_)))
   refine yR (yS ⟨#[48]⟩ 0) fun w' R Q=>?_
   obtain⟨n,o⟩:=ZrT a b
   exact⟨by rw[show zfl (bytes s) x=0 by unfold zfl;rw[uL a,n],uL a,Int.neg_zero,fL,o],R⟩
  refine zB (xq 1 [(5,.v (yS s x))] [] ?_)
  refine xqc 19 [yS s x] 6 (fun _:Unit=>.bool true) _ (fun w R Q=>(fP s x _ (by omega)).mono (fun _ _ h=>zD h (by rw[a]))) fun i=>?_
  refine xq 5 [yB 8 false,yB 11 ((s:ByteArray).toList == (⟨#[48]⟩:ByteArray).toList)] [] ?_
  rw[Zhx b]
  refine xq 1 [yB 12 false] [] ?_
  refine xe (zA (xb (zN (zA (zC (zB (xq 2 [yT 16 s] [] ?_)))))))
  refine xqc 63 [.string s] 17 Zes _ (fun w R Q=>yM Zcl (Zcm s _)) fun⟨r,neg⟩=>?_
  refine xq 5 [yB 3 neg,yT 4 r] [] ?_
  refine xe (zA (zC (zC ?_)))
  refine SXc.know (p:=zQ (bytes s)=(neg,bytes r)) (fun w _ Q=>Q.2) fun j=>?_
  obtain⟨q,f⟩:=Zoq a b j
  have g:=Zbj (bytes s)
  rw[j] at g
  have l:(bytes r).length≤100000:=uE g m
  refine zB (xq 2 [yB 21 (!neg)] [] ?_)
  refine xe (zA ?_)
  refine yQ ((!neg)) (fun c=>?_) fun c=>?_
  ·have d:neg=false:=by simpa using c
   refine zB (xq 1 [yT 22 r] [] ?_)
   refine yK 23 (.string (⟨#[45]⟩ ++ r)) (fun w R Q=>Zab (x:=(Operand.const (Value.string { data:=#[45] }))) (y:=.tmp 22) (t:=9) (k:=9) (by kernel_rfl) (by kernel_rfl) (by kernel_rfl) (by have z:=zP r;have A:(⟨#[45]⟩:ByteArray).size=1:=rfl;omega) rfl) ?_
   refine xr 1 [(1,.p 1 0),(2,.p 2 0),yT 4 (⟨#[45]⟩ ++ r)] [yG 2 24 ⟨#[]⟩ 0,yG 1 24 s x] ?_
   refine xe (zA (zC (zB (xq 5 [] [yG 2 24 (⟨#[45]⟩ ++ r) x] ?_))))
   refine xe (zA (zG ?_))
   refine yR (yS (⟨#[45]⟩ ++ r) x) fun w' R Q=>?_
   have e:(⟨#[45]⟩ ++ r:ByteArray)=⟨(Lib.itoa (-(zfl (bytes s) x))).toArray⟩:=ZcQ (by rw[zJ,show zfl (bytes s) x=flM (bytes s) from uL a,f,d];simp[bytes])
   exact⟨by rw[e,uL a],R⟩
  have d:neg=true:=by simpa using c
  refine zN (zA (zC (zB (xq 5 [] [yG 2 24 r x] ?_))))
  refine xe (zA (zG ?_))
  refine yR (yS r x) fun w' R Q=>?_
  have e:r=⟨(Lib.itoa (-(zfl (bytes s) x))).toArray⟩:=ZcQ (by rw[zJ,show zfl (bytes s) x=flM (bytes s) from uL a,f,d];rfl)
  exact⟨by rw[e,uL a],R⟩
 by_cases b:bytes s=[48]
 ·refine zB (xq 1 [(5,.v (yS s x))] [] ?_)
  refine xqc 19 [yS s x] 6 (fun _:Unit=>.bool false) _ (fun w R Q=>(fP s x _ (by omega)).mono (fun _ _ h=>zD h (by rw[vK.2 a]))) fun i=>?_
  refine xq 6 [yB 12 true] [] ?_
  refine xe (zA (xa (zC (zB (xq 2 [] [yG 2 24 ⟨#[48]⟩ 0] ?_)))))
  refine xe (zA (zG (zI ?_)))
  refine yR (yS ⟨#[48]⟩ 0) fun w' R Q=>?_
  exact⟨by rw[show zfl (bytes s) x=0 from uJ a,uJ a,Int.neg_zero,fL],R⟩
 refine zB (xq 1 [(5,.v (yS s x))] [] ?_)
 refine xqc 19 [yS s x] 6 (fun _:Unit=>.bool false) _ (fun w R Q=>(fP s x _ (by omega)).mono (fun _ _ h=>zD h (by rw[vK.2 a]))) fun i=>?_
 refine xq 6 [yB 12 true] [] ?_
 refine xe (zA (xa (zC (zB (xq 2 [] [yG 2 24 ⟨#[48]⟩ 0] ?_)))))
 refine xe (zA (zG (zI ?_)))
 refine yR (yS ⟨#[48]⟩ 0) fun w' R Q=>?_
 exact⟨by rw[show zfl (bytes s) x=0 from uJ a,uJ a,Int.neg_zero,fL],R⟩
end Go.Proofs.YtklpdkpcocnglaaGreatDoor
namespace Go.Proofs.YtklpdkpcocnglaaGreatDoor
theorem fF (x:Int):qv 0 x=0:=by unfold qv;rw[show ((0:Int):Rat)=0 from rfl,Rat.zero_mul]
theorem Zkh (z x:Int):qv (-z) x = -qv z x:=by unfold qv;rw[Rat.intCast_neg,Rat.neg_mul]
theorem Zm2 (s:Bool)(n:Nat)(x:Int):qv (sg s n) x=if s then -((n:Rat)*2^x) else (n:Rat)*2^x:=by
 cases s
 ·rfl
 rw[uL rfl];unfold sg;rw[uL rfl,Zkh];rfl
theorem Zeu {s:Bool}{n:Nat}{e:Int}(h:0<n)(b:okE (e+tzn n)):wV s n e=⟨s,oddM n,e+tzn n,0⟩∧qv (sg s (oddM n)) (e+tzn n)=qv (sg s n) e:=by
 refine⟨by unfold wV;rw[uJ (by omega),uL b],?_⟩
 rw[←ZbM]
 have a:=(kZ h).2
 have c:sg s (oddM n)*2^tzn n=sg s n:=by
  unfold sg
  cases s
  ·rw[uJ (by decide),uJ (by decide)]
   have:((oddM n*2^tzn n:Nat):Int)=(n:Int):=by rw[←a]
   rw[←this,tB,vI];rfl
  rw[uL rfl,uL rfl]
  have:((oddM n*2^tzn n:Nat):Int)=(n:Int):=by rw[←a]
  rw[←this,tB,vI,pL];rfl
 rw[c]
theorem aH {n:Nat}(h:0<n):tzn n+1≤blen n:=by
 have c:=(kZ h).2
 have a:0<oddM n:=by have:=(kZ h).1;omega
 have b:2^tzn n≤n:=by
  have:=uC (2^tzn n) a
  omega
 exact iR.2 b
theorem Zq3 {v:Rat}{n:Nat}(r:0<n)(z:n≤4096)(ha:blen v.num.natAbs≤400000)(A:blen v.den≤400000) :
 (rndF v n).err=0∧RndS n v (qv (sg (rndF v n).s (rndF v n).m) (rndF v n).e):=by
 have g:=v.den_pos
 rcases uI v.num.natAbs with b|b
 ·have t:v.num=0:=by omega
  have c:v=0:=Rat.num_eq_zero.1 t
  unfold rndF
  rw[b,jQ]
  exact⟨rfl,Or.inl ⟨c,fF _⟩⟩
 have a:=Zea b g r
 have o:0<rndM v.num.natAbs v.den n:=by have:=a.ml;have:=p2 (n-1);omega
 have u:blen (rndM v.num.natAbs v.den n)≤n+1:=xF.2 (vE a.mh (by rw[uO];have:=p2 n;omega))
 have w:=aH o
 have B:=Zht (n:=v.num.natAbs) (d:=v.den) (bits:=n) (k:=rndK v.num.natAbs v.den n) (Or.inr rfl)
 have i:okE (0+rndK v.num.natAbs v.den n+tzn (rndM v.num.natAbs v.den n)):=by constructor<;>omega
 obtain⟨x,p2⟩:=Zeu (s:=decide (v.num<0)) o i
 have y:rndF v n=⟨decide (v.num<0),oddM (rndM v.num.natAbs v.den n),0+rndK v.num.natAbs v.den n+tzn (rndM v.num.natAbs v.den n),0⟩:=by
  unfold rndF wN
  rw[uJ (by omega)]
  exact x
 rw[y]
 refine⟨rfl,?_⟩
 rw[p2,Zm2,Int.zero_add]
 have f:(v.num:Rat)/(v.den:Rat)=v:=by rw[←Rat.mkRat_eq_div];exact Rat.mkRat_self v
 by_cases p:v.num<0
 ·rw[uW p,uL rfl]
  have j:((v.num.natAbs:Nat):Rat) = -(v.num:Rat):=by
   have:(v.num.natAbs:Int) = -v.num:=by omega
   rw[←pH,this,Rat.intCast_neg]
  have l:((v.num.natAbs:Nat):Rat)/(v.den:Rat) = -v:=by rw[j,Rat.div_def,Rat.neg_mul,← Rat.div_def,f]
  rw[l] at a
  have c:v<0:=by
   have q:¬ 0≤v:=fun h=>by have:=rF.2 h;omega
   exact Rat.not_le.1 q
  exact Or.inr (Or.inr ⟨c,_,_,a,rfl⟩)
 rw[vF p,uJ (by decide)]
 have j:((v.num.natAbs:Nat):Rat)=(v.num:Rat):=by
  have:(v.num.natAbs:Int)=v.num:=by omega
  rw[←pH,this]
 have l:((v.num.natAbs:Nat):Rat)/(v.den:Rat)=v:=by rw[j,f]
 rw[l] at a
 have c:0<v:=by
  have q:0≤v:=rF.1 (by omega)
  have C:v≠0:=fun e=>by rw[e] at b;exact absurd b (by decide)
  grind
 exact Or.inr (Or.inl ⟨c,_,_,a,rfl⟩)
theorem gW (z x:Int):exQ z x=qv z x:=by
 by_cases h:0≤x
 ·obtain⟨k,rfl⟩:=uB h
  rw[aR rfl]
  unfold qv
  rw[eF,oD]
  congr 1
 obtain⟨k,a⟩:=uB (show 0 ≤ -x by omega)
 rw[aS a h]
 unfold qv
 have e:x = -(k:Int):=by omega
 rw[e,Rat.zpow_neg,eF,Rat.divInt_eq_div,Rat.div_def]
 congr 2
end Go.Proofs.YtklpdkpcocnglaaGreatDoor
namespace Go.Proofs.YtklpdkpcocnglaaGreatDoor
open Go.RowKit
theorem ZpJ (p q:Rat):(p-q).num.sign=(p.num*q.den-q.num*p.den).sign:=by
 have h:=Rat.sub_def' p q
 have a:p.den*q.den≠0:=Nat.mul_ne_zero (by have:=p.den_pos;omega) (by have:=q.den_pos;omega)
 obtain⟨m,d,b,_⟩:=Rat.mkRat_num_den (n':=(p-q).num) (d':=(p-q).den) (z':=(p-q).den_nz) (c:=(p-q).reduced) a h.symm
 rw[b,Int.sign_mul,show (m:Int).sign=1 from sR (by omega),pP]
def Vz (z x:Int):Prop:=(z=0∧x=0)∨z%2=1
theorem Zis {z x:Int}(h:Vz z x):∃ a b:Nat,(exQ z x).num=z*2^a∧(exQ z x).den=2^b∧x=a-b:=by
 by_cases d:0≤x
 ·obtain⟨k,c⟩:=uB d
  rw[aR c]
  exact⟨k,0,rfl,rfl,by omega⟩
 obtain⟨k,c⟩:=uB (show 0 ≤ -x by omega)
 have e:z%2=1:=by rcases h with h|h<;>omega
 obtain⟨f,g⟩:=Zag (k:=k) e
 rw[aS c d]
 exact⟨0,k,by rw[f];simp,g,by omega⟩
def cmpZ (z x z' y:Int):Int:=(z*2^(x-min x y).toNat-z'*2^(y-min x y).toNat).sign
theorem Zor {z x z' y:Int}(h:Vz z x)(e:Vz z' y):(exQ z x-exQ z' y).num.sign=cmpZ z x z' y:=by
 obtain⟨a,b,f,g,o⟩:=Zis h
 obtain⟨c,d,i,j,p⟩:=Zis e
 obtain⟨t,q⟩:∃ t:Nat,(b:Int)+d+min x y=t:=uB (by omega)
 obtain⟨u,k⟩:=yE ((x-min x y).toNat)
 obtain⟨v,l⟩:=yE ((y-min x y).toNat)
 rw[ZpJ,f,g,i,j]
 unfold cmpZ
 rw[k,l]
 have m:z*2^a*((2^d:Nat):Int)=z*2^u*2^t:=by
  rw[vI,qJ,qJ]
  show z*(2^a*2^d)=_
  rw[←Int.pow_add,← Int.pow_add,show a+d=u+t by omega]
 have n:z'*2^c*((2^b:Nat):Int)=z'*2^v*2^t:=by
  rw[vI,qJ,qJ]
  show z'*(2^c*2^b)=_
  rw[←Int.pow_add,← Int.pow_add,show c+b=v+t by omega]
 rw[m,n,← Int.sub_mul,Int.sign_mul,show ((2:Int)^t).sign=1 from sR (pZ (by decide)),pP]
theorem Zit {k:Nat}(h:0<k):(2:Int)^k%2=0:=by
 obtain⟨j,rfl⟩:∃ j,k=j+1:=⟨k-1,by omega⟩
 rw[Int.pow_succ];omega
theorem ZpK {z x z' y:Int}(h:Vz z x)(b:Vz z' y):cmpZ z x z' y=0↔z=z'∧x=y:=by
 unfold cmpZ
 rw[Int.sign_eq_zero_iff_zero]
 rcases qH x y with c|c|c
 ·rw[show min x y=x by omega,show (x-x).toNat=0 by omega,Int.pow_zero,pP]
  have i:=Zit (k:=(y-x).toNat) (by omega)
  have d:=pZ (n:=2) (m:=(y-x).toNat) (by decide)
  refine⟨fun a=>?_,fun a=>by omega⟩
  generalize (2:Int)^(y-x).toNat=P at *
  obtain⟨Q,rfl⟩:∃ Q,P=2*Q:=⟨P/2,by omega⟩
  have e:z'*(2*Q)=2*(z'*Q):=by rw[←qJ,Int.mul_comm z' 2,qJ]
  rw[e] at a
  rcases h with ⟨j,l⟩|h
  ·rcases b with ⟨o,p⟩|b
   ·omega
   exfalso
   have f:z'*Q=0:=by omega
   rcases Int.mul_eq_zero.1 f with g|g
   ·omega
   omega
  omega
 ·subst c
  rw[show min x x=x by omega,show (x-x).toNat=0 by omega,Int.pow_zero,pP,pP]
  omega
 rw[show min x y=y by omega,show (y-y).toNat=0 by omega,Int.pow_zero,pP]
 have i:=Zit (k:=(x-y).toNat) (by omega)
 have d:=pZ (n:=2) (m:=(x-y).toNat) (by decide)
 refine⟨fun a=>?_,fun a=>by omega⟩
 generalize (2:Int)^(x-y).toNat=P at *
 obtain⟨Q,rfl⟩:∃ Q,P=2*Q:=⟨P/2,by omega⟩
 have e:z*(2*Q)=2*(z*Q):=by rw[←qJ,Int.mul_comm z 2,qJ]
 rw[e] at a
 rcases b with ⟨j,l⟩|b
 ·rcases h with ⟨o,p⟩|h
  ·omega
  exfalso
  have f:z*Q=0:=by omega
  rcases Int.mul_eq_zero.1 f with g|g
  ·omega
  omega
 omega
def cmpN (s:Bool) (a:Nat) (t:Bool) (b:Nat):Int:=(sg s a-sg t b).sign
def cmpV (s:Bool) (m:Nat) (e:Int) (t:Bool) (n:Nat) (f:Int):Int:=cmpZ (sg s m) e (sg t n) f
theorem ZcU (s:Bool)(m i:Nat):sg s m*2^i=sg s (m*2^i):=by
 unfold sg
 split
 ·rw[tB,vI,pL];rfl
 rw[tB,vI];rfl
theorem Zbs {s t:Bool}{m n u v:Nat}{e f low:Int}(a:min e f=low)(b:e-low=u)(c:f-low=v):cmpV s m e t n f=cmpN s (m*2^u) t (n*2^v):=by
 unfold cmpV cmpZ cmpN
 rw[a,b,c,tN,tN,ZcU,ZcU]
theorem aI (s:Bool)(m:Nat)(e:Int)(t:Bool)(n:Nat)(f:Int):∃ a b:Nat,cmpV s m e t n f=cmpN s a t b∧(0<m→0<a)∧(0<n→0<b)∧(m=0→a=0)∧(n=0→b=0):=by
 obtain⟨u,c⟩:=uB (show 0≤e-min e f by omega)
 obtain⟨v,d⟩:=uB (show 0≤f-min e f by omega)
 exact⟨m*2^u,n*2^v,Zbs rfl c d,fun h=>tV h (p2 u),fun h=>tV h (p2 v),fun h=>by rw[h,sI],fun h=>by rw[h,sI]⟩
theorem Zbt {z:Int}(h:0<z):z.sign=1:=sR h
theorem Zbu {z:Int}(h:z<0):z.sign = -1:=qC h
theorem Zq4 (a b:Nat):cmpN true a true b=cmpN false b false a:=by unfold cmpN sg;congr 1;simp;omega
theorem Zl0 (m n:Nat)(e f:Int):cmpV true m e true n f=cmpV false n f false m e:=by
 obtain⟨u,a⟩:=uB (show 0≤e-min e f by omega)
 obtain⟨v,b⟩:=uB (show 0≤f-min e f by omega)
 rw[Zbs rfl a b,Zbs (Int.min_comm f e) b a,Zq4]
theorem ZgP {a b:Nat}(h:blen a<blen b):a<b:=by
 have c:0<b:=by
  rcases uI b with e|e
  ·rw[e,jI] at h;omega
  exact e
 exact uQ (gL a) (uE (uR (by decide) (by omega)) (ZbK c))
theorem Zbv {v z:Int}(a:0<v)(b:0<z):v.sign=z.sign:=by rw[Zbt a,Zbt b]
theorem Zbw {v z:Int}(a:v<0)(b:z<0):v.sign=z.sign:=by rw[Zbu a,Zbu b]
theorem Zki {p q:Nat}{i k:Int}(a:0<p)(b:0<q)(h:((blen p:Nat):Int)+i≠((blen q:Nat):Int)+k):cmpV false p i false q k=((((blen p:Nat):Int)+i)-(((blen q:Nat):Int)+k)).sign:=by
 obtain⟨u,c⟩:=uB (show 0≤i-min i k by omega)
 obtain⟨v,d⟩:=uB (show 0≤k-min i k by omega)
 rw[Zbs rfl c d]
 have f:=cK a u
 have g:=cK b v
 unfold cmpN sg
 rw[uJ (by decide),uJ (by decide)]
 rcases Int.lt_or_gt_of_ne h with e|e
 ·have:=ZgP (show blen (p*2^u)<blen (q*2^v) by omega)
  rw[Zbu (by omega),Zbu (by omega)]
 have:=ZgP (show blen (q*2^v)<blen (p*2^u) by omega)
 rw[Zbt (by omega),Zbt (by omega)]
theorem Zkj (a b:Nat):(cmpI ((a:Nat):Int) ((b:Nat):Int)).sign=cmpN false a false b ∧ -1≤cmpI ((a:Nat):Int) ((b:Nat):Int)∧cmpI ((a:Nat):Int) ((b:Nat):Int)≤1:=by
 unfold cmpN sg
 rw[uJ (by decide),uJ (by decide)]
 rcases rW a b with h|h|h
 ·rw[jS (by omega),Zbu (z:=(a:Int)-b) (by omega)];exact⟨rfl,by omega,by omega⟩
 ·rw[h,ZaP,Int.sub_self];exact⟨rfl,by omega,by omega⟩
 rw[iO (by omega),Zbt (z:=(a:Int)-b) (by omega)];exact⟨rfl,by omega,by omega⟩
def Zp6 (w:World) (σ:Int) (e:Ending) (w':World):Prop:=∃ v:Int,e=.returned (.int .i64 v)∧(v.sign=σ ∧ -4294967296≤v∧v≤4294967296)∧Ext w w'
theorem ZeU {w w':World}{e:Ending}{σ:Int}(h:Zp6 w σ e w'):kM (fun v:Int=>.int .i64 v) (fun v _=>v.sign=σ ∧ -4294967296≤v∧v≤4294967296) w e w':=by
 obtain⟨v,rfl,a,Q⟩:=h
 exact⟨v,rfl,Q,BoxN.pure a⟩
theorem ZeV {a b:Int}:(if b>a then b else a)=max a b:=by omega
theorem Zbk (v:Int):min (max v (-1)) 1=v.sign:=by
 rcases qH v 0 with h|h|h
 ·rw[Zbu h];omega
 ·rw[h];rfl
 rw[Zbt h];omega
theorem xN (s:Bool)(A:Option Addr)(l c x:Nat)(e:Int)(w:World)(h:zK w (.slice A l c) x) :
 yA 119 #[yV s A l c e] w (RetV w (.int .i64 (if x=0 then 0 else if s=true then (-1) else 1))):=by
 refine zV (Φ:=fun w=>zK w (.slice A l c) (x)) Tryz.func119 rfl (by kernel_rfl) (fun w' i=>h.ext i) ?_
 refine zC ?_
 have j:=h.len0
 have k:=@kT x
 refine zB (xq 2 [(1,.p 1 0),yJ 2 0] [yF 1 79 s A l c e] ?_)
 refine xe (zA (zC (xM (zC (zB (xq 5 [yB 3 (((l:Int):Int) == 0)] [] ?_))))))
 refine xe (zA ?_)
 refine yQ ((((l:Int):Int) == 0)) (fun a=>?_) fun a=>?_
 ·have d:=tY.1 a
  have g:x=0:=by omega
  refine zC (zB (xq 1 [yJ 2 0] [] ?_))
  refine xe (zA (zG (wU (zI ?_))))
  refine yR (.int .i64 0) fun w' R Q=>?_
  exact⟨by rw[uL g],R⟩
 have d:=wY a
 have g:¬ x=0:=by omega
 refine zC (zB (xq 3 [yB 8 s] [] ?_))
 refine xe (zA ?_)
 refine yQ (s) (fun b=>?_) fun b=>?_
 ·have f:=b
  refine zC (zB (xq 1 [yJ 2 (-1)] [] ?_))
  refine xe (zA (zG (wU (zI ?_))))
  refine yR (.int .i64 (-1)) fun w' R Q=>?_
  exact⟨by rw[uJ g,uL f],R⟩
 have f:=b
 refine zN (lN (zA (zC (zB (xq 1 [yJ 2 1] [] ?_)))))
 refine xe (zA (zG ?_))
 refine yR (.int .i64 1) fun w' R Q=>?_
 exact⟨by rw[uJ g,uJ (by rw[f];decide)],R⟩
theorem Zev (s:Bool)(A:Option Addr)(l c x:Nat)(e:Int)(w:World)(f:zK w (.slice A l c) x)(d:0<x) :
 yA 120 #[yV s A l c e] w (RetV w (yV (!s) A l c e)):=by
 refine zV (Φ:=fun w=>zK w (.slice A l c) (x)) Tryz.func120 rfl (by kernel_rfl) (fun w' g=>f.ext g) ?_
 refine zC ?_
 have h:=f.len0
 have i:=ZdT d
 refine zB (xq 2 [(1,.p 1 0),(2,.p 2 0)] [yF 2 79 false none 0 0 0,yF 1 79 s A l c e] ?_)
 refine xe (zA (zC (zC (zB (xq 4 [yB 6 (decide ((l:Int)>0))] [] ?_)))))
 refine xe (zA ?_)
 refine yQ ((decide ((l:Int)>0))) (fun a=>?_) fun a=>?_
 ·have b:=uD a
  refine zB (xq 5 [] [yF 1 79 (!s) A l c e] ?_)
  refine xe (zA (zC (zB (xq 2 [] [yF 2 79 (!s) A l c e] ?_))))
  refine xe (zA (zG ?_))
  refine yR (yV (!s) A l c e) fun w' R Q=>?_
  exact⟨rfl,R⟩
 have b:=uH a
 refine zN (zA (zC (zB (xq 2 [] [yF 2 79 s A l c e] ?_))))
 refine xe (zA (zG ?_))
 refine yR (yV s A l c e) fun w' R Q=>?_
 exfalso;omega
theorem aD (s:Bool)(A:Option Addr)(l c x:Nat)(e:Int)(t:Bool)(B:Option Addr)(m d y:Nat)(f:Int)(w:World)(hX:zK w (.slice A l c) x)(r0:wl x≤100000)(s0 : -1073741824≤e)(t0:e≤1073741824)(hY:zK w (.slice B m d) y)(u0:wl y≤100000)(v0 : -1073741824≤f)(w0:f≤1073741824)(S:s=true→0<x)(q:t=true→0<y) :
 yA 80 #[yV s A l c e, yV t B m d f] w (Zp6 w (cmpV s x e t y f)):=by
 refine zV (Φ:=fun w=>(zK w (.slice A l c) (x)∧zK w (.slice B m d) (y))) Tryz.func80 rfl (by kernel_rfl) (fun w' hf=>⟨hX.ext hf,hY.ext hf⟩) ?_
 refine zC ?_
 have x0:=gM x
 have y0:=gM y
 by_cases i:x=0
 ·have J:s=false:=by cases s with|false=>rfl|true=>exact absurd (S rfl) (by omega)
  clear S
  subst J
  by_cases j:y=0
  ·have n:t=false:=by cases t with|false=>rfl|true=>exact absurd (q rfl) (by omega)
   clear q
   subst n
   refine zB (xq 3 [(2,.p 2 0),(3,.p 3 0),yJ 4 0] [yF 3 79 false B m d f,yF 2 79 false A l c e] ?_)
   refine xe (zA (zC (zC ?_)))
   refine yO 10 zL ?_
   refine xqg 1 [(6,.v (yV false A l c e))] ?_
   refine xqd 119 [yV false A l c e] 7 (fun _:Unit=>.int .i64 0) _ (fun w R Q=>(xN false A l c x e _ Q.1).mono (fun _ _ h=>zD h (by rw[uL i]))) fun g=>?_
   refine xqg 1 [(8,.v (yV false B m d f))] ?_
   refine xqd 119 [yV false B m d f] 9 (fun _:Unit=>.int .i64 0) _ (fun w R Q=>(xN false B m d y f _ Q.1.2).mono (fun _ _ h=>zD h (by rw[uL j]))) fun g=>?_
   refine xqg 3 [yB 11 false,(12,.v (yV false A l c e))] ?_
   refine xqd 119 [yV false A l c e] 13 (fun _:Unit=>.int .i64 0) _ (fun w R Q=>(xN false A l c x e _ Q.1.1.1).mono (fun _ _ h=>zD h (by rw[uL i]))) fun g=>?_
   refine xqg 2 [yB 15 true] ?_
   refine xz (xe (zA (xa (zC ?_))))
   refine yO 6 zL ?_
   refine xqg 1 [(16,.v (yV false A l c e))] ?_
   refine xqd 119 [yV false A l c e] 17 (fun _:Unit=>.int .i64 0) _ (fun w R Q=>(xN false A l c x e _ Q.1.1.1.1).mono (fun _ _ h=>zD h (by rw[uL i]))) fun g=>?_
   refine xqg 1 [(18,.v (yV false B m d f))] ?_
   refine xqd 119 [yV false B m d f] 19 (fun _:Unit=>.int .i64 0) _ (fun w R Q=>(xN false B m d y f _ Q.1.1.1.1.2).mono (fun _ _ h=>zD h (by rw[uL j]))) fun g=>?_
   refine xqg 1 [yJ 20 (IntKind.i64.wrap (0-0))] ?_
   rw[show (IntKind.i64.wrap (0-0))=0 from rfl]
   refine xqg 1 [yJ 4 0] ?_
   refine xz (xe (zA (zG (zI ?_))))
   refine yR (.int .i64 0) fun w' R Q=>?_
   obtain⟨a,b,I,r,z,C,D⟩:=aI false x e false y f
   have F:=C i
   have G:=D j
   exact⟨_,rfl,⟨by rw[I];unfold cmpN sg;rw[F,G];rfl,by omega,by omega⟩,R⟩
  by_cases o:t=true
  ·have n:t=true:=by simpa using o
   clear o q
   subst n
   refine zB (xq 3 [(2,.p 2 0),(3,.p 3 0),yJ 4 0] [yF 3 79 true B m d f,yF 2 79 false A l c e] ?_)
   refine xe (zA (zC (zC ?_)))
   refine yO 10 zL ?_
   refine xqg 1 [(6,.v (yV false A l c e))] ?_
   refine xqd 119 [yV false A l c e] 7 (fun _:Unit=>.int .i64 0) _ (fun w R Q=>(xN false A l c x e _ Q.1).mono (fun _ _ h=>zD h (by rw[uL i]))) fun g=>?_
   refine xqg 1 [(8,.v (yV true B m d f))] ?_
   refine xqd 119 [yV true B m d f] 9 (fun _:Unit=>.int .i64 (-1)) _ (fun w R Q=>(xN true B m d y f _ Q.1.2).mono (fun _ _ h=>zD h (by rw[uJ j,uL rfl]))) fun g=>?_
   refine xqg 6 [yB 15 true] ?_
   refine xz (xe (zA (xa (zC ?_))))
   refine yO 6 zL ?_
   refine xqg 1 [(16,.v (yV false A l c e))] ?_
   refine xqd 119 [yV false A l c e] 17 (fun _:Unit=>.int .i64 0) _ (fun w R Q=>(xN false A l c x e _ Q.1.1.1).mono (fun _ _ h=>zD h (by rw[uL i]))) fun g=>?_
   refine xqg 1 [(18,.v (yV true B m d f))] ?_
   refine xqd 119 [yV true B m d f] 19 (fun _:Unit=>.int .i64 (-1)) _ (fun w R Q=>(xN true B m d y f _ Q.1.1.1.2).mono (fun _ _ h=>zD h (by rw[uJ j,uL rfl]))) fun g=>?_
   refine xqg 1 [yJ 20 (IntKind.i64.wrap (0-(-1)))] ?_
   rw[show (IntKind.i64.wrap (0-(-1)))=1 from rfl]
   refine xqg 1 [yJ 4 1] ?_
   refine xz (xe (zA (zG (zI ?_))))
   refine yR (.int .i64 1) fun w' R Q=>?_
   obtain⟨a,b,I,r,z,C,D⟩:=aI false x e true y f
   have F:=C i
   have G:=z (by omega)
   exact⟨_,rfl,⟨by rw[I];unfold cmpN sg;simp only[pS,qU,tT];first|exact Zbv (by omega) (by omega)|exact Zbw (by omega) (by omega),by omega,by omega⟩,R⟩
  have n:t=false:=by simpa using o
  clear o q
  subst n
  refine zB (xq 3 [(2,.p 2 0),(3,.p 3 0),yJ 4 0] [yF 3 79 false B m d f,yF 2 79 false A l c e] ?_)
  refine xe (zA (zC (zC ?_)))
  refine yO 10 zL ?_
  refine xqg 1 [(6,.v (yV false A l c e))] ?_
  refine xqd 119 [yV false A l c e] 7 (fun _:Unit=>.int .i64 0) _ (fun w R Q=>(xN false A l c x e _ Q.1).mono (fun _ _ h=>zD h (by rw[uL i]))) fun g=>?_
  refine xqg 1 [(8,.v (yV false B m d f))] ?_
  refine xqd 119 [yV false B m d f] 9 (fun _:Unit=>.int .i64 1) _ (fun w R Q=>(xN false B m d y f _ Q.1.2).mono (fun _ _ h=>zD h (by rw[uJ j,uJ (by decide)]))) fun g=>?_
  refine xqg 6 [yB 15 true] ?_
  refine xz (xe (zA (xa (zC ?_))))
  refine yO 6 zL ?_
  refine xqg 1 [(16,.v (yV false A l c e))] ?_
  refine xqd 119 [yV false A l c e] 17 (fun _:Unit=>.int .i64 0) _ (fun w R Q=>(xN false A l c x e _ Q.1.1.1).mono (fun _ _ h=>zD h (by rw[uL i]))) fun g=>?_
  refine xqg 1 [(18,.v (yV false B m d f))] ?_
  refine xqd 119 [yV false B m d f] 19 (fun _:Unit=>.int .i64 1) _ (fun w R Q=>(xN false B m d y f _ Q.1.1.1.2).mono (fun _ _ h=>zD h (by rw[uJ j,uJ (by decide)]))) fun g=>?_
  refine xqg 1 [yJ 20 (IntKind.i64.wrap (0-1))] ?_
  rw[show (IntKind.i64.wrap (0-1)) = -1 from rfl]
  refine xqg 1 [yJ 4 (-1)] ?_
  refine xz (xe (zA (zG (zI ?_))))
  refine yR (.int .i64 (-1)) fun w' R Q=>?_
  obtain⟨a,b,I,r,z,C,D⟩:=aI false x e false y f
  have F:=C i
  have G:=z (by omega)
  exact⟨_,rfl,⟨by rw[I];unfold cmpN sg;simp only[qU,tT];first|exact Zbv (by omega) (by omega)|exact Zbw (by omega) (by omega),by omega,by omega⟩,R⟩
 by_cases T:s=true
 ·have J:s=true:=by simpa using T
  clear T S
  subst J
  by_cases j:y=0
  ·have n:t=false:=by cases t with|false=>rfl|true=>exact absurd (q rfl) (by omega)
   clear q
   subst n
   refine zB (xq 3 [(2,.p 2 0),(3,.p 3 0),yJ 4 0] [yF 3 79 false B m d f,yF 2 79 true A l c e] ?_)
   refine xe (zA (zC (zC ?_)))
   refine yO 10 zL ?_
   refine xqg 1 [(6,.v (yV true A l c e))] ?_
   refine xqd 119 [yV true A l c e] 7 (fun _:Unit=>.int .i64 (-1)) _ (fun w R Q=>(xN true A l c x e _ Q.1).mono (fun _ _ h=>zD h (by rw[uJ i,uL rfl]))) fun g=>?_
   refine xqg 1 [(8,.v (yV false B m d f))] ?_
   refine xqd 119 [yV false B m d f] 9 (fun _:Unit=>.int .i64 0) _ (fun w R Q=>(xN false B m d y f _ Q.1.2).mono (fun _ _ h=>zD h (by rw[uL j]))) fun g=>?_
   refine xqg 6 [yB 15 true] ?_
   refine xz (xe (zA (xa (zC ?_))))
   refine yO 6 zL ?_
   refine xqg 1 [(16,.v (yV true A l c e))] ?_
   refine xqd 119 [yV true A l c e] 17 (fun _:Unit=>.int .i64 (-1)) _ (fun w R Q=>(xN true A l c x e _ Q.1.1.1).mono (fun _ _ h=>zD h (by rw[uJ i,uL rfl]))) fun g=>?_
   refine xqg 1 [(18,.v (yV false B m d f))] ?_
   refine xqd 119 [yV false B m d f] 19 (fun _:Unit=>.int .i64 0) _ (fun w R Q=>(xN false B m d y f _ Q.1.1.1.2).mono (fun _ _ h=>zD h (by rw[uL j]))) fun g=>?_
   refine xqg 1 [yJ 20 (IntKind.i64.wrap ((-1)-0))] ?_
   rw[show (IntKind.i64.wrap ((-1)-0)) = -1 from rfl]
   refine xqg 1 [yJ 4 (-1)] ?_
   refine xz (xe (zA (zG (zI ?_))))
   refine yR (.int .i64 (-1)) fun w' R Q=>?_
   obtain⟨a,b,I,r,z,C,D⟩:=aI true x e false y f
   have F:=r (by omega)
   have G:=D j
   exact⟨_,rfl,⟨by rw[I];unfold cmpN sg;simp only[pS,qU,tT];first|exact Zbv (by omega) (by omega)|exact Zbw (by omega) (by omega),by omega,by omega⟩,R⟩
  by_cases o:t=true
  ·have n:t=true:=by simpa using o
   clear o q
   subst n
   refine zB (xq 3 [(2,.p 2 0),(3,.p 3 0),yJ 4 0] [yF 3 79 true B m d f,yF 2 79 true A l c e] ?_)
   refine xe (zA (zC (zC ?_)))
   refine yO 10 zL ?_
   refine xqg 1 [(6,.v (yV true A l c e))] ?_
   refine xqd 119 [yV true A l c e] 7 (fun _:Unit=>.int .i64 (-1)) _ (fun w R Q=>(xN true A l c x e _ Q.1).mono (fun _ _ h=>zD h (by rw[uJ i,uL rfl]))) fun g=>?_
   refine xqg 1 [(8,.v (yV true B m d f))] ?_
   refine xqd 119 [yV true B m d f] 9 (fun _:Unit=>.int .i64 (-1)) _ (fun w R Q=>(xN true B m d y f _ Q.1.2).mono (fun _ _ h=>zD h (by rw[uJ j,uL rfl]))) fun g=>?_
   refine xqg 3 [yB 11 false,(12,.v (yV true A l c e))] ?_
   refine xqd 119 [yV true A l c e] 13 (fun _:Unit=>.int .i64 (-1)) _ (fun w R Q=>(xN true A l c x e _ Q.1.1.1).mono (fun _ _ h=>zD h (by rw[uJ i,uL rfl]))) fun g=>?_
   refine xqg 2 [yB 15 false] ?_
   refine xz (xe (zA (xb (zN (zA (zC (zC (zB (xq 2 [yB 22 true] [] ?_)))))))))
   refine xe (zA (xa ?_))
   refine yO 6 zL ?_
   refine xqg 1 [(23,.v (yV true B m d f))] ?_
   refine xqd 120 [yV true B m d f] 24 (fun _:Unit=>.agg #[.bool false,.slice B m d,.int .i64 f]) _ (fun w R Q=>yN (Zev true B m d y f _ Q.1.1.1.2 (by omega))) fun g=>?_
   refine xqg 1 [(25,.v (yV true A l c e))] ?_
   refine xqd 120 [yV true A l c e] 26 (fun _:Unit=>.agg #[.bool false,.slice A l c,.int .i64 e]) _ (fun w R Q=>yN (Zev true A l c x e _ Q.1.1.1.1.1 (by omega))) fun g=>?_
   refine xqf 2 [] [yF 3 79 false A l c e,yF 2 79 false B m d f,yF 3 79 true B m d f,yF 2 79 true A l c e] ?_
   refine xz (xe (zA (zC (zC ?_))))
   have K:0<y:=by omega
   have L:0<x:=by omega
   refine SXc.weak [(2,.p 2 0),(3,.p 3 0),yJ 4 0] [yF 3 79 false A l c e,yF 2 79 false B m d f] (xK.of (by kernel_rfl)) (by kernel_rfl) (fun _ h=>h) ?_
   refine yO 5 zL ?_
   refine xqg 1 [(27,.v (yV false B m d f))] ?_
   refine xqd 121 [yV false B m d f] 28 (fun _:Unit=>.int .i64 (((blen y:Nat):Int)+f)) _ (fun w R Q=>yN (jZ _ _ _ _ _ _ _ Q.1.1.1.1.1.2 (by omega) (by omega) (by omega))) fun g=>?_
   refine xqg 1 [(29,.v (yV false A l c e))] ?_
   refine xqd 121 [yV false A l c e] 30 (fun _:Unit=>.int .i64 (((blen x:Nat):Int)+e)) _ (fun w R Q=>yN (jZ _ _ _ _ _ _ _ Q.1.1.1.1.1.1.1 (by omega) (by omega) (by omega))) fun g=>?_
   refine xqg 1 [(31,.v (.bool (((((blen y:Nat):Int)+f):Int) != (((blen x:Nat):Int)+e))))] ?_
   refine xz (xe (zA ?_))
   refine yQ ((((((blen y:Nat):Int)+f):Int) != (((blen x:Nat):Int)+e))) (fun M=>?_) fun M=>?_
   ·have U:=ZaX M
    refine zC ?_
    refine yO 6 zL ?_
    refine xqg 1 [(32,.v (yV false B m d f))] ?_
    refine xqd 121 [yV false B m d f] 33 (fun _:Unit=>.int .i64 (((blen y:Nat):Int)+f)) _ (fun w R Q=>yN (jZ _ _ _ _ _ _ _ Q.1.1.1.1.1.1.1.2 (by omega) (by omega) (by omega))) fun g=>?_
    refine xqg 1 [(34,.v (yV false A l c e))] ?_
    refine xqd 121 [yV false A l c e] 35 (fun _:Unit=>.int .i64 (((blen x:Nat):Int)+e)) _ (fun w R Q=>yN (jZ _ _ _ _ _ _ _ Q.1.1.1.1.1.1.1.1.1 (by omega) (by omega) (by omega))) fun g=>?_
    refine xqg 1 [(36,.v (.int .i64 (IntKind.i64.wrap ((((blen y:Nat):Int)+f)-(((blen x:Nat):Int)+e)))))] ?_
    rw[yW ((((blen y:Nat):Int)+f)-(((blen x:Nat):Int)+e)) ((((blen y:Nat):Int)+f)-(((blen x:Nat):Int)+e)) (by omega)]
    refine xqg 1 [yJ 4 ((((blen y:Nat):Int)+f)-(((blen x:Nat):Int)+e))] ?_
    refine xz (xe (zA (zG (zI ?_))))
    refine yR (.int .i64 ((((blen y:Nat):Int)+f)-(((blen x:Nat):Int)+e))) fun w' R Q=>?_
    exact⟨_,rfl,⟨by rw[Zl0];rw[Zki K L (by omega)],by omega,by omega⟩,R⟩
   have U:=ZaY M
   refine zN (zA (zC ?_))
   obtain⟨k,E⟩:=yE (min f e)
   obtain⟨N,V⟩:∃ u:Nat,f-k=u:=uB (by omega)
   obtain⟨O,W⟩:∃ u:Nat,e-k=u:=uB (by omega)
   have b0:=jG K
   have c0:=jG L
   have X:N≤100000000:=by omega
   have Y:O≤100000000:=by omega
   obtain⟨a,Z⟩:=yE (y*2^N)
   obtain⟨b,H⟩:=yE (x*2^O)
   have d0:wl a≤4000000:=by rw[←Z];exact aB (by omega) X
   have e0:wl b≤4000000:=by rw[←H];exact aB (by omega) Y
   have hS:cmpV false y f false x e=cmpN false a false b:=by rw[Zbs E V W,Z,H]
   obtain⟨n1,n2,n3⟩:=Zkj a b
   refine zB (xq 5 [yJ 41 (if e<f then e else f)] [] ?_)
   rw[(show (if e<f then e else f)=k from bH.trans E)]
   refine xq 1 [yJ 5 k] [] ?_
   refine xe (zA (zC ?_))
   refine SXc.weak [(2,.p 2 0),(3,.p 3 0),yJ 4 0,yJ 5 k] [yF 3 79 false A l c e,yF 2 79 false B m d f] (xK.of (by kernel_rfl)) (by kernel_rfl) (fun _ h=>h) ?_
   refine yO 16 zL ?_
   refine xqg 6 [eS1 43 B m d,yJ 47 (IntKind.i64.wrap (f-k))] ?_
   rw[yW (f-k) ((N:Int)) (by omega)]
   refine xqd 66 [.slice B m d,.int .i64 (N:Int)] 48 xH _ (fun w R Q=>(kL N Q.1.1.1.1.1.1.1.2 (by omega) (by omega)).mono (fun _ _ h=>xD (by rw[Z] at h;exact h))) fun⟨f0,g0,h0⟩=>?_
   refine xqg 6 [eS1 50 A l c,yJ 54 (IntKind.i64.wrap (e-k))] ?_
   rw[yW (e-k) ((O:Int)) (by omega)]
   refine xqd 66 [.slice A l c,.int .i64 (O:Int)] 55 xH _ (fun w R Q=>(kL O Q.1.1.1.1.1.1.1.1.1 (by omega) (by omega)).mono (fun _ _ h=>xD (by rw[H] at h;exact h))) fun⟨i0,j0,k0⟩=>?_
   refine xqd 122 [.slice f0 g0 h0,.slice i0 j0 k0] 56 (fun _:Unit=>.int .i64 (cmpI (a:Int) (b:Int))) _ (fun w R Q=>yN (iM Q.1.2 Q.2 (by omega))) fun g=>?_
   refine xqg 1 [yJ 4 (cmpI (a:Int) (b:Int))] ?_
   refine xz (xe (zA (zG ?_)))
   refine yR (.int .i64 (cmpI (a:Int) (b:Int))) fun w' R Q=>?_
   exact⟨_,rfl,⟨by rw[Zl0];rw[hS];exact n1,by omega,by omega⟩,R⟩
  have n:t=false:=by simpa using o
  clear o q
  subst n
  refine zB (xq 3 [(2,.p 2 0),(3,.p 3 0),yJ 4 0] [yF 3 79 false B m d f,yF 2 79 true A l c e] ?_)
  refine xe (zA (zC (zC ?_)))
  refine yO 10 zL ?_
  refine xqg 1 [(6,.v (yV true A l c e))] ?_
  refine xqd 119 [yV true A l c e] 7 (fun _:Unit=>.int .i64 (-1)) _ (fun w R Q=>(xN true A l c x e _ Q.1).mono (fun _ _ h=>zD h (by rw[uJ i,uL rfl]))) fun g=>?_
  refine xqg 1 [(8,.v (yV false B m d f))] ?_
  refine xqd 119 [yV false B m d f] 9 (fun _:Unit=>.int .i64 1) _ (fun w R Q=>(xN false B m d y f _ Q.1.2).mono (fun _ _ h=>zD h (by rw[uJ j,uJ (by decide)]))) fun g=>?_
  refine xqg 6 [yB 15 true] ?_
  refine xz (xe (zA (xa (zC ?_))))
  refine yO 6 zL ?_
  refine xqg 1 [(16,.v (yV true A l c e))] ?_
  refine xqd 119 [yV true A l c e] 17 (fun _:Unit=>.int .i64 (-1)) _ (fun w R Q=>(xN true A l c x e _ Q.1.1.1).mono (fun _ _ h=>zD h (by rw[uJ i,uL rfl]))) fun g=>?_
  refine xqg 1 [(18,.v (yV false B m d f))] ?_
  refine xqd 119 [yV false B m d f] 19 (fun _:Unit=>.int .i64 1) _ (fun w R Q=>(xN false B m d y f _ Q.1.1.1.2).mono (fun _ _ h=>zD h (by rw[uJ j,uJ (by decide)]))) fun g=>?_
  refine xqg 1 [yJ 20 (IntKind.i64.wrap ((-1)-1))] ?_
  rw[show (IntKind.i64.wrap ((-1)-1)) = -2 from rfl]
  refine xqg 1 [yJ 4 (-2)] ?_
  refine xz (xe (zA (zG (zI ?_))))
  refine yR (.int .i64 (-2)) fun w' R Q=>?_
  obtain⟨a,b,I,r,z,C,D⟩:=aI true x e false y f
  have F:=r (by omega)
  have G:=z (by omega)
  exact⟨_,rfl,⟨by rw[I];unfold cmpN sg;simp only[pS,qU,tT];first|exact Zbv (by omega) (by omega)|exact Zbw (by omega) (by omega),by omega,by omega⟩,R⟩
 have J:s=false:=by simpa using T
 clear T S
 subst J
 by_cases j:y=0
 ·have n:t=false:=by cases t with|false=>rfl|true=>exact absurd (q rfl) (by omega)
  clear q
  subst n
  refine zB (xq 3 [(2,.p 2 0),(3,.p 3 0),yJ 4 0] [yF 3 79 false B m d f,yF 2 79 false A l c e] ?_)
  refine xe (zA (zC (zC ?_)))
  refine yO 10 zL ?_
  refine xqg 1 [(6,.v (yV false A l c e))] ?_
  refine xqd 119 [yV false A l c e] 7 (fun _:Unit=>.int .i64 1) _ (fun w R Q=>(xN false A l c x e _ Q.1).mono (fun _ _ h=>zD h (by rw[uJ i,uJ (by decide)]))) fun g=>?_
  refine xqg 1 [(8,.v (yV false B m d f))] ?_
  refine xqd 119 [yV false B m d f] 9 (fun _:Unit=>.int .i64 0) _ (fun w R Q=>(xN false B m d y f _ Q.1.2).mono (fun _ _ h=>zD h (by rw[uL j]))) fun g=>?_
  refine xqg 6 [yB 15 true] ?_
  refine xz (xe (zA (xa (zC ?_))))
  refine yO 6 zL ?_
  refine xqg 1 [(16,.v (yV false A l c e))] ?_
  refine xqd 119 [yV false A l c e] 17 (fun _:Unit=>.int .i64 1) _ (fun w R Q=>(xN false A l c x e _ Q.1.1.1).mono (fun _ _ h=>zD h (by rw[uJ i,uJ (by decide)]))) fun g=>?_
  refine xqg 1 [(18,.v (yV false B m d f))] ?_
  refine xqd 119 [yV false B m d f] 19 (fun _:Unit=>.int .i64 0) _ (fun w R Q=>(xN false B m d y f _ Q.1.1.1.2).mono (fun _ _ h=>zD h (by rw[uL j]))) fun g=>?_
  refine xqg 1 [yJ 20 (IntKind.i64.wrap (1-0))] ?_
  rw[show (IntKind.i64.wrap (1-0))=1 from rfl]
  refine xqg 1 [yJ 4 1] ?_
  refine xz (xe (zA (zG (zI ?_))))
  refine yR (.int .i64 1) fun w' R Q=>?_
  obtain⟨a,b,I,r,z,C,D⟩:=aI false x e false y f
  have F:=r (by omega)
  have G:=D j
  exact⟨_,rfl,⟨by rw[I];unfold cmpN sg;simp only[qU,tT];first|exact Zbv (by omega) (by omega)|exact Zbw (by omega) (by omega),by omega,by omega⟩,R⟩
 by_cases o:t=true
 ·have n:t=true:=by simpa using o
  clear o q
  subst n
  refine zB (xq 3 [(2,.p 2 0),(3,.p 3 0),yJ 4 0] [yF 3 79 true B m d f,yF 2 79 false A l c e] ?_)
  refine xe (zA (zC (zC ?_)))
  refine yO 10 zL ?_
  refine xqg 1 [(6,.v (yV false A l c e))] ?_
  refine xqd 119 [yV false A l c e] 7 (fun _:Unit=>.int .i64 1) _ (fun w R Q=>(xN false A l c x e _ Q.1).mono (fun _ _ h=>zD h (by rw[uJ i,uJ (by decide)]))) fun g=>?_
  refine xqg 1 [(8,.v (yV true B m d f))] ?_
  refine xqd 119 [yV true B m d f] 9 (fun _:Unit=>.int .i64 (-1)) _ (fun w R Q=>(xN true B m d y f _ Q.1.2).mono (fun _ _ h=>zD h (by rw[uJ j,uL rfl]))) fun g=>?_
  refine xqg 6 [yB 15 true] ?_
  refine xz (xe (zA (xa (zC ?_))))
  refine yO 6 zL ?_
  refine xqg 1 [(16,.v (yV false A l c e))] ?_
  refine xqd 119 [yV false A l c e] 17 (fun _:Unit=>.int .i64 1) _ (fun w R Q=>(xN false A l c x e _ Q.1.1.1).mono (fun _ _ h=>zD h (by rw[uJ i,uJ (by decide)]))) fun g=>?_
  refine xqg 1 [(18,.v (yV true B m d f))] ?_
  refine xqd 119 [yV true B m d f] 19 (fun _:Unit=>.int .i64 (-1)) _ (fun w R Q=>(xN true B m d y f _ Q.1.1.1.2).mono (fun _ _ h=>zD h (by rw[uJ j,uL rfl]))) fun g=>?_
  refine xqg 1 [yJ 20 (IntKind.i64.wrap (1-(-1)))] ?_
  rw[show (IntKind.i64.wrap (1-(-1)))=2 from rfl]
  refine xqg 1 [yJ 4 2] ?_
  refine xz (xe (zA (zG (zI ?_))))
  refine yR (.int .i64 2) fun w' R Q=>?_
  obtain⟨a,b,I,r,z,C,D⟩:=aI false x e true y f
  have F:=r (by omega)
  have G:=z (by omega)
  exact⟨_,rfl,⟨by rw[I];unfold cmpN sg;simp only[pS,qU,tT];first|exact Zbv (by omega) (by omega)|exact Zbw (by omega) (by omega),by omega,by omega⟩,R⟩
 have n:t=false:=by simpa using o
 clear o q
 subst n
 refine zB (xq 3 [(2,.p 2 0),(3,.p 3 0),yJ 4 0] [yF 3 79 false B m d f,yF 2 79 false A l c e] ?_)
 refine xe (zA (zC (zC ?_)))
 refine yO 10 zL ?_
 refine xqg 1 [(6,.v (yV false A l c e))] ?_
 refine xqd 119 [yV false A l c e] 7 (fun _:Unit=>.int .i64 1) _ (fun w R Q=>(xN false A l c x e _ Q.1).mono (fun _ _ h=>zD h (by rw[uJ i,uJ (by decide)]))) fun g=>?_
 refine xqg 1 [(8,.v (yV false B m d f))] ?_
 refine xqd 119 [yV false B m d f] 9 (fun _:Unit=>.int .i64 1) _ (fun w R Q=>(xN false B m d y f _ Q.1.2).mono (fun _ _ h=>zD h (by rw[uJ j,uJ (by decide)]))) fun g=>?_
 refine xqg 3 [yB 11 false,(12,.v (yV false A l c e))] ?_
 refine xqd 119 [yV false A l c e] 13 (fun _:Unit=>.int .i64 1) _ (fun w R Q=>(xN false A l c x e _ Q.1.1.1).mono (fun _ _ h=>zD h (by rw[uJ i,uJ (by decide)]))) fun g=>?_
 refine xqg 2 [yB 15 false] ?_
 refine xz (xe (zA (xb (zN (zA (zC (zC (zB (xq 2 [yB 22 false] [] ?_)))))))))
 refine xe (zA (xb (zN (zA (zC (zC ?_))))))
 have K:0<x:=by omega
 have L:0<y:=by omega
 refine yO 5 zL ?_
 refine xqg 1 [(27,.v (yV false A l c e))] ?_
 refine xqd 121 [yV false A l c e] 28 (fun _:Unit=>.int .i64 (((blen x:Nat):Int)+e)) _ (fun w R Q=>yN (jZ _ _ _ _ _ _ _ Q.1.1.1.1 (by omega) (by omega) (by omega))) fun g=>?_
 refine xqg 1 [(29,.v (yV false B m d f))] ?_
 refine xqd 121 [yV false B m d f] 30 (fun _:Unit=>.int .i64 (((blen y:Nat):Int)+f)) _ (fun w R Q=>yN (jZ _ _ _ _ _ _ _ Q.1.1.1.1.2 (by omega) (by omega) (by omega))) fun g=>?_
 refine xqg 1 [(31,.v (.bool (((((blen x:Nat):Int)+e):Int) != (((blen y:Nat):Int)+f))))] ?_
 refine xz (xe (zA ?_))
 refine yQ ((((((blen x:Nat):Int)+e):Int) != (((blen y:Nat):Int)+f))) (fun P=>?_) fun P=>?_
 ·have a0:=ZaX P
  refine zC ?_
  refine yO 6 zL ?_
  refine xqg 1 [(32,.v (yV false A l c e))] ?_
  refine xqd 121 [yV false A l c e] 33 (fun _:Unit=>.int .i64 (((blen x:Nat):Int)+e)) _ (fun w R Q=>yN (jZ _ _ _ _ _ _ _ Q.1.1.1.1.1.1 (by omega) (by omega) (by omega))) fun g=>?_
  refine xqg 1 [(34,.v (yV false B m d f))] ?_
  refine xqd 121 [yV false B m d f] 35 (fun _:Unit=>.int .i64 (((blen y:Nat):Int)+f)) _ (fun w R Q=>yN (jZ _ _ _ _ _ _ _ Q.1.1.1.1.1.1.2 (by omega) (by omega) (by omega))) fun g=>?_
  refine xqg 1 [(36,.v (.int .i64 (IntKind.i64.wrap ((((blen x:Nat):Int)+e)-(((blen y:Nat):Int)+f)))))] ?_
  rw[yW ((((blen x:Nat):Int)+e)-(((blen y:Nat):Int)+f)) ((((blen x:Nat):Int)+e)-(((blen y:Nat):Int)+f)) (by omega)]
  refine xqg 1 [yJ 4 ((((blen x:Nat):Int)+e)-(((blen y:Nat):Int)+f))] ?_
  refine xz (xe (zA (zG (zI ?_))))
  refine yR (.int .i64 ((((blen x:Nat):Int)+e)-(((blen y:Nat):Int)+f))) fun w' R Q=>?_
  exact⟨_,rfl,⟨by rw[Zki K L (by omega)],by omega,by omega⟩,R⟩
 have a0:=ZaY P
 refine zN (zA (zC ?_))
 obtain⟨k,E⟩:=yE (min e f)
 obtain⟨N,V⟩:∃ u:Nat,e-k=u:=uB (by omega)
 obtain⟨O,W⟩:∃ u:Nat,f-k=u:=uB (by omega)
 have b0:=jG K
 have c0:=jG L
 have X:N≤100000000:=by omega
 have Y:O≤100000000:=by omega
 obtain⟨a,Z⟩:=yE (x*2^N)
 obtain⟨b,H⟩:=yE (y*2^O)
 have d0:wl a≤4000000:=by rw[←Z];exact aB (by omega) X
 have e0:wl b≤4000000:=by rw[←H];exact aB (by omega) Y
 have hS:cmpV false x e false y f=cmpN false a false b:=by rw[Zbs E V W,Z,H]
 obtain⟨n1,n2,n3⟩:=Zkj a b
 refine zB (xq 5 [yJ 41 (if f<e then f else e)] [] ?_)
 rw[(show (if f<e then f else e)=k from bH.trans E)]
 refine xq 1 [yJ 5 k] [] ?_
 refine xe (zA (zC ?_))
 refine SXc.weak [(2,.p 2 0),(3,.p 3 0),yJ 4 0,yJ 5 k] [yF 3 79 false B m d f,yF 2 79 false A l c e] (xK.of (by kernel_rfl)) (by kernel_rfl) (fun _ h=>h) ?_
 refine yO 16 zL ?_
 refine xqg 6 [eS1 43 A l c,yJ 47 (IntKind.i64.wrap (e-k))] ?_
 rw[yW (e-k) ((N:Int)) (by omega)]
 refine xqd 66 [.slice A l c,.int .i64 (N:Int)] 48 xH _ (fun w R Q=>(kL N Q.1.1.1.1.1.1 (by omega) (by omega)).mono (fun _ _ h=>xD (by rw[Z] at h;exact h))) fun⟨l0,m0,n0⟩=>?_
 refine xqg 6 [eS1 50 B m d,yJ 54 (IntKind.i64.wrap (f-k))] ?_
 rw[yW (f-k) ((O:Int)) (by omega)]
 refine xqd 66 [.slice B m d,.int .i64 (O:Int)] 55 xH _ (fun w R Q=>(kL O Q.1.1.1.1.1.1.2 (by omega) (by omega)).mono (fun _ _ h=>xD (by rw[H] at h;exact h))) fun⟨o0,p0,q0⟩=>?_
 refine xqd 122 [.slice l0 m0 n0,.slice o0 p0 q0] 56 (fun _:Unit=>.int .i64 (cmpI (a:Int) (b:Int))) _ (fun w R Q=>yN (iM Q.1.2 Q.2 (by omega))) fun g=>?_
 refine xqg 1 [yJ 4 (cmpI (a:Int) (b:Int))] ?_
 refine xz (xe (zA (zG ?_)))
 refine yR (.int .i64 (cmpI (a:Int) (b:Int))) fun w' R Q=>?_
 exact⟨_,rfl,⟨by rw[hS];exact n1,by omega,by omega⟩,R⟩
theorem cX {l:List UInt8}{x:Int}(b:l.length≤100000):wl (ldR l x).m≤100000 ∧ -1048576≤(ldR l x).e∧(ldR l x).e≤1048576∧((ldR l x).s=true→0<(ldR l x).m):=by
 refine⟨fZ b,?_⟩
 by_cases a:fvB l x=true
 ·have h:=kG a
  rw[show ldR l x=⟨(zQ l).1,zH (zQ l).2,x,0⟩ from uL a]
  exact⟨h.1,h.2.1,h.2.2.2⟩
 rw[show ldR l x=⟨false,0,0,0⟩ from uJ a]
 exact⟨by show (-1048576:Int)≤0;omega,by show (0:Int)≤1048576;omega,fun h=>by cases h⟩
def cmpL (l l':List UInt8) (x y:Int):Int:=cmpV (ldR l x).s (ldR l x).m (ldR l x).e (ldR l' y).s (ldR l' y).m (ldR l' y).e
theorem gN (s t:ByteArray)(x y:Int)(w:World)(P:(bytes s).length≤100000)(k:(bytes t).length≤100000) :
 yA 43 #[yS s x, yS t y] w (RetV w (.int .i64 (cmpL (bytes s) (bytes t) x y))):=by
 unfold cmpL
 refine zV (Φ:=fun w=>True) Tryz.func43 rfl (by kernel_rfl) (fun w' hf=>trivial) ?_
 refine zC (zB (xq 3 [(2,.p 2 0),(3,.p 3 0),yJ 4 0] [yG 3 24 t y,yG 2 24 s x] ?_))
 refine xe (zA (zC (zB (xq 1 [(10,.v (yS s x))] [] ?_))))
 by_cases hv:fvB (bytes s) x=true
 ·obtain⟨a,b⟩:=yE (ldR (bytes s) x)
  have h0:=kG hv
  have i0:wl a.m≤100000:=by rw[←b];exact fZ P
  have j0:a.e=x:=by rw[←b,show ldR (bytes s) x=_ from uL hv]
  have k0:a.s=true→0<a.m:=by rw[←b,show ldR (bytes s) x=_ from uL hv];exact h0.2.2.2
  refine xqc 64 [yS s x] 11 (shLd true a) _ (fun w R Q=>yM wP ((show Calls _ _ _ _ (lQ w true a) by rw[←b,← hv];exact xY s x _ P))) fun⟨C,D,E⟩=>?_
  refine xq 6 [(5,.p 5 0)] [yF 5 79 a.s C D E a.e] ?_
  refine xe (zA (zC (zB (xq 1 [(15,.v (yS t y))] [] ?_))))
  by_cases g:fvB (bytes t) y=true
  ·obtain⟨c,n⟩:=yE (ldR (bytes t) y)
   have F:=kG g
   have e0:wl c.m≤100000:=by rw[←n];exact fZ k
   have f0:c.e=y:=by rw[←n,show ldR (bytes t) y=_ from uL g]
   have g0:c.s=true→0<c.m:=by rw[←n,show ldR (bytes t) y=_ from uL g];exact F.2.2.2
   refine xqc 64 [yS t y] 16 (shLd true c) _ (fun w R Q=>yM wP ((show Calls _ _ _ _ (lQ w true c) by rw[←n,← g];exact xY t y _ k))) fun⟨S,T,U⟩=>?_
   refine xq 6 [(7,.p 7 0)] [yF 7 79 c.s S T U c.e] ?_
   refine xe (zA (zC ?_))
   have h:=cX (l:=bytes s) (x:=x) P
   rw[b] at h
   obtain⟨z,G,H,A⟩:=h
   have i:=cX (l:=bytes t) (x:=y) k
   rw[n] at i
   obtain⟨B,I,J,j⟩:=i
   refine zB (xq 2 [(19,.v (yV a.s C D E a.e)),(20,.v (yV c.s S T U c.e))] [] ?_)
   refine xqc 80 [yV a.s C D E a.e, yV c.s S T U c.e] 21 (fun v:Int=>.int .i64 v) _ (fun w R Q=>yM ZeU (aD _ _ _ _ _ _ _ _ _ _ _ _ _ Q.1.2 z (by omega) (by omega) Q.2 B (by omega) (by omega) A j)) fun v=>?_
   refine xq 1 [yJ 22 (if (-1)>v then (-1) else v)] [] ?_
   rw[ZeV]
   refine xq 1 [yJ 23 (if 1<(max v ((-1))) then 1 else (max v ((-1))))] [] ?_
   rw[bH]
   refine xq 1 [(4,.v (.int .i64 (min ((max v ((-1)))) 1)))] [] ?_
   refine xe (zA (zG ?_))
   refine yR (.int .i64 (min ((max v ((-1)))) 1)) fun w' R Q=>?_
   exact⟨by rw[Zbk,(Q.2).1,b,n],R⟩
  obtain⟨q,K⟩:=yE (ldR (bytes t) y)
  refine xqc 64 [yS t y] 16 (shLd false q) _ (fun w R Q=>yM wP ((show Calls _ _ _ _ (lQ w false q) by rw[←K,← vK.2 g];exact xY t y _ k))) fun⟨V,W,X⟩=>?_
  refine xq 6 [(7,.p 7 0)] [yF 7 79 q.s V W X q.e] ?_
  refine xe (zA (zC ?_))
  have h:=cX (l:=bytes s) (x:=x) P
  rw[b] at h
  obtain⟨z,G,H,A⟩:=h
  have i:=cX (l:=bytes t) (x:=y) k
  rw[K] at i
  obtain⟨B,I,J,j⟩:=i
  refine zB (xq 2 [(19,.v (yV a.s C D E a.e)),(20,.v (yV q.s V W X q.e))] [] ?_)
  refine xqc 80 [yV a.s C D E a.e, yV q.s V W X q.e] 21 (fun v:Int=>.int .i64 v) _ (fun w R Q=>yM ZeU (aD _ _ _ _ _ _ _ _ _ _ _ _ _ Q.1.2 z (by omega) (by omega) Q.2 B (by omega) (by omega) A j)) fun v=>?_
  refine xq 1 [yJ 22 (if (-1)>v then (-1) else v)] [] ?_
  rw[ZeV]
  refine xq 1 [yJ 23 (if 1<(max v ((-1))) then 1 else (max v ((-1))))] [] ?_
  rw[bH]
  refine xq 1 [(4,.v (.int .i64 (min ((max v ((-1)))) 1)))] [] ?_
  refine xe (zA (zG ?_))
  refine yR (.int .i64 (min ((max v ((-1)))) 1)) fun w' R Q=>?_
  exact⟨by rw[Zbk,(Q.2).1,b,K],R⟩
 obtain⟨d,r⟩:=yE (ldR (bytes s) x)
 refine xqc 64 [yS s x] 11 (shLd false d) _ (fun w R Q=>yM wP ((show Calls _ _ _ _ (lQ w false d) by rw[←r,← vK.2 hv];exact xY s x _ P))) fun⟨L,M,N⟩=>?_
 refine xq 6 [(5,.p 5 0)] [yF 5 79 d.s L M N d.e] ?_
 refine xe (zA (zC (zB (xq 1 [(15,.v (yS t y))] [] ?_))))
 by_cases g:fvB (bytes t) y=true
 ·obtain⟨f,o⟩:=yE (ldR (bytes t) y)
  have F:=kG g
  have e0:wl f.m≤100000:=by rw[←o];exact fZ k
  have f0:f.e=y:=by rw[←o,show ldR (bytes t) y=_ from uL g]
  have g0:f.s=true→0<f.m:=by rw[←o,show ldR (bytes t) y=_ from uL g];exact F.2.2.2
  refine xqc 64 [yS t y] 16 (shLd true f) _ (fun w R Q=>yM wP ((show Calls _ _ _ _ (lQ w true f) by rw[←o,← g];exact xY t y _ k))) fun⟨Y,Z,a0⟩=>?_
  refine xq 6 [(7,.p 7 0)] [yF 7 79 f.s Y Z a0 f.e] ?_
  refine xe (zA (zC ?_))
  have h:=cX (l:=bytes s) (x:=x) P
  rw[r] at h
  obtain⟨z,G,H,A⟩:=h
  have i:=cX (l:=bytes t) (x:=y) k
  rw[o] at i
  obtain⟨B,I,J,j⟩:=i
  refine zB (xq 2 [(19,.v (yV d.s L M N d.e)),(20,.v (yV f.s Y Z a0 f.e))] [] ?_)
  refine xqc 80 [yV d.s L M N d.e, yV f.s Y Z a0 f.e] 21 (fun v:Int=>.int .i64 v) _ (fun w R Q=>yM ZeU (aD _ _ _ _ _ _ _ _ _ _ _ _ _ Q.1.2 z (by omega) (by omega) Q.2 B (by omega) (by omega) A j)) fun v=>?_
  refine xq 1 [yJ 22 (if (-1)>v then (-1) else v)] [] ?_
  rw[ZeV]
  refine xq 1 [yJ 23 (if 1<(max v ((-1))) then 1 else (max v ((-1))))] [] ?_
  rw[bH]
  refine xq 1 [(4,.v (.int .i64 (min ((max v ((-1)))) 1)))] [] ?_
  refine xe (zA (zG ?_))
  refine yR (.int .i64 (min ((max v ((-1)))) 1)) fun w' R Q=>?_
  exact⟨by rw[Zbk,(Q.2).1,r,o],R⟩
 obtain⟨u,O⟩:=yE (ldR (bytes t) y)
 refine xqc 64 [yS t y] 16 (shLd false u) _ (fun w R Q=>yM wP ((show Calls _ _ _ _ (lQ w false u) by rw[←O,← vK.2 g];exact xY t y _ k))) fun⟨b0,c0,d0⟩=>?_
 refine xq 6 [(7,.p 7 0)] [yF 7 79 u.s b0 c0 d0 u.e] ?_
 refine xe (zA (zC ?_))
 have h:=cX (l:=bytes s) (x:=x) P
 rw[r] at h
 obtain⟨z,G,H,A⟩:=h
 have i:=cX (l:=bytes t) (x:=y) k
 rw[O] at i
 obtain⟨B,I,J,j⟩:=i
 refine zB (xq 2 [(19,.v (yV d.s L M N d.e)),(20,.v (yV u.s b0 c0 d0 u.e))] [] ?_)
 refine xqc 80 [yV d.s L M N d.e, yV u.s b0 c0 d0 u.e] 21 (fun v:Int=>.int .i64 v) _ (fun w R Q=>yM ZeU (aD _ _ _ _ _ _ _ _ _ _ _ _ _ Q.1.2 z (by omega) (by omega) Q.2 B (by omega) (by omega) A j)) fun v=>?_
 refine xq 1 [yJ 22 (if (-1)>v then (-1) else v)] [] ?_
 rw[ZeV]
 refine xq 1 [yJ 23 (if 1<(max v ((-1))) then 1 else (max v ((-1))))] [] ?_
 rw[bH]
 refine xq 1 [(4,.v (.int .i64 (min ((max v ((-1)))) 1)))] [] ?_
 refine xe (zA (zG ?_))
 refine yR (.int .i64 (min ((max v ((-1)))) 1)) fun w' R Q=>?_
 exact⟨by rw[Zbk,(Q.2).1,r,O],R⟩
end Go.Proofs.YtklpdkpcocnglaaGreatDoor
namespace Go.Proofs.YtklpdkpcocnglaaGreatDoor
theorem Zos {n k:Nat}(h:n<10^k):blen n≤4*k:=xF.2 (uQ h (by
 rw[sZ];exact sF (by decide) k))
structure RF (v:Rat) (n:Nat) (z x:Int):Prop where
 r:RndS n v (qv z x)
 c:(z=0∧x=0)∨(z%2=1∧okE x)
 b:blen z.natAbs≤n
theorem RF.vz {v:Rat}{n:Nat}{z x:Int}(h:RF v n z x):Vz z x:=h.c.imp id (fun h=>h.1)
theorem RF.rep {v:Rat}{n:Nat}{z x:Int}(h:RF v n z x):Rep n (qv z x):=by
 refine⟨decide (z<0),z.natAbs,x,?_,rT (xF.1 h.b)⟩
 have:=Zm2 (decide (z<0)) z.natAbs x
 rw[Zad] at this
 exact this
theorem ZpL {v:Rat}{n a d:Nat}(l:8≤n)(C:n≤150)(D:blen v.num.natAbs≤a)(E:blen v.den≤d)(ha:a≤4000)(F:d≤4000) :
 ∃ z x,rndF v n=⟨(rndF v n).s,z.natAbs,x,0⟩∧sg (rndF v n).s (rndF v n).m=z∧RF v n z x ∧ -(d+n+2:Int)≤x∧x≤a+2:=by
 obtain⟨G,e⟩:=Zq3 (v:=v) (n:=n) (by omega) (by omega) (by omega) (by omega)
 have b:=v.den_pos
 rcases uI v.num.natAbs with f|f
 ·have g:rndF v n=Zgn:=by unfold rndF;rw[f,jQ]
  rw[g] at e ⊢
  exact⟨0,0,rfl,rfl,⟨e,Or.inl ⟨rfl,rfl⟩,by rw[show (0:Int).natAbs=0 from rfl,jI];omega⟩,by omega,by omega⟩
 have h:=Zea f b (show 0<n by omega)
 have i:0<rndM v.num.natAbs v.den n:=by have:=h.ml;have:=p2 (n-1);omega
 have p:blen (rndM v.num.natAbs v.den n)≤n+1:=xF.2 (vE h.mh (by rw[uO];have:=p2 n;omega))
 have q:=aH i
 have r:=jG f
 have j:=jG b
 have t:=Zht (n:=v.num.natAbs) (d:=v.den) (bits:=n) (k:=rndK v.num.natAbs v.den n) (Or.inr rfl)
 have c:okE (0+rndK v.num.natAbs v.den n+tzn (rndM v.num.natAbs v.den n)):=by constructor<;>omega
 obtain⟨u,w⟩:=Zeu (s:=decide (v.num<0)) i c
 have g:rndF v n=⟨decide (v.num<0),oddM (rndM v.num.natAbs v.den n),0+rndK v.num.natAbs v.den n+tzn (rndM v.num.natAbs v.den n),0⟩:=by
  unfold rndF wN
  rw[uJ (by omega)]
  exact u
 rw[g] at e ⊢
 obtain⟨y,H⟩:=kZ i
 refine⟨sg (decide (v.num<0)) (oddM (rndM v.num.natAbs v.den n)),0+rndK v.num.natAbs v.den n+tzn (rndM v.num.natAbs v.den n),by rw[Zbh],rfl,⟨e,Or.inr ⟨ZcO y,c⟩,?_⟩,by omega,by omega⟩
 rw[Zbh]
 by_cases A:rndM v.num.natAbs v.den n=2^n
 ·have B:oddM (rndM v.num.natAbs v.den n)=1:=by
   rw[A]
   have:=ZcE (o:=1) (by decide) n
   rwa [sV] at this
  rw[B]
  exact xF.2 (by
   have I:2^1≤2^n:=uR (by decide) (by omega)
   omega)
 have J:=h.mh
 refine xF.2 (vE ?_ (show rndM v.num.natAbs v.den n<2^n by omega))
 unfold oddM
 exact uZ _ _
theorem ZgQ {z x z' y:Int}(h:Vz z x)(a:Vz z' y)(e:qv z x=qv z' y):z=z'∧x=y:=by
 refine (ZpK h a).1 ?_
 rw[←Zor h a,gW,gW,e,Rat.sub_self]
 rfl
theorem RF.again {v:Rat}{n:Nat}{z x z' y:Int}(a:0<n)(h:RF v n z x)(k:RF (qv z x) n z' y):z'=z∧y=x :=
 ZgQ k.vz h.vz (k.r.self a h.rep)
theorem RF.mono {p q:Rat}{n:Nat}{z x z' y:Int}(i:0<n)(h:RF p n z x)(k:RF q n z' y)(f:p=q→z=z'∧x=y):((p-q).num.sign≤0→cmpZ z x z' y≤0)∧(0≤(p-q).num.sign→0≤cmpZ z x z' y):=by
 rw[←Zor h.vz k.vz,gW,gW]
 have c:∀ a b:Rat,(a-b).num.sign≤0↔a≤b:=fun a b=>by
  rw[Int.sign_nonpos_iff]
  have:(a-b).num≤0↔a-b≤0:=by
   constructor
   ·intro h
    have j:0 ≤ -(a-b):=rF.1 (by rw[Rat.neg_num];omega)
    grind
   intro h
   have j:=rF.2 (show 0 ≤ -(a-b) by grind)
   rw[Rat.neg_num] at j
   omega
  rw[this]
  constructor<;>intro h<;>grind
 have d:∀ a b:Rat,0≤(a-b).num.sign↔b≤a:=fun a b=>by
  rw[Int.sign_nonneg_iff,rF]
  constructor<;>intro h<;>grind
 rw[c,c,d,d]
 constructor
 ·intro g
  by_cases e:p=q
  ·rw[(f e).1,(f e).2];exact pN
  exact h.r.mono i k.r (by grind)
 intro g
 by_cases e:p=q
 ·rw[(f e).1,(f e).2];exact pN
 exact k.r.mono i h.r (by grind)
end Go.Proofs.YtklpdkpcocnglaaGreatDoor
namespace Go.Proofs.YtklpdkpcocnglaaGreatDoor
open Go.RowKit
theorem ZhC {o:Oper}{ρ:Operand→Value}{w:World}(x y:Operand)(k:TypeId)(a b:ByteArray)(d d':Int)(r:Bool)(c:o.op=Op.binOp .neq 24 x y k)(e:ρ x=.agg #[.string a,.int .i64 d])(f:ρ y=.agg #[.string b,.int .i64 d'])(g:(!((a.toList == b.toList) && (d == d')))=r):(execOp ρ o).run Tryz.prog w=.ok (.value (.bool r)) w:=by
 have h:Tryz.prog.eqGuardType Tryz.prog.depth 24=false:=by kernel_rfl
 subst g
 simp only[execOp,c,e,f,Sem.run_bind,run_eqGuard_agg w _ _ _ _ _ _ h,Result.andThen_ok,run_neq_struct,ZlX,Sem.run_pure]
end Go.Proofs.YtklpdkpcocnglaaGreatDoor
namespace Go.Proofs.YtklpdkpcocnglaaGreatDoor
theorem ZaA {a b:Nat}(h:a<b):blen (2^a)≤b:=xF.2 (Nat.pow_lt_pow_right (by decide) h)
theorem cY {a n j b:Nat}(h:blen a≤n)(d:n+j≤b):blen (a*2^j)≤b:=by
 refine xF.2 ?_
 have c:a*2^j<2^n*2^j:=tF (xF.1 h) (p2 _)
 rw[←uS] at c
 exact uQ c (uR (by decide) d)
theorem ZfP {n k:Nat}(h:blen n≤64*k):(Lib.decDigits n).length≤20*k+1:=by
 have a:=ZeS n
 have b:wl n≤k:=kE.2 (by rw[show W64=2^64 by rw[zO],← sZ];exact xF.1 h)
 omega
theorem jA {z:Int}{k:Nat}(h:blen z.natAbs≤64*k):(Lib.itoa z).length≤20*k+2:=by
 have b:=ZfP h
 by_cases a:z<0
 ·rw[ZbR a,vH,show ([45]:List UInt8).length=1 from rfl];omega
 rw[ZcN (by omega)];omega
section
variable {v:Rat} {n:Nat} {z x:Int}
theorem RF.fv (h:RF v n z x):fvB (Lib.itoa z) x=true:=by rw[ZcP];exact uW h.c
theorem RF.ex (h:RF v n z x):xA (exQ z x)=exT (Lib.itoa z) x:=by
 have:=Zq2 h.fv
 rwa [lV] at this
theorem RF.read (h:RF v n z x):xS (exT (Lib.itoa z) x)=some (exQ z x):=by rw[←h.ex];exact Za0 _
theorem RF.val (h:RF v n z x):valF (exT (Lib.itoa z) x)=qv z x:=by rw[cU h.read,gW]
theorem RF.len (h:RF v n z x)(j:n≤150)(d : -1000≤x)(e:x≤1000):(exT (Lib.itoa z) x).length≤500:=by
 unfold exT
 rw[uL h.fv,lV]
 have f:=h.b
 by_cases a:z=0
 ·rw[uL a];exact (by decide:[48].length≤500)
 rw[uJ a]
 by_cases c:x<0
 ·rw[uL c,vH,vH,show ([47]:List UInt8).length=1 from rfl]
  have g:=jA (z:=z) (k:=3) (by omega)
  have l:=ZfP (n:=2^(-x).toNat) (k:=16) (ZaA (by omega))
  omega
 rw[uJ c]
 have i:(z*2^x.toNat).natAbs=z.natAbs*2^x.toNat:=by rw[tE,rG];rfl
 have g:=jA (z:=z*2^x.toNat) (k:=18) (by
  rw[i]
  exact cY f (by omega))
 omega
end
end Go.Proofs.YtklpdkpcocnglaaGreatDoor
namespace Go.Proofs.YtklpdkpcocnglaaGreatDoor
theorem ZrU (M:Nat)(s:Int):(fq M 1 (-s):Rat)≤(M:Rat)*2^s∧(M:Rat)*2^s<(fq M 1 (-s):Rat)+1∧(0≤s→(M:Rat)*2^s=(fq M 1 (-s):Rat)):=by
 rcases pT 0 s with h|h
 ·obtain⟨n,rfl⟩:=uB h
  rw[Zas,eF,tH]
  exact⟨pN,by grind,fun _=>rfl⟩
 obtain⟨j,b⟩:=uB (show 0 ≤ -s by omega)
 obtain⟨F,c⟩:=yE (fq M 1 (-s))
 have e:F=M/2^j:=by
  rw[←c,b]
  unfold fq fa fb
  rw[show (-(j:Int)).toNat=0 by omega,tN];simp
 rw[c]
 have g:F*2^j≤M:=by rw[e];exact rZ _ _
 have i:M<(F+1)*2^j:=by rw[e];exact (vG (p2 j)).1 (pE _)
 have d:=iI s
 have k:((2^j:Nat):Rat)*2^s=1:=by rw[←eF,← b];exact ZnB s
 have f:=Zcb d (vQ.2 g)
 have a:=(pA d).2 (pV.2 i)
 rw[tH,sE,k,Rat.mul_one] at f a
 rw[sG,show ((1:Nat):Rat)=1 from rfl] at a
 refine⟨f,a,fun o=>?_⟩
 have l:s=0:=by omega
 subst l
 have m:j=0:=by omega
 subst m
 rw[vT,rB] at e
 rw[e,show (2:Rat)^(0:Int)=1 from rfl,Rat.mul_one]
theorem Zot {y:Nat}{mk:Bool}{m:Nat}(h:iS y 0 mk=m):2*m≤y+1∧(y≤2*m∨(y=2*m+1∧mk=false)):=by
 subst h
 unfold iS
 simp only[vT,rB,Nat.mod_one,sC,Nat.pow_one,ne_eq,not_true,false_or]
 split
 ·omega
 rename_i h
 by_cases a:y%2=1
 ·have b:¬ (y/2%2=1∨mk=true):=fun e=>h ⟨a,e⟩
  have c:mk=false:=by
   cases mk
   ·rfl
   exact absurd (Or.inr rfl) b
  exact⟨by omega,Or.inr ⟨by omega,c⟩⟩
 omega
theorem ZpM {M bits:Nat}{E:Int}{m:Nat}(p:sqM M E bits=m)(B:1≤m) :
 (2*(m:Rat)-1)*(2*(m:Rat)-1)≤(M:Rat)*2^(E-2*sqK M E bits+2)∧(M:Rat)*2^(E-2*sqK M E bits+2)≤(2*(m:Rat)+1)*(2*(m:Rat)+1):=by
 unfold sqM at p
 generalize E-2*sqK M E bits+2=s at *
 obtain⟨a,b⟩:=Zot p
 obtain⟨r,t,d⟩:=ZrU M s
 obtain⟨f,i⟩:=eW (fq M 1 (-s))
 obtain⟨mk,c⟩:=yE (jJ M s)
 rw[c] at b
 generalize u:fq M 1 (-s)=F at *
 generalize v:isq F=y at *
 generalize (M:Rat)*2^s=X at *
 obtain⟨n,rfl⟩:∃ n,m=n+1:=⟨m-1,by omega⟩
 have q:((n+1:Nat):Rat)=(n:Rat)+1:=by rw[sG];rfl
 have j:((2:Nat):Rat)=2:=rfl
 have k:((1:Nat):Rat)=1:=rfl
 have w:((3:Nat):Rat)=3:=rfl
 constructor
 ·have g:(2*n+1)*(2*n+1)≤F:=uE (vV (by omega) (by omega)) f
  have l:=vQ.2 g
  simp only[tH,sG,k,j] at l
  rw[q]
  clear f i t d
  grind
 rcases b with b|⟨b,x⟩
 ·have g:F+1≤(2*n+3)*(2*n+3):=uE i (vV (by omega) (by omega))
  have l:=vQ.2 g
  simp only[tH,sG,k,j,w] at l
  rw[q]
  clear f i r d
  grind
 rw[x] at c
 unfold jJ at c
 have o:=uH c
 rw[u,v] at o
 have z:0≤s:=by
  rcases pR s 0 with h|h
  ·exact absurd (Or.inl h) o
  exact h
 have e:y*y=F:=tX fun h=>o (Or.inr h)
 have A:=d z
 rw[A,← e,b]
 simp only[tH,sG,k,j]
 exact pN
theorem Zl1 {a b:Rat}(c:0≤a)(h:a≤b):a*a≤b*b:=by
 have d:=vY h c
 have e:=tQ h (show 0≤b by grind)
 grind
theorem Zq5 {M bits m:Nat}{E K:Int}(t:0<bits)(w:sqM M E bits=m)(x:sqK M E bits=K)(c:2^(bits-1)≤m) :
 let v:=(m:Rat)*2^K;let d:=v*2^(-(bits:Int));let q:=(M:Rat)*2^E
 (v-d)*(v-d)≤q∧q≤(v+d)*(v+d):=by
 intro v d q
 have y:1≤m:=uE (p2 _) c
 obtain⟨l,n⟩:=ZpM w y
 rw[x] at l n
 have j:=iI (K-1)
 have J:=Zeb t
 have e:=iI (-(bits:Int))
 have z:(2:Rat)^K=2*2^(K-1):=by rw[←ZeN];congr 1;omega
 have A:(M:Rat)*2^(E-2*K+2)*((2:Rat)^(K-1)*2^(K-1))=q:=by
  show _=(M:Rat)*2^E
  rw[sE,← cL,← cL]
  congr 2;omega
 have f:((2^(bits-1):Nat):Rat)≤(m:Rat):=vQ.2 c
 have g:(1:Rat)≤((2^(bits-1):Nat):Rat):=by
  have:=vQ.2 (show 1≤2^(bits-1) from p2 _)
  simpa using this
 have k:v=2*(m:Rat)*2^(K-1):=by show (m:Rat)*2^K=_;rw[z];grind
 have h:d=v*2^(-(bits:Int)):=rfl
 generalize L:(M:Rat)*2^(E-2*K+2)=X at *
 generalize (2:Rat)^(K-1)=P at *
 generalize (2:Rat)^(-(bits:Int))=u at *
 generalize ((2^(bits-1):Nat):Rat)=H at *
 have i:0≤P*P:=Rat.mul_nonneg (sJ j) (sJ j)
 have o:=tQ l i
 have p:=tQ n i
 rw[A] at o p
 have B:(1:Rat)≤(m:Rat):=by grind
 have N:=vY f (sJ e)
 have O:=vY g (sJ e)
 have C:1≤2*(u*(m:Rat)):=by grind
 have D:2*u≤1:=by grind
 have Q:P≤(m:Rat)*P:=by
  have:=Zcb j B
  rwa [pO] at this
 have R:P≤d:=by
  have:=Zcb j C
  rw[h,k]
  grind
 have F:0≤v:=by rw[k];grind
 have S:2*d≤v:=by
  have:=vY D F
  rw[h]
  grind
 have r:=Zl1 (a:=v-d) (b:=v-P) (by grind) (by grind)
 have s:=Zl1 (a:=v+P) (b:=v+d) (by grind) (by grind)
 have G:(v-P)*(v-P)=(2*(m:Rat)-1)*(2*(m:Rat)-1)*(P*P):=by rw[k];grind
 have I:(v+P)*(v+P)=(2*(m:Rat)+1)*(2*(m:Rat)+1)*(P*P):=by rw[k];grind
 rw[G] at r
 rw[I] at s
 exact⟨Rat.le_trans r o,Rat.le_trans p s⟩
end Go.Proofs.YtklpdkpcocnglaaGreatDoor
namespace Go.Proofs.YtklpdkpcocnglaaGreatDoor
open Go.RowKit
def Zse (s:ByteArray) (x:Int):Prop:=s.size≤200 ∧ -300≤x∧x≤300
instance (s:ByteArray) (x:Int):Decidable (Zse s x):=inferInstanceAs (Decidable (_∧_))
def ZrV (s:ByteArray) (x:Int):Prop:=s.size≤200∧¬ (x>300∧x<1048276)∧¬ (x < -300∧x > -1048276)
instance (s:ByteArray) (x:Int):Decidable (ZrV s x):=inferInstanceAs (Decidable (_∧_))
def efl (l:List UInt8) (x:Int):Int:=if fvB l x=true then x else 0
theorem ld_z (l:List UInt8)(x:Int):sg (ldR l x).s (ldR l x).m=zfl l x∧(ldR l x).e=efl l x:=by
 unfold zfl efl
 by_cases a:fvB l x=true
 ·rw[uL a,uL a,show ldR l x=⟨(zQ l).1,zH (zQ l).2,x,0⟩ from uL a]
  exact⟨rfl,rfl⟩
 rw[uJ a,uJ a,show ldR l x=⟨false,0,0,0⟩ from uJ a]
 exact⟨rfl,rfl⟩
section
variable {l l':List UInt8} {x y:Int}
theorem Zou:cmpL l l' x y=cmpZ (zfl l x) (efl l x) (zfl l' y) (efl l' y):=by
 unfold cmpL cmpV
 rw[(ld_z l x).1,(ld_z l x).2,(ld_z l' y).1,(ld_z l' y).2]
end
theorem Zl2 (z z' x y:Int){r:Bool}(h:decide (z=z'∧x=y)=r):(((⟨(Lib.itoa z).toArray⟩:ByteArray).toList == (⟨(Lib.itoa z').toArray⟩:ByteArray).toList) && (x == y))=r:=by
 rw[Zhy,zJ,← h]
 have a:Lib.itoa z=Lib.itoa z'↔z=z':=⟨fun e=>by rw[←lV z,e,lV],fun e=>by rw[e]⟩
 simp only[a,Bool.decide_and]
 congr 1
theorem Zov (k:Nat):ml 0≤k:=lL.2 (uT zY)
theorem Zq6 (s:Bool):sg s 0=0:=by cases s<;>rfl
section
variable {P:Program} {o:Oper} {ρ:Operand→Value} {w:World} {x y:Operand} {t k:TypeId}
end
theorem len_zero {w:World}{s:Bool}{A:Option Addr}{l c:Nat}{z:Int}(h:zZ w (.agg #[.bool s,.slice A l c]) z)(a:z=0):l=0:=by
 subst a
 obtain⟨g,i,j,b,m,n,d,e,f⟩:=h.opn.1
 injection b with e1 e2 e3
 have:=kX d e
 rw[f,show (0:Int).natAbs=0 from rfl,show ml 0=0 from Nat.le_zero.1 (lL.2 (by rw[vT];decide))] at this
 omega
theorem Zm3 {s:Bool}{n:Nat}(h:0<n):decide (sg s n<0)=s:=by
 unfold sg;cases s<;>simp<;>omega
theorem Zox (s:Bool)(n:Nat):(sg s n).natAbs=n:=by unfold sg;cases s<;>simp
def rsum (z1 e1 z2 e2:Int) (bits:Nat):FR:=if z1=0 then wN (decide (z2<0)) z2.natAbs 1 e2 bits else if z2=0 then wN (decide (z1<0)) z1.natAbs 1 e1 bits else
 wN (decide (z1*2^(e1-min e1 e2).toNat + z2*2^(e2-min e1 e2).toNat < 0)) (z1*2^(e1-min e1 e2).toNat + z2*2^(e2-min e1 e2).toNat).natAbs 1 (min e1 e2) bits
theorem dO {Y k:Nat}(h:blen Y≤32*k):ml Y≤k:=lL.2 (by rw[ZcB];exact xF.1 h)
section
variable {P:Program} {o:Oper} {ρ:Operand→Value} {w:World} {t e k:TypeId} {x y ix:Operand}
theorem ZpO {A:Option Addr}{a:List Int}{l cap j:Nat}(h:jO w A a)(c:a.length=l)(hj:j<l)(ho:o.op=Op.indexAddr t x ix:=by kernel_rfl)(ht:P.underlying t=some (.slice e):=by kernel_rfl)(hs:(P.info? e).map (fun i=>i.size)=some 1:=by kernel_rfl)(hx:ρ x=.slice A l cap:=by kernel_rfl)(hix:ρ ix=.int .i64 (j:Int):=by kernel_rfl):(execOp ρ o).run P w=.ok (.value (atA A j)) w:=by
 obtain⟨b,d,f,_⟩:=h (fun e=>by rw[e] at c;simp at c;omega)
 exact wJ (by rw[f];exact fun e=>by cases e) hj ho ht hs hx hix
theorem ZpP {A:Option Addr}{a:List Int}{z:Int}{j:Nat}(h:jO w A a)(c:j<a.length)(d:a.getD j 0=z)(f:o.op=Op.load t x:=by kernel_rfl)(g:ρ x=atA A j:=by kernel_rfl)(ha:(teOf P t).map (fun e=>e.agg)=some false:=by kernel_rfl) :
 (execOp ρ o).run P w=.ok (.value (.int .i64 z)) w:=by
 obtain⟨b,i,l,_,m⟩:=h (fun e=>by rw[e] at c;simp at c)
 rw[←d]
 exact lZ (m j c) f (by rw[g,l,atA,oF,aE]) ha
theorem ZrX {a b:Nat}(ha:a<2^62)(c:b<2^62):bits .or .i64 (a:Int) (b:Int)=((a ||| b:Nat):Int):=by
 have g:a ||| b<2^62:=Nat.or_lt_two_pow ha c
 have d:(BitVec.ofInt 64 (a:Int)).toNat=a:=by
  rw[qG,qR];exact vC (by omega)
 have f:(BitVec.ofInt 64 (b:Int)).toNat=b:=by
  rw[qG,qR];exact vC (by omega)
 show IntKind.i64.wrap ((BitVec.ofInt 64 (a:Int) ||| BitVec.ofInt 64 (b:Int)).toNat:Int)=_
 rw[BitVec.toNat_or,d,f,IntKind.wrap_i64]
 omega
theorem ZrY {a b r:Nat}(ha:a<2^62)(c:b<2^62)(h:a ||| b=r)(d:o.op=Op.binOp .or t x y k:=by kernel_rfl)(f:ρ x=.int .i64 (a:Int):=by kernel_rfl)(g:ρ y=.int .i64 (b:Int):=by kernel_rfl):(execOp ρ o).run P w=.ok (.value (.int .i64 (r:Int))) w:=by
 have:=ZrX ha c
 rw[h] at this
 rw[←this]
 simp only[execOp,d,f,g,eqGuard,binOp]
 rfl
theorem Zq8 {a n:Nat}(i:n≤64)(b:o.op=Op.binOp .shr t x y k:=by kernel_rfl)(c:ρ x=.int .i64 (a:Int):=by kernel_rfl){ky:IntKind}(d:ρ y=.int ky (n:Int):=by kernel_rfl):(execOp ρ o).run P w=.ok (.value (.int .i64 ((a/2^n:Nat):Int))) w:=by
 have f:¬ ((n:Int)<0):=by omega
 have g:min ((n:Int)).toNat IntKind.i64.bits=n:=by show min ((n:Int)).toNat 64=n;omega
 have h:((a:Int)).fdiv (2^n)=((a/2^n:Nat):Int):=by
  rw[Int.fdiv_eq_ediv_of_nonneg _ (by rw[show ((2:Int)^n)=((2^n:Nat):Int) by rw[vI];rfl];exact Int.natCast_nonneg _)]
  exact ZbC a n
 simp only[execOp,b,c,d,eqGuard,binOp,Op.shift,uJ f,g,h]
 rfl
theorem fG {v n:Int}(a:n≠0)(b:o.op=Op.binOp .rem t x y k:=by kernel_rfl)(c:ρ x=.int .i64 v:=by kernel_rfl)(d:ρ y=.int .i64 n:=by kernel_rfl):(execOp ρ o).run P w=.ok (.value (.int .i64 (v.tmod n))) w:=by
 simp only[execOp,b,c,d,eqGuard,binOp,Op.intDiv]
 simp[a]
theorem ZpQ {a:Nat}(ha:a<1048576)(b:o.op=Op.binOp .shl t x y k:=by kernel_rfl)(c:ρ x=.int .i64 (a:Int):=by kernel_rfl)(d:ρ y=.int .u64 20:=by kernel_rfl):(execOp ρ o).run P w=.ok (.value (.int .i64 ((a*1048576:Nat):Int))) w:=by
 have f:¬ ((20:Int)<0):=by omega
 have g:min ((20:Int)).toNat IntKind.i64.bits=20:=rfl
 have h:IntKind.i64.wrap ((a:Int)*2^20)=((a*1048576:Nat):Int):=by rw[IntKind.wrap_i64];omega
 simp only[execOp,b,c,d,eqGuard,binOp,Op.shift,uJ f,g,h]
 rfl
end
theorem jO.next {w w':World}{A:Option Addr}{zs:List Int}{g:Nat}(h:jO w A zs)(f:Fr (fun i=>i=g) w w')(l:zs≠[]→∀ a,A=some a→a.block≠g):jO w' A zs:=fun d=>by
 obtain⟨b,c,rfl,j,m⟩:=h d
 exact⟨b,c,rfl,uQ j f.size,fun i n=>(f.cell (p:=⟨b,c+i,none⟩) j (l d ⟨b,c,none⟩ rfl)).trans (m i n)⟩
theorem dG (v:Int){n:Int}(b:0<n):0≤(v.tmod n+n).tmod n∧(v.tmod n+n).tmod n<n:=by
 have c:=rR v b
 rw[tM (a:=v.tmod n+n) (by omega)]
 exact⟨Int.emod_nonneg _ (by omega),Int.emod_lt_of_pos _ b⟩
theorem ZrZ {a b:Nat}(c:b<1048576):a*1048576 ||| b=a*1048576+b:=by
 rw[show (1048576:Nat)=2^20 from rfl] at *
 rw[←sK,tL c]
abbrev TB (w:World) (g:Nat) (A:Option Addr) (l c p:Nat):Prop:=Blk 114 w g #[.slice A l c,.int .i64 ((p:Nat):Int)]
def RetN (w:World) (g:Nat) (A:Option Addr) (l c:Nat) (n:Int) (e:Ending) (w':World):Prop:=∃ (v p:Nat),e=.returned (.int .i64 ((v:Nat):Int))∧((v:Int)<n∧p≤l)∧Fr (fun i=>i=g) w w'∧TB w' g A l c p
def TF (z x:Int):Prop:=((z=0∧x=0)∨z%2=1)∧(z.natAbs<1099511627776 ∧ -20≤x∧x≤60)
def Zp7 (w:World) (g:Nat) (A:Option Addr) (l c:Nat) (e:Ending) (w':World):Prop:=∃ (z x:Int) (p:Nat),e=.returned (yS ⟨(Lib.itoa z).toArray⟩ x)∧(TF z x∧p≤l)∧Fr (fun i=>i=g) w w'∧TB w' g A l c p
theorem Zew {w w':World}{g:Nat}{A:Option Addr}{l c:Nat}{n:Int}{e:Ending}(h:RetN w g A l c n e w'):∃ x:{q:Nat × Nat // (q.1:Int)<n∧q.2≤l},e=.returned (.int .i64 ((x.1.1:Nat):Int))∧Fr (fun i=>i=g) w w'∧Blk 114 w' g #[.slice A l c,.int .i64 ((x.1.2:Nat):Int)]∧BoxN w w' (fun _=>True):=by
 obtain⟨v,p,rfl,h,a,b⟩:=h
 exact⟨⟨(v,p),h⟩,rfl,a,b,BoxN.pure trivial⟩
theorem ZhD {w w':World}{g:Nat}{A:Option Addr}{l c:Nat}{e:Ending}(h:Zp7 w g A l c e w'):∃ x:{q:Int×Int×Nat // TF q.1 q.2.1∧q.2.2≤l},e=.returned (yS ⟨(Lib.itoa x.1.1).toArray⟩ x.1.2.1)∧Fr (fun i=>i=g) w w'∧Blk 114 w' g #[.slice A l c,.int .i64 ((x.1.2.2:Nat):Int)]∧BoxN w w' (fun _=>True):=by
 obtain⟨z,x,p,rfl,h,a,b⟩:=h
 exact⟨⟨(z,x,p),h⟩,rfl,a,b,BoxN.pure trivial⟩
theorem jO.take {w:World}{A:Option Addr}{d:List Int}(h:jO w A d)(k:Nat):jO w A (d.take k):=fun a=>by
 obtain⟨b,c,rfl,f,g⟩:=h (fun e=>a (by rw[e];simp))
 refine⟨b,c,rfl,f,fun i j=>?_⟩
 rw[uY] at j
 rw[g i (by omega),List.getD_eq_getElem?_getD,List.getD_eq_getElem?_getD,List.getElem?_take_of_lt (by omega)]
theorem jO.apart {w:World}{A:Option Addr}{d:List Int}{g:Nat}(h:jO w A d)(j:w.heap.size≤g):d≠[]→∀ a,A=some a→a.block≠g:=fun c a e=>by
 obtain⟨b,f,i,l,_⟩:=h c
 rw[i] at e
 injection e with e
 subst e
 show b≠g
 omega
theorem Zkl {w w':World}{A:Option Addr}{l c n0:Nat}{e:Ending}(j:n0≤w.heap.size)(h:∃ g,e=.returned (.pointer (some ⟨g,0,none⟩))∧w.heap.size≤g∧Ext w w'∧TB w' g A l c 0):kM (fun g:Nat=>.pointer (some ⟨g,0,none⟩)) (fun g w=>n0≤g∧TB w g A l c 0) w e w':=by
 obtain⟨g,rfl,m,Q,a⟩:=h
 exact⟨g,rfl,Q,fun S b d f=>⟨by omega,a.fr f (fun i=>by have:=(b g i).1;omega)⟩⟩
theorem Zl4 (A:Option Addr)(l c:Nat)(w:World)(d:l≤c):yA 47 #[.slice A l c] w (fun e w'=>∃ g,e=.returned (.pointer (some ⟨g,0,none⟩))∧w.heap.size≤g∧Ext w w'∧TB w' g A (min l 400) c 0):=by
 obtain⟨k,a⟩:=yE (min l 400)
 have f:min (l:Int) 400=(k:Int):=by omega
 have b:k≤c:=by omega
 rw[a]
 go_enter Tryz.func47,Tryz.ntmps47
 go_wp2
 go_ret
 exact⟨_,rfl,uM _,(Fr.refl _ _).alloc _,Blk.new _ _ _⟩
theorem ZbV (g:Nat)(A:Option Addr)(l c p:Nat)(f:List Int)(n:Int)(w:World)(s:TB w g A l c p)(u:p≤l)(B:jO w A f)(C:f.length=l)(G:l≤1000000)(b:0<n)(H:n≤1048576) :
 yA 85 #[.pointer (some ⟨g,0,none⟩),.int .i64 n] w (RetN w g A l c n):=by
 refine aN (fun i=>i=g) (Φ:=fun w=>(TB w g A l c p∧jO w A f)) Tryz.func85 rfl (by kernel_rfl) (fun w' q=>⟨s.ext q,B.ext q⟩) ?_
 refine zC (zB (xq 1 [yJ 4 0] [] ?_))
 refine xe (zA (zC (zC ?_)))
 refine gT 10 [0,1,3,7,0,16,48,112,240,511] (by kernel_rfl) (by kernel_rfl) zL ?_
 refine xqg 3 [(8,.v (.pointer (some ⟨g,0+1,none⟩)))] ?_
 refine xqj 9 (.int .i64 (p:Int)) (fun w Q=>lZ (t:=3) (x:=.tmp 8) (g:=g) (off:=0+1) (Blk.cell (Q.1) 1)) ?_
 refine xqg 3 [(12,.v (.pointer (some ⟨g,0,none⟩)))] ?_
 refine xqj 13 (.slice A l c) (fun w Q=>lZ (t:=66) (x:=.tmp 12) (g:=g) (off:=0) (Blk.cell (Q.1) 0)) ?_
 refine xqg 2 [yB 15 (decide ((p:Int)≥(l:Int)))] ?_
 refine xz (xe (zA ?_))
 refine yQ ((decide ((p:Int)≥(l:Int)))) (fun a=>?_) fun a=>?_
 ·have d:=uD a
  refine zC (zB (xq 1 [yJ 4 0] [] ?_))
  refine xe (zA (zG (zI ?_)))
  refine yR (.int .i64 0) fun w' R Q=>?_
  exact⟨0,p,rfl,⟨by omega,u⟩,R,Q.1⟩
 have d:=uH a
 refine zN (zA (zC ?_))
 have h:p<l:=by omega
 obtain⟨z,m⟩:=yE (f.getD p 0)
 refine gT 11 [0,1,3,7,0,16,48,112,255,511,1023] (by kernel_rfl) (by kernel_rfl) zL ?_
 refine xqg 3 [(18,.v (.pointer (some ⟨g,0,none⟩)))] ?_
 refine xqj 19 (.slice A l c) (fun w Q=>lZ (t:=66) (x:=.tmp 18) (g:=g) (off:=0) (Blk.cell (Q.1) 0)) ?_
 refine xqg 3 [(22,.v (.pointer (some ⟨g,0+1,none⟩)))] ?_
 refine xqj 23 (.int .i64 (p:Int)) (fun w Q=>lZ (t:=3) (x:=.tmp 22) (g:=g) (off:=0+1) (Blk.cell (Q.1) 1)) ?_
 refine xqj 24 (atA A p) (fun w Q=>ZpO (t:=66) (e:=3) (x:=.tmp 19) (ix:=.tmp 23) (l:=l) (cap:=c) (j:=p) (Q.2) C h) ?_
 refine xqj 25 (.int .i64 z) (fun w Q=>ZpP (t:=3) (x:=.tmp 24) (j:=p) (Q.2) (by omega) m) ?_
 refine xqg 1 [yJ 5 z] ?_
 refine xz (xe (zA (zC (zB (xq 3 [(26,.v (.pointer (some ⟨g,0,none⟩))),(28,.v (.pointer (some ⟨g,0+1,none⟩)))] [] ?_)))))
 refine xqk 29 (.int .i64 (p:Int)) (fun w R Q=>lZ (t:=3) (x:=.tmp 28) (g:=g) (off:=0+1) (Blk.cell (Q.1) 1)) ?_
 refine xq 1 [yJ 30 (IntKind.i64.wrap ((p:Int)+1))] [] ?_
 rw[yW ((p:Int)+1) (((p+1:Nat):Int)) (by omega)]
 refine xq 2 [(32,.v (.pointer (some ⟨g,0+1,none⟩)))] [] ?_
 refine Zq7 (t:=3) (bt:=114) (x:=.tmp 32) (y:=.tmp 30) (cs:=[.slice A l c,.int .i64 (p:Int)]) g (0+1) (.int .i64 ((p+1:Nat):Int)) (fun _=>True) (fun w Q=>Q.1) (pE 1) (Or.inr rfl) rfl rfl (fun _ _ _ _=>trivial) ?_
 refine xr 0 [yJ 1 n,yJ 4 0,yJ 5 z] [] ?_
 refine xe (zA (zC ?_))
 obtain⟨v,D⟩:∃ v:Nat,(z.tmod n+n).tmod n=v:=uB (dG z b).1
 have E:=(dG z b).2
 have F:=rR z b
 have r:=qD z b
 refine zB (xq 2 [yJ 33 z,yJ 34 n] [] ?_)
 refine xqk 35 (.int .i64 (z.tmod n)) (fun w R Q=>fG (t:=3) (k:=3) (x:=.tmp 33) (y:=.tmp 34) (by omega)) ?_
 refine xq 2 [yJ 37 (IntKind.i64.wrap ((z.tmod n)+n))] [] ?_
 rw[yW (z.tmod n+n) (z.tmod n+n) (by omega)]
 refine xq 1 [yJ 38 n] [] ?_
 refine xqk 39 (.int .i64 (v:Int)) (fun w R Q=>by rw[←D];exact fG (t:=3) (k:=3) (x:=.tmp 37) (y:=.tmp 38) (by omega)) ?_
 refine xq 1 [yJ 4 (v:Int)] [] ?_
 refine xe (zA (zG ?_))
 refine yR (.int .i64 (v:Int)) fun w' R Q=>?_
 exact⟨v,p+1,rfl,⟨by omega,by omega⟩,R,Q.2⟩
theorem ZhE (n:Int)(w:World)(f : -9223372036854775808≤n)(g:n≤9223372036854775807) :
 yA 30 #[.int .i64 n] w (wM w ((n:Int):Rat)):=by
 refine zV (Φ:=fun w=>True) Tryz.func30 rfl (by kernel_rfl) (fun w' h=>trivial) ?_
 refine zC (zB (xq 1 [(2,.p 2 0)] [bR4 2 34 false none 0 0 false none 0 0] ?_))
 refine xe (zA (zC (zB (xq 1 [yJ 3 n] [] ?_))))
 refine xqc 24 [.int .i64 n] 4 xW _ (fun w R Q=>yM xQ (eE n _ f g)) fun⟨a,b,c,d⟩=>?_
 refine xq 2 [] [bR4 2 34 a b c d false none 0 0] ?_
 refine xe (zA (zG ?_))
 refine yR (.agg #[.bool a,.slice b c d,.bool false,.slice none 0 0]) fun w' R Q=>?_
 exact⟨_,rfl,ZpF Q.2,R⟩
theorem Zdx (g:Nat)(A:Option Addr)(l c p:Nat)(G:List Int)(w:World)(hT:TB w g A l c p)(hp:p≤l)(K:jO w A G)(L:G.length=l)(M:l≤1000000)(N:G≠[]→∀ a,A=some a→a.block≠g) :
 yA 48 #[.pointer (some ⟨g,0,none⟩)] w (Zp7 w g A l c):=by
 refine aN (fun i=>i=g) (Φ:=fun w=>TB w g A l c p) Tryz.func48 rfl (by kernel_rfl) (fun w' hf=>hT.ext hf) ?_
 refine zC (zB (xq 1 [(2,.p 2 0)] [yG 2 24 ⟨#[]⟩ 0] ?_))
 refine xe (zA (zC (zB (xq 1 [(5,.v (.pointer (some ⟨g,0,none⟩)))] [] ?_))))
 refine cZ 85 [.pointer (some ⟨g,0,none⟩),.int .i64 1048576] (d:=6) (fun x:{q:Nat × Nat // (q.1:Int)<1048576∧q.2≤l}=>.int .i64 ((x.1.1:Nat):Int)) (fun x=>#[.slice A l c,.int .i64 ((x.1.2:Nat):Int)]) (fun _ _=>True) (fun _=>True) (fun w Q=>Q) (rS _) (Or.inr rfl) (fun w R Q=>yM Zew (ZbV g A l c p G 1048576 _ (Q) (by omega) (K.next R N) L M (by omega) (by omega))) (fun _ _ _ _=>trivial) fun u=>?_
 obtain⟨⟨f,g0⟩,O,S⟩:=u
 dsimp only at O S
 refine xr 1 [(0,.v (.pointer (some ⟨g,0,none⟩))),(2,.p 2 0),yJ 3 (f:Int)] [yG 2 24 ⟨#[]⟩ 0] ?_
 refine xe (zA (zC (zB (xq 1 [yJ 7 (f:Int)] [] ?_))))
 refine xqk 8 (.int .i64 ((f*1048576:Nat):Int)) (fun w R Q=>ZpQ (t:=2) (x:=.tmp 7) (y:=(Operand.const (Value.int IntKind.u64 20))) (k:=103) (a:=f) (by omega)) ?_
 refine xq 1 [(9,.v (.pointer (some ⟨g,0,none⟩)))] [] ?_
 refine cZ 85 [.pointer (some ⟨g,0,none⟩),.int .i64 1048576] (d:=10) (fun x:{q:Nat × Nat // (q.1:Int)<1048576∧q.2≤l}=>.int .i64 ((x.1.1:Nat):Int)) (fun x=>#[.slice A l c,.int .i64 ((x.1.2:Nat):Int)]) (fun _ _=>True) (fun _=>True) (fun w Q=>Q.1.2) (rS _) (Or.inr rfl) (fun w R Q=>yM Zew (ZbV g A l c g0 G 1048576 _ (Q.1.2) (by omega) (K.next R N) L M (by omega) (by omega))) (fun _ _ _ _=>trivial) fun u=>?_
 obtain⟨⟨j,h0⟩,T,U⟩:=u
 dsimp only at T U
 refine xr 0 [(0,.v (.pointer (some ⟨g,0,none⟩))),(2,.p 2 0),yJ 3 (f:Int),yJ 8 ((f*1048576:Nat):Int),yJ 10 (j:Int)] [yG 2 24 ⟨#[]⟩ 0] ?_
 refine xqk 11 (.int .i64 ((f*1048576+j:Nat):Int)) (fun w R Q=>ZrY (t:=2) (x:=.tmp 8) (y:=.tmp 10) (k:=2) (a:=(f*1048576)) (b:=j) (by omega) (by omega) (ZrZ (by omega))) ?_
 refine xq 1 [yJ 3 ((f*1048576+j:Nat):Int)] [] ?_
 refine xe (zA (zC ?_))
 obtain⟨E,i0⟩:=yE (f*1048576+j)
 rw[show ((f*1048576+j:Nat):Int)=(E:Int) by rw[i0]]
 have V:E<1099511627776:=by omega
 refine zB (xq 2 [yJ 12 (E:Int),(13,.v (.pointer (some ⟨g,0,none⟩)))] [] ?_)
 refine cZ 85 [.pointer (some ⟨g,0,none⟩),.int .i64 40] (d:=14) (fun x:{q:Nat × Nat // (q.1:Int)<40∧q.2≤l}=>.int .i64 ((x.1.1:Nat):Int)) (fun x=>#[.slice A l c,.int .i64 ((x.1.2:Nat):Int)]) (fun _ _=>True) (fun _=>True) (fun w Q=>Q.1.2) (rS _) (Or.inr rfl) (fun w R Q=>yM Zew (ZbV g A l c h0 G 40 _ (Q.1.2) (by omega) (K.next R N) L M (by omega) (by omega))) (fun _ _ _ _=>trivial) fun u=>?_
 obtain⟨⟨r,j0⟩,W,X⟩:=u
 dsimp only at W X
 refine xr 0 [(0,.v (.pointer (some ⟨g,0,none⟩))),(2,.p 2 0),yJ 3 (E:Int),yJ 12 (E:Int),yJ 14 (r:Int)] [yG 2 24 ⟨#[]⟩ 0] ?_
 refine xqk 15 (.int .i64 ((E/2^r:Nat):Int)) (fun w R Q=>Zq8 (t:=2) (x:=.tmp 12) (y:=.tmp 14) (k:=3) (ky:=.i64) (a:=E) (n:=r) (by omega)) ?_
 refine xq 1 [yJ 3 ((E/2^r:Nat):Int)] [] ?_
 refine xe (zA (zC ?_))
 obtain⟨F,Y⟩:=yE (E/2^r)
 rw[show ((E/2^r:Nat):Int)=(F:Int) by rw[Y]]
 have A0:F<1099511627776:=by rw[←Y];exact vE (uZ _ _) V
 refine zB (xq 1 [(16,.v (.pointer (some ⟨g,0,none⟩)))] [] ?_)
 refine cZ 85 [.pointer (some ⟨g,0,none⟩),.int .i64 41] (d:=17) (fun x:{q:Nat × Nat // (q.1:Int)<41∧q.2≤l}=>.int .i64 ((x.1.1:Nat):Int)) (fun x=>#[.slice A l c,.int .i64 ((x.1.2:Nat):Int)]) (fun _ _=>True) (fun _=>True) (fun w Q=>Q.1.2) (rS _) (Or.inr rfl) (fun w R Q=>yM Zew (ZbV g A l c j0 G 41 _ (Q.1.2) (by omega) (K.next R N) L M (by omega) (by omega))) (fun _ _ _ _=>trivial) fun u=>?_
 obtain⟨⟨s,z⟩,Z,a0⟩:=u
 dsimp only at Z a0
 refine xr 1 [(0,.v (.pointer (some ⟨g,0,none⟩))),(2,.p 2 0),yJ 3 (F:Int),yJ 18 (IntKind.i64.wrap ((s:Int)-20))] [yG 2 24 ⟨#[]⟩ 0] ?_
 rw[yW ((s:Int)-20) ((s:Int)-20) (by omega)]
 refine xq 1 [yJ 4 ((s:Int)-20)] [] ?_
 refine xe (zA (zC (zC (zB (xq 2 [yB 20 (((F:Int):Int) == 0)] [] ?_)))))
 refine xe (zA ?_)
 refine yQ ((((F:Int):Int) == 0)) (fun B=>?_) fun B=>?_
 ·have H:=tY.1 B
  have b0:blen F≤40:=xF.2 (by omega)
  refine zC (zB (xq 2 [] [yG 2 24 ⟨#[48]⟩ 0] ?_))
  refine xe (zA (zG (zI ?_)))
  refine yR (yS ⟨#[48]⟩ 0) fun w' R Q=>?_
  exact⟨0,0,z,by rw[fL],⟨⟨Or.inl ⟨rfl,rfl⟩,by decide,by decide,by decide⟩,by omega⟩,R,Q.1.2⟩
 have H:=wY B
 have b0:blen F≤40:=xF.2 (by omega)
 refine zN (zA (zC (xM ?_)))
 refine yC [(0,.v (.pointer (some ⟨g,0,none⟩))),(2,.p 2 0),yJ 3 (F:Int),yJ 4 (((s:Int)-20))] [yG 2 24 ⟨#[]⟩ 0] (fun w=>TB w g A l c z) (fun w Q=>Q.1.2) ?_
 refine kW (fun nn ss ff=>∃ (m:Nat) (x:Int),ss=ofL [(0,.v (.pointer (some ⟨g,0,none⟩))),(2,.p 2 0),yJ 3 (m:Int),yJ 4 x] [yG 2 24 ⟨#[]⟩ 0]∧ff=(fun w=>TB w g A l c z)∧(0<m)∧(m<1099511627776)∧(-20≤x)∧(x+(blen m:Int)≤60)∧nn=(1+m)) ((1+F)) ⟨F,(((s:Int)-20)),rfl,rfl,(by omega),(by omega),(by omega),(by omega),rfl⟩ ?_
 rintro nn ss ff ⟨m,x,rfl,rfl,B0,C0,D0,E0,rfl⟩
 refine zC (zC (zB (xq 2 [yJ 23 (((m:Int)).tmod 2)] [] ?_)))
 rw[show ((m:Int)).tmod 2=((m%2:Nat):Int) from tdr (m) 2]
 refine xq 1 [yB 24 ((((m%2:Nat):Int):Int) == 0)] [] ?_
 refine xe (zA ?_)
 refine yQ (((((m%2:Nat):Int):Int) == 0)) (fun C=>?_) fun C=>?_
 ·have I:=tY.1 C
  refine zN (zA (xM (zC (zB (xq 2 [(26,.v (.int .i64 (IntKind.i64.wrap (((m:Int)).tdiv 2))))] [] ?_)))))
  rw[show IntKind.i64.wrap ((((m:Int)).tdiv 2))=((m/2:Nat):Int) from tdq (m) 2 (by omega)]
  refine xq 1 [yJ 3 ((m/2:Nat):Int)] [] ?_
  refine xe (zA (zB (xq 2 [yJ 28 (IntKind.i64.wrap (x+1))] [] ?_)))
  rw[yW (x+1) (x+1) (by omega)]
  refine xq 1 [yJ 4 (x+1)] [] ?_
  refine xe (lN ?_)
  refine yP [(0,.v (.pointer (some ⟨g,0,none⟩))),(2,.p 2 0),yJ 3 (((m/2):Nat):Int),yJ 4 ((x+1))] [yG 2 24 ⟨#[]⟩ 0] (fun w=>TB w g A l c z) (fun w Q=>Q) ?_
  exact lE ((1+(m/2))) (by omega) ⟨(m/2),((x+1)),rfl,rfl,(by omega),(by omega),(by omega),(by have:=ZaU (show 0<m by omega);omega),rfl⟩
 have I:=wY C
 refine lO (xC (xC (kQ (zA (zC (zC (zB (xq 1 [(29,.v (.pointer (some ⟨g,0,none⟩)))] [] ?_))))))))
 refine cZ 85 [.pointer (some ⟨g,0,none⟩),.int .i64 2] (d:=30) (fun x:{q:Nat × Nat // (q.1:Int)<2∧q.2≤l}=>.int .i64 ((x.1.1:Nat):Int)) (fun x=>#[.slice A l c,.int .i64 ((x.1.2:Nat):Int)]) (fun _ _=>True) (fun _=>True) (fun w Q=>Q) (rS _) (Or.inr rfl) (fun w R Q=>yM Zew (ZbV g A l c z G 2 _ (Q) (by omega) (K.next R N) L M (by omega) (by omega))) (fun _ _ _ _=>trivial) fun u=>?_
 obtain⟨⟨c0,d0⟩,e0,f0⟩:=u
 dsimp only at e0 f0
 refine xr 1 [(2,.p 2 0),yJ 3 (m:Int),yJ 4 x,yB 31 (((c0:Int):Int) == 1)] [yG 2 24 ⟨#[]⟩ 0] ?_
 refine xe (zA ?_)
 refine yQ ((((c0:Int):Int) == 1)) (fun D=>?_) fun D=>?_
 ·have J:=tY.1 D
  refine zB (xq 2 [(33,.v (.int .i64 (IntKind.i64.wrap (0-((m:Int))))))] [] ?_)
  rw[show IntKind.i64.wrap (0-(m:Int)) = -(m:Int) by rw[IntKind.wrap_i64];omega]
  refine xq 1 [yJ 3 (-(m:Int))] [] ?_
  refine xe (zA (zC (zB (xq 1 [yJ 34 (-(m:Int))] [] ?_))))
  refine xqc 30 [.int .i64 (-(m:Int))] 35 xT _ (fun w R Q=>yM xJ (ZhE (-(m:Int)) _ (by omega) (by omega))) fun⟨k0,l0,m0,n0,o0,p0,q0,r0⟩=>?_
  refine xqc 31 [vR4 k0 l0 m0 n0 o0 p0 q0 r0] 36 (fun _:Unit=>.string ⟨(Lib.itoa (-(m:Int))).toArray⟩) _ (fun w R Q=>(gJ _ _ _ Q.2 (by show ml (Int.natAbs (-(m:Int)))≤65536;exact uE (dO (k:=2) (by have:=xF.2 (show (Int.natAbs (-(m:Int)))<2^40 by omega);omega)) (by decide)) aQ).mono (fun _ _ h=>zD h (by rw[ZeT]))) fun u=>?_
  refine xq 3 [] [yG 2 24 ⟨(Lib.itoa (-(m:Int))).toArray⟩ x] ?_
  refine xe (zA (zG ?_))
  refine yR (yS ⟨(Lib.itoa (-(m:Int))).toArray⟩ x) fun w' R Q=>?_
  exact⟨(-(m:Int)),x,d0,rfl,⟨⟨Or.inr (by omega),by omega,by omega,by omega⟩,by omega⟩,R,Q.1.1.1.2⟩
 have J:=wY D
 refine zN (zA (zC (zB (xq 1 [yJ 34 (m:Int)] [] ?_))))
 refine xqc 30 [.int .i64 (m:Int)] 35 xT _ (fun w R Q=>yM xJ (ZhE (m:Int) _ (by omega) (by omega))) fun⟨s0,t0,u0,v0,w0,x0,y0,z0⟩=>?_
 refine xqc 31 [vR4 s0 t0 u0 v0 w0 x0 y0 z0] 36 (fun _:Unit=>.string ⟨(Lib.itoa (m:Int)).toArray⟩) _ (fun w R Q=>(gJ _ _ _ Q.2 (by show ml (Int.natAbs (m:Int))≤65536;exact uE (dO (k:=2) (by have:=xF.2 (show (Int.natAbs (m:Int))<2^40 by omega);omega)) (by decide)) aQ).mono (fun _ _ h=>zD h (by rw[ZeT]))) fun u=>?_
 refine xq 3 [] [yG 2 24 ⟨(Lib.itoa (m:Int)).toArray⟩ x] ?_
 refine xe (zA (zG ?_))
 refine yR (yS ⟨(Lib.itoa (m:Int)).toArray⟩ x) fun w' R Q=>?_
 exact⟨(m:Int),x,d0,rfl,⟨⟨Or.inr (by omega),by omega,by omega,by omega⟩,by omega⟩,R,Q.1.1.1.2⟩
theorem Zkm {n k:Nat}(h:wl n≤k):wl (isq n)≤k:=uE (wR (by
 have:=(eW n).1
 rcases uI (isq n) with e|e
 ·omega
 exact uE (Nat.le_mul_of_pos_left _ e) this)) h
theorem Zsg:isq 0=0:=ZjA (by decide) (by decide)
theorem nxw {n r:Nat}(a:wl r≤200001)(b:wl n≤200000):wl (r+n/r)≤200002:=Zf2 a (uE (wR (uZ _ _)) (by omega))
def gE (s:Bool) (m:Nat) (e:Int) (bits:Nat):FR:=if s=true then ⟨false,0,0,3⟩ else if m=0 then ⟨false,0,0,0⟩ else Zba m e bits
def Zex (a:FR) (bits:Nat):FR:=gE a.s a.m a.e bits
def bK (a b:FR) (bits:Nat):FR:=sumR a.s a.m a.e (if b.m=0 then b.s else !b.s) b.m b.e bits
def sqF (l:List UInt8) (x b:Int):FR:=if fvB l x=true then (if 8≤b∧b≤1024 then Zex (ldR l x) b.toNat else ⟨false,0,0,3⟩) else ⟨false,0,0,1⟩
theorem Zq9 {a b:Nat}(h:¬ a=b):(cmpI ((a:Nat):Int) ((b:Nat):Int) != 0)=true:=by
 rw[bne_iff_ne]
 rcases qP h with c|c
 ·rw[jS (by omega)];decide
 rw[iO (by omega)];decide
theorem Zra {a b:Nat}(h:a=b):(cmpI ((a:Nat):Int) ((b:Nat):Int) != 0)=false:=by subst h;rw[ZaP];rfl
theorem Zl5 {m:Nat}{s:Int}{j:Nat}(h:s = -(j:Int)):fq m 1 (-s)=m/2^j:=by
 subst h
 unfold fq fa fb
 rw[show (- -(-(j:Int))).toNat=0 by omega,show (- -(j:Int)).toNat=j by omega];simp
theorem ZhF {Y k:Nat}(h:blen Y≤64*k):wl Y≤k:=kE.2 (by rw[show W64=2^64 by rw[zO],← sZ];exact xF.1 h)
theorem Zr0 {l:List UInt8}{x:Int}:(ldR l x).m=0∨(ldR l x).m%2=1:=by
 unfold ldR
 split
 ·rename_i h
  have a:=(ZlJ h).2
  have b:(flM l).natAbs=zH (zQ l).2:=by unfold flM sg;split<;>omega
  rcases a with ⟨a,_⟩|⟨a,_⟩
  ·left;show zH (zQ l).2=0;omega
  right;show zH (zQ l).2%2=1;omega
 exact Or.inl rfl
theorem ZpR (r:Nat)(b:Bool):iS r 0 b≤r+1:=by
 unfold iS
 have:r/2^(0+1)≤r:=uZ _ _
 split<;>omega
theorem Zp8 (a:Int):a.tmod 2=0↔a%2=0:=by rw[←Int.dvd_iff_tmod_eq_zero,Int.dvd_iff_emod_eq_zero]
theorem Zi6 {a:Int}(h:a%2=0):a.tdiv 2=a/2:=by
 obtain⟨k,b⟩:∃ k,a=2*k:=⟨a/2,by omega⟩
 subst b
 rw[Int.mul_tdiv_cancel_left _ (by decide),Int.mul_ediv_cancel_left _ (by decide)]
theorem Zcp (A:Option Addr)(l c n:Nat)(w:World)(U:zK w (.slice A l c) n)(F:wl n≤200000) :
 yA 129 #[.slice A l c] w (wW w (isq n)):=by
 refine zV (Φ:=fun w=>zK w (.slice A l c) (n)) Tryz.func129 rfl (by kernel_rfl) (fun w' X=>U.ext X) ?_
 refine zC ?_
 have Y:=U.len0
 have Z:=@kT n
 have I:=gM n
 obtain⟨J,K⟩:=eW n
 refine zB (xq 1 [eS1 2 none 0 0] [] ?_)
 refine xe (zA (zC (zC (zB (xq 3 [yB 9 (((l:Int):Int) == 0)] [] ?_)))))
 refine xe (zA ?_)
 refine yQ ((((l:Int):Int) == 0)) (fun h=>?_) fun h=>?_
 ·have y:=tY.1 h
  have H:n=0:=by omega
  refine zC (zB (xq 1 [eS1 2 none 0 0] [] ?_))
  refine xe (zA (zG (zI ?_)))
  refine yR (.slice none 0 0) fun w' R Q=>?_
  exact⟨_,rfl,by rw[H,Zsg];exact zK.zero _,R⟩
 have y:=wY h
 have H:¬ n=0:=by omega
 refine zN (zA (zC (zB ?_)))
 refine yD (d:=10) (fun L:Nat=>.slice (some ⟨L,0,none⟩) 1 1) (fun L zw=>Blk 94 zw L #[.int .u64 1]) (fun w R Q=>kC (t:=77) (e:=94) (n:=1) (sz:=1) (z:=.int .u64 0) (parts:=#[(0,Operand.const (Value.int IntKind.u64 1))]) (by kernel_rfl) (by kernel_rfl) (by kernel_rfl) (by kernel_rfl) (by kernel_rfl) (by kernel_rfl)) fun G=>?_
 refine xr 1 [eS1 0 A l c,eS1 2 none 0 0,eS1 10 (some ⟨G,0,none⟩) 1 1,eS1 11 A l c] [] ?_
 refine xqc 65 [.slice A l c] 12 (fun _:Unit=>.int .i64 ((blen n:Nat):Int)) _ (fun w R Q=>yN (kD Q.1 (uE F (by decide)))) fun M=>?_
 refine xq 1 [yJ 13 (IntKind.i64.wrap (((blen n:Nat):Int)+1))] [] ?_
 rw[yW (((blen n:Nat):Int)+1) (((blen n+1:Nat):Int)) (by omega)]
 refine xq 1 [(14,.v (.int .i64 (IntKind.i64.wrap ((((blen n+1:Nat):Int)).tdiv 2))))] [] ?_
 rw[show IntKind.i64.wrap ((((blen n+1:Nat):Int)).tdiv 2)=(((blen n+1)/2:Nat):Int) from tdq _ 2 (by omega)]
 refine xqc 66 [.slice (some ⟨G,0,none⟩) 1 1,.int .i64 (((blen n+1)/2:Nat):Int)] 15 xH _ (fun w R Q=>yM xD (kL ((blen n+1)/2) (fE Q.1.2) wl_1 (by omega))) fun⟨q,s,u⟩=>?_
 refine xq 1 [eS1 3 q s u] [] ?_
 refine xe (zA (xM ?_))
 refine yC [eS1 0 A l c,eS1 2 none 0 0,eS1 3 q s u] [] (fun w=>(zK w (.slice A l c) (n)∧zK w (.slice q s u) ((1*2^((blen n+1)/2))))) (fun w Q=>⟨Q.1.1.1,Q.2⟩) ?_
 refine kW (fun nn V W=>∃ (i:Option Addr) (j k r:Nat),V=ofL [eS1 0 A l c,eS1 2 none 0 0,eS1 3 i j k] []∧W=(fun w=>(zK w (.slice A l c) (n)∧zK w (.slice i j k) (r)))∧(n<(r+1)*(r+1))∧(0<r)∧(wl r≤200001)∧nn=(1+r)) ((1+(1*2^((blen n+1)/2)))) ⟨q,s,u,(1*2^((blen n+1)/2)),rfl,rfl,(Zkk (gL n)).1,(Zkk (gL n)).2,(uE (Zsf (m:=wl n) I) (by omega)),rfl⟩ ?_
 rintro nn V W ⟨i,j,k,r,rfl,rfl,N,B,o,rfl⟩
 refine xM (zC (zB (xq 2 [eS1 17 A l c,eS1 18 i j k] [] ?_)))
 refine xqc 142 [.slice A l c,.slice i j k] 19 (fun x:ShN×ShN=>.tuple #[xH x.1,xH x.2]) _ (fun w R Q=>yM Zow (Zie Q.1 Q.2 (uE F (by decide)) (uE o (by decide)) B)) fun M=>?_
 obtain⟨⟨C,D,E⟩,⟨a0,b0,c0⟩⟩:=M
 refine xq 5 [eS1 4 C D E] [] ?_
 refine xe (zA (zC (zB (xq 2 [eS1 22 i j k,eS1 23 C D E] [] ?_))))
 refine xqc 126 [.slice i j k,.slice C D E] 24 xH _ (fun w R Q=>yM xD (jY Q.1.2 Q.2.1 (uE o (by decide)) (uE (wR (uZ n r)) (uE F (by decide))))) fun⟨O,P,S⟩=>?_
 refine xqc 128 [.slice O P S,.int .i64 1] 25 xH _ (fun w R Q=>yM xD (gI 1 Q.2 (uE (nxw o F) (by decide)) (by decide))) fun⟨a,b,f⟩=>?_
 refine xq 1 [eS1 6 a b f] [] ?_
 refine xe (zA (zC (zC (zB (xq 2 [eS1 26 a b f,eS1 27 i j k] [] ?_)))))
 refine xqc 122 [.slice a b f,.slice i j k] 28 (fun _:Unit=>.int .i64 (cmpI (((r+n/r)/2^1:Nat):Int) (r:Int))) _ (fun w R Q=>yN (iM Q.2 Q.1.1.1.2 (uE (wR (uZ _ _)) (uE (nxw o F) (by decide))))) fun M=>?_
 refine xq 1 [(29,.v (.bool (decide ((cmpI (((r+n/r)/2^1:Nat):Int) (r:Int))≥0))))] [] ?_
 refine xe (zA ?_)
 refine yQ ((decide ((cmpI (((r+n/r)/2^1:Nat):Int) (r:Int))≥0))) (fun p=>?_) fun p=>?_
 ·have g:=uD p
  have T:=@Zbo ((r+n/r)/2^1) r |>.1 g
  refine zC (zB (xq 2 [eS1 2 i j k] [] ?_))
  refine xe (zA (zG (zI (wU (zI (wU ?_))))))
  refine yR (.slice i j k) fun w' R Q=>?_
  exact⟨_,rfl,by rw[←ZrW (r0:=isq n) (by omega) N J K];exact Q.1.1.1.1.2,R⟩
 have g:=uH p
 have T:=mt (@Zbo ((r+n/r)/2^1) r).2 g
 refine zN (zA (zB (xq 2 [eS1 3 a b f] [] ?_)))
 refine xe (lN ?_)
 refine yP [eS1 0 A l c,eS1 2 none 0 0,eS1 3 a b f] [] (fun w=>(zK w (.slice A l c) (n)∧zK w (.slice a b f) (((r+n/r)/2^1)))) (fun w Q=>⟨Q.1.1.1.1.1,Q.1.2⟩) ?_
 exact lE ((1+((r+n/r)/2^1))) (by omega) ⟨a,b,f,((r+n/r)/2^1),rfl,rfl,(Zl3 B (sY H)).1,(Zl3 B (sY H)).2,(uE (wR (by omega)) o),rfl⟩
theorem Zm4 (Q R T:Nat)(a:Int)(A:Option Addr)(l c r:Nat)(B:Option Addr)(m d n:Nat)(w:World)(u:Blk 3 w Q #[.int .i64 a])(y:Blk 77 w R #[.slice A l c])(z:Blk 77 w T #[.slice B m d])(C:zK w (.slice A l c) r)(D:zK w (.slice B m d) n)(E:wl r≤1000000) :
 yA 130 #[.pointer (some ⟨Q,0,none⟩),.pointer (some ⟨R,0,none⟩),.pointer (some ⟨T,0,none⟩)] w (RetV w (.bool (decide (a<0∨r*r≠n)))):=by
 refine zV (Φ:=fun w=>((((Blk 3 w Q #[.int .i64 a]∧Blk 77 w R #[.slice A l c])∧Blk 77 w T #[.slice B m d])∧zK w (.slice A l c) (r))∧zK w (.slice B m d) (n))) Tryz.func130 rfl (by kernel_rfl) (fun w' f=>⟨⟨⟨⟨u.ext f,y.ext f⟩,z.ext f⟩,C.ext f⟩,D.ext f⟩) ?_
 refine zC (zB (xq 1 [yB 3 false] [] ?_))
 refine xe (zA (zC ?_))
 by_cases b:a<0
 ·refine yO 11 zL ?_
  refine xqj 4 (.int .i64 a) (fun w S=>lZ (t:=3) (x:=.tmp 0) (g:=Q) (off:=0) (Blk.cell (S.1.1.1.1) 0)) ?_
  refine xqg 1 [yB 5 (decide (a<0))] ?_
  rw[show decide (a<0)=true from uW b]
  refine xqg 9 [yB 3 true] ?_
  refine xz (xe (zA (zG ?_)))
  refine yR (.bool true) fun w' U S=>?_
  exact⟨by rw[uW (p:=a<0∨r*r≠n) (Or.inl b)],U⟩
 by_cases e:r*r=n
 ·refine yO 11 zL ?_
  refine xqj 4 (.int .i64 a) (fun w S=>lZ (t:=3) (x:=.tmp 0) (g:=Q) (off:=0) (Blk.cell (S.1.1.1.1) 0)) ?_
  refine xqg 1 [yB 5 (decide (a<0))] ?_
  rw[show decide (a<0)=false from vF b]
  refine xqg 1 [yB 6 false] ?_
  refine xqj 7 (.slice A l c) (fun w S=>lZ (t:=77) (x:=.tmp 1) (g:=R) (off:=0) (Blk.cell (S.1.1.1.2) 0)) ?_
  refine xqj 8 (.slice A l c) (fun w S=>lZ (t:=77) (x:=.tmp 1) (g:=R) (off:=0) (Blk.cell (S.1.1.1.2) 0)) ?_
  refine xqd 124 [.slice A l c,.slice A l c] 9 xH _ (fun w U S=>(Zdi S.1.2 S.1.2 (by omega) (by omega)).mono (fun _ _=>xD)) fun⟨i,j,k⟩=>?_
  refine xqj 10 (.slice B m d) (fun w S=>lZ (t:=77) (x:=.tmp 2) (g:=T) (off:=0) (Blk.cell (S.1.1.2) 0)) ?_
  refine xqd 122 [.slice i j k,.slice B m d] 11 (fun _:Unit=>.int .i64 (cmpI ((r*r:Nat):Int) (n:Int))) _ (fun w U S=>(iM S.2 S.1.2 (uE (ZaQ _ _) (by omega))).mono (fun _ _ h=>zD h rfl)) fun F=>?_
  refine xqg 1 [(12,.v (.bool (((cmpI ((r*r:Nat):Int) (n:Int)):Int) != 0)))] ?_
  rw[Zra e]
  refine xqg 2 [yB 3 false] ?_
  refine xz (xe (zA (zG ?_)))
  refine yR (.bool false) fun w' U S=>?_
  exact⟨by rw[vF (p:=a<0∨r*r≠n) (by rintro (h|h);exact b h;exact h e)],U⟩
 refine yO 11 zL ?_
 refine xqj 4 (.int .i64 a) (fun w S=>lZ (t:=3) (x:=.tmp 0) (g:=Q) (off:=0) (Blk.cell (S.1.1.1.1) 0)) ?_
 refine xqg 1 [yB 5 (decide (a<0))] ?_
 rw[show decide (a<0)=false from vF b]
 refine xqg 1 [yB 6 false] ?_
 refine xqj 7 (.slice A l c) (fun w S=>lZ (t:=77) (x:=.tmp 1) (g:=R) (off:=0) (Blk.cell (S.1.1.1.2) 0)) ?_
 refine xqj 8 (.slice A l c) (fun w S=>lZ (t:=77) (x:=.tmp 1) (g:=R) (off:=0) (Blk.cell (S.1.1.1.2) 0)) ?_
 refine xqd 124 [.slice A l c,.slice A l c] 9 xH _ (fun w U S=>(Zdi S.1.2 S.1.2 (by omega) (by omega)).mono (fun _ _=>xD)) fun⟨o,q,s⟩=>?_
 refine xqj 10 (.slice B m d) (fun w S=>lZ (t:=77) (x:=.tmp 2) (g:=T) (off:=0) (Blk.cell (S.1.1.2) 0)) ?_
 refine xqd 122 [.slice o q s,.slice B m d] 11 (fun _:Unit=>.int .i64 (cmpI ((r*r:Nat):Int) (n:Int))) _ (fun w U S=>(iM S.2 S.1.2 (uE (ZaQ _ _) (by omega))).mono (fun _ _ h=>zD h rfl)) fun F=>?_
 refine xqg 1 [(12,.v (.bool (((cmpI ((r*r:Nat):Int) (n:Int)):Int) != 0)))] ?_
 rw[Zq9 e]
 refine xqg 2 [yB 3 true] ?_
 refine xz (xe (zA (zG ?_)))
 refine yR (.bool true) fun w' U S=>?_
 exact⟨by rw[uW (p:=a<0∨r*r≠n) (Or.inr e)],U⟩
theorem Zbl (s:Bool)(A:Option Addr)(l c n:Nat)(e:Int)(bits:Nat)(Q R T:Nat)(sh:Int)(A1:Option Addr)(l1 c1 r:Nat)(B:Option Addr)(m d n1:Nat)(w:World)(hg:Glob w)(hN:zK w (.slice A l c) n)(H:wl n≤4294967296)(G0 : -576460752303423488≤e)(H0:e≤576460752303423488)(hb:bits≤4294967296)(hQ:Blk 3 w Q #[.int .i64 sh])(hR:Blk 77 w R #[.slice A1 l1 c1])(hT:Blk 77 w T #[.slice B m d])(hA:zK w (.slice A1 l1 c1) r)(hB:zK w (.slice B m d) n1)(F0:wl r≤1000000) :
 yA 123 #[.bool s,.slice A l c,.int .i64 e,.int .i64 ((bits:Nat):Int),.func (.func 130) #[] #[.pointer (some ⟨Q,0,none⟩),.pointer (some ⟨R,0,none⟩),.pointer (some ⟨T,0,none⟩)]] w (wA w (lC s n e bits (decide (sh<0∨r*r≠n1)))):=by
 refine zV (Φ:=fun w=>((Glob w∧zK w (.slice A l c) (n))∧(((((Blk 3 w Q #[.int .i64 sh]∧Blk 77 w R #[.slice A1 l1 c1])∧Blk 77 w T #[.slice B m d])∧zK w (.slice A1 l1 c1) r)∧zK w (.slice B m d) n1)))) Tryz.func123 rfl (by kernel_rfl) (fun w' O=>⟨⟨hg.ext O,hN.ext O⟩,⟨⟨⟨⟨hQ.ext O,hR.ext O⟩,hT.ext O⟩,hA.ext O⟩,hB.ext O⟩⟩) ?_
 refine zC ?_
 have I0:=ZgE H
 by_cases I:blen n≤bits
 ·obtain⟨k,hk⟩:∃ k,bits=blen n+k:=⟨bits-blen n,by omega⟩
  refine zB (xq 2 [(10,.p 10 0),yJ 11 0] [yF 10 79 false none 0 0 0] ?_)
  refine xe (zA (zC (zB (xq 1 [eS1 14 A l c] [] ?_))))
  refine xqc 65 [.slice A l c] 15 (fun _:Unit=>.int .i64 ((blen n:Nat):Int)) _ (fun w U S=>(kD S.1.2 H).mono (fun _ _ h=>zD h rfl)) fun xx=>?_
  refine xq 2 [yJ 17 (IntKind.i64.wrap (((blen n:Nat):Int)-(bits:Int)))] [] ?_
  rw[show IntKind.i64.wrap (((blen n:Nat):Int)-(bits:Int)) = -(k:Int) by rw[IntKind.wrap_i64];omega]
  refine xq 1 [yJ 12 (-(k:Int))] [] ?_
  refine xe (zA (zC (zC (zB (xq 2 [(19,.v (.bool (decide ((-(k:Int))≤0))))] [] ?_)))))
  rw[show decide (-(k:Int)≤0)=true from uW (by omega)]
  refine xe (zA (xa (zC (zB (xq 3 [yB 20 s,eS1 21 A l c,yJ 22 e] [] ?_)))))
  obtain⟨g,J⟩:=yE (wV s (n) (e))
  refine xqc 118 [.bool s,.slice A l c,.int .i64 e] 23 (shNb g) _ (fun w U S=>((show Calls _ _ _ _ (wA w g) by rw[←J];exact kF s _ _ _ _ _ _ S.1.1.1 S.1.1.2 H (by omega) (by omega))).mono (fun _ _=>xX)) fun⟨P,V,W⟩=>?_
  refine xq 4 [yJ 11 g.err] [yF 10 79 g.s P V W g.e] ?_
  refine xe (zA (zG (zI ?_)))
  refine yR (.tuple #[yV g.s P V W g.e,.int .i64 g.err]) fun w' U S=>?_
  rw[Zbf I,J]
  exact⟨(P,V,W),rfl,S.2,U⟩
 obtain⟨j,hj⟩:∃ j,blen n=bits+(j+1):=⟨blen n-bits-1,by omega⟩
 have X:0<n:=sY (fun e=>by rw[e,jI] at I;omega)
 have E:wl (n/2^(j+1))≤4294967296:=uE (wR (uZ _ _)) H
 have Y:wl (n/2^(j+1)+1)≤4294967296:=uE (wR (qV X (pK (by omega)))) H
 obtain⟨b1,Z⟩:=yE (decide (n/2^j%2=1))
 obtain⟨b2,a0⟩:=yE (decide (n/2^(j+1)/2^0%2=1))
 obtain⟨b3,b0⟩:=yE (decide (sh<0∨r*r≠n1))
 refine zB (xq 2 [(10,.p 10 0),yJ 11 0] [yF 10 79 false none 0 0 0] ?_)
 refine xe (zA (zC (zB (xq 1 [eS1 14 A l c] [] ?_))))
 refine xqc 65 [.slice A l c] 15 (fun _:Unit=>.int .i64 ((blen n:Nat):Int)) _ (fun w U S=>(kD S.1.2 H).mono (fun _ _ h=>zD h rfl)) fun xx=>?_
 refine xq 2 [yJ 17 (IntKind.i64.wrap (((blen n:Nat):Int)-(bits:Int)))] [] ?_
 rw[yW (((blen n:Nat):Int)-(bits:Int)) (((j+1:Nat):Int)) (by omega)]
 refine xq 1 [yJ 12 ((j+1:Nat):Int)] [] ?_
 refine xe (zA (zC (zC (zB (xq 2 [yB 19 (decide (((j+1:Nat):Int)≤0))] [] ?_)))))
 rw[show decide (((j+1:Nat):Int)≤0)=false from vF (by omega)]
 refine xe (zA (xb (zN (zA (zC (zB (xq 2 [eS1 26 A l c,yJ 27 ((j+1:Nat):Int)] [] ?_)))))))
 refine xqc 128 [.slice A l c,.int .i64 ((j+1:Nat):Int)] 28 xH _ (fun w U S=>(gI (j+1) S.1.1.2 H (by omega)).mono (fun _ _=>xD)) fun⟨a,b,f⟩=>?_
 refine xq 1 [eS1 13 a b f] [] ?_
 refine xe (zA (zC (zC (zB (xq 3 [eS1 29 A l c,yJ 31 (IntKind.i64.wrap (((j+1:Nat):Int)-1))] [] ?_)))))
 rw[yW (((j+1:Nat):Int)-1) ((j:Int)) (by omega)]
 refine xqc 158 [.slice A l c,.int .i64 (j:Int)] 32 (fun _:Unit=>.bool b1) _ (fun w U S=>((show Calls _ _ _ _ (RetV w (.bool b1)) by rw[←Z];exact Zav (j) S.1.1.1.2 (by omega))).mono (fun _ _ h=>zD h rfl)) fun xx=>?_
 refine xq 1 [yB 33 b1] [] ?_
 rcases bl2 (b1) with i|i
 ·rw[i]
  have k1:=uD (Z.trans i)
  refine xq 1 [eS1 34 A l c] [] ?_
  refine xqc 157 [.slice A l c] 35 (fun _:Unit=>.int .i64 ((tzn n:Nat):Int)) _ (fun w U S=>(Zbe S.1.1.1.1.1 S.1.1.1.1.2 H X).mono (fun _ _ h=>zD h rfl)) fun xx=>?_
  refine xq 2 [yJ 37 (IntKind.i64.wrap (((j+1:Nat):Int)-1))] [] ?_
  rw[yW (((j+1:Nat):Int)-1) ((j:Int)) (by omega)]
  refine xq 2 [yB 39 (decide (((tzn n:Nat):Int)<(j:Int)))] [] ?_
  rcases bl2 ((decide (((tzn n:Nat):Int)<(j:Int)))) with o|o
  ·rw[o]
   have c0:=uD o
   have k4:tzn n<j:=by omega
   refine xr 8 [yB 0 s,yJ 2 e,(10,.p 10 0),yJ 11 0,yJ 12 ((j+1:Nat):Int),eS1 13 a b f,yB 47 true] [yF 10 79 false none 0 0 0] ?_
   refine xe (zA (xa (zB (xq 1 [eS1 48 a b f] [] ?_))))
   refine yD (d:=49) (fun F:Nat=>.slice (some ⟨F,0,none⟩) 1 1) (fun F zw=>Blk 94 zw F #[.int .u64 1]) (fun w U S=>kC (t:=77) (e:=94) (n:=1) (sz:=1) (z:=.int .u64 0) (parts:=#[(0,Operand.const (Value.int IntKind.u64 1))]) (by kernel_rfl) (by kernel_rfl) (by kernel_rfl) (by kernel_rfl) (by kernel_rfl) (by kernel_rfl)) fun C0=>?_
   refine xr 0 [yB 0 s,yJ 2 e,(10,.p 10 0),yJ 11 0,yJ 12 ((j+1:Nat):Int),eS1 13 a b f,eS1 48 a b f,eS1 49 (some ⟨C0,0,none⟩) 1 1] [yF 10 79 false none 0 0 0] ?_
   refine xqc 126 [.slice a b f,.slice (some ⟨C0,0,none⟩) 1 1] 50 xH _ (fun w U S=>(jY S.1.1.1.2 (fE S.2) E wl_1).mono (fun _ _=>xD)) fun⟨d0,e0,f0⟩=>?_
   refine xq 1 [eS1 13 d0 e0 f0] [] ?_
   refine xe (zA (zC (zB (xq 5 [yB 51 s,eS1 52 d0 e0 f0,yJ 55 (IntKind.i64.wrap (e+((j+1:Nat):Int)))] [] ?_))))
   rw[yW (e+((j+1:Nat):Int)) (e+((j+1:Nat):Int)) (by omega)]
   obtain⟨q,K⟩:=yE (wV s (n/2^(j+1)+1) ((e+((j+1:Nat):Int))))
   refine xqc 118 [.bool s,.slice d0 e0 f0,.int .i64 (e+((j+1:Nat):Int))] 56 (shNb q) _ (fun w U S=>((show Calls _ _ _ _ (wA w q) by rw[←K];exact kF s _ _ _ _ _ _ S.1.1.1.1.1.1.1.1 S.2 Y (by omega) (by omega))).mono (fun _ _=>xX)) fun⟨g0,i0,j0⟩=>?_
   refine xq 4 [yJ 11 q.err] [yF 10 79 q.s g0 i0 j0 q.e] ?_
   refine xe (zA (zG ?_))
   refine yR (.tuple #[yV q.s g0 i0 j0 q.e,.int .i64 q.err]) fun w' U S=>?_
   rw[fK hj k1 (Or.inl k4) X,K]
   exact⟨(g0,i0,j0),rfl,S.2,U⟩
  rw[o]
  have c0:=uH o
  have k4:¬ tzn n<j:=by omega
  refine xr 1 [yB 0 s,yJ 2 e,(4,.v (.func (.func 130) #[] #[.pointer (some ⟨Q,0,none⟩),.pointer (some ⟨R,0,none⟩),.pointer (some ⟨T,0,none⟩)])),(10,.p 10 0),yJ 11 0,yJ 12 ((j+1:Nat):Int),eS1 13 a b f,yB 33 true,yB 39 false,eS1 40 a b f] [yF 10 79 false none 0 0 0] ?_
  refine xqc 158 [.slice a b f,.int .i64 0] 41 (fun _:Unit=>.bool b2) _ (fun w U S=>((show Calls _ _ _ _ (RetV w (.bool b2)) by rw[←a0];exact Zav (0) S.1.1.2 (by omega))).mono (fun _ _ h=>zD h rfl)) fun xx=>?_
  refine xq 2 [yB 43 b2] [] ?_
  rcases bl2 (b2) with u|u
  ·rw[u]
   have k2:=uD (a0.trans u)
   rw[vT,rB] at k2
   refine xq 4 [yB 47 true] [] ?_
   refine xe (zA (xa (zB (xq 1 [eS1 48 a b f] [] ?_))))
   refine yD (d:=49) (fun F:Nat=>.slice (some ⟨F,0,none⟩) 1 1) (fun F zw=>Blk 94 zw F #[.int .u64 1]) (fun w U S=>kC (t:=77) (e:=94) (n:=1) (sz:=1) (z:=.int .u64 0) (parts:=#[(0,Operand.const (Value.int IntKind.u64 1))]) (by kernel_rfl) (by kernel_rfl) (by kernel_rfl) (by kernel_rfl) (by kernel_rfl) (by kernel_rfl)) fun D0=>?_
   refine xr 0 [yB 0 s,yJ 2 e,(10,.p 10 0),yJ 11 0,yJ 12 ((j+1:Nat):Int),eS1 13 a b f,eS1 48 a b f,eS1 49 (some ⟨D0,0,none⟩) 1 1] [yF 10 79 false none 0 0 0] ?_
   refine xqc 126 [.slice a b f,.slice (some ⟨D0,0,none⟩) 1 1] 50 xH _ (fun w U S=>(jY S.1.1.1.1.2 (fE S.2) E wl_1).mono (fun _ _=>xD)) fun⟨k0,l0,m0⟩=>?_
   refine xq 1 [eS1 13 k0 l0 m0] [] ?_
   refine xe (zA (zC (zB (xq 5 [yB 51 s,eS1 52 k0 l0 m0,yJ 55 (IntKind.i64.wrap (e+((j+1:Nat):Int)))] [] ?_))))
   rw[yW (e+((j+1:Nat):Int)) (e+((j+1:Nat):Int)) (by omega)]
   obtain⟨x,L⟩:=yE (wV s (n/2^(j+1)+1) ((e+((j+1:Nat):Int))))
   refine xqc 118 [.bool s,.slice k0 l0 m0,.int .i64 (e+((j+1:Nat):Int))] 56 (shNb x) _ (fun w U S=>((show Calls _ _ _ _ (wA w x) by rw[←L];exact kF s _ _ _ _ _ _ S.1.1.1.1.1.1.1.1.1 S.2 Y (by omega) (by omega))).mono (fun _ _=>xX)) fun⟨n0,o0,p0⟩=>?_
   refine xq 4 [yJ 11 x.err] [yF 10 79 x.s n0 o0 p0 x.e] ?_
   refine xe (zA (zG ?_))
   refine yR (.tuple #[yV x.s n0 o0 p0 x.e,.int .i64 x.err]) fun w' U S=>?_
   rw[fK hj k1 (Or.inr (Or.inl k2)) X,L]
   exact⟨(n0,o0,p0),rfl,S.2,U⟩
  rw[u]
  have k2:=uH (a0.trans u)
  rw[vT,rB] at k2
  refine xq 1 [(44,.v (.func (.func 130) #[] #[.pointer (some ⟨Q,0,none⟩),.pointer (some ⟨R,0,none⟩),.pointer (some ⟨T,0,none⟩)]))] [] ?_
  refine xqc 130 [.pointer (some ⟨Q,0,none⟩),.pointer (some ⟨R,0,none⟩),.pointer (some ⟨T,0,none⟩)] 45 (fun _:Unit=>.bool b3) _ (fun w U S=>((show Calls _ _ _ _ (RetV w (.bool b3)) by rw[←b0];exact (fun h=>Zm4 Q R T sh A1 l1 c1 r B m d n1 _ h.1.1.1.1 h.1.1.1.2 h.1.1.2 h.1.2 h.2 F0) S.1.1.1.1.1.2)).mono (fun _ _ h=>zD h rfl)) fun xx=>?_
  refine xq 2 [yB 47 b3] [] ?_
  refine xe (zA ?_)
  refine yQ (b3) (fun G=>?_) fun G=>?_
  ·have k3:=b0.trans G
   refine zB (xq 1 [eS1 48 a b f] [] ?_)
   refine yD (d:=49) (fun F:Nat=>.slice (some ⟨F,0,none⟩) 1 1) (fun F zw=>Blk 94 zw F #[.int .u64 1]) (fun w U S=>kC (t:=77) (e:=94) (n:=1) (sz:=1) (z:=.int .u64 0) (parts:=#[(0,Operand.const (Value.int IntKind.u64 1))]) (by kernel_rfl) (by kernel_rfl) (by kernel_rfl) (by kernel_rfl) (by kernel_rfl) (by kernel_rfl)) fun E0=>?_
   refine xr 0 [yB 0 s,yJ 2 e,(10,.p 10 0),yJ 11 0,yJ 12 ((j+1:Nat):Int),eS1 13 a b f,eS1 48 a b f,eS1 49 (some ⟨E0,0,none⟩) 1 1] [yF 10 79 false none 0 0 0] ?_
   refine xqc 126 [.slice a b f,.slice (some ⟨E0,0,none⟩) 1 1] 50 xH _ (fun w U S=>(jY S.1.1.1.1.1.2 (fE S.2) E wl_1).mono (fun _ _=>xD)) fun⟨q0,r0,s0⟩=>?_
   refine xq 1 [eS1 13 q0 r0 s0] [] ?_
   refine xe (zA (zC (zB (xq 5 [yB 51 s,eS1 52 q0 r0 s0,yJ 55 (IntKind.i64.wrap (e+((j+1:Nat):Int)))] [] ?_))))
   rw[yW (e+((j+1:Nat):Int)) (e+((j+1:Nat):Int)) (by omega)]
   obtain⟨y,M⟩:=yE (wV s (n/2^(j+1)+1) ((e+((j+1:Nat):Int))))
   refine xqc 118 [.bool s,.slice q0 r0 s0,.int .i64 (e+((j+1:Nat):Int))] 56 (shNb y) _ (fun w U S=>((show Calls _ _ _ _ (wA w y) by rw[←M];exact kF s _ _ _ _ _ _ S.1.1.1.1.1.1.1.1.1.1 S.2 Y (by omega) (by omega))).mono (fun _ _=>xX)) fun⟨t0,u0,v0⟩=>?_
   refine xq 4 [yJ 11 y.err] [yF 10 79 y.s t0 u0 v0 y.e] ?_
   refine xe (zA (zG ?_))
   refine yR (.tuple #[yV y.s t0 u0 v0 y.e,.int .i64 y.err]) fun w' U S=>?_
   rw[fK hj k1 (Or.inr (Or.inr k3)) X,M]
   exact⟨(t0,u0,v0),rfl,S.2,U⟩
  have k3:=b0.trans G
  refine zN (zA (zC (zB (xq 5 [yB 51 s,eS1 52 a b f,yJ 55 (IntKind.i64.wrap (e+((j+1:Nat):Int)))] [] ?_))))
  rw[yW (e+((j+1:Nat):Int)) (e+((j+1:Nat):Int)) (by omega)]
  obtain⟨C,hr25⟩:=yE (wV s (n/2^(j+1)) ((e+((j+1:Nat):Int))))
  refine xqc 118 [.bool s,.slice a b f,.int .i64 (e+((j+1:Nat):Int))] 56 (shNb C) _ (fun w U S=>((show Calls _ _ _ _ (wA w C) by rw[←hr25];exact kF s _ _ _ _ _ _ S.1.1.1.1.1.1.1.1 S.1.1.1.1.2 E (by omega) (by omega))).mono (fun _ _=>xX)) fun⟨w0,x0,y0⟩=>?_
  refine xq 4 [yJ 11 C.err] [yF 10 79 C.s w0 x0 y0 C.e] ?_
  refine xe (zA (zG ?_))
  refine yR (.tuple #[yV C.s w0 x0 y0 C.e,.int .i64 C.err]) fun w' U S=>?_
  rw[dM hj X (fun h=>by rcases h.2 with h|h|h;exact k4 h;exact k2 h;rw[k3] at h;cases h),hr25]
  exact⟨(w0,x0,y0),rfl,S.2,U⟩
 rw[i]
 have k1:=uH (Z.trans i)
 refine xq 14 [yB 47 false] [] ?_
 refine xe (zA (xb (zN (zA (zC (zB (xq 5 [yB 51 s,eS1 52 a b f,yJ 55 (IntKind.i64.wrap (e+((j+1:Nat):Int)))] [] ?_)))))))
 rw[yW (e+((j+1:Nat):Int)) (e+((j+1:Nat):Int)) (by omega)]
 obtain⟨D,N⟩:=yE (wV s (n/2^(j+1)) ((e+((j+1:Nat):Int))))
 refine xqc 118 [.bool s,.slice a b f,.int .i64 (e+((j+1:Nat):Int))] 56 (shNb D) _ (fun w U S=>((show Calls _ _ _ _ (wA w D) by rw[←N];exact kF s _ _ _ _ _ _ S.1.1.1.1.1 S.1.2 E (by omega) (by omega))).mono (fun _ _=>xX)) fun⟨z0,A0,B0⟩=>?_
 refine xq 4 [yJ 11 D.err] [yF 10 79 D.s z0 A0 B0 D.e] ?_
 refine xe (zA (zG ?_))
 refine yR (.tuple #[yV D.s z0 A0 B0 D.e,.int .i64 D.err]) fun w' U S=>?_
 rw[dM hj X (fun h=>k1 h.1),N]
 exact⟨(z0,A0,B0),rfl,S.2,U⟩
theorem Zm5 (s:Bool)(A:Option Addr)(l c x:Nat)(e:Int)(bits:Nat)(U0:0<bits)(hb:bits≤4096)(w:World)(hg:Glob w)(hX:zK w (.slice A l c) x)(V0:wl x≤100000)(W0 : -1073741824≤e)(X0:e≤1073741824)(g0:x=0∨x%2=1) :
 yA 86 #[yV s A l c e,.int .i64 ((bits:Nat):Int)] w (wA w (gE s x e bits)):=by
 refine zV (Φ:=fun w=>(Glob w∧zK w (.slice A l c) (x))) Tryz.func86 rfl (by kernel_rfl) (fun w' hf=>⟨hg.ext hf,hX.ext hf⟩) ?_
 refine zC ?_
 have Y0:=hX.len0
 have Z0:=@kT x
 have a1:=gM x
 refine zB (xq 3 [(2,.p 2 0),(4,.p 4 0),yJ 5 0] [yF 4 79 false none 0 0 0,yF 2 79 s A l c e] ?_)
 refine xe (zA (zC (zC (zB (xq 2 [yB 10 s] [] ?_)))))
 refine xe (zA ?_)
 refine yQ (s) (fun b0=>?_) fun b0=>?_
 ·have J:=b0
  refine zC (zB (xq 3 [yJ 5 3] [] ?_))
  refine xe (zA (zG (zI ?_)))
  refine yR (.tuple #[yV false none 0 0 0,.int .i64 3]) fun w' R Q=>?_
  rw[show gE s x e bits=⟨false,0,0,3⟩ from uL J]
  exact⟨(none,0,0),rfl,zK.zero _,R⟩
 have J:=b0
 refine zN (zA (zC (zC (zB (xq 4 [yB 15 (((l:Int):Int) == 0)] [] ?_)))))
 refine xe (zA ?_)
 refine yQ ((((l:Int):Int) == 0)) (fun c0=>?_) fun c0=>?_
 ·have n0:=tY.1 c0
  have h0:x=0:=by omega
  refine zC (zB (xq 3 [yJ 5 0] [] ?_))
  refine xe (zA (zG (zI ?_)))
  refine yR (.tuple #[yV false none 0 0 0,.int .i64 0]) fun w' R Q=>?_
  rw[show gE s x e bits=⟨false,0,0,0⟩ by unfold gE;rw[uJ (by rw[J];decide),uL h0]]
  exact⟨(none,0,0),rfl,zK.zero _,R⟩
 have n0:=wY c0
 have h0:¬ x=0:=by omega
 refine zN (zA (zC ?_))
 obtain⟨a,T0⟩:=yE (2*(bits:Int)+2-((blen x:Nat):Int))
 refine zB (xq 2 [yJ 18 (IntKind.i64.wrap (2*(bits:Int)))] [] ?_)
 rw[yW (2*(bits:Int)) (2*(bits:Int)) (by omega)]
 refine xq 1 [(19,.v (.int .i64 (IntKind.i64.wrap ((2*(bits:Int))+2))))] [] ?_
 rw[yW ((2*(bits:Int))+2) (2*(bits:Int)+2) (by omega)]
 refine xq 2 [eS1 21 A l c] [] ?_
 refine xqc 65 [.slice A l c] 22 (fun _:Unit=>.int .i64 ((blen x:Nat):Int)) _ (fun w R Q=>yN (kD Q.2 (by omega))) fun xx=>?_
 refine xq 1 [(23,.v (.int .i64 (IntKind.i64.wrap ((2*(bits:Int)+2)-((blen x:Nat):Int)))))] [] ?_
 rw[yW ((2*(bits:Int)+2)-((blen x:Nat):Int)) (a) (by omega)]
 refine xq 2 [(6,.p 6 0)] [(6,3,[.v (.int .i64 a)])] ?_
 refine xe (zA (zC (zC ?_)))
 by_cases i0:(e-a)%2=0
 ·refine zB (xq 4 [yJ 27 (IntKind.i64.wrap (e-a))] [] ?_)
  rw[yW (e-a) (e-a) (by omega)]
  refine xq 2 [(29,.v (.bool (((((e-a)).tmod 2):Int) != 0)))] [] ?_
  rw[show (((e-a).tmod 2:Int) != 0)=false from (by rw[bne_eq_false_iff_eq,Zp8];exact i0)]
  refine xe (zA (xb (zN (zA (zC ?_)))))
  obtain⟨sh,o0⟩:=yE a
  rw[o0]
  have d0:x%2=1:=g0.resolve_left h0
  have k:(e-sh)%2=0:=by omega
  have e0:2*(bits:Int)+2≤((blen x:Nat):Int)+sh:=by omega
  have f0:((blen x:Nat):Int)+sh≤2*(bits:Int)+3:=by omega
  obtain⟨Y,K⟩:=yE (fq x 1 (-sh))
  have p0:=ZbL (show 0<x by omega) sh (by omega)
  rw[K] at p0
  have q0:wl Y≤200:=ZhF (by omega)
  have G0:=Zkm q0
  by_cases r0:0≤sh
  ·obtain⟨j,hj⟩:∃ j:Nat,sh=j:=uB r0
   have L:x*2^j/2^0=Y:=by rw[vT,rB,← K,hj,Zas]
   have s0:j≤10000000:=by omega
   have t0:wl (x*2^j)≤4000000:=aB (by omega) (by omega)
   refine yO 11 zL ?_
   refine xqg 4 [eS1 33 A l c,yJ 35 (if 0>sh then 0 else sh)] ?_
   rw[(show (if 0>sh then 0 else sh)=(j:Int) by split<;>omega)]
   refine xqd 66 [.slice A l c,.int .i64 (j:Int)] 36 xH _ (fun w R Q=>yM xD (kL j Q.1.2 (by omega) (by omega))) fun⟨H0,I0,J0⟩=>?_
   refine xqg 2 [yJ 38 (IntKind.i64.wrap (0-(sh)))] ?_
   rw[show IntKind.i64.wrap (0-(sh)) = -sh by rw[IntKind.wrap_i64];omega]
   refine xqg 1 [yJ 39 (if 0>(-sh) then 0 else (-sh))] ?_
   rw[(show (if 0>(-sh) then 0 else (-sh))=((0:Nat):Int) by split<;>omega)]
   refine xqd 128 [.slice H0 I0 J0,.int .i64 ((0:Nat):Int)] 40 xH _ (fun w R Q=>(gI 0 Q.2 (by omega) (by omega)).mono (fun _ _ h=>xD (by rw[L] at h;exact h))) fun⟨m,n,o⟩=>?_
   refine xqf 2 [(7,.p 7 0)] [(7,77,[.v (.slice m n o)]),(7,77,[.v (.slice none 0 0)]),(6,3,[.v (.int .i64 sh)]),yF 4 79 false none 0 0 0,yF 2 79 s A l c e] ?_
   refine xz (xe (zA (zC (zB (xr 1 [yJ 1 (bits:Int),(2,.p 2 0),(4,.p 4 0),yJ 5 0,(6,.p 6 0),(7,.p 7 0),eS1 41 m n o] [(7,77,[.v (.slice m n o)]),(6,3,[.v (.int .i64 sh)]),yF 4 79 false none 0 0 0,yF 2 79 s A l c e] ?_)))))
   refine xqc 129 [.slice m n o] 42 xH _ (fun w R Q=>yM xD (Zcp m n o Y _ Q.2 (by omega))) fun⟨M,N,O⟩=>?_
   refine xq 2 [(8,.p 8 0)] [(8,77,[.v (.slice M N O)])] ?_
   refine xe (zA (zC ?_))
   refine SXc.freeze 6 3 [.int .i64 sh] (fun b=>[yJ 1 (bits:Int),(2,.p 2 0),(4,.p 4 0),yJ 5 0,(6,.v (.pointer (some ⟨b,0,none⟩))),(7,.p 7 0),(8,.p 8 0)]) [(8,77,[.v (.slice M N O)]),(7,77,[.v (.slice m n o)]),yF 4 79 false none 0 0 0,yF 2 79 s A l c e] (by kernel_rfl) (fun _=>by kernel_rfl) (by kernel_rfl) (by kernel_rfl) (fun _=>by kernel_rfl) fun b=>?_
   refine SXc.freeze 8 77 [.slice M N O] (fun d=>[yJ 1 (bits:Int),(2,.p 2 0),(4,.p 4 0),yJ 5 0,(6,.v (.pointer (some ⟨b,0,none⟩))),(7,.p 7 0),(8,.v (.pointer (some ⟨d,0,none⟩)))]) [(7,77,[.v (.slice m n o)]),yF 4 79 false none 0 0 0,yF 2 79 s A l c e] (by kernel_rfl) (fun _=>by kernel_rfl) (by kernel_rfl) (by kernel_rfl) (fun _=>by kernel_rfl) fun d=>?_
   refine SXc.freeze 7 77 [.slice m n o] (fun f=>[yJ 1 (bits:Int),(2,.p 2 0),(4,.p 4 0),yJ 5 0,(6,.v (.pointer (some ⟨b,0,none⟩))),(7,.v (.pointer (some ⟨f,0,none⟩))),(8,.v (.pointer (some ⟨d,0,none⟩)))]) [yF 4 79 false none 0 0 0,yF 2 79 s A l c e] (by kernel_rfl) (fun _=>by kernel_rfl) (by kernel_rfl) (by kernel_rfl) (fun _=>by kernel_rfl) fun f=>?_
   refine zB ?_
   refine xqk 43 (.slice M N O) (fun w R Q=>lZ (t:=77) (x:=.tmp 8) (g:=d) (off:=0) (Blk.cell (Q.1.2) 0)) ?_
   refine xq 2 [yJ 45 e] [] ?_
   refine xqk 46 (.int .i64 sh) (fun w R Q=>lZ (t:=3) (x:=.tmp 6) (g:=b) (off:=0) (Blk.cell (Q.1.1.2) 0)) ?_
   refine xq 1 [yJ 47 (IntKind.i64.wrap (e-sh))] [] ?_
   rw[yW (e-sh) (e-sh) (by omega)]
   refine xq 1 [yJ 48 (IntKind.i64.wrap (((e-sh)).tdiv 2))] [] ?_
   rw[show IntKind.i64.wrap ((e-sh).tdiv 2)=(e-sh)/2 by rw[Zi6 k,IntKind.wrap_i64];omega]
   refine xq 2 [yJ 49 (bits:Int),(50,.v (.func (.func 130) #[] #[.pointer (some ⟨b,0,none⟩),.pointer (some ⟨d,0,none⟩),.pointer (some ⟨f,0,none⟩)]))] [] ?_
   obtain⟨F,j0⟩:=yE (lC false (isq Y) ((e-sh)/2) bits (decide (sh<0∨isq Y*isq Y≠Y)))
   refine xqc 123 [.bool false,.slice M N O,.int .i64 ((e-sh)/2),.int .i64 (bits:Int),.func (.func 130) #[] #[.pointer (some ⟨b,0,none⟩),.pointer (some ⟨d,0,none⟩),.pointer (some ⟨f,0,none⟩)]] 51 (shNb F) _ (fun w R Q=>yM xX ((show Calls _ _ _ _ (wA w F) by rw[←j0];exact Zbl false _ _ _ _ _ bits b d f sh M N O (isq Y) m n o Y _ Q.1.1.1.1.1.1.1.1 Q.1.1.1.2 (by omega) (by omega) (by omega) (by omega) Q.1.1.2 Q.1.2 Q.2 Q.1.1.1.2 Q.1.1.1.1.2 (by omega)))) fun⟨u0,v0,w0⟩=>?_
   refine xq 4 [yJ 5 F.err] [yF 4 79 F.s u0 v0 w0 F.e] ?_
   refine xe (zA (zG ?_))
   refine yR (.tuple #[yV F.s u0 v0 w0 F.e,.int .i64 F.err]) fun w' R Q=>?_
   have i:=bS d0 e (by omega) sh k e0 f0
   rw[K,show jJ x sh=decide (sh<0∨isq Y*isq Y≠Y) by unfold jJ;rw[K]] at i
   rw[show gE s x e bits=Zba x e bits by unfold gE;rw[uJ (by rw[J];decide),uJ h0],← i,j0]
   exact⟨(u0,v0,w0),rfl,Q.2,R⟩
  obtain⟨j,hj⟩:∃ j:Nat,sh = -(j:Int):=⟨(-sh).toNat,by omega⟩
  have L:x*2^0/2^j=Y:=by rw[vT,sB,← K,Zl5 hj]
  have s0:j≤10000000:=by omega
  have t0:wl (x*2^0)≤4000000:=aB (by omega) (by omega)
  refine yO 11 zL ?_
  refine xqg 4 [eS1 33 A l c,yJ 35 (if 0>sh then 0 else sh)] ?_
  rw[(show (if 0>sh then 0 else sh)=((0:Nat):Int) by split<;>omega)]
  refine xqd 66 [.slice A l c,.int .i64 ((0:Nat):Int)] 36 xH _ (fun w R Q=>yM xD (kL 0 Q.1.2 (by omega) (by omega))) fun⟨K0,L0,M0⟩=>?_
  refine xqg 2 [yJ 38 (IntKind.i64.wrap (0-(sh)))] ?_
  rw[show IntKind.i64.wrap (0-(sh)) = -sh by rw[IntKind.wrap_i64];omega]
  refine xqg 1 [yJ 39 (if 0>(-sh) then 0 else (-sh))] ?_
  rw[(show (if 0>(-sh) then 0 else (-sh))=(j:Int) by split<;>omega)]
  refine xqd 128 [.slice K0 L0 M0,.int .i64 (j:Int)] 40 xH _ (fun w R Q=>(gI j Q.2 (by omega) (by omega)).mono (fun _ _ h=>xD (by rw[L] at h;exact h))) fun⟨q,r,u⟩=>?_
  refine xqf 2 [(7,.p 7 0)] [(7,77,[.v (.slice q r u)]),(7,77,[.v (.slice none 0 0)]),(6,3,[.v (.int .i64 sh)]),yF 4 79 false none 0 0 0,yF 2 79 s A l c e] ?_
  refine xz (xe (zA (zC (zB (xr 1 [yJ 1 (bits:Int),(2,.p 2 0),(4,.p 4 0),yJ 5 0,(6,.p 6 0),(7,.p 7 0),eS1 41 q r u] [(7,77,[.v (.slice q r u)]),(6,3,[.v (.int .i64 sh)]),yF 4 79 false none 0 0 0,yF 2 79 s A l c e] ?_)))))
  refine xqc 129 [.slice q r u] 42 xH _ (fun w R Q=>yM xD (Zcp q r u Y _ Q.2 (by omega))) fun⟨P,S,T⟩=>?_
  refine xq 2 [(8,.p 8 0)] [(8,77,[.v (.slice P S T)])] ?_
  refine xe (zA (zC ?_))
  refine SXc.freeze 6 3 [.int .i64 sh] (fun b=>[yJ 1 (bits:Int),(2,.p 2 0),(4,.p 4 0),yJ 5 0,(6,.v (.pointer (some ⟨b,0,none⟩))),(7,.p 7 0),(8,.p 8 0)]) [(8,77,[.v (.slice P S T)]),(7,77,[.v (.slice q r u)]),yF 4 79 false none 0 0 0,yF 2 79 s A l c e] (by kernel_rfl) (fun _=>by kernel_rfl) (by kernel_rfl) (by kernel_rfl) (fun _=>by kernel_rfl) fun b=>?_
  refine SXc.freeze 8 77 [.slice P S T] (fun d=>[yJ 1 (bits:Int),(2,.p 2 0),(4,.p 4 0),yJ 5 0,(6,.v (.pointer (some ⟨b,0,none⟩))),(7,.p 7 0),(8,.v (.pointer (some ⟨d,0,none⟩)))]) [(7,77,[.v (.slice q r u)]),yF 4 79 false none 0 0 0,yF 2 79 s A l c e] (by kernel_rfl) (fun _=>by kernel_rfl) (by kernel_rfl) (by kernel_rfl) (fun _=>by kernel_rfl) fun d=>?_
  refine SXc.freeze 7 77 [.slice q r u] (fun f=>[yJ 1 (bits:Int),(2,.p 2 0),(4,.p 4 0),yJ 5 0,(6,.v (.pointer (some ⟨b,0,none⟩))),(7,.v (.pointer (some ⟨f,0,none⟩))),(8,.v (.pointer (some ⟨d,0,none⟩)))]) [yF 4 79 false none 0 0 0,yF 2 79 s A l c e] (by kernel_rfl) (fun _=>by kernel_rfl) (by kernel_rfl) (by kernel_rfl) (fun _=>by kernel_rfl) fun f=>?_
  refine zB ?_
  refine xqk 43 (.slice P S T) (fun w R Q=>lZ (t:=77) (x:=.tmp 8) (g:=d) (off:=0) (Blk.cell (Q.1.2) 0)) ?_
  refine xq 2 [yJ 45 e] [] ?_
  refine xqk 46 (.int .i64 sh) (fun w R Q=>lZ (t:=3) (x:=.tmp 6) (g:=b) (off:=0) (Blk.cell (Q.1.1.2) 0)) ?_
  refine xq 1 [yJ 47 (IntKind.i64.wrap (e-sh))] [] ?_
  rw[yW (e-sh) (e-sh) (by omega)]
  refine xq 1 [yJ 48 (IntKind.i64.wrap (((e-sh)).tdiv 2))] [] ?_
  rw[show IntKind.i64.wrap ((e-sh).tdiv 2)=(e-sh)/2 by rw[Zi6 k,IntKind.wrap_i64];omega]
  refine xq 2 [yJ 49 (bits:Int),(50,.v (.func (.func 130) #[] #[.pointer (some ⟨b,0,none⟩),.pointer (some ⟨d,0,none⟩),.pointer (some ⟨f,0,none⟩)]))] [] ?_
  obtain⟨G,k0⟩:=yE (lC false (isq Y) ((e-sh)/2) bits (decide (sh<0∨isq Y*isq Y≠Y)))
  refine xqc 123 [.bool false,.slice P S T,.int .i64 ((e-sh)/2),.int .i64 (bits:Int),.func (.func 130) #[] #[.pointer (some ⟨b,0,none⟩),.pointer (some ⟨d,0,none⟩),.pointer (some ⟨f,0,none⟩)]] 51 (shNb G) _ (fun w R Q=>yM xX ((show Calls _ _ _ _ (wA w G) by rw[←k0];exact Zbl false _ _ _ _ _ bits b d f sh P S T (isq Y) q r u Y _ Q.1.1.1.1.1.1.1.1 Q.1.1.1.2 (by omega) (by omega) (by omega) (by omega) Q.1.1.2 Q.1.2 Q.2 Q.1.1.1.2 Q.1.1.1.1.2 (by omega)))) fun⟨x0,y0,z0⟩=>?_
  refine xq 4 [yJ 5 G.err] [yF 4 79 G.s x0 y0 z0 G.e] ?_
  refine xe (zA (zG ?_))
  refine yR (.tuple #[yV G.s x0 y0 z0 G.e,.int .i64 G.err]) fun w' R Q=>?_
  have i:=bS d0 e (by omega) sh k e0 f0
  rw[K,show jJ x sh=decide (sh<0∨isq Y*isq Y≠Y) by unfold jJ;rw[K]] at i
  rw[show gE s x e bits=Zba x e bits by unfold gE;rw[uJ (by rw[J];decide),uJ h0],← i,k0]
  exact⟨(x0,y0,z0),rfl,Q.2,R⟩
 refine zB (xq 4 [yJ 27 (IntKind.i64.wrap (e-a))] [] ?_)
 rw[yW (e-a) (e-a) (by omega)]
 refine xq 2 [(29,.v (.bool (((((e-a)).tmod 2):Int) != 0)))] [] ?_
 rw[show (((e-a).tmod 2:Int) != 0)=true from bne_iff_ne.2 (mt (Zp8 _).1 i0)]
 refine xe (zA (xa (zB (xq 2 [yJ 31 (IntKind.i64.wrap (a+1))] [] ?_))))
 rw[yW (a+1) (a+1) (by omega)]
 refine xq 1 [] [(6,3,[.v (.int .i64 (a+1))])] ?_
 refine xe (zA (zC ?_))
 obtain⟨sh,o0⟩:=yE (a+1)
 rw[o0]
 have d0:x%2=1:=g0.resolve_left h0
 have k:(e-sh)%2=0:=by omega
 have e0:2*(bits:Int)+2≤((blen x:Nat):Int)+sh:=by omega
 have f0:((blen x:Nat):Int)+sh≤2*(bits:Int)+3:=by omega
 obtain⟨Y,K⟩:=yE (fq x 1 (-sh))
 have p0:=ZbL (show 0<x by omega) sh (by omega)
 rw[K] at p0
 have q0:wl Y≤200:=ZhF (by omega)
 have G0:=Zkm q0
 by_cases r0:0≤sh
 ·obtain⟨j,hj⟩:∃ j:Nat,sh=j:=uB r0
  have L:x*2^j/2^0=Y:=by rw[vT,rB,← K,hj,Zas]
  have s0:j≤10000000:=by omega
  have t0:wl (x*2^j)≤4000000:=aB (by omega) (by omega)
  refine yO 11 zL ?_
  refine xqg 4 [eS1 33 A l c,yJ 35 (if 0>sh then 0 else sh)] ?_
  rw[(show (if 0>sh then 0 else sh)=(j:Int) by split<;>omega)]
  refine xqd 66 [.slice A l c,.int .i64 (j:Int)] 36 xH _ (fun w R Q=>yM xD (kL j Q.1.2 (by omega) (by omega))) fun⟨N0,O0,P0⟩=>?_
  refine xqg 2 [yJ 38 (IntKind.i64.wrap (0-(sh)))] ?_
  rw[show IntKind.i64.wrap (0-(sh)) = -sh by rw[IntKind.wrap_i64];omega]
  refine xqg 1 [yJ 39 (if 0>(-sh) then 0 else (-sh))] ?_
  rw[(show (if 0>(-sh) then 0 else (-sh))=((0:Nat):Int) by split<;>omega)]
  refine xqd 128 [.slice N0 O0 P0,.int .i64 ((0:Nat):Int)] 40 xH _ (fun w R Q=>(gI 0 Q.2 (by omega) (by omega)).mono (fun _ _ h=>xD (by rw[L] at h;exact h))) fun⟨y,z,B⟩=>?_
  refine xqf 2 [(7,.p 7 0)] [(7,77,[.v (.slice y z B)]),(7,77,[.v (.slice none 0 0)]),(6,3,[.v (.int .i64 sh)]),yF 4 79 false none 0 0 0,yF 2 79 s A l c e] ?_
  refine xz (xe (zA (zC (zB (xr 1 [yJ 1 (bits:Int),(2,.p 2 0),(4,.p 4 0),yJ 5 0,(6,.p 6 0),(7,.p 7 0),eS1 41 y z B] [(7,77,[.v (.slice y z B)]),(6,3,[.v (.int .i64 sh)]),yF 4 79 false none 0 0 0,yF 2 79 s A l c e] ?_)))))
  refine xqc 129 [.slice y z B] 42 xH _ (fun w R Q=>yM xD (Zcp y z B Y _ Q.2 (by omega))) fun⟨U,V,W⟩=>?_
  refine xq 2 [(8,.p 8 0)] [(8,77,[.v (.slice U V W)])] ?_
  refine xe (zA (zC ?_))
  refine SXc.freeze 6 3 [.int .i64 sh] (fun b=>[yJ 1 (bits:Int),(2,.p 2 0),(4,.p 4 0),yJ 5 0,(6,.v (.pointer (some ⟨b,0,none⟩))),(7,.p 7 0),(8,.p 8 0)]) [(8,77,[.v (.slice U V W)]),(7,77,[.v (.slice y z B)]),yF 4 79 false none 0 0 0,yF 2 79 s A l c e] (by kernel_rfl) (fun _=>by kernel_rfl) (by kernel_rfl) (by kernel_rfl) (fun _=>by kernel_rfl) fun b=>?_
  refine SXc.freeze 8 77 [.slice U V W] (fun d=>[yJ 1 (bits:Int),(2,.p 2 0),(4,.p 4 0),yJ 5 0,(6,.v (.pointer (some ⟨b,0,none⟩))),(7,.p 7 0),(8,.v (.pointer (some ⟨d,0,none⟩)))]) [(7,77,[.v (.slice y z B)]),yF 4 79 false none 0 0 0,yF 2 79 s A l c e] (by kernel_rfl) (fun _=>by kernel_rfl) (by kernel_rfl) (by kernel_rfl) (fun _=>by kernel_rfl) fun d=>?_
  refine SXc.freeze 7 77 [.slice y z B] (fun f=>[yJ 1 (bits:Int),(2,.p 2 0),(4,.p 4 0),yJ 5 0,(6,.v (.pointer (some ⟨b,0,none⟩))),(7,.v (.pointer (some ⟨f,0,none⟩))),(8,.v (.pointer (some ⟨d,0,none⟩)))]) [yF 4 79 false none 0 0 0,yF 2 79 s A l c e] (by kernel_rfl) (fun _=>by kernel_rfl) (by kernel_rfl) (by kernel_rfl) (fun _=>by kernel_rfl) fun f=>?_
  refine zB ?_
  refine xqk 43 (.slice U V W) (fun w R Q=>lZ (t:=77) (x:=.tmp 8) (g:=d) (off:=0) (Blk.cell (Q.1.2) 0)) ?_
  refine xq 2 [yJ 45 e] [] ?_
  refine xqk 46 (.int .i64 sh) (fun w R Q=>lZ (t:=3) (x:=.tmp 6) (g:=b) (off:=0) (Blk.cell (Q.1.1.2) 0)) ?_
  refine xq 1 [yJ 47 (IntKind.i64.wrap (e-sh))] [] ?_
  rw[yW (e-sh) (e-sh) (by omega)]
  refine xq 1 [yJ 48 (IntKind.i64.wrap (((e-sh)).tdiv 2))] [] ?_
  rw[show IntKind.i64.wrap ((e-sh).tdiv 2)=(e-sh)/2 by rw[Zi6 k,IntKind.wrap_i64];omega]
  refine xq 2 [yJ 49 (bits:Int),(50,.v (.func (.func 130) #[] #[.pointer (some ⟨b,0,none⟩),.pointer (some ⟨d,0,none⟩),.pointer (some ⟨f,0,none⟩)]))] [] ?_
  obtain⟨H,l0⟩:=yE (lC false (isq Y) ((e-sh)/2) bits (decide (sh<0∨isq Y*isq Y≠Y)))
  refine xqc 123 [.bool false,.slice U V W,.int .i64 ((e-sh)/2),.int .i64 (bits:Int),.func (.func 130) #[] #[.pointer (some ⟨b,0,none⟩),.pointer (some ⟨d,0,none⟩),.pointer (some ⟨f,0,none⟩)]] 51 (shNb H) _ (fun w R Q=>yM xX ((show Calls _ _ _ _ (wA w H) by rw[←l0];exact Zbl false _ _ _ _ _ bits b d f sh U V W (isq Y) y z B Y _ Q.1.1.1.1.1.1.1.1 Q.1.1.1.2 (by omega) (by omega) (by omega) (by omega) Q.1.1.2 Q.1.2 Q.2 Q.1.1.1.2 Q.1.1.1.1.2 (by omega)))) fun⟨A0,B0,C0⟩=>?_
  refine xq 4 [yJ 5 H.err] [yF 4 79 H.s A0 B0 C0 H.e] ?_
  refine xe (zA (zG ?_))
  refine yR (.tuple #[yV H.s A0 B0 C0 H.e,.int .i64 H.err]) fun w' R Q=>?_
  have i:=bS d0 e (by omega) sh k e0 f0
  rw[K,show jJ x sh=decide (sh<0∨isq Y*isq Y≠Y) by unfold jJ;rw[K]] at i
  rw[show gE s x e bits=Zba x e bits by unfold gE;rw[uJ (by rw[J];decide),uJ h0],← i,l0]
  exact⟨(A0,B0,C0),rfl,Q.2,R⟩
 obtain⟨j,hj⟩:∃ j:Nat,sh = -(j:Int):=⟨(-sh).toNat,by omega⟩
 have L:x*2^0/2^j=Y:=by rw[vT,sB,← K,Zl5 hj]
 have s0:j≤10000000:=by omega
 have t0:wl (x*2^0)≤4000000:=aB (by omega) (by omega)
 refine yO 11 zL ?_
 refine xqg 4 [eS1 33 A l c,yJ 35 (if 0>sh then 0 else sh)] ?_
 rw[(show (if 0>sh then 0 else sh)=((0:Nat):Int) by split<;>omega)]
 refine xqd 66 [.slice A l c,.int .i64 ((0:Nat):Int)] 36 xH _ (fun w R Q=>yM xD (kL 0 Q.1.2 (by omega) (by omega))) fun⟨Q0,R0,S0⟩=>?_
 refine xqg 2 [yJ 38 (IntKind.i64.wrap (0-(sh)))] ?_
 rw[show IntKind.i64.wrap (0-(sh)) = -sh by rw[IntKind.wrap_i64];omega]
 refine xqg 1 [yJ 39 (if 0>(-sh) then 0 else (-sh))] ?_
 rw[(show (if 0>(-sh) then 0 else (-sh))=(j:Int) by split<;>omega)]
 refine xqd 128 [.slice Q0 R0 S0,.int .i64 (j:Int)] 40 xH _ (fun w R Q=>(gI j Q.2 (by omega) (by omega)).mono (fun _ _ h=>xD (by rw[L] at h;exact h))) fun⟨C,D,E⟩=>?_
 refine xqf 2 [(7,.p 7 0)] [(7,77,[.v (.slice C D E)]),(7,77,[.v (.slice none 0 0)]),(6,3,[.v (.int .i64 sh)]),yF 4 79 false none 0 0 0,yF 2 79 s A l c e] ?_
 refine xz (xe (zA (zC (zB (xr 1 [yJ 1 (bits:Int),(2,.p 2 0),(4,.p 4 0),yJ 5 0,(6,.p 6 0),(7,.p 7 0),eS1 41 C D E] [(7,77,[.v (.slice C D E)]),(6,3,[.v (.int .i64 sh)]),yF 4 79 false none 0 0 0,yF 2 79 s A l c e] ?_)))))
 refine xqc 129 [.slice C D E] 42 xH _ (fun w R Q=>yM xD (Zcp C D E Y _ Q.2 (by omega))) fun⟨X,Z,a0⟩=>?_
 refine xq 2 [(8,.p 8 0)] [(8,77,[.v (.slice X Z a0)])] ?_
 refine xe (zA (zC ?_))
 refine SXc.freeze 6 3 [.int .i64 sh] (fun b=>[yJ 1 (bits:Int),(2,.p 2 0),(4,.p 4 0),yJ 5 0,(6,.v (.pointer (some ⟨b,0,none⟩))),(7,.p 7 0),(8,.p 8 0)]) [(8,77,[.v (.slice X Z a0)]),(7,77,[.v (.slice C D E)]),yF 4 79 false none 0 0 0,yF 2 79 s A l c e] (by kernel_rfl) (fun _=>by kernel_rfl) (by kernel_rfl) (by kernel_rfl) (fun _=>by kernel_rfl) fun b=>?_
 refine SXc.freeze 8 77 [.slice X Z a0] (fun d=>[yJ 1 (bits:Int),(2,.p 2 0),(4,.p 4 0),yJ 5 0,(6,.v (.pointer (some ⟨b,0,none⟩))),(7,.p 7 0),(8,.v (.pointer (some ⟨d,0,none⟩)))]) [(7,77,[.v (.slice C D E)]),yF 4 79 false none 0 0 0,yF 2 79 s A l c e] (by kernel_rfl) (fun _=>by kernel_rfl) (by kernel_rfl) (by kernel_rfl) (fun _=>by kernel_rfl) fun d=>?_
 refine SXc.freeze 7 77 [.slice C D E] (fun f=>[yJ 1 (bits:Int),(2,.p 2 0),(4,.p 4 0),yJ 5 0,(6,.v (.pointer (some ⟨b,0,none⟩))),(7,.v (.pointer (some ⟨f,0,none⟩))),(8,.v (.pointer (some ⟨d,0,none⟩)))]) [yF 4 79 false none 0 0 0,yF 2 79 s A l c e] (by kernel_rfl) (fun _=>by kernel_rfl) (by kernel_rfl) (by kernel_rfl) (fun _=>by kernel_rfl) fun f=>?_
 refine zB ?_
 refine xqk 43 (.slice X Z a0) (fun w R Q=>lZ (t:=77) (x:=.tmp 8) (g:=d) (off:=0) (Blk.cell (Q.1.2) 0)) ?_
 refine xq 2 [yJ 45 e] [] ?_
 refine xqk 46 (.int .i64 sh) (fun w R Q=>lZ (t:=3) (x:=.tmp 6) (g:=b) (off:=0) (Blk.cell (Q.1.1.2) 0)) ?_
 refine xq 1 [yJ 47 (IntKind.i64.wrap (e-sh))] [] ?_
 rw[yW (e-sh) (e-sh) (by omega)]
 refine xq 1 [yJ 48 (IntKind.i64.wrap (((e-sh)).tdiv 2))] [] ?_
 rw[show IntKind.i64.wrap ((e-sh).tdiv 2)=(e-sh)/2 by rw[Zi6 k,IntKind.wrap_i64];omega]
 refine xq 2 [yJ 49 (bits:Int),(50,.v (.func (.func 130) #[] #[.pointer (some ⟨b,0,none⟩),.pointer (some ⟨d,0,none⟩),.pointer (some ⟨f,0,none⟩)]))] [] ?_
 obtain⟨I,m0⟩:=yE (lC false (isq Y) ((e-sh)/2) bits (decide (sh<0∨isq Y*isq Y≠Y)))
 refine xqc 123 [.bool false,.slice X Z a0,.int .i64 ((e-sh)/2),.int .i64 (bits:Int),.func (.func 130) #[] #[.pointer (some ⟨b,0,none⟩),.pointer (some ⟨d,0,none⟩),.pointer (some ⟨f,0,none⟩)]] 51 (shNb I) _ (fun w R Q=>yM xX ((show Calls _ _ _ _ (wA w I) by rw[←m0];exact Zbl false _ _ _ _ _ bits b d f sh X Z a0 (isq Y) C D E Y _ Q.1.1.1.1.1.1.1.1 Q.1.1.1.2 (by omega) (by omega) (by omega) (by omega) Q.1.1.2 Q.1.2 Q.2 Q.1.1.1.2 Q.1.1.1.1.2 (by omega)))) fun⟨D0,E0,F0⟩=>?_
 refine xq 4 [yJ 5 I.err] [yF 4 79 I.s D0 E0 F0 I.e] ?_
 refine xe (zA (zG ?_))
 refine yR (.tuple #[yV I.s D0 E0 F0 I.e,.int .i64 I.err]) fun w' R Q=>?_
 have i:=bS d0 e (by omega) sh k e0 f0
 rw[K,show jJ x sh=decide (sh<0∨isq Y*isq Y≠Y) by unfold jJ;rw[K]] at i
 rw[show gE s x e bits=Zba x e bits by unfold gE;rw[uJ (by rw[J];decide),uJ h0],← i,m0]
 exact⟨(D0,E0,F0),rfl,Q.2,R⟩
end Go.Proofs.YtklpdkpcocnglaaGreatDoor
namespace Go.Proofs.YtklpdkpcocnglaaGreatDoor
theorem Zkn {z:Int}(h:z≠0):∃ (o:Int) (t:Nat),z=o*2^t∧o%2=1∧blen o.natAbs≤blen z.natAbs∧t≤blen z.natAbs:=by
 have a:0<z.natAbs:=by omega
 obtain⟨b,c⟩:=kZ a
 have d:=aH a
 refine⟨sg (decide (z<0)) (oddM z.natAbs),tzn z.natAbs,?_,ZcO b,?_,by omega⟩
 ·rw[ZcU,← c,Zad]
 rw[Zbh]
 refine xF.2 (vE ?_ (xF.1 (uM (blen z.natAbs))))
 unfold oddM
 exact uZ _ _
theorem fW {z x:Int}{a:Nat}(j:blen z.natAbs≤a)(ha:a≤100000)(e : -100000≤x)(f:x≤100000):lA (qv z x):=by
 by_cases c:z=0
 ·subst c
  rw[fF]
  exact⟨by show ml 0≤100000;exact Zov _,by show ml 1≤100000;exact uE aQ (by decide)⟩
 obtain⟨o,t,rfl,g,l,m⟩:=Zkn c
 rw[ZbM,← gW]
 by_cases d:0≤x+t
 ·obtain⟨k,b⟩:=uB d
  rw[aR b]
  refine⟨?_,by show ml 1≤100000;exact uE aQ (by decide)⟩
  show ml (o*2^k).natAbs≤100000
  rw[tE,show ((2:Int)^k).natAbs=2^k by rw[rG];rfl]
  exact dO (cY (n:=a) (by omega) (by omega))
 obtain⟨k,b⟩:=uB (show 0 ≤ -(x+t) by omega)
 obtain⟨h,i⟩:=Zag (k:=k) g
 rw[aS b d]
 unfold lA
 rw[h,i]
 exact⟨dO (by omega),dO (ZaA (by omega))⟩
theorem RF.of {z x:Int}{n:Nat}(a:0<n)(b:(z=0∧x=0)∨(z%2=1∧okE x))(h:blen z.natAbs≤n):RF (qv z x) n z x:=by
 have c:Rep n (qv z x):=by
  refine⟨decide (z<0),z.natAbs,x,?_,rT (xF.1 h)⟩
  have:=Zm2 (decide (z<0)) z.natAbs x
  rw[Zad] at this
  exact this
 exact⟨c.rnd a,b,h⟩
theorem Zoy {F n:Nat}(c:2*n+1≤blen F)(b:blen F≤2*n+2):2^n≤isq F∧isq F<2^(n+1):=by
 obtain⟨d,e⟩:=eW F
 have l:=iR.1 (show 2*n<blen F by omega)
 have u:=xF.1 b
 constructor
 ·refine Nat.le_of_not_lt fun h=>?_
  have a:=vV (show isq F+1≤2^n by omega) (show isq F+1≤2^n by omega)
  rw[←uS,show n+n=2*n by omega] at a
  omega
 refine qB fun h=>?_
 have a:=vV h h
 rw[←uS,show n+1+(n+1)=2*n+2 by omega] at a
 omega
theorem Zoz {M n:Nat}{E:Int}(b:0<M)(e:0<n):2^(n-1)≤sqM M E n∧sqM M E n≤2^n:=by
 have f:(blen M:Int)+(E-2*sqK M E n+2)=2*n+1∨(blen M:Int)+(E-2*sqK M E n+2)=2*n+2:=by unfold sqK;omega
 have g:=ZbL b (E-2*sqK M E n+2) (by omega)
 unfold sqM
 generalize fq M 1 (-(E-2*sqK M E n+2))=F at *
 obtain⟨h,i⟩:=Zoy (F:=F) (n:=n) (by omega) (by omega)
 generalize jJ M (E-2*sqK M E n+2)=mk
 obtain⟨j,rfl⟩:∃ j,n=j+1:=⟨n-1,by omega⟩
 obtain⟨m,a⟩:=yE (iS (isq F) 0 mk)
 have c:=Zot a
 rw[a,vW]
 have k:2^(j+1)=2*2^j:=by rw[uO];omega
 have d:2^(j+1+1)=2*2^(j+1):=by rw[uO];omega
 omega
structure RtF (z x:Int) (n:Nat) (R:Nat) (e:Int):Prop where
 f:RF (qv (R:Int) e) n (R:Int) e
 e1 : -900≤e
 e2:e≤900
 lo:(qv R e-qv R e*2^(-(n:Int)))*(qv R e-qv R e*2^(-(n:Int)))≤qv z x
 hi:qv z x≤(qv R e+qv R e*2^(-(n:Int)))*(qv R e+qv R e*2^(-(n:Int)))
theorem Zrb {z x:Int}{n:Nat}(v:TF z x)(Q:0≤z)(w:8≤n)(S:n≤100) :
 ∃ R e,sqF (Lib.itoa z) x (n:Int)=⟨false,R,e,0⟩∧RtF z x n R e:=by
 obtain⟨y,T,A,B⟩:=v
 have g:okE x:=⟨by omega,by omega⟩
 have b:fvB (Lib.itoa z) x=true:=by rw[ZcP];exact uW (y.imp id (fun h=>⟨h,g⟩))
 have C:=ld_z (Lib.itoa z) x
 have D:zfl (Lib.itoa z) x=z:=by unfold zfl;rw[uL b,lV]
 have i:(ldR (Lib.itoa z) x).s=false∧(ldR (Lib.itoa z) x).m=z.natAbs∧(ldR (Lib.itoa z) x).e=x:=by
  rw[show ldR (Lib.itoa z) x=⟨(zQ (Lib.itoa z)).1,zH (zQ (Lib.itoa z)).2,x,0⟩ from uL b,jC]
  exact⟨vF (by omega),jL _,rfl⟩
 unfold sqF
 rw[uL b,uL (by omega),tN]
 unfold Zex gE
 rw[i.1,i.2.1,i.2.2,uJ (by decide)]
 by_cases c:z.natAbs=0
 ·rw[uL c]
  have q:z=0:=by omega
  have r:qv ((0:Nat):Int) 0=0:=fF _
  refine⟨0,0,rfl,RF.of (by omega) (Or.inl ⟨rfl,rfl⟩) (by rw[show ((0:Nat):Int).natAbs=0 from rfl,jI];omega),by omega,by omega,?_,?_⟩
  ·rw[r,q,fF];grind
  rw[r,q,fF];grind
 rw[uJ c]
 obtain⟨M,j⟩:=yE z.natAbs
 rw[j]
 have d:0<M:=by omega
 have k:z=(M:Int):=by omega
 have F:blen M≤40:=xF.2 (by omega)
 have t:=jG d
 obtain⟨u,G⟩:=Zoz (M:=M) (n:=n) (E:=x) d (by omega)
 have U:sqK M x n=sqK M x n:=rfl
 have H:sqK M x n=((blen M:Int)+x-1)/2-((n:Int)-1):=rfl
 have f:=Zq5 (M:=M) (bits:=n) (E:=x) (by omega) rfl rfl u
 unfold Zba
 generalize sqM M x n=m at *
 generalize sqK M x n=K at *
 have l:0<m:=uQ (p2 _) u
 have I:=aH l
 have J:blen m≤n+1:=xF.2 (vE G (by rw[uO];have:=p2 n;omega))
 have a:okE (K+tzn m):=by constructor<;>omega
 obtain⟨L,N⟩:=Zeu (s:=false) l a
 obtain⟨V,W⟩:=kZ l
 have p:blen (oddM m)≤n:=by
  by_cases j:m=2^n
  ·have O:oddM m=1:=by
    rw[j]
    have:=ZcE (o:=1) (by decide) n
    rwa [sV] at this
   rw[O]
   exact xF.2 (by
    have X:2^1≤2^n:=uR (by decide) (by omega)
    omega)
  refine xF.2 (vE ?_ (show m<2^n by omega))
  unfold oddM
  exact uZ _ _
 refine⟨oddM m,K+tzn m,L,RF.of (by omega) (Or.inr ⟨by omega,a⟩) p,by omega,by omega,?_,?_⟩
 all_goals
  have P:qv ((oddM m:Nat):Int) (K+tzn m)=(m:Rat)*2^K:=N
  rw[P,k]
 ·exact f.1
 exact f.2
section
variable {z x:Int}
theorem TF.ok (h:TF z x):(z=0∧x=0)∨(z%2=1∧okE x):=h.1.imp id (fun e=>⟨e,by have:=h.2;omega,by have:=h.2;omega⟩)
theorem TF.fv (h:TF z x):fvB (Lib.itoa z) x=true:=by rw[ZcP];exact uW h.ok
theorem TF.zfl (h:TF z x):zfl (Lib.itoa z) x=z:=by unfold Go.Proofs.YtklpdkpcocnglaaGreatDoor.zfl;rw[uL h.fv,lV]
theorem TF.efl (h:TF z x):efl (Lib.itoa z) x=x:=by unfold Go.Proofs.YtklpdkpcocnglaaGreatDoor.efl;rw[uL h.fv]
theorem TF.neg (h:TF z x):TF (-z) x:=⟨h.1.imp (fun e=>⟨by omega,e.2⟩) (fun e=>by omega),by have:=h.2;omega,h.2.2.1,h.2.2.2⟩
theorem TF.len (h:TF z x):(Lib.itoa z).length≤30:=by
 have a:=jA (z:=z) (k:=1) (uE (xF.2 (show z.natAbs<2^40 by have:=h.2;omega)) (by decide))
 omega
theorem TF.cmp0 (h:TF z x):cmpL (Lib.itoa z) [48] x 0<0↔z<0:=by
 have a:TF 0 0:=⟨Or.inl ⟨rfl,rfl⟩,by decide,by decide,by decide⟩
 rw[show ([48]:List UInt8)=Lib.itoa 0 from fL.symm,Zou,h.zfl,h.efl,a.zfl,a.efl]
 unfold cmpZ
 rw[Int.zero_mul,Int.sub_zero]
 have b:(0:Int)<2^(x-min x 0).toNat:=pZ (by decide)
 rcases qH z 0 with e|e|e
 ·rw[qC (Int.mul_neg_of_neg_of_pos e b)];omega
 ·rw[e,Int.zero_mul];decide
 rw[sR (Int.mul_pos e b)];omega
theorem TF.sq_neg (h:TF z x)(a:z<0){n:Nat}(b:8≤n)(c:n≤100):sqF (Lib.itoa z) x (n:Int)=⟨false,0,0,3⟩:=by
 unfold sqF
 rw[uL h.fv,uL (by omega),show ldR (Lib.itoa z) x=⟨(zQ (Lib.itoa z)).1,zH (zQ (Lib.itoa z)).2,x,0⟩ from uL h.fv,jC]
 unfold Zex gE
 rw[uW a,uL rfl]
theorem TF.rf (h:TF z x):RF (qv z x) 40 z x:=RF.of (by decide) h.ok (xF.2 (by have:=h.2;omega))
theorem Zah (a b x y:Int):qv a x*qv b y=qv (a*b) (x+y):=by
 unfold qv
 rw[cL,oD];grind
theorem ZoA (n:Nat):Rat.divInt 1 (1*2^n)=qv 1 (-(n:Int)):=by
 rw[←gW]
 rcases uI n with rfl|h
 ·have e:exQ 1 0=((1*2^0:Int):Rat):=aR (k:=0) rfl
  rw[show (-((0:Nat):Int))=0 from rfl,e];rfl
 rw[aS (k:=n) (by omega) (by omega),pY]
theorem ZeW (n:Nat):qv 1 (-(n:Int))=2^(-(n:Int)):=by unfold qv;rw[show ((1:Int):Rat)=1 from rfl,pO]
theorem ZfQ (R e:Int)(n:Nat):qv R e=qv (R*2^n) (e-n):=by rw[ZbM];congr 1;omega
theorem ZoB (a b x:Int):qv a x-qv b x=qv (a-b) x:=by unfold qv;rw[Rat.intCast_sub];grind
theorem Zko (a b x:Int):qv a x+qv b x=qv (a+b) x:=by unfold qv;rw[Rat.intCast_add];grind
theorem ZgR {p q:Rat}(h:p≤q):(p-q).num.sign≤0:=by
 have a:=rF.2 (show 0 ≤ -(p-q) by grind)
 rw[Rat.neg_num] at a
 rw[Int.sign_nonpos_iff];omega
theorem Zr1 {p q:Rat}(h:q≤p):0≤(p-q).num.sign:=by
 rw[Int.sign_nonneg_iff,rF];grind
theorem Zsh (R:Nat)(e:Int):0≤(qv ((R:Nat):Int) e).num.sign:=by
 rw[Int.sign_nonneg_iff,rF]
 exact Zi1 R e
theorem Zey {a b:Int}{s t:Nat}(ha:blen a.natAbs≤s)(c:blen b.natAbs≤t):blen (a*b).natAbs≤s+t:=by
 rw[tE]
 refine xF.2 ?_
 rw[uS]
 exact qA (xF.1 ha) (xF.1 c)
theorem Ziu {a b:Int}{s:Nat}(ha:blen a.natAbs≤s)(c:blen b.natAbs≤s):blen (a+b).natAbs≤s+1:=by
 have d:=xF.1 ha
 have e:=xF.1 c
 refine xF.2 ?_
 rw[uO]
 omega
theorem ZoC {a b:Int}{s:Nat}(ha:blen a.natAbs≤s)(c:blen b.natAbs≤s):blen (a-b).natAbs≤s+1:=by
 have d:=xF.1 ha
 have e:=xF.1 c
 refine xF.2 ?_
 rw[uO]
 omega
theorem Zrc (R n:Nat){s:Nat}(h:blen R≤s):blen (((R:Nat):Int)*2^n).natAbs≤s+n:=by
 rw[tE,rG]
 exact cY h (uM _)
theorem ZoD {z x e:Int}{n R:Nat}(i:TF z x)(d:RtF z x n R e)(l:8≤n)(m:n≤67) :
 lA (qv ((R:Nat):Int) e)∧lA (qv 1 (-(n:Int)))∧lA (qv ((R:Nat):Int) (e-n))∧lA (qv (((R:Nat):Int)*2^n-((R:Nat):Int)) (e-n))∧lA (qv (((R:Nat):Int)*2^n+((R:Nat):Int)) (e-n))∧lA (qv z x) ∧
 lA (qv ((((R:Nat):Int)*2^n-((R:Nat):Int))*(((R:Nat):Int)*2^n-((R:Nat):Int))) (e-n+(e-n)))∧lA (qv ((((R:Nat):Int)*2^n+((R:Nat):Int))*(((R:Nat):Int)*2^n+((R:Nat):Int))) (e-n+(e-n))):=by
 have j:blen R≤n:=d.f.b
 have o:=d.e1
 have p:=d.e2
 have k:blen ((R:Int)*2^n).natAbs≤200:=uE (Zrc R n j) (by omega)
 have c:blen ((R:Int)).natAbs≤200:=uE j (by omega)
 have g:=ZoC k c
 have h:=Ziu k c
 have q:=i.2
 exact⟨fW c (by decide) (by omega) (by omega),fW (a:=1) (by decide) (by decide) (by omega) (by omega),fW c (by decide) (by omega) (by omega),fW g (by decide) (by omega) (by omega),fW h (by decide) (by omega) (by omega),
  fW i.rf.b (by decide) (by omega) (by omega),fW (Zey g g) (by decide) (by omega) (by omega),fW (Zey h h) (by decide) (by omega) (by omega)⟩
end
end Go.Proofs.YtklpdkpcocnglaaGreatDoor
