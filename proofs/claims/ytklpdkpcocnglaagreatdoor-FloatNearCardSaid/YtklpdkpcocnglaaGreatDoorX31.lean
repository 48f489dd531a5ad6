/-
 My texts FnrL put together.
-/
import Derived.Test.YtklpdkpcocnglaaGreatDoorX29
set_option maxRecDepth 100000
set_option maxHeartbeats 8000000
namespace Go.Proofs.YtklpdkpcocnglaaGreatDoor
open Go.RowKit
def Sm (k:Nat) (q:Rat):Prop:=q.num.natAbs<10^k∧q.den<10^k
theorem Sm.mono {k m:Nat}{q:Rat}(h:Sm k q)(a:k≤m):Sm m q:=by
 have:=uR (show 0<10 by decide) a
 exact⟨uQ h.1 this,uQ h.2 this⟩
theorem Sm.add {k:Nat}{p q:Rat}(h:Sm k p)(a:Sm k q):Sm (2*k+1) (p+q):=(Zep h a).1
theorem Sm.mul {k:Nat}{p q:Rat}(h:Sm k p)(a:Sm k q):Sm (2*k+1) (p*q):=Sm.mono (Zep h a).2.1 (by omega)
theorem Sm.neg {k:Nat}{p:Rat}(h:Sm k p):Sm k (-p):=Zij h
theorem Sm.sub {k:Nat}{p q:Rat}(h:Sm k p)(a:Sm k q):Sm (2*k+1) (p-q):=Zn7 h a
theorem Sm.abs {k:Nat}{p:Rat}(h:Sm k p):Sm k (rabs p):=by
 unfold rabs
 split
 ·exact h.neg
 exact h
theorem Sm.fits {k:Nat}{p:Rat}(h:Sm k p)(a:k≤100000):lA p:=Zdr h a
theorem Zrf {l:List UInt8}{q:Rat}{k:Nat}(h:xS l=some q)(a:l.length≤k)(b:1≤k):Sm k q:=Za1 h a b
theorem RF.sm {v:Rat}{n:Nat}{z x:Int}(h:RF v n z x)(d:n≤150)(a : -1000≤x)(b:x≤1000):Sm 600 (qv z x):=by
 have c:=Zrf (k:=500) h.read (h.len d a b) (by decide)
 rw[gW] at c
 exact c.mono (by decide)
theorem Zrg {n:Nat}(a:n≤150):Sm 600 (qv 1 (-(n:Int))) :=
 (RF.of (n:=8) (by decide) (Or.inr ⟨by decide,by unfold okE;constructor<;>omega⟩) (by decide)).sm (by decide) (by omega) (by omega)
theorem Za4:Sm 600 ((2:Int):Rat):=Sm.mono (k:=1) ⟨by decide,by decide⟩ (by decide)
theorem ZoN {z:Int}(h:z≠0):∃ (o:Int) (t:Nat),z=o*2^t∧o%2=1∧blen o.natAbs+t≤blen z.natAbs∧t≤blen z.natAbs:=by
 have a:0<z.natAbs:=by omega
 obtain⟨d,b⟩:=kZ a
 have i:=aH a
 refine⟨sg (decide (z<0)) (oddM z.natAbs),tzn z.natAbs,?_,ZcO d,?_,by omega⟩
 ·rw[ZcU,← b,Zad]
 rw[Zbh]
 have f:blen (oddM z.natAbs)≤blen z.natAbs-tzn z.natAbs:=by
  refine xF.2 ?_
  have c:=xF.1 (uM (blen z.natAbs))
  have e:2^blen z.natAbs=2^(blen z.natAbs-tzn z.natAbs)*2^tzn z.natAbs:=by rw[←uS];congr 1;omega
  rw[e] at c
  have g:oddM z.natAbs*2^tzn z.natAbs<2^(blen z.natAbs-tzn z.natAbs)*2^tzn z.natAbs:=by rw[←b];exact c
  exact sN g
 omega
def Qs (q:Rat):Prop:=(xA q).length≤570∧blen q.num.natAbs≤988∧blen q.den≤880
theorem Zl6 {z x:Int}(p:blen z.natAbs≤216)(g : -870≤x)(h:x≤760):Qs (qv z x):=by
 unfold Qs
 by_cases a:z=0
 ·subst a
  rw[fF]
  exact⟨by rw[show (0:Rat)=((0:Int):Rat) from rfl,ZeT,fL];decide,by rw[show (0:Rat).num.natAbs=0 from rfl,jI];decide,by rw[show (0:Rat).den=1 from rfl];decide⟩
 obtain⟨o,t,rfl,ho,q,r⟩:=ZoN a
 rw[ZbM]
 have f:RF (qv o (x+t)) 250 o (x+t):=RF.of (by decide) (Or.inr ⟨ho,by unfold okE;constructor<;>omega⟩) (by omega)
 have c:o≠0:=fun e=>by rw[e] at ho;cases ho
 by_cases a:x+t<0
 ·obtain⟨k,b⟩:=uB (show 0 ≤ -(x+t) by omega)
  obtain⟨i,j⟩:=Zag (k:=k) ho
  have e:qv o (x+t)=exQ o (x+t):=(gW _ _).symm
  refine⟨?_,?_,?_⟩
  ·rw[e,f.ex]
   unfold exT
   rw[uL f.fv,lV,uJ c,uL a,vH,vH,show ([47]:List UInt8).length=1 from rfl]
   have l:=jA (z:=o) (k:=4) (by omega)
   have s:=ZfP (n:=2^(-(x+t)).toNat) (k:=16) (ZaA (by omega))
   omega
  ·rw[e,aS b (by omega),i];omega
  rw[e,aS b (by omega),j];exact ZaA (by omega)
 obtain⟨k,b⟩:=uB (show 0≤x+t by omega)
 have e:qv o (x+t)=((o*2^k:Int):Rat):=by rw[←gW,aR b]
 have m:(o*2^k).natAbs=o.natAbs*2^k:=by rw[tE,rG];rfl
 have d:blen (o*2^k).natAbs≤988:=by rw[m];exact cY (n:=blen o.natAbs) (uM _) (by omega)
 refine⟨?_,by rw[e];exact d,by rw[e];show blen 1≤880;decide⟩
 rw[e,ZeT]
 have l:=jA (z:=o*2^k) (k:=16) (by omega)
 omega
theorem Zrh (z x:Int):rabs (qv z x)=qv ((z.natAbs:Nat):Int) x:=by
 have b:=iI x
 have nn:∀ m:Nat,(0:Rat)≤qv (m:Int) x:=fun m=>by
  unfold qv
  rw[pH]
  exact Rat.mul_nonneg Rat.natCast_nonneg (sJ b)
 by_cases h:z<0
 ·have e:qv z x = -qv ((z.natAbs:Nat):Int) x:=by rw[←Zkh];congr 1;omega
  have a:=nn z.natAbs
  rw[e]
  generalize qv ((z.natAbs:Nat):Int) x=y at *
  unfold rabs
  split<;>grind
 have e:z=((z.natAbs:Nat):Int):=by omega
 have a:=nn z.natAbs
 rw[←e] at a ⊢
 unfold rabs
 rw[uJ (by grind)]
theorem Zri (z x:Int)(n:Nat):((2:Int):Rat)*qv 1 (-(n:Int))*rabs (qv z x)=qv (2*((z.natAbs:Nat):Int)) (x-n):=by
 rw[Zrh,show ((2:Int):Rat)=qv 2 0 by unfold qv;rw[Rat.zpow_zero,Rat.mul_one],Zah,Zah]
 congr 1<;>omega
theorem ZpU {v:Rat}{z x:Int}{n:Nat}(h:RF v n z x)(d:n≤107)(e : -760≤x)(f:x≤760) :
 Qs (qv z x+((2:Int):Rat)*qv 1 (-(n:Int))*rabs (qv z x))∧Qs (qv z x-((2:Int):Rat)*qv 1 (-(n:Int))*rabs (qv z x)):=by
 rw[Zri,ZfQ z x n,Zko,ZoB]
 have g:=xF.1 h.b
 have i:(z*2^n).natAbs=z.natAbs*2^n:=by rw[tE,rG];rfl
 have j:z.natAbs*2^n≤2^n*2^n:=uC _ (rT g)
 have k:2^n*2^n=2^(n+n):=(uS _ _ _).symm
 have p:2^(n+n)≤2^214:=uR (by decide) (by omega)
 have q:2^n≤2^107:=uR (by decide) d
 have r:(2:Nat)^107*2+2^214<2^216:=by decide
 have l:=Int.natAbs_add_le (z*2^n) (2*((z.natAbs:Nat):Int))
 have m:=Int.natAbs_sub_le (z*2^n) (2*((z.natAbs:Nat):Int))
 have o:(2*((z.natAbs:Nat):Int)).natAbs=2*z.natAbs:=by rw[tE,vS];rfl
 rw[i,o] at l m
 rw[k] at j
 generalize (2:Nat)^107=a at *
 generalize (2:Nat)^214=c at *
 exact⟨Zl6 (xF.2 (by omega)) (by omega) (by omega),Zl6 (xF.2 (by omega)) (by omega) (by omega)⟩
theorem Zl7 {q:Rat}:q.num.sign<0↔q<0:=by
 rw[Int.sign_neg_iff]
 constructor
 ·intro h
  by_cases a:q<0
  ·exact a
  have:=rF.2 (show 0≤q by grind);omega
 intro h
 by_cases a:q.num<0
 ·exact a
 have:=rF.1 (show 0≤q.num by omega);grind
theorem ZoO (s:Bool)(A:Option Addr)(l c:Nat)(t:Bool)(B:Option Addr)(m d:Nat)(q:Rat)(w:World)(u:zT w (.agg #[.bool s,.slice A l c,.bool t,.slice B m d]) q) :
 yA 26 #[.agg #[.bool s,.slice A l c,.bool t,.slice B m d]] w (wM w (rabs q)):=by
 refine zV (Φ:=fun w=>zT w (.agg #[.bool s,.slice A l c,.bool t,.slice B m d]) (q)) Tryz.func26 rfl (by kernel_rfl) (fun w' v=>u.ext v) ?_
 refine zC (zB (xq 2 [(1,.p 1 0),(2,.p 2 0)] [bR4 2 34 false none 0 0 false none 0 0,bR4 1 34 s A l c t B m d] ?_))
 refine xe (zA (zC (zC (zB (xq 1 [eR4 3 s A l c t B m d] [] ?_)))))
 refine xqc 50 [vR4 s A l c t B m d] 4 (fun _:Unit=>.int .i64 q.num.sign) _ (fun w R Q=>(Zdn _ _ _ Q).mono (fun _ _ h=>zD h (rfl))) fun x=>?_
 refine xq 1 [yB 5 (decide (q.num.sign<0))] [] ?_
 refine xe (zA ?_)
 refine yQ ((decide (q.num.sign<0))) (fun a=>?_) fun a=>?_
 ·have b:=uD a
  refine zC (zB (xq 1 [eR4 6 s A l c t B m d] [] ?_))
  refine xqc 73 [vR4 s A l c t B m d] 7 xT _ (fun w R Q=>yM xJ (Zim _ _ _ Q.1)) fun⟨f,g,i,j,k,n,o,r⟩=>?_
  refine xq 1 [] [bR4 2 34 f g i j k n o r] ?_
  refine xe (zA (zG (zI ?_)))
  refine yR (.agg #[.bool f,.slice g i j,.bool k,.slice n o r]) fun w' R Q=>?_
  have e:rabs q = -q:=uL (Zl7.1 (by omega))
  exact⟨_,rfl,by rw[e];exact Q.2,R⟩
 have b:=uH a
 refine zN (zA (zC (zB (xq 2 [] [bR4 2 34 s A l c t B m d] ?_))))
 refine xe (zA (zG ?_))
 refine yR (.agg #[.bool s,.slice A l c,.bool t,.slice B m d]) fun w' R Q=>?_
 have e:rabs q=q:=uJ (fun h=>by have:=Zl7.2 h;omega)
 exact⟨_,rfl,by rw[e];exact Q.1,R⟩
theorem Za5 (a:Value)(q:Rat)(w:World)(ha:zT w a q):yA 26 #[a] w (wM w (rabs q)):=by
 obtain⟨s,A,l,c,t,B,m,d,rfl⟩:=ha.shp
 exact ZoO s A l c t B m d q w ha
theorem ZiX (s:ByteArray)(b:Int)(w:World)(hg:Glob w)(hs:s.size≤140737488351232) :
 yA 4 #[.string s,.int .i64 b] w (RetV w (.bool true)):=by
 refine zV (Φ:=fun w=>Glob w) Tryz.func4 rfl (by kernel_rfl) (fun w' hf=>hg.ext hf) ?_
 refine zC (zB (xq 1 [yB 4 false] [] ?_))
 refine xe (zA (zC ?_))
 obtain⟨v,A0⟩:∃ v:Nat,(b.tmod 100+100).tmod 100=v:=uB (dG b (by decide)).1
 have J3:=(dG b (show (0:Int)<100 by decide)).2
 have K3:=rR b (show (0:Int)<100 by decide)
 have F3:=qD b (show (0:Int)<100 by decide)
 obtain⟨n,L3⟩:=yE (8+v)
 have q0:8≤n:=by omega
 have B0:n≤107:=by omega
 refine zB (xq 1 [yJ 17 b] [] ?_)
 refine xqk 18 (.int .i64 (b.tmod 100)) (fun w R Q=>fG (t:=3) (k:=3) (x:=.tmp 17) (y:=.const (.int .i64 100)) (by decide)) ?_
 refine xq 1 [yJ 19 (IntKind.i64.wrap ((b.tmod 100)+100))] [] ?_
 rw[yW (b.tmod 100+100) (b.tmod 100+100) (by omega)]
 refine xqk 20 (.int .i64 (v:Int)) (fun w R Q=>by rw[←A0];exact fG (t:=3) (k:=3) (x:=.tmp 19) (y:=.const (.int .i64 100)) (by decide)) ?_
 refine xq 1 [yJ 21 (IntKind.i64.wrap (8+(v:Int)))] [] ?_
 rw[yW (8+(v:Int)) ((n:Int)) (by omega)]
 refine xq 1 [yJ 1 (n:Int)] [] ?_
 refine xe (zA (zC ?_))
 by_cases hv:(xS (bytes s)).isSome=true
 ·obtain⟨q,V⟩:=tP.1 hv
  refine zB (xq 1 [yT 23 s] [] ?_)
  refine xqc 18 [.string s] 24 (fun x:ShQ=>.tuple #[xT x,.bool true]) _ (fun w R Q=>(gK s _ hs).mono (fun _ _ h=>fO h V)) fun⟨e,f,g,i,j,l,o,u⟩=>?_
  refine xq 6 [(5,.p 5 0),yB 6 true] [bR4 5 34 e f g i j l o u] ?_
  refine xe (zA (zC (zC (zB (xq 7 [yB 33 (decide (((s).size:Int)>150))] [] ?_)))))
  refine xe (zA ?_)
  refine yQ ((decide (((s).size:Int)>150))) (fun n0=>?_) fun n0=>?_
  ·have r0:=uD n0
   refine zC (zB ?_)
   refine xqc 14 [] 34 (fun _:Unit=>.bool true) _ (fun w R Q=>yN (jD _ Q.1)) fun W=>?_
   refine xq 1 [yB 4 true] [] ?_
   refine xe (zA (zG (zI ?_)))
   refine yR (.bool true) fun w' R Q=>?_
   exact⟨rfl,R⟩
  have r0:=uH n0
  refine zN (zA (zC ?_))
  have t0:(bytes s).length≤150:=by rw[zP];omega
  obtain⟨a,c,C0,D0,E0,U,M3,N3⟩:=Zdz (n:=n) V t0 (by decide) (by decide) q0 (by omega)
  obtain⟨⟨F0,G0,H0⟩,I0,J0,K0⟩:=ZpU U B0 (by omega) (by omega)
  have d:=U.sm (by omega) (by omega) (by omega)
  have I:=Zrg (n:=n) (by omega)
  have J:Sm 600 q:=Sm.mono (Za1 V t0 (by decide)) (by decide)
  have G3:=U.val
  have O3:=U.len (by omega) (by omega) (by omega)
  have P3:=jA (z:=a) (k:=2) (uE U.b (by omega))
  have u0:=U.fv
  obtain⟨β,hβ⟩:=yE (blen (ldR (Lib.itoa a) c).m)
  have Q3:β≤n:=by rw[←hβ,show ldR (Lib.itoa a) c=⟨(zQ (Lib.itoa a)).1,zH (zQ (Lib.itoa a)).2,c,0⟩ from uL u0,← ZhB,lV];exact U.b
  have s0:Rat.divInt 1 (1*2^n)=qv 1 (-(n:Int)):=ZoA n
  obtain⟨z2,x2,L0,M0,N0,o0,R3,S3⟩:=ZeC (n:=n) (Za0 _) G0 H0 (by decide) (by decide) q0 (by omega)
  obtain⟨z3,x3,O0,P0,Q0,p0,T3,U3⟩:=ZeC (n:=n) (Za0 _) J0 K0 (by decide) (by decide) q0 (by omega)
  have v0:=o0.sm (by omega) (by omega) (by omega)
  have w0:=p0.sm (by omega) (by omega) (by omega)
  have H3:=o0.len (by omega) (by omega) (by omega)
  have I3:=p0.len (by omega) (by omega) (by omega)
  have V3:=jA (z:=z2) (k:=2) (uE o0.b (by omega))
  have W3:=jA (z:=z3) (k:=2) (uE p0.b (by omega))
  refine zB (xq 2 [yT 36 s,yJ 37 (n:Int)] [] ?_)
  refine xqc 15 [.string s,.int .i64 (n:Int)] 38 (fun _:Unit=>.tuple #[yS ⟨(Lib.itoa a).toArray⟩ c,.int .i64 0]) _ (fun w R Q=>(dA s (n:Int) _ Q.1 (by omega)).mono (fun _ _ h=>zD h (by rw[C0,D0,E0]))) fun W=>?_
  refine xq 6 [(7,.p 7 0),yJ 8 0] [yG 7 24 ⟨(Lib.itoa a).toArray⟩ c] ?_
  refine xe (zA (zC (zC (zB (xq 4 [yB 43 false,(44,.v (yS ⟨(Lib.itoa a).toArray⟩ c))] [] ?_)))))
  refine xqc 19 [yS ⟨(Lib.itoa a).toArray⟩ c] 45 (fun _:Unit=>.bool true) _ (fun w R Q=>(fP (⟨(Lib.itoa a).toArray⟩:ByteArray) c _ (by rw[zJ];omega)).mono (fun _ _ h=>zD h (by rw[zJ,u0]))) fun W=>?_
  refine xq 4 [yB 48 false,(49,.v (yS ⟨(Lib.itoa a).toArray⟩ c))] [] ?_
  refine xqc 20 [yS ⟨(Lib.itoa a).toArray⟩ c] 50 (fun _:Unit=>.int .i64 ((β:Nat):Int)) _ (fun w R Q=>(Zet (⟨(Lib.itoa a).toArray⟩:ByteArray) c _ (by rw[zJ];omega)).mono (fun _ _ h=>zD h (by rw[zJ,hβ]))) fun W=>?_
  refine xr 2 [yJ 1 (n:Int),yB 4 false,(5,.p 5 0),(7,.p 7 0),yB 48 false,yB 52 (decide (((β:Nat):Int)>(n:Int)))] [yG 7 24 ⟨(Lib.itoa a).toArray⟩ c,bR4 5 34 e f g i j l o u] ?_
  rw[show decide (((β:Nat):Int)>(n:Int))=false from vF (by omega)]
  refine xq 1 [yB 53 false] [] ?_
  refine xe (zA (xb (zN (zA (zC (zB (xq 1 [(54,.v (yS ⟨(Lib.itoa a).toArray⟩ c))] [] ?_)))))))
  refine xqc 22 [yS ⟨(Lib.itoa a).toArray⟩ c] 55 (fun _:Unit=>.string ⟨(exT (Lib.itoa a) c).toArray⟩) _ (fun w R Q=>(kK (⟨(Lib.itoa a).toArray⟩:ByteArray) c _ Q.1.1.1.1 (by rw[zJ];omega) (fun _=>by omega)).mono (fun _ _ h=>zD h (by rw[zJ]))) fun W=>?_
  refine xqc 21 [.string ⟨(exT (Lib.itoa a) c).toArray⟩] 56 xT _ (fun w R Q=>yM xJ ((show Calls _ _ _ _ (wM _ (qv a c)) by have h:=aG ⟨(exT (Lib.itoa a) c).toArray⟩ w (by rw[←zP,zJ];omega);rw[zJ,U.val] at h;exact h))) fun⟨A,B,C,D,E,F,G,H⟩=>?_
  refine xq 2 [(9,.p 9 0)] [bR4 9 34 A B C D E F G H] ?_
  refine xe (zA (zC (zB ?_)))
  refine xqc 24 [.int .i64 1] 57 xW _ (fun w R Q=>yM xQ (eE 1 _ (by decide) (by decide))) fun⟨R0,S0,T0,U0⟩=>?_
  refine xqc 24 [.int .i64 1] 58 xW _ (fun w R Q=>yM xQ (eE 1 _ (by decide) (by decide))) fun⟨V0,W0,X0,Y0⟩=>?_
  refine xq 1 [yJ 59 (n:Int)] [] ?_
  refine xqc 25 [vI2 V0 W0 X0 Y0,.int .i64 (n:Int)] 60 xW _ (fun w R Q=>yM xQ (Zir _ (1:Int) n _ Q.2 (nfit (k:=1) (lL.2 (by rw[xB];decide)) (by decide)) (by omega))) fun⟨Z0,a1,b1,c1⟩=>?_
  refine xqc 23 [vI2 R0 S0 T0 U0,vI2 Z0 a1 b1 c1] 61 xT _ (fun w R Q=>yM xJ ((show Calls _ _ _ _ (wM _ (qv 1 (-(n:Int)))) by rw[←s0];exact cW _ _ _ _ _ Q.1.1.2 Q.2 (nfit (k:=1) (lL.2 (by rw[xB];decide)) (by decide)) (nfit (k:=200) (by rw[pY,rG];exact dO (ZaA (by omega))) (by decide)) (by rw[pY];exact Int.ne_of_gt (pZ (by decide)))))) fun⟨X,Y,Z,a0,b0,c0,d0,e0⟩=>?_
  refine xq 2 [(10,.p 10 0)] [bR4 10 34 X Y Z a0 b0 c0 d0 e0] ?_
  refine xe (zA (zC (zB (xq 2 [eR4 62 A B C D E F G H,eR4 63 e f g i j l o u] [] ?_))))
  refine xqc 27 [vR4 A B C D E F G H,vR4 e f g i j l o u] 64 xT _ (fun w R Q=>yM xJ (eN _ _ _ _ _ Q.1.1.1.1.2 Q.1.1.1.1.1.1.1.1.1.2 (Sm.fits d (by decide)) (Sm.fits J (by decide)))) fun⟨d1,e1,f1,g1,h1,i1,j1,k1⟩=>?_
  refine xqc 26 [vR4 d1 e1 f1 g1 h1 i1 j1 k1] 65 xT _ (fun w R Q=>yM xJ (Za5 _ _ _ Q.2)) fun⟨K,L,M,N,O,P,S,T⟩=>?_
  refine xq 2 [(11,.p 11 0)] [bR4 11 34 K L M N O P S T] ?_
  refine xe (zA (zC (zC ?_)))
  obtain⟨m1,m2,m3⟩:=Zpi (bits:=n) (by omega) U.r (w1:=qv z2 x2) (w2:=qv z3 x3) (by have h:=o0.r;rw[ZeW] at h;exact h) (by have h:=p0.r;rw[ZeW] at h;exact h)
  rw[←ZeW] at m1
  obtain⟨σ1,x0⟩:=yE ((rabs ((qv a c)-q)-(qv 1 (-(n:Int)))*rabs q).num.sign)
  obtain⟨σ2,y0⟩:=yE ((rabs ((qv a c)-q)-rabs ((qv z2 x2)-q)).num.sign)
  obtain⟨σ3,z0⟩:=yE ((rabs ((qv a c)-q)-rabs ((qv z3 x3)-q)).num.sign)
  have X3:σ1≤0:=by rw[←x0];exact ZgR m1
  have l1:σ2≤0:=by rw[←y0];exact ZgR m2
  have n1:σ3≤0:=by rw[←z0];exact ZgR m3
  refine SXc.weak [yJ 1 (n:Int),yB 4 false,(5,.p 5 0),(9,.p 9 0),(10,.p 10 0),(11,.p 11 0)] [(11,34,[.v (.bool K),.v (.slice L M N),.v (.bool O),.v (.slice P S T)]),(10,34,[.v (.bool X),.v (.slice Y Z a0),.v (.bool b0),.v (.slice c0 d0 e0)]),(9,34,[.v (.bool A),.v (.slice B C D),.v (.bool E),.v (.slice F G H)]),(5,34,[.v (.bool e),.v (.slice f g i),.v (.bool j),.v (.slice l o u)])] (xK.of (by kernel_rfl)) (by kernel_rfl) (fun _ h=>h) ?_
  refine yO 7 zL ?_
  refine xqg 3 [eR4 66 K L M N O P S T,eR4 67 X Y Z a0 b0 c0 d0 e0,eR4 68 e f g i j l o u] ?_
  refine xqd 26 [vR4 e f g i j l o u] 69 xT _ (fun w R Q=>yM xJ (Za5 _ _ _ Q.1.1.1.1.1.1.1.1.1.1.1.2)) fun⟨o1,p1,q1,r1,s1,t1,u1,v1⟩=>?_
  refine xqd 29 [vR4 X Y Z a0 b0 c0 d0 e0,vR4 o1 p1 q1 r1 s1 t1 u1 v1] 70 xT _ (fun w R Q=>yM xJ (eL _ _ _ _ _ Q.1.1.1.2 Q.2 (Sm.fits I (by decide)) (Sm.fits (Sm.abs J) (by decide)))) fun⟨y1,A1,B1,C1,D1,E1,F1,G1⟩=>?_
  refine xqd 28 [vR4 K L M N O P S T,vR4 y1 A1 B1 C1 D1 E1 F1 G1] 71 (fun _:Unit=>.int .i64 σ1) _ (fun w R Q=>(aP _ _ _ _ _ Q.1.1.2 Q.2 (Sm.fits (Sm.abs (Sm.sub d J)) (by decide)) (Sm.fits (Sm.mul I (Sm.abs J)) (by decide))).mono (fun _ _ h=>zD h (by rw[x0]))) fun W=>?_
  refine xqg 1 [yB 72 (decide (σ1>0))] ?_
  rw[show decide (σ1>(0:Int))=false from vF (by omega)]
  refine xz (xe (zA (xb (zN (zA (zC ?_))))))
  refine yO 8 zL ?_
  refine xqd 30 [.int .i64 2] 73 xT _ (fun w R Q=>yM xJ (ZhE 2 _ (by decide) (by decide))) fun⟨H1,I1,J1,K1,L1,M1,N1,O1⟩=>?_
  refine xqg 1 [eR4 74 X Y Z a0 b0 c0 d0 e0] ?_
  refine xqd 29 [vR4 H1 I1 J1 K1 L1 M1 N1 O1,vR4 X Y Z a0 b0 c0 d0 e0] 75 xT _ (fun w R Q=>yM xJ (eL _ _ _ _ _ Q.2 Q.1.1.1.1.1.1.2 (Sm.fits Za4 (by decide)) (Sm.fits I (by decide)))) fun⟨P1,Q1,R1,S1,T1,U1,V1,W1⟩=>?_
  refine xqg 1 [eR4 76 A B C D E F G H] ?_
  refine xqd 26 [vR4 A B C D E F G H] 77 xT _ (fun w R Q=>yM xJ (Za5 _ _ _ Q.1.1.1.1.1.1.1.1.1.1.1.2)) fun⟨X1,Y1,Z1,a2,b2,c2,d2,e2⟩=>?_
  refine xqd 29 [vR4 P1 Q1 R1 S1 T1 U1 V1 W1,vR4 X1 Y1 Z1 a2 b2 c2 d2 e2] 78 xT _ (fun w R Q=>yM xJ (eL _ _ _ _ _ Q.1.2 Q.2 (Sm.fits (Sm.mul Za4 I) (by decide)) (Sm.fits (Sm.abs d) (by decide)))) fun⟨f0,g0,h0,i0,j0,k0,l0,m0⟩=>?_
  refine xqf 2 [(12,.p 12 0)] [bR4 12 34 f0 g0 h0 i0 j0 k0 l0 m0,bR4 12 34 false none 0 0 false none 0 0,bR4 11 34 K L M N O P S T,bR4 10 34 X Y Z a0 b0 c0 d0 e0,bR4 9 34 A B C D E F G H,bR4 5 34 e f g i j l o u] ?_
  refine xz (xe (zA (zC (zB (xq 2 [eR4 80 A B C D E F G H,eR4 81 f0 g0 h0 i0 j0 k0 l0 m0] [bR4 12 34 f0 g0 h0 i0 j0 k0 l0 m0] ?_)))))
  refine xqc 32 [vR4 A B C D E F G H,vR4 f0 g0 h0 i0 j0 k0 l0 m0] 82 xT _ (fun w R Q=>yM xJ (Za2 _ _ _ _ _ Q.1.1.1.1.1.1.1.1.1.1.1.1.1.2 Q.2 (Sm.fits d (by decide)) (Sm.fits (Sm.mul (Sm.mul Za4 I) (Sm.mono (Sm.abs d) (show 600≤1201 by decide))) (by decide)))) fun⟨f2,g2,h2,i2,j2,k2,l2,d32⟩=>?_
  refine xqc 31 [vR4 f2 g2 h2 i2 j2 k2 l2 d32] 83 (fun _:Unit=>.string ⟨(xA ((qv a c)+((((2:Int):Rat)*(qv 1 (-(n:Int))))*(rabs (qv a c))))).toArray⟩) _ (fun w R Q=>yN (gJ _ ((qv a c)+((((2:Int):Rat)*(qv 1 (-(n:Int))))*(rabs (qv a c)))) _ Q.2 (uE (Zdq (Sm.add (Sm.mono d (show 600≤2403 by decide)) (Sm.mul (Sm.mul Za4 I) (Sm.mono (Sm.abs d) (show 600≤1201 by decide))))).1 (by decide)) (uE (Zdq (Sm.add (Sm.mono d (show 600≤2403 by decide)) (Sm.mul (Sm.mul Za4 I) (Sm.mono (Sm.abs d) (show 600≤1201 by decide))))).2 (by decide)))) fun W=>?_
  refine xq 1 [yJ 84 (n:Int)] [] ?_
  refine xqc 15 [.string ⟨(xA ((qv a c)+((((2:Int):Rat)*(qv 1 (-(n:Int))))*(rabs (qv a c))))).toArray⟩,.int .i64 (n:Int)] 85 (fun _:Unit=>.tuple #[yS ⟨(Lib.itoa z2).toArray⟩ x2,.int .i64 0]) _ (fun w R Q=>(dA ⟨(xA ((qv a c)+((((2:Int):Rat)*(qv 1 (-(n:Int))))*(rabs (qv a c))))).toArray⟩ (n:Int) _ Q.1.1.1.1.1.1.1.1.1.1.1.1.1.1.1.1.1.1.1.1.1 (by rw[zJ];exact F0)).mono (fun _ _ h=>zD h (by rw[zJ,L0,M0,N0]))) fun W=>?_
  refine xq 6 [(13,.p 13 0),yJ 14 0] [yG 13 24 ⟨(Lib.itoa z2).toArray⟩ x2] ?_
  refine xe (zA (zC (zB (xq 2 [eR4 89 A B C D E F G H,eR4 90 f0 g0 h0 i0 j0 k0 l0 m0] [] ?_))))
  refine xqc 27 [vR4 A B C D E F G H,vR4 f0 g0 h0 i0 j0 k0 l0 m0] 91 xT _ (fun w R Q=>yM xJ (eN _ _ _ _ _ Q.1.1.1.1.1.1.1.1.1.1.1.1.1.1.1.1.2 Q.1.1.1.2 (Sm.fits d (by decide)) (Sm.fits (Sm.mul (Sm.mul Za4 I) (Sm.mono (Sm.abs d) (show 600≤1201 by decide))) (by decide)))) fun⟨n2,o2,p2,q2,r2,s2,t2,u2⟩=>?_
  refine xqc 31 [vR4 n2 o2 p2 q2 r2 s2 t2 u2] 92 (fun _:Unit=>.string ⟨(xA ((qv a c)-((((2:Int):Rat)*(qv 1 (-(n:Int))))*(rabs (qv a c))))).toArray⟩) _ (fun w R Q=>yN (gJ _ ((qv a c)-((((2:Int):Rat)*(qv 1 (-(n:Int))))*(rabs (qv a c)))) _ Q.2 (uE (Zdq (Sm.sub (Sm.mono d (show 600≤2403 by decide)) (Sm.mul (Sm.mul Za4 I) (Sm.mono (Sm.abs d) (show 600≤1201 by decide))))).1 (by decide)) (uE (Zdq (Sm.sub (Sm.mono d (show 600≤2403 by decide)) (Sm.mul (Sm.mul Za4 I) (Sm.mono (Sm.abs d) (show 600≤1201 by decide))))).2 (by decide)))) fun W=>?_
  refine xq 1 [yJ 93 (n:Int)] [] ?_
  refine xqc 15 [.string ⟨(xA ((qv a c)-((((2:Int):Rat)*(qv 1 (-(n:Int))))*(rabs (qv a c))))).toArray⟩,.int .i64 (n:Int)] 94 (fun _:Unit=>.tuple #[yS ⟨(Lib.itoa z3).toArray⟩ x3,.int .i64 0]) _ (fun w R Q=>(dA ⟨(xA ((qv a c)-((((2:Int):Rat)*(qv 1 (-(n:Int))))*(rabs (qv a c))))).toArray⟩ (n:Int) _ Q.1.1.1.1.1.1.1.1.1.1.1.1.1.1.1.1.1.1.1.1.1.1.1.1 (by rw[zJ];exact I0)).mono (fun _ _ h=>zD h (by rw[zJ,O0,P0,Q0]))) fun W=>?_
  refine xq 6 [(15,.p 15 0),yJ 16 0] [yG 15 24 ⟨(Lib.itoa z3).toArray⟩ x3] ?_
  refine xe (zA (zC ?_))
  refine SXc.weak [yB 4 false,(5,.p 5 0),(11,.p 11 0),(13,.p 13 0),yJ 14 0,(15,.p 15 0),yJ 16 0] [yG 15 24 ⟨(Lib.itoa z3).toArray⟩ x3,yG 13 24 ⟨(Lib.itoa z2).toArray⟩ x2,(11,34,[.v (.bool K),.v (.slice L M N),.v (.bool O),.v (.slice P S T)]),(5,34,[.v (.bool e),.v (.slice f g i),.v (.bool j),.v (.slice l o u)])] (xK.of (by kernel_rfl)) (by kernel_rfl) (fun _ h=>h) ?_
  refine gT 32 [0,1,3,7,15,31,63,127,255,511,1023,1023,3071,7167,1023,31743,64511,131071,262143,524287,1048575,2097151,2097151,6291455,14680063,2097151,65011711,132120575,268435455,536870911,1073741823,2147483647] (by kernel_rfl) (by kernel_rfl) zL ?_
  refine xqd 14 [] 97 (fun _:Unit=>.bool true) _ (fun w R Q=>yN (jD _ Q.1.1.1.1.1.1.1.1.1.1.1.1.1.1.1.1.1.1.1.1.1.1.1.1.1)) fun W=>?_
  refine xqg 11 [yB 106 true,eR4 107 K L M N O P S T,(108,.v (yS ⟨(Lib.itoa z2).toArray⟩ x2))] ?_
  refine xqd 22 [yS ⟨(Lib.itoa z2).toArray⟩ x2] 109 (fun _:Unit=>.string ⟨(exT (Lib.itoa z2) x2).toArray⟩) _ (fun w R Q=>(kK (⟨(Lib.itoa z2).toArray⟩:ByteArray) x2 _ Q.1.1.1.1.1.1.1.1.1.1.1.1.1.1.1.1.1.1.1.1.1.1.1.1.1.1 (by rw[zJ];omega) (fun _=>by omega)).mono (fun _ _ h=>zD h (by rw[zJ]))) fun W=>?_
  refine xqd 21 [.string ⟨(exT (Lib.itoa z2) x2).toArray⟩] 110 xT _ (fun w R Q=>yM xJ ((show Calls _ _ _ _ (wM _ (qv z2 x2)) by have h:=aG ⟨(exT (Lib.itoa z2) x2).toArray⟩ w (by rw[←zP,zJ];omega);rw[zJ,o0.val] at h;exact h))) fun⟨v2,y2,A2,B2,C2,D2,E2,F2⟩=>?_
  refine xqg 1 [eR4 111 e f g i j l o u] ?_
  refine xqd 27 [vR4 v2 y2 A2 B2 C2 D2 E2 F2,vR4 e f g i j l o u] 112 xT _ (fun w R Q=>yM xJ (eN _ _ _ _ _ Q.2 Q.1.1.1.1.1.1.1.1.1.1.1.1.1.1.1.1.1.1.1.1.1.1.1.1.1.1.1.2 (Sm.fits v0 (by decide)) (Sm.fits J (by decide)))) fun⟨G2,H2,I2,J2,K2,L2,M2,N2⟩=>?_
  refine xqd 26 [vR4 G2 H2 I2 J2 K2 L2 M2 N2] 113 xT _ (fun w R Q=>yM xJ (Za5 _ _ _ Q.2)) fun⟨O2,P2,Q2,R2,S2,T2,U2,V2⟩=>?_
  refine xqd 28 [vR4 K L M N O P S T,vR4 O2 P2 Q2 R2 S2 T2 U2 V2] 114 (fun _:Unit=>.int .i64 σ2) _ (fun w R Q=>(aP _ _ _ _ _ Q.1.1.1.1.1.1.1.1.1.1.1.1.1.1.1.1.1.1.2 Q.2 (Sm.fits (Sm.abs (Sm.sub d J)) (by decide)) (Sm.fits (Sm.abs (Sm.sub v0 J)) (by decide))).mono (fun _ _ h=>zD h (by rw[y0]))) fun W=>?_
  refine xqg 1 [yB 115 (decide (σ2≤0))] ?_
  rw[show decide (σ2≤(0:Int))=true from uW l1]
  refine xqg 4 [yB 117 true,eR4 118 K L M N O P S T,(119,.v (yS ⟨(Lib.itoa z3).toArray⟩ x3))] ?_
  refine xqd 22 [yS ⟨(Lib.itoa z3).toArray⟩ x3] 120 (fun _:Unit=>.string ⟨(exT (Lib.itoa z3) x3).toArray⟩) _ (fun w R Q=>(kK (⟨(Lib.itoa z3).toArray⟩:ByteArray) x3 _ Q.1.1.1.1.1.1.1.1.1.1.1.1.1.1.1.1.1.1.1.1.1.1.1.1.1.1.1.1.1.1.1 (by rw[zJ];omega) (fun _=>by omega)).mono (fun _ _ h=>zD h (by rw[zJ]))) fun W=>?_
  refine xqd 21 [.string ⟨(exT (Lib.itoa z3) x3).toArray⟩] 121 xT _ (fun w R Q=>yM xJ ((show Calls _ _ _ _ (wM _ (qv z3 x3)) by have h:=aG ⟨(exT (Lib.itoa z3) x3).toArray⟩ w (by rw[←zP,zJ];omega);rw[zJ,p0.val] at h;exact h))) fun⟨W2,X2,Y2,Z2,a3,b3,c3,d3⟩=>?_
  refine xqg 1 [eR4 122 e f g i j l o u] ?_
  refine xqd 27 [vR4 W2 X2 Y2 Z2 a3 b3 c3 d3,vR4 e f g i j l o u] 123 xT _ (fun w R Q=>yM xJ (eN _ _ _ _ _ Q.2 Q.1.1.1.1.1.1.1.1.1.1.1.1.1.1.1.1.1.1.1.1.1.1.1.1.1.1.1.1.1.1.1.1.2 (Sm.fits w0 (by decide)) (Sm.fits J (by decide)))) fun⟨e3,f3,g3,h3,i3,j3,k3,l3⟩=>?_
  refine xqd 26 [vR4 e3 f3 g3 h3 i3 j3 k3 l3] 124 xT _ (fun w R Q=>yM xJ (Za5 _ _ _ Q.2)) fun⟨n3,o3,p3,q3,r3,s3,t3,u3⟩=>?_
  refine xqd 28 [vR4 K L M N O P S T,vR4 n3 o3 p3 q3 r3 s3 t3 u3] 125 (fun _:Unit=>.int .i64 σ3) _ (fun w R Q=>(aP _ _ _ _ _ Q.1.1.1.1.1.1.1.1.1.1.1.1.1.1.1.1.1.1.1.1.1.1.1.2 Q.2 (Sm.fits (Sm.abs (Sm.sub d J)) (by decide)) (Sm.fits (Sm.abs (Sm.sub w0 J)) (by decide))).mono (fun _ _ h=>zD h (by rw[z0]))) fun W=>?_
  refine xqg 1 [yB 126 (decide (σ3≤0))] ?_
  rw[show decide (σ3≤(0:Int))=true from uW n1]
  refine xqg 2 [yB 4 true] ?_
  refine xz (xe (zA (zG ?_)))
  refine yR (.bool true) fun w' R Q=>?_
  exact⟨rfl,R⟩
 have V:xS (bytes s)=none:=by cases h:xS (bytes s) with|none=>rfl|some q=>rw[h] at hv;exact absurd rfl hv
 refine zB (xq 1 [yT 23 s] [] ?_)
 refine xqc 18 [.string s] 24 (fun x:ShQ=>.tuple #[xT x,.bool false]) _ (fun w R Q=>(gK s _ hs).mono (fun _ _ h=>fN h V)) fun⟨v3,w3,y3,A3,B3,C3,D3,E3⟩=>?_
 refine xq 6 [(5,.p 5 0),yB 6 false] [bR4 5 34 v3 w3 y3 A3 B3 C3 D3 E3] ?_
 refine xe (zA (zC (zC (zB (xq 7 [yB 33 true] [] ?_)))))
 refine xe (zA (xa (zC (zB ?_))))
 refine xqc 14 [] 34 (fun _:Unit=>.bool true) _ (fun w R Q=>yN (jD _ Q.1)) fun W=>?_
 refine xq 1 [yB 4 true] [] ?_
 refine xe (zA (zG (zI ?_)))
 refine yR (.bool true) fun w' R Q=>?_
 exact⟨rfl,R⟩
end Go.Proofs.YtklpdkpcocnglaaGreatDoor
