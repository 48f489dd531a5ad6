/-
 My texts FrtL put together.
-/
import Derived.Test.YtklpdkpcocnglaaGreatDoorX22
import Derived.Test.YtklpdkpcocnglaaGreatDoorX23
set_option maxRecDepth 100000
set_option maxHeartbeats 8000000
namespace Go.Proofs.YtklpdkpcocnglaaGreatDoor
open Go.RowKit
theorem ZhG (A:Option Addr)(l c:Nat)(zs:List Int)(b:Int)(w:World)(m0:Glob w)(hn:zs.length=l)(hI:jO w A zs)(H0:l≤c) :
 yA 10 #[.slice A l c,.int .i64 b] w (RetV w (.bool true)):=by
 obtain⟨n0,I0⟩:=yE w.heap.size
 obtain⟨k,hk⟩:=yE (min l 400)
 have u0:=hI.take k
 have J0:(zs.take k).length=k:=by rw[uY];omega
 refine zV (Φ:=fun w=>True) Tryz.func10 rfl (by kernel_rfl) (fun w' hf=>trivial) ?_
 refine zC (zB (xq 1 [yB 4 false] [] ?_))
 refine xe (zA (zC (zB (xq 1 [eS1 16 A l c] [] ?_))))
 refine xqc 47 [.slice A l c] 17 (fun g:Nat=>.pointer (some ⟨g,0,none⟩)) _ (fun w S Q=>(Zl4 A l c _ H0).mono (fun _ _ h=>Zkl (n0:=n0) (by rw[←I0];exact S.size) (by rw[hk] at h;exact h))) fun g=>?_
 refine xq 1 [(5,.v (.pointer (some ⟨g,0,none⟩)))] [] ?_
 refine xe (zA (zC ?_))
 refine SXc.know (p:=n0≤g) (fun w _ Q=>(Q.2).1) fun J1=>?_
 have K0:=u0.apart (g:=g) (by omega)
 refine yC [yJ 1 b,yB 4 false,(5,.v (.pointer (some ⟨g,0,none⟩)))] [] (fun w=>TB w g A k c 0) (fun w Q=>(Q.2).2) ?_
 obtain⟨v,hv⟩:∃ v:Nat,(b.tmod 60+60).tmod 60=v:=uB (dG b (by decide)).1
 have K1:=(dG b (show (0:Int)<60 by decide)).2
 have L1:=rR b (show (0:Int)<60 by decide)
 have I1:=qD b (show (0:Int)<60 by decide)
 obtain⟨n,M1⟩:=yE (8+v)
 have p0:8≤n:=by omega
 have L0:n≤67:=by omega
 refine zB (xq 1 [yJ 18 b] [] ?_)
 refine xqk 19 (.int .i64 (b.tmod 60)) (fun w S Q=>fG (t:=3) (k:=3) (x:=.tmp 18) (y:=.const (.int .i64 60)) (by decide)) ?_
 refine xq 1 [yJ 20 (IntKind.i64.wrap ((b.tmod 60)+60))] [] ?_
 rw[yW (b.tmod 60+60) (b.tmod 60+60) (by omega)]
 refine xqk 21 (.int .i64 (v:Int)) (fun w S Q=>by rw[←hv];exact fG (t:=3) (k:=3) (x:=.tmp 20) (y:=.const (.int .i64 60)) (by decide)) ?_
 refine xq 1 [yJ 22 (IntKind.i64.wrap (8+(v:Int)))] [] ?_
 rw[yW (8+(v:Int)) ((n:Int)) (by omega)]
 refine xq 1 [yJ 1 (n:Int)] [] ?_
 refine xe (zA (zC (zB (xq 1 [(23,.v (.pointer (some ⟨g,0,none⟩)))] [] ?_))))
 refine cZ 48 [.pointer (some ⟨g,0,none⟩)] (d:=24) (fun x:{q:Int×Int×Nat // TF q.1 q.2.1∧q.2.2≤k}=>.agg #[.string ⟨(Lib.itoa x.1.1).toArray⟩,.int .i64 x.1.2.1]) (fun x=>#[.slice A k c,.int .i64 ((x.1.2.2:Nat):Int)]) (fun _ _=>True) (fun _=>True) (fun w Q=>Q) (rS _) (Or.inl (by omega)) (fun w S Q=>(Zdx g A k c 0 _ _ (Q) (by omega) (u0.ext S) J0 (by omega) K0).mono (fun _ _=>ZhD)) (fun _ _ _ _=>trivial) fun xx=>?_
 obtain⟨⟨K,i,N1⟩,a,v0⟩:=xx
 dsimp only at a v0
 refine xr 2 [yJ 1 (n:Int),yB 4 false,(6,.p 6 0)] [yG 6 24 ⟨(Lib.itoa K).toArray⟩ i] ?_
 refine xe (zA ?_)
 refine ZbQ (fun ss ff=>∃ (z:Int),ss=ofL [yJ 1 (n:Int),(6,.p 6 0)] [yG 6 24 ⟨(Lib.itoa z).toArray⟩ i]∧ff=(fun w=>True)∧(TF z i)∧(0≤z)) ?_ ?_
 ·refine zC ?_
  obtain⟨σ,hσ⟩:=yE (cmpL (Lib.itoa K) [48] i 0)
  have M0:=a.cmp0
  rw[hσ] at M0
  refine zB (xq 2 [(25,.v (yS ⟨(Lib.itoa K).toArray⟩ i)),(26,.v (yS ⟨#[48]⟩ 0))] [] ?_)
  refine xqc 43 [yS ⟨(Lib.itoa K).toArray⟩ i, yS ⟨#[48]⟩ 0] 27 (fun _:Unit=>.int .i64 σ) _ (fun w S Q=>(gN (⟨(Lib.itoa K).toArray⟩:ByteArray) ⟨#[48]⟩ i 0 _ (by rw[zJ];have:=a.len;omega) (by decide)).mono (fun _ _ h=>zD h (by rw[zJ,show bytes ⟨#[48]⟩=[48] from rfl,hσ]))) fun xx=>?_
  refine xq 1 [yB 28 (decide (σ<0))] [] ?_
  refine xe (zA ?_)
  refine yQ ((decide (σ<0))) (fun o0=>?_) fun o0=>?_
  ·have q0:=uD o0
   have hz:K<0:=by omega
   refine zC (zB (xq 2 [(30,.v (yS ⟨(Lib.itoa K).toArray⟩ i)),yJ 31 (n:Int)] [] ?_))
   refine xqc 49 [yS ⟨(Lib.itoa K).toArray⟩ i,.int .i64 (n:Int)] 32 (fun _:Unit=>.tuple #[yS ⟨#[]⟩ 0,.int .i64 3]) _ (fun w S Q=>(Zez (⟨(Lib.itoa K).toArray⟩:ByteArray) i _ _ (m0.ext S) (by rw[zJ];have:=a.len;omega)).mono (fun _ _ h=>zD h (by rw[zJ,a.sq_neg hz p0 (by omega)];rfl))) fun xx=>?_
   refine xq 6 [yJ 8 3] [] ?_
   refine xe (zA (zC (zB (xq 1 [(35,.v (yS ⟨(Lib.itoa K).toArray⟩ i))] [] ?_))))
   refine xqc 36 [yS ⟨(Lib.itoa K).toArray⟩ i] 36 (fun _:Unit=>.agg #[.string ⟨(Lib.itoa ((-K))).toArray⟩,.int .i64 i]) _ (fun w S Q=>(Zkg (⟨(Lib.itoa K).toArray⟩:ByteArray) i _ (by rw[zJ];have:=a.len;omega)).mono (fun _ _ h=>zD h (by rw[zJ,a.zfl,uL a.fv]))) fun xx=>?_
   refine xq 1 [] [yG 6 24 ⟨(Lib.itoa ((-K))).toArray⟩ i] ?_
   refine xe (zA (zC (zB (xq 2 [yB 38 false] [] ?_))))
   refine xe (zA (xb (zN ?_)))
   refine yP [yJ 1 (n:Int),(6,.p 6 0)] [yG 6 24 ⟨(Lib.itoa (-K)).toArray⟩ i] (fun w=>True) (fun w Q=>trivial) ?_
   exact jB ⟨(-K),rfl,rfl,a.neg,(by omega)⟩
  have q0:=uH o0
  have hz:0≤K:=by omega
  refine zN ?_
  refine yP [yJ 1 (n:Int),(6,.p 6 0)] [yG 6 24 ⟨(Lib.itoa K).toArray⟩ i] (fun w=>True) (fun w Q=>trivial) ?_
  exact jB ⟨K,rfl,rfl,a,hz⟩
 rintro ss ff ⟨z,rfl,rfl,hT,N0⟩
 refine zC ?_
 obtain⟨R,e,O0,hR⟩:=Zrb hT N0 p0 (by omega)
 have P0:=hR.f.b
 have O1:=hR.e1
 have P1:=hR.e2
 obtain⟨β,hβ⟩:=yE (blen (ldR (Lib.itoa (R:Int)) e).m)
 have Q1:β≤n:=by rw[←hβ,show ldR (Lib.itoa (R:Int)) e=⟨(zQ (Lib.itoa (R:Int))).1,zH (zQ (Lib.itoa (R:Int))).2,e,0⟩ from uL hR.f.fv,jC,jL];exact P0
 have Q0:(Lib.itoa (R:Int)).length≤100:=by have:=jA (z:=(R:Int)) (k:=2) (by omega);omega
 have R1:=hR.f.len (by omega) (by have:=hR.e1;omega) (by have:=hR.e2;omega)
 have S1:=hT.rf.len (by decide) (by have:=hT.2;omega) (by have:=hT.2;omega)
 refine zB (xq 2 [(40,.v (yS ⟨(Lib.itoa z).toArray⟩ i)),yJ 41 (n:Int)] [] ?_)
 refine xqc 49 [yS ⟨(Lib.itoa z).toArray⟩ i,.int .i64 (n:Int)] 42 (fun _:Unit=>.tuple #[yS ⟨(Lib.itoa ((R:Int))).toArray⟩ e,.int .i64 0]) _ (fun w S Q=>(Zez (⟨(Lib.itoa z).toArray⟩:ByteArray) i _ _ (m0.ext S) (by rw[zJ];have:=hT.len;omega)).mono (fun _ _ h=>zD h (by rw[zJ,O0];rfl))) fun xx=>?_
 refine xq 6 [(9,.p 9 0),yJ 10 0] [yG 9 24 ⟨(Lib.itoa ((R:Int))).toArray⟩ e] ?_
 refine xe (zA (zC (zC (zB (xq 4 [yB 47 false,(48,.v (yS ⟨(Lib.itoa ((R:Int))).toArray⟩ e))] [] ?_)))))
 refine xqc 20 [yS ⟨(Lib.itoa ((R:Int))).toArray⟩ e] 49 (fun _:Unit=>.int .i64 ((β:Nat):Int)) _ (fun w S Q=>(Zet (⟨(Lib.itoa ((R:Int))).toArray⟩:ByteArray) e _ (by rw[zJ];omega)).mono (fun _ _ h=>zD h (by rw[zJ,hβ]))) fun xx=>?_
 refine xq 2 [yB 51 (decide (((β:Nat):Int)>(n:Int)))] [] ?_
 rw[show decide (((β:Nat):Int)>(n:Int))=false from vF (by omega)]
 refine xq 1 [yB 52 false] [] ?_
 refine xe (zA (xb (zN (zA (zC ?_)))))
 have hD:qv (R:Int) e*qv 1 (-(n:Int))=qv (R:Int) (e-n):=by rw[Zah,pP];rfl
 have w0:qv (R:Int) e-qv (R:Int) (e-n)=qv ((R:Int)*2^n-(R:Int)) (e-n):=by rw[ZfQ (R:Int) e n,ZoB]
 have x0:qv (R:Int) e+qv (R:Int) (e-n)=qv ((R:Int)*2^n+(R:Int)) (e-n):=by rw[ZfQ (R:Int) e n,Zko]
 obtain⟨r0,R0,y0,z0,A0,B0,C0,D0⟩:=ZoD hT hR p0 L0
 obtain⟨σl,E0⟩:=yE ((qv (((R:Int)*2^n-(R:Int))*((R:Int)*2^n-(R:Int))) (e-n+(e-n))-qv z i).num.sign)
 obtain⟨σh,F0⟩:=yE ((qv (((R:Int)*2^n+(R:Int))*((R:Int)*2^n+(R:Int))) (e-n+(e-n))-qv z i).num.sign)
 obtain⟨σv,G0⟩:=yE ((qv (R:Int) e).num.sign)
 have s0:=hR.lo
 have t0:=hR.hi
 rw[←ZeW,hD] at s0 t0
 rw[w0,Zah] at s0
 rw[x0,Zah] at t0
 have S0:σl≤0:=by rw[←E0];exact ZgR s0
 have T0:σh≥0:=by rw[←F0];exact Zr1 t0
 have U0:σv≥0:=by rw[←G0];exact Zsh _ _
 refine yO 10 zL ?_
 refine xqg 1 [(53,.v (yS ⟨(Lib.itoa ((R:Int))).toArray⟩ e))] ?_
 refine xqd 22 [yS ⟨(Lib.itoa ((R:Int))).toArray⟩ e] 54 (fun _:Unit=>.string ⟨(exT (Lib.itoa (R:Int)) e).toArray⟩) _ (fun w S Q=>(kK (⟨(Lib.itoa ((R:Int))).toArray⟩:ByteArray) e _ (m0.ext S) (by rw[zJ];have:=Q0;omega) (fun _=>by have:=hT.2;omega)).mono (fun _ _ h=>zD h (by rw[zJ]))) fun xx=>?_
 refine xqd 21 [.string ⟨(exT (Lib.itoa (R:Int)) e).toArray⟩] 55 xT _ (fun w S Q=>((show Calls _ _ _ _ (wM _ (qv (R:Int) e)) by have h:=aG ⟨(exT (Lib.itoa (R:Int)) e).toArray⟩ w (by rw[←zP,zJ];omega);rw[zJ,hR.f.val] at h;exact h)).mono (fun _ _=>xJ)) fun⟨j,o,r,s,t12,u,B,C⟩=>?_
 refine xqg 1 [(56,.v (yS ⟨(Lib.itoa z).toArray⟩ i))] ?_
 refine xqd 22 [yS ⟨(Lib.itoa z).toArray⟩ i] 57 (fun _:Unit=>.string ⟨(exT (Lib.itoa z) i).toArray⟩) _ (fun w S Q=>(kK (⟨(Lib.itoa z).toArray⟩:ByteArray) i _ (m0.ext S) (by rw[zJ];have:=hT.len;omega) (fun _=>by have:=hT.2;omega)).mono (fun _ _ h=>zD h (by rw[zJ]))) fun xx=>?_
 refine xqd 21 [.string ⟨(exT (Lib.itoa z) i).toArray⟩] 58 xT _ (fun w S Q=>((show Calls _ _ _ _ (wM _ (qv z i)) by have h:=aG ⟨(exT (Lib.itoa z) i).toArray⟩ w (by rw[←zP,zJ];omega);rw[zJ,hT.rf.val] at h;exact h)).mono (fun _ _=>xJ)) fun⟨D,E,F,G,t13,H,I,J⟩=>?_
 refine xqf 4 [(11,.p 11 0),(12,.p 12 0)] [bR4 12 34 D E F G t13 H I J,bR4 11 34 j o r s t12 u B C,bR4 12 34 false none 0 0 false none 0 0,bR4 11 34 false none 0 0 false none 0 0,yG 9 24 ⟨(Lib.itoa ((R:Int))).toArray⟩ e,yG 6 24 ⟨(Lib.itoa z).toArray⟩ i] ?_
 refine xz (xe (zA (zC ?_)))
 refine SXc.weak [yJ 1 (n:Int),(11,.p 11 0),(12,.p 12 0)] [(12,34,[.v (.bool D),.v (.slice E F G),.v (.bool t13),.v (.slice H I J)]),(11,34,[.v (.bool j),.v (.slice o r s),.v (.bool t12),.v (.slice u B C)])] (xK.of (by kernel_rfl)) (by kernel_rfl) (fun _ h=>h) ?_
 refine yO 9 zL ?_
 refine xqg 1 [eR4 59 j o r s t12 u B C] ?_
 refine xqd 24 [.int .i64 1] 60 xW _ (fun w S Q=>(eE 1 _ (by decide) (by decide)).mono (fun _ _=>xQ)) fun⟨V0,W0,X0,Y0⟩=>?_
 refine xqd 24 [.int .i64 1] 61 xW _ (fun w S Q=>(eE 1 _ (by decide) (by decide)).mono (fun _ _=>xQ)) fun⟨Z0,a1,b1,c1⟩=>?_
 refine xqg 1 [yJ 62 (n:Int)] ?_
 refine xqd 25 [vI2 Z0 a1 b1 c1,.int .i64 (n:Int)] 63 xW _ (fun w S Q=>(Zir _ (1:Int) n _ Q.2 (nfit (k:=1) (lL.2 (by rw[xB];decide)) (by decide)) (by omega)).mono (fun _ _=>xQ)) fun⟨d1,f1,g1,h1⟩=>?_
 refine xqd 23 [vI2 V0 W0 X0 Y0,vI2 d1 f1 g1 h1] 64 xT _ (fun w S Q=>((show Calls _ _ _ _ (wM _ (qv 1 (-(n:Int)))) by rw[←ZoA];exact cW _ _ _ _ _ Q.1.1.2 Q.2 (nfit (k:=1) (lL.2 (by rw[xB];decide)) (by decide)) (nfit (k:=100) (by rw[pY,rG];exact dO (ZaA (by omega))) (by decide)) (by rw[pY];exact Int.ne_of_gt (pZ (by decide))))).mono (fun _ _=>xJ)) fun⟨i1,j1,k1,l1,m1,n1,o1,p1⟩=>?_
 refine xqd 29 [vR4 j o r s t12 u B C,vR4 i1 j1 k1 l1 m1 n1 o1 p1] 65 xT _ (fun w S Q=>((show Calls _ _ _ _ (wM _ (qv (R:Int) (e-n))) by rw[←hD];exact eL _ _ _ _ _ Q.1.1.1.1.1.1.2 Q.2 r0 R0)).mono (fun _ _=>xJ)) fun⟨L,M,N,O,P,T,U,V⟩=>?_
 refine xqf 2 [(13,.p 13 0)] [bR4 13 34 L M N O P T U V,bR4 13 34 false none 0 0 false none 0 0,bR4 12 34 D E F G t13 H I J,bR4 11 34 j o r s t12 u B C] ?_
 refine xz (xe (zA (zC ?_)))
 refine SXc.weak [(11,.p 11 0),(12,.p 12 0),(13,.p 13 0)] [(13,34,[.v (.bool L),.v (.slice M N O),.v (.bool P),.v (.slice T U V)]),(12,34,[.v (.bool D),.v (.slice E F G),.v (.bool t13),.v (.slice H I J)]),(11,34,[.v (.bool j),.v (.slice o r s),.v (.bool t12),.v (.slice u B C)])] (xK.of (by kernel_rfl)) (by kernel_rfl) (fun _ h=>h) ?_
 refine yO 10 zL ?_
 refine xqg 2 [eR4 66 j o r s t12 u B C,eR4 67 L M N O P T U V] ?_
 refine xqd 27 [vR4 j o r s t12 u B C,vR4 L M N O P T U V] 68 xT _ (fun w S Q=>((show Calls _ _ _ _ (wM _ (qv ((R:Int)*2^n-(R:Int)) (e-n))) by rw[←w0];exact eN _ _ _ _ _ Q.1.1.1.1.1.1.1.2 Q.2 r0 y0)).mono (fun _ _=>xJ)) fun⟨W,X,Y,Z,a0,b0,c0,d0⟩=>?_
 refine xqg 2 [eR4 69 j o r s t12 u B C,eR4 70 L M N O P T U V] ?_
 refine xqd 32 [vR4 j o r s t12 u B C,vR4 L M N O P T U V] 71 xT _ (fun w S Q=>((show Calls _ _ _ _ (wM _ (qv ((R:Int)*2^n+(R:Int)) (e-n))) by rw[←x0];exact Za2 _ _ _ _ _ Q.1.1.1.1.1.1.1.1.2 Q.1.2 r0 y0)).mono (fun _ _=>xJ)) fun⟨e0,f0,g0,h0,i0,j0,k0,l0⟩=>?_
 refine xqf 4 [(14,.p 14 0),(15,.p 15 0)] [bR4 15 34 e0 f0 g0 h0 i0 j0 k0 l0,bR4 14 34 W X Y Z a0 b0 c0 d0,bR4 15 34 false none 0 0 false none 0 0,bR4 14 34 false none 0 0 false none 0 0,bR4 13 34 L M N O P T U V,bR4 12 34 D E F G t13 H I J,bR4 11 34 j o r s t12 u B C] ?_
 refine xz (xe (zA (zC ?_)))
 refine SXc.weak [(11,.p 11 0),(12,.p 12 0),(14,.p 14 0),(15,.p 15 0)] [(15,34,[.v (.bool e0),.v (.slice f0 g0 h0),.v (.bool i0),.v (.slice j0 k0 l0)]),(14,34,[.v (.bool W),.v (.slice X Y Z),.v (.bool a0),.v (.slice b0 c0 d0)]),(12,34,[.v (.bool D),.v (.slice E F G),.v (.bool t13),.v (.slice H I J)]),(11,34,[.v (.bool j),.v (.slice o r s),.v (.bool t12),.v (.slice u B C)])] (xK.of (by kernel_rfl)) (by kernel_rfl) (fun _ h=>h) ?_
 refine gT 23 [0,1,3,3,15,3,63,127,255,511,1023,1023,4095,1023,16383,32767,65535,131071,262143,524287,1048575,2097151,4194303] (by kernel_rfl) (by kernel_rfl) zL ?_
 refine xqd 14 [] 72 (fun _:Unit=>.bool true) _ (fun w S Q=>(jD _ (m0.ext S)).mono (fun _ _ h=>zD h rfl)) fun xx=>?_
 refine xqg 3 [yB 73 true,eR4 74 W X Y Z a0 b0 c0 d0,eR4 75 W X Y Z a0 b0 c0 d0] ?_
 refine xqd 29 [vR4 W X Y Z a0 b0 c0 d0,vR4 W X Y Z a0 b0 c0 d0] 76 xT _ (fun w S Q=>((show Calls _ _ _ _ (wM _ (qv (((R:Int)*2^n-(R:Int))*((R:Int)*2^n-(R:Int))) (e-n+(e-n)))) by rw[←Zah];exact eL _ _ _ _ _ Q.1.1.2 Q.1.1.2 z0 z0)).mono (fun _ _=>xJ)) fun⟨q1,r1,s1,t1,u1,v1,w1,y1⟩=>?_
 refine xqg 1 [eR4 77 D E F G t13 H I J] ?_
 refine xqd 28 [vR4 q1 r1 s1 t1 u1 v1 w1 y1,vR4 D E F G t13 H I J] 78 (fun _:Unit=>.int .i64 σl) _ (fun w S Q=>(aP _ _ _ _ _ Q.2 Q.1.1.1.1.1.1.1.1.1.2 C0 B0).mono (fun _ _ h=>zD h (by rw[E0]))) fun xx=>?_
 refine xqg 1 [yB 79 (decide (σl≤0))] ?_
 rw[show decide (σl≤(0:Int))=true from uW S0]
 refine xqg 4 [yB 81 true,eR4 82 e0 f0 g0 h0 i0 j0 k0 l0,eR4 83 e0 f0 g0 h0 i0 j0 k0 l0] ?_
 refine xqd 29 [vR4 e0 f0 g0 h0 i0 j0 k0 l0,vR4 e0 f0 g0 h0 i0 j0 k0 l0] 84 xT _ (fun w S Q=>((show Calls _ _ _ _ (wM _ (qv (((R:Int)*2^n+(R:Int))*((R:Int)*2^n+(R:Int))) (e-n+(e-n)))) by rw[←Zah];exact eL _ _ _ _ _ Q.1.1.1.2 Q.1.1.1.2 A0 A0)).mono (fun _ _=>xJ)) fun⟨A1,B1,C1,D1,E1,F1,G1,H1⟩=>?_
 refine xqg 1 [eR4 85 D E F G t13 H I J] ?_
 refine xqd 28 [vR4 A1 B1 C1 D1 E1 F1 G1 H1,vR4 D E F G t13 H I J] 86 (fun _:Unit=>.int .i64 σh) _ (fun w S Q=>(aP _ _ _ _ _ Q.2 Q.1.1.1.1.1.1.1.1.1.1.1.2 D0 B0).mono (fun _ _ h=>zD h (by rw[F0]))) fun xx=>?_
 refine xqg 1 [yB 87 (decide (σh≥0))] ?_
 rw[show decide (σh≥(0:Int))=true from uW T0]
 refine xqg 3 [yB 89 true,eR4 90 j o r s t12 u B C] ?_
 refine xqd 50 [vR4 j o r s t12 u B C] 91 (fun _:Unit=>.int .i64 σv) _ (fun w S Q=>(Zdn _ _ _ Q.1.1.1.1.1.1.1.1.1.1.1.1.1.1.2).mono (fun _ _ h=>zD h (by rw[G0]))) fun xx=>?_
 refine xqg 1 [yB 92 (decide (σv≥0))] ?_
 rw[show decide (σv≥(0:Int))=true from uW U0]
 refine xqg 2 [yB 4 true] ?_
 refine xz (xe (zA (zG ?_)))
 refine yR (.bool true) fun w' S Q=>?_
 exact⟨rfl,S⟩
end Go.Proofs.YtklpdkpcocnglaaGreatDoor
