/-
 My texts.
-/
import Derived.Test.YtdlgidnkmbklcaaGreatDoorZ03
import Derived.Test.YtdlgidnkmbklcaaGreatDoorZ06
set_option maxRecDepth 100000
set_option maxHeartbeats 8000000
namespace Go.Proofs.YtdlgidnkmbklcaaGreatDoor
open Go.RowKit Tryz
theorem aY (x:Nat)(w:World)(a:x<W64):yA 164 #[.int .u64 (x:Int)] w fun e w'=>e=.returned (.int .i64 (64-(Lib.bitLen x:Int)))∧w=w':=by
 rw[zR] at a
 refine (Tryz.bits_LeadingZeros64 x w qO qO).mono ?_
 rintro e w' ⟨rfl,rfl⟩
 exact⟨qS,rfl⟩
noncomputable def H32:Nat:=Classical.choose (p:=fun n:Nat=>n=4294967296) ⟨_,rfl⟩
theorem wI:H32=4294967296:=pP (p:=fun n:Nat=>n=4294967296) ⟨_,rfl⟩
structure Prep (hi lo y s Y v1 v0 Hs Ls U T u1 u0:Nat):Prop where
 hY:IntKind.u64.wrap ((y:Int)*2^s)=(Y:Int)
 hv1:(Y:Int)/4294967296=(v1:Int)
 hv0:bits .and .u64 (Y:Int) 4294967295=(v0:Int)
 hH:IntKind.u64.wrap ((hi:Int)*2^s)=(Hs:Int)
 hL:(lo:Int)/2^(64-s)=(Ls:Int)
 hU:bits .or .u64 (Hs:Int) (Ls:Int)=(U:Int)
 hT:IntKind.u64.wrap ((lo:Int)*2^s)=(T:Int)
 hu1:(T:Int)/4294967296=(u1:Int)
 hu0:bits .and .u64 (T:Int) 4294967295=(u0:Int)
theorem Zfx (a:Int):∃ n:Nat,IntKind.u64.wrap a=(n:Int)∧(n:Int)=a%18446744073709551616:=by
 refine⟨(a%18446744073709551616).toNat,?_,?_⟩
 ·rw[IntKind.wrap_u64];omega
 omega
theorem un21 {U u Y q R:Nat}(d:Y≤W64)(f:q*Y+R=U*4294967296+u)(l:R<Y) :
 ∃ a b c:Nat,IntKind.u64.wrap ((U:Int)*4294967296)=(a:Int)∧IntKind.u64.wrap ((a:Int)+(u:Int))=(b:Int)∧IntKind.u64.wrap ((q:Int)*(Y:Int))=(c:Int)∧IntKind.u64.wrap ((b:Int)-(c:Int))=(R:Int):=by
 have g:=d
 rw[zR] at g
 obtain⟨a,h,k1⟩:=Zfx ((U:Int)*4294967296)
 obtain⟨b,i,m⟩:=Zfx ((a:Int)+(u:Int))
 obtain⟨c,j,n⟩:=Zfx ((q:Int)*(Y:Int))
 obtain⟨o,k,p⟩:=Zfx ((b:Int)-(c:Int))
 refine⟨a,b,c,h,i,j,?_⟩
 rw[k]
 have e:((q*Y+R:Nat):Int)=((U*4294967296+u:Nat):Int):=by rw[f]
 rw[rS,tU,rS,tU] at e
 omega
theorem Zbl {U v1:Nat}(b:0<v1)(c:U<W64) :
 ∃ a e d:Nat,(U:Int)/(v1:Int)=(a:Int)∧IntKind.u64.wrap (a:Int)=(a:Int)∧IntKind.u64.wrap ((a:Int)*(v1:Int))=(e:Int)∧IntKind.u64.wrap ((U:Int)-(e:Int))=(d:Int)∧a*v1+d=U∧d<v1:=by
 have g:=c
 rw[zR] at g
 have f:=tB U v1
 have h:=uO U b
 have i:U/v1*v1≤U:=Nat.div_mul_le_self U v1
 rw[uG] at f
 refine⟨U/v1,U/v1*v1,U%v1,(tO _ _).symm,wK _ (by rw[zR];have:=vG U v1;omega),?_,?_,f,h⟩
 ·rw[←tU];exact wK _ (by rw[zR];omega)
 rw[show (U:Int)-((U/v1*v1:Nat):Int)=((U%v1:Nat):Int) by omega]
 exact wK _ (by rw[zR];omega)
theorem Zbm {U v1 v0 u a ri:Nat}(b:0<v1)(e:u<H32)(h:a*v1+ri=U)(f:ri<v1):gL H32 U v1 v0 u a ri:=by
 refine⟨h,?_⟩
 have g:0<v1*H32:=rC b (by rw[wI];omega)
 rw[←Nat.lt_succ_iff,vQ qO]
 have c:U<(a+1)*v1:=by rw[vC];omega
 have d:(U+1)*H32≤(a+1)*v1*H32:=uE _ c
 rw[Nat.succ_eq_add_one,uK,← uH]
 rw[vC U] at d
 omega
theorem Zbn {U v1 v0 u q r:Nat}(a:2147483648≤v1)(b:U<W64)(h:gL H32 U v1 v0 u q r):q≤8589934592:=by
 have c:=b
 rw[zR] at c
 have d:=h.1
 have e:q*2147483648≤q*v1:=uI q a
 omega
theorem iQ {H U Y u q:Nat}(h:q=(U*H+u)/Y):q*Y+(U*H+u)%Y=U*H+u:=by
 subst h
 rw[uG]
 exact tB _ _
theorem iR {U u Y q:Nat}(a:0<Y)(b:U<Y)(d:u<H32)(c:q=(U*H32+u)/Y):q<H32:=by
 subst c
 rw[vQ a]
 have:(U+1)*H32≤Y*H32:=uE _ b
 rw[vC] at this
 rw[uG H32]
 omega
theorem iK {q:Nat}(a:0<q)(h:q<W64):IntKind.u64.wrap ((q:Int)-1)=((q-1:Nat):Int):=by
 rw[show (q:Int)-1=((q-1:Nat):Int) by omega]
 exact wK _ qO
theorem kT {a b:Nat}(h:a+b<W64):IntKind.u64.wrap ((a:Int)+(b:Int))=((a+b:Nat):Int):=by
 rw[←rS]
 exact wK _ h
theorem gV {a b:Nat}(h:a*b<W64):IntKind.u64.wrap ((a:Int)*(b:Int))=((a*b:Nat):Int):=by
 rw[←tU]
 exact wK _ h
theorem Ziz:H32*H32=W64:=by rw[wI,zR]
theorem cG {a q0:Nat}(d:a<H32)(e:q0<H32):∃ b c:Nat,IntKind.u64.wrap ((a:Int)*4294967296)=(b:Int)∧IntKind.u64.wrap ((b:Int)+(q0:Int))=(c:Int)∧c=a*H32+q0:=by
 have h:a*H32+q0<W64:=by
  rw[←Ziz]
  have:(a+1)*H32≤H32*H32:=uE _ d
  rw[vC] at this
  omega
 refine⟨a*H32,a*H32+q0,?_,kT h,rfl⟩
 rw[show (4294967296:Int)=((H32:Nat):Int) by rw[wI];rfl]
 exact gV qO
theorem Zd9 {r u:Nat}(c:r<H32)(e:u<H32):∃ a b:Nat,IntKind.u64.wrap (4294967296*(r:Int))=(a:Int)∧IntKind.u64.wrap ((a:Int)+(u:Int))=(b:Int)∧b=H32*r+u:=by
 have d:H32*r+u<W64:=by
  rw[←Ziz]
  have:H32*(r+1)≤H32*H32:=uI _ c
  rw[uK] at this
  omega
 refine⟨H32*r,H32*r+u,?_,kT d,rfl⟩
 rw[show (4294967296:Int)=((H32:Nat):Int) by rw[wI];rfl]
 exact gV qO
theorem iS {q:Nat}(h:H32≤q):decide ((4294967296:Int)≤(q:Int))=true:=by rw[wI] at h;rw[vZ];omega
theorem jO {q:Nat}(h:¬ H32≤q):decide ((4294967296:Int)≤(q:Int))=false:=by rw[wI] at h;rw[vF];omega
theorem eS {a b:Nat}(h:a<b):decide (a<b)=true:=by rw[vZ];omega
theorem fH {a b:Nat}(h:¬ a<b):decide (a<b)=false:=by rw[vF];omega
theorem Zcu {q v:Nat}(b:¬ H32≤q)(c:v<H32):q*v<W64:=by
 rw[←Ziz]
 have d:q*v≤q*H32:=uI _ qO
 have a:(q+1)*H32≤H32*H32:=uE _ qO
 rw[vC] at a
 have:=wI
 omega
theorem ZlD (hi lo y s Y v1 v0 Hs Ls U T u1 u0 qf rf:Nat)(w:World)(d0:(U*H32+u1)/Y*H32+((U*H32+u1)%Y*H32+u0)/Y=qf)(e0:((U*H32+u1)%Y*H32+u0)%Y/2^s=rf)(h0:0<hi)(h1:hi<y)(hy:y<W64)(hs:64-(Lib.bitLen y:Int)=s)(i0:s≤63)(P:Prep hi lo y s Y v1 v0 Hs Ls U T u1 u0)(hU:U<v1*H32+v0)(c0:v1*H32+v0=Y)(b1:2147483648≤v1)(b2:v1<H32)(b3:v0<H32)(b4:u1<H32)(b5:u0<H32) :
 yA 182 #[.int .u64 (hi:Int),.int .u64 (lo:Int),.int .u64 (y:Int)] w fun e w'=>e=.returned (.tuple #[.int .u64 (qf:Int),.int .u64 (rf:Int)])∧w=w':=by
 have R:=zh d0
 have S:=zh e0
 clear d0 e0
 have he:=wI
 have HS:=zh hs
 have HY:=zh hy
 have e1:((hi:Int) == 0)=false:=by simp;omega
 have e2:((y:Int) == 0)=false:=by simp;omega
 have K:=zh hU
 have o:=zh c0
 have f0:U<18446744073709551616:=by rw[he] at hU b2 b3;omega
 have g0:Hid (U<W64):=by unfold Hid;rw[zR];exact f0
 have l:Hid (Y≤W64):=by unfold Hid;rw[zR];rw[he] at c0 b2 b3;omega
 obtain⟨p1,p2,p3,p4,p5,p6,p7,p8,p9⟩:=P
 have j0:((v1:Int) == 0)=false:=by simp;omega
 obtain⟨qi,mi,ri,f1,f2,f3,f4,f5,f6⟩:=Zbl (U:=U) (v1:=v1) qO g0.out
 have HE:=zh (Zbm (v0:=v0) (u:=u1) qO b4 f5 f6)
 clear hs hy hU c0 f5
 have B1:=zh b1
 have B2:=zh b2
 have B3:=zh b3
 have B4:=zh b4
 have V:=zh b5
 clear b1 b2 b3 b4 b5 he f0
 go_enter func182,ntmps182
 go_wp2_with (go_at_call 164;refine (aY _ _ HY.out).mono ?_;rintro e w' ⟨rfl,rfl⟩;rw[HS.out])
 clear p1 p2 p3 p4 p5 p6 p7 p8 p9 e1 e2
 go_loop [15,16] (fun qv rv=>∃ q r:Nat,qv=.int .u64 q∧rv=.int .u64 r∧Hid (r<H32)∧Hid (gL H32 U v1 v0 u1 q r)) (fun qv _=>(intOf qv).toNat)
 case atStart=>exact⟨_,_,rfl,rfl,by have:=B2.out;unfold Hid;omega,HE⟩
 case round =>
  obtain⟨q,r,rfl,rfl,hr,Q⟩:=hrel
  clear f1 f2 f3 f4 f6 HE
  have L:Hid (q<W64):=by
   have h1:=Zbn B1.out g0.out Q.out
   unfold Hid;rw[zR];omega
  have b0:Hid (r+v1<W64):=by
   have h1:=hr.out
   have h2:=B2.out
   unfold Hid;rw[zR];rw[wI] at h1 h2;omega
  have g2:=kT b0.out
  obtain⟨G,A⟩:=yE (r+v1)
  rw[A] at g2
  have M:=zh A
  clear A
  by_cases a:H32≤q
  ·have d:=zh (Zd7 K.out B4.out a Q.out)
   have t1:=iS a
   have g1:=iK (q:=q) (by have:=wI;omega) L.out
   obtain⟨p,h⟩:=yE (q-1)
   rw[h] at g1 d
   rw[M.out] at d
   have B:p<q:=by have:=wI;omega
   by_cases f:H32≤G
   ·have i:=zh (gB K.out B3.out f d.out)
    have t2:=iS f
    clear f a h B d Q
    rw[o.out] at i
    have b:Hid (0<Y):=by have:=o.out;have:=K.out;unfold Hid;omega
    obtain⟨H,F⟩:=yE ((U*H32+u1)%Y)
    have t:Hid (H<Y):=by rw[←F];exact uO _ b.out
    obtain⟨a1,a2,a3,x1,x2,x3,x4⟩:=un21 l.out (by rw[←wI];exact iQ i.out) (uO _ b.out)
    rw[F] at x4
    have N:Hid (p<H32):=iR b.out (by have:=K.out;rw[o.out] at this;exact this) B4.out i.out
    have O:=i
    clear i
    have ERR:=zh F
    clear F
    have I:Hid (H<W64):=uS t.out l.out
    have k:Hid (H<v1*H32+v0):=by rw[o.out];exact t.out
    obtain⟨qi,mi,ri,k1,k2,k3,k4,k5,k6⟩:=Zbl (U:=H) (v1:=v1) (by have:=B1.out;omega) I.out
    have W:=zh (Zbm (v0:=v0) (u:=u0) (by have:=B1.out;omega) V.out k5 k6)
    clear k5
    go_wp2
    go_loop [16,18] (fun rv qv=>∃ q r:Nat,qv=.int .u64 q∧rv=.int .u64 r∧Hid (r<H32)∧Hid (gL H32 H v1 v0 u0 q r)) (fun _ qv=>(intOf qv).toNat)
    case atStart=>exact⟨_,_,rfl,rfl,by have:=B2.out;unfold Hid;omega,W⟩
    case round =>
     obtain⟨q,r,rfl,rfl,hr,Q⟩:=hrel
     clear k1 k2 k3 k4 k6 W x1 x2 x3 x4
     have L:Hid (q<W64):=by
      have h1:=Zbn B1.out I.out Q.out
      unfold Hid;rw[zR];omega
     have b0:Hid (r+v1<W64):=by
      have h1:=hr.out
      have h2:=B2.out
      unfold Hid;rw[zR];rw[wI] at h1 h2;omega
     have g2:=kT b0.out
     obtain⟨G,A⟩:=yE (r+v1)
     rw[A] at g2
     have M:=zh A
     clear A
     by_cases a:H32≤q
     ·have d:=zh (Zd7 k.out V.out a Q.out)
      have t1:=iS a
      have g1:=iK (q:=q) (by have:=wI;omega) L.out
      obtain⟨p,h⟩:=yE (q-1)
      rw[h] at g1 d
      rw[M.out] at d
      have B:p<q:=by have:=wI;omega
      by_cases f:H32≤G
      ·have i:=zh (gB k.out B3.out f d.out)
       have t2:=iS f
       clear f a h B d Q
       rw[o.out] at i
       obtain⟨X,Z,a0,y1,y2,y3,y4⟩:=un21 l.out (by rw[←wI];exact iQ i.out) (uO _ b.out)
       obtain⟨v,g⟩:=yE ((H*H32+u0)%Y)
       rw[g] at y4
       obtain⟨z1,z2,z4,z5,J⟩:=cG N.out (iR b.out t.out V.out i.out)
       have y5:(v:Int)/2^s=((v/2^s:Nat):Int):=by rw[tO,tM];rfl
       obtain⟨x,c⟩:=yE (v/2^s)
       rw[c] at y5
       have EZ:=zh J
       have ER:=zh c
       have z:=zh g
       clear g J c
       go_wp2
       go_ret2
       have fq:z2=qf:=by rw[EZ.out,← R.out,i.out,O.out,ERR.out]
       have fr:x=rf:=by rw[←ER.out,← z.out,← S.out,ERR.out]
       exact⟨by rw[←fq,← fr];rfl,rfl⟩
      have t2:=jO f
      have C:Hid (G<H32):=by unfold Hid;omega
      clear f a h
      go_wp2
      go_round
      case rel=>exact⟨p,G,rfl,rfl,C,d⟩
      case measure=>simp[intOf];omega
     have t1:=jO a
     have g5:=gV (Zcu a B3.out)
     obtain⟨m,D⟩:=yE (q*v0)
     rw[D] at g5
     obtain⟨m2,m3,g6,g7,n⟩:=Zd9 hr.out V.out
     by_cases j:m3<m
     ·have t3:=eS j
      have d:=zh (Za2 (by have:=k.out;omega) (by rw[D,← n];exact j) Q.out)
      have E:0<q:=by
       rcases uJ q with e|e
       ·subst e;simp at D;omega
       exact e
      have g1:=iK E L.out
      obtain⟨p,h⟩:=yE (q-1)
      rw[h] at g1 d
      rw[M.out] at d
      have B:p<q:=qO
      by_cases f:H32≤G
      ·have i:=zh (gB k.out B3.out f d.out)
       have t2:=iS f
       clear f a h B d Q j D n E
       rw[o.out] at i
       obtain⟨X,Z,a0,y1,y2,y3,y4⟩:=un21 l.out (by rw[←wI];exact iQ i.out) (uO _ b.out)
       obtain⟨v,g⟩:=yE ((H*H32+u0)%Y)
       rw[g] at y4
       obtain⟨z1,z2,z4,z5,J⟩:=cG N.out (iR b.out t.out V.out i.out)
       have y5:(v:Int)/2^s=((v/2^s:Nat):Int):=by rw[tO,tM];rfl
       obtain⟨x,c⟩:=yE (v/2^s)
       rw[c] at y5
       have EZ:=zh J
       have ER:=zh c
       have z:=zh g
       clear g J c
       go_wp2
       go_ret2
       have fq:z2=qf:=by rw[EZ.out,← R.out,i.out,O.out,ERR.out]
       have fr:x=rf:=by rw[←ER.out,← z.out,← S.out,ERR.out]
       exact⟨by rw[←fq,← fr];rfl,rfl⟩
      have t2:=jO f
      have C:Hid (G<H32):=by unfold Hid;omega
      clear f a h j D n E
      go_wp2
      go_round
      case rel=>exact⟨p,G,rfl,rfl,C,d⟩
      case measure=>simp[intOf];omega
     have t3:=fH j
     have i:=zh (aX (by have:=k.out;omega) (by rw[D,← n];omega) Q.out)
     obtain⟨p,rfl⟩:∃ p,p=q:=⟨_,rfl⟩
     clear j D n a Q
     rw[o.out] at i
     obtain⟨X,Z,a0,y1,y2,y3,y4⟩:=un21 l.out (by rw[←wI];exact iQ i.out) (uO _ b.out)
     obtain⟨v,g⟩:=yE ((H*H32+u0)%Y)
     rw[g] at y4
     obtain⟨z1,z2,z4,z5,J⟩:=cG N.out (iR b.out t.out V.out i.out)
     have y5:(v:Int)/2^s=((v/2^s:Nat):Int):=by rw[tO,tM];rfl
     obtain⟨x,c⟩:=yE (v/2^s)
     rw[c] at y5
     have EZ:=zh J
     have ER:=zh c
     have z:=zh g
     clear g J c
     go_wp2
     go_ret2
     have fq:z2=qf:=by rw[EZ.out,← R.out,i.out,O.out,ERR.out]
     have fr:x=rf:=by rw[←ER.out,← z.out,← S.out,ERR.out]
     exact⟨by rw[←fq,← fr];rfl,rfl⟩
   have t2:=jO f
   have C:Hid (G<H32):=by unfold Hid;omega
   clear f a h
   go_wp2
   go_round
   case rel=>exact⟨p,G,rfl,rfl,C,d⟩
   case measure=>simp[intOf];omega
  have t1:=jO a
  have g5:=gV (Zcu a B3.out)
  obtain⟨m,D⟩:=yE (q*v0)
  rw[D] at g5
  obtain⟨m2,m3,g6,g7,n⟩:=Zd9 hr.out B4.out
  by_cases j:m3<m
  ·have t3:=eS j
   have d:=zh (Za2 (by have:=K.out;omega) (by rw[D,← n];exact j) Q.out)
   have E:0<q:=by
    rcases uJ q with e|e
    ·subst e;simp at D;omega
    exact e
   have g1:=iK E L.out
   obtain⟨p,h⟩:=yE (q-1)
   rw[h] at g1 d
   rw[M.out] at d
   have B:p<q:=qO
   by_cases f:H32≤G
   ·have i:=zh (gB K.out B3.out f d.out)
    have t2:=iS f
    clear f a h B d Q j D n E
    rw[o.out] at i
    have b:Hid (0<Y):=by have:=o.out;have:=K.out;unfold Hid;omega
    obtain⟨H,F⟩:=yE ((U*H32+u1)%Y)
    have t:Hid (H<Y):=by rw[←F];exact uO _ b.out
    obtain⟨a1,a2,a3,x1,x2,x3,x4⟩:=un21 l.out (by rw[←wI];exact iQ i.out) (uO _ b.out)
    rw[F] at x4
    have N:Hid (p<H32):=iR b.out (by have:=K.out;rw[o.out] at this;exact this) B4.out i.out
    have O:=i
    clear i
    have ERR:=zh F
    clear F
    have I:Hid (H<W64):=uS t.out l.out
    have k:Hid (H<v1*H32+v0):=by rw[o.out];exact t.out
    obtain⟨qi,mi,ri,k1,k2,k3,k4,k5,k6⟩:=Zbl (U:=H) (v1:=v1) (by have:=B1.out;omega) I.out
    have W:=zh (Zbm (v0:=v0) (u:=u0) (by have:=B1.out;omega) V.out k5 k6)
    clear k5
    go_wp2
    go_loop [16,18] (fun rv qv=>∃ q r:Nat,qv=.int .u64 q∧rv=.int .u64 r∧Hid (r<H32)∧Hid (gL H32 H v1 v0 u0 q r)) (fun _ qv=>(intOf qv).toNat)
    case atStart=>exact⟨_,_,rfl,rfl,by have:=B2.out;unfold Hid;omega,W⟩
    case round =>
     obtain⟨q,r,rfl,rfl,hr,Q⟩:=hrel
     clear k1 k2 k3 k4 k6 W x1 x2 x3 x4
     have L:Hid (q<W64):=by
      have h1:=Zbn B1.out I.out Q.out
      unfold Hid;rw[zR];omega
     have b0:Hid (r+v1<W64):=by
      have h1:=hr.out
      have h2:=B2.out
      unfold Hid;rw[zR];rw[wI] at h1 h2;omega
     have g2:=kT b0.out
     obtain⟨G,A⟩:=yE (r+v1)
     rw[A] at g2
     have M:=zh A
     clear A
     by_cases a:H32≤q
     ·have d:=zh (Zd7 k.out V.out a Q.out)
      have t1:=iS a
      have g1:=iK (q:=q) (by have:=wI;omega) L.out
      obtain⟨p,h⟩:=yE (q-1)
      rw[h] at g1 d
      rw[M.out] at d
      have B:p<q:=by have:=wI;omega
      by_cases f:H32≤G
      ·have i:=zh (gB k.out B3.out f d.out)
       have t2:=iS f
       clear f a h B d Q
       rw[o.out] at i
       obtain⟨X,Z,a0,y1,y2,y3,y4⟩:=un21 l.out (by rw[←wI];exact iQ i.out) (uO _ b.out)
       obtain⟨v,g⟩:=yE ((H*H32+u0)%Y)
       rw[g] at y4
       obtain⟨z1,z2,z4,z5,J⟩:=cG N.out (iR b.out t.out V.out i.out)
       have y5:(v:Int)/2^s=((v/2^s:Nat):Int):=by rw[tO,tM];rfl
       obtain⟨x,c⟩:=yE (v/2^s)
       rw[c] at y5
       have EZ:=zh J
       have ER:=zh c
       have z:=zh g
       clear g J c
       go_wp2
       go_ret2
       have fq:z2=qf:=by rw[EZ.out,← R.out,i.out,O.out,ERR.out]
       have fr:x=rf:=by rw[←ER.out,← z.out,← S.out,ERR.out]
       exact⟨by rw[←fq,← fr];rfl,rfl⟩
      have t2:=jO f
      have C:Hid (G<H32):=by unfold Hid;omega
      clear f a h
      go_wp2
      go_round
      case rel=>exact⟨p,G,rfl,rfl,C,d⟩
      case measure=>simp[intOf];omega
     have t1:=jO a
     have g5:=gV (Zcu a B3.out)
     obtain⟨m,D⟩:=yE (q*v0)
     rw[D] at g5
     obtain⟨m2,m3,g6,g7,n⟩:=Zd9 hr.out V.out
     by_cases j:m3<m
     ·have t3:=eS j
      have d:=zh (Za2 (by have:=k.out;omega) (by rw[D,← n];exact j) Q.out)
      have E:0<q:=by
       rcases uJ q with e|e
       ·subst e;simp at D;omega
       exact e
      have g1:=iK E L.out
      obtain⟨p,h⟩:=yE (q-1)
      rw[h] at g1 d
      rw[M.out] at d
      have B:p<q:=qO
      by_cases f:H32≤G
      ·have i:=zh (gB k.out B3.out f d.out)
       have t2:=iS f
       clear f a h B d Q j D n E
       rw[o.out] at i
       obtain⟨X,Z,a0,y1,y2,y3,y4⟩:=un21 l.out (by rw[←wI];exact iQ i.out) (uO _ b.out)
       obtain⟨v,g⟩:=yE ((H*H32+u0)%Y)
       rw[g] at y4
       obtain⟨z1,z2,z4,z5,J⟩:=cG N.out (iR b.out t.out V.out i.out)
       have y5:(v:Int)/2^s=((v/2^s:Nat):Int):=by rw[tO,tM];rfl
       obtain⟨x,c⟩:=yE (v/2^s)
       rw[c] at y5
       have EZ:=zh J
       have ER:=zh c
       have z:=zh g
       clear g J c
       go_wp2
       go_ret2
       have fq:z2=qf:=by rw[EZ.out,← R.out,i.out,O.out,ERR.out]
       have fr:x=rf:=by rw[←ER.out,← z.out,← S.out,ERR.out]
       exact⟨by rw[←fq,← fr];rfl,rfl⟩
      have t2:=jO f
      have C:Hid (G<H32):=by unfold Hid;omega
      clear f a h j D n E
      go_wp2
      go_round
      case rel=>exact⟨p,G,rfl,rfl,C,d⟩
      case measure=>simp[intOf];omega
     have t3:=fH j
     have i:=zh (aX (by have:=k.out;omega) (by rw[D,← n];omega) Q.out)
     obtain⟨p,rfl⟩:∃ p,p=q:=⟨_,rfl⟩
     clear j D n a Q
     rw[o.out] at i
     obtain⟨X,Z,a0,y1,y2,y3,y4⟩:=un21 l.out (by rw[←wI];exact iQ i.out) (uO _ b.out)
     obtain⟨v,g⟩:=yE ((H*H32+u0)%Y)
     rw[g] at y4
     obtain⟨z1,z2,z4,z5,J⟩:=cG N.out (iR b.out t.out V.out i.out)
     have y5:(v:Int)/2^s=((v/2^s:Nat):Int):=by rw[tO,tM];rfl
     obtain⟨x,c⟩:=yE (v/2^s)
     rw[c] at y5
     have EZ:=zh J
     have ER:=zh c
     have z:=zh g
     clear g J c
     go_wp2
     go_ret2
     have fq:z2=qf:=by rw[EZ.out,← R.out,i.out,O.out,ERR.out]
     have fr:x=rf:=by rw[←ER.out,← z.out,← S.out,ERR.out]
     exact⟨by rw[←fq,← fr];rfl,rfl⟩
   have t2:=jO f
   have C:Hid (G<H32):=by unfold Hid;omega
   clear f a h j D n E
   go_wp2
   go_round
   case rel=>exact⟨p,G,rfl,rfl,C,d⟩
   case measure=>simp[intOf];omega
  have t3:=fH j
  have i:=zh (aX (by have:=K.out;omega) (by rw[D,← n];omega) Q.out)
  obtain⟨p,rfl⟩:∃ p,p=q:=⟨_,rfl⟩
  clear j D n a Q
  rw[o.out] at i
  have b:Hid (0<Y):=by have:=o.out;have:=K.out;unfold Hid;omega
  obtain⟨H,F⟩:=yE ((U*H32+u1)%Y)
  have t:Hid (H<Y):=by rw[←F];exact uO _ b.out
  obtain⟨a1,a2,a3,x1,x2,x3,x4⟩:=un21 l.out (by rw[←wI];exact iQ i.out) (uO _ b.out)
  rw[F] at x4
  have N:Hid (p<H32):=iR b.out (by have:=K.out;rw[o.out] at this;exact this) B4.out i.out
  have O:=i
  clear i
  have ERR:=zh F
  clear F
  have I:Hid (H<W64):=uS t.out l.out
  have k:Hid (H<v1*H32+v0):=by rw[o.out];exact t.out
  obtain⟨qi,mi,ri,k1,k2,k3,k4,k5,k6⟩:=Zbl (U:=H) (v1:=v1) (by have:=B1.out;omega) I.out
  have W:=zh (Zbm (v0:=v0) (u:=u0) (by have:=B1.out;omega) V.out k5 k6)
  clear k5
  go_wp2
  go_loop [16,18] (fun rv qv=>∃ q r:Nat,qv=.int .u64 q∧rv=.int .u64 r∧Hid (r<H32)∧Hid (gL H32 H v1 v0 u0 q r)) (fun _ qv=>(intOf qv).toNat)
  case atStart=>exact⟨_,_,rfl,rfl,by have:=B2.out;unfold Hid;omega,W⟩
  case round =>
   obtain⟨q,r,rfl,rfl,hr,Q⟩:=hrel
   clear k1 k2 k3 k4 k6 W x1 x2 x3 x4
   have L:Hid (q<W64):=by
    have h1:=Zbn B1.out I.out Q.out
    unfold Hid;rw[zR];omega
   have b0:Hid (r+v1<W64):=by
    have h1:=hr.out
    have h2:=B2.out
    unfold Hid;rw[zR];rw[wI] at h1 h2;omega
   have g2:=kT b0.out
   obtain⟨G,A⟩:=yE (r+v1)
   rw[A] at g2
   have M:=zh A
   clear A
   by_cases a:H32≤q
   ·have d:=zh (Zd7 k.out V.out a Q.out)
    have t1:=iS a
    have g1:=iK (q:=q) (by have:=wI;omega) L.out
    obtain⟨p,h⟩:=yE (q-1)
    rw[h] at g1 d
    rw[M.out] at d
    have B:p<q:=by have:=wI;omega
    by_cases f:H32≤G
    ·have i:=zh (gB k.out B3.out f d.out)
     have t2:=iS f
     clear f a h B d Q
     rw[o.out] at i
     obtain⟨X,Z,a0,y1,y2,y3,y4⟩:=un21 l.out (by rw[←wI];exact iQ i.out) (uO _ b.out)
     obtain⟨v,g⟩:=yE ((H*H32+u0)%Y)
     rw[g] at y4
     obtain⟨z1,z2,z4,z5,J⟩:=cG N.out (iR b.out t.out V.out i.out)
     have y5:(v:Int)/2^s=((v/2^s:Nat):Int):=by rw[tO,tM];rfl
     obtain⟨x,c⟩:=yE (v/2^s)
     rw[c] at y5
     have EZ:=zh J
     have ER:=zh c
     have z:=zh g
     clear g J c
     go_wp2
     go_ret2
     have fq:z2=qf:=by rw[EZ.out,← R.out,i.out,O.out,ERR.out]
     have fr:x=rf:=by rw[←ER.out,← z.out,← S.out,ERR.out]
     exact⟨by rw[←fq,← fr];rfl,rfl⟩
    have t2:=jO f
    have C:Hid (G<H32):=by unfold Hid;omega
    clear f a h
    go_wp2
    go_round
    case rel=>exact⟨p,G,rfl,rfl,C,d⟩
    case measure=>simp[intOf];omega
   have t1:=jO a
   have g5:=gV (Zcu a B3.out)
   obtain⟨m,D⟩:=yE (q*v0)
   rw[D] at g5
   obtain⟨m2,m3,g6,g7,n⟩:=Zd9 hr.out V.out
   by_cases j:m3<m
   ·have t3:=eS j
    have d:=zh (Za2 (by have:=k.out;omega) (by rw[D,← n];exact j) Q.out)
    have E:0<q:=by
     rcases uJ q with e|e
     ·subst e;simp at D;omega
     exact e
    have g1:=iK E L.out
    obtain⟨p,h⟩:=yE (q-1)
    rw[h] at g1 d
    rw[M.out] at d
    have B:p<q:=qO
    by_cases f:H32≤G
    ·have i:=zh (gB k.out B3.out f d.out)
     have t2:=iS f
     clear f a h B d Q j D n E
     rw[o.out] at i
     obtain⟨X,Z,a0,y1,y2,y3,y4⟩:=un21 l.out (by rw[←wI];exact iQ i.out) (uO _ b.out)
     obtain⟨v,g⟩:=yE ((H*H32+u0)%Y)
     rw[g] at y4
     obtain⟨z1,z2,z4,z5,J⟩:=cG N.out (iR b.out t.out V.out i.out)
     have y5:(v:Int)/2^s=((v/2^s:Nat):Int):=by rw[tO,tM];rfl
     obtain⟨x,c⟩:=yE (v/2^s)
     rw[c] at y5
     have EZ:=zh J
     have ER:=zh c
     have z:=zh g
     clear g J c
     go_wp2
     go_ret2
     have fq:z2=qf:=by rw[EZ.out,← R.out,i.out,O.out,ERR.out]
     have fr:x=rf:=by rw[←ER.out,← z.out,← S.out,ERR.out]
     exact⟨by rw[←fq,← fr];rfl,rfl⟩
    have t2:=jO f
    have C:Hid (G<H32):=by unfold Hid;omega
    clear f a h j D n E
    go_wp2
    go_round
    case rel=>exact⟨p,G,rfl,rfl,C,d⟩
    case measure=>simp[intOf];omega
   have t3:=fH j
   have i:=zh (aX (by have:=k.out;omega) (by rw[D,← n];omega) Q.out)
   obtain⟨p,rfl⟩:∃ p,p=q:=⟨_,rfl⟩
   clear j D n a Q
   rw[o.out] at i
   obtain⟨X,Z,a0,y1,y2,y3,y4⟩:=un21 l.out (by rw[←wI];exact iQ i.out) (uO _ b.out)
   obtain⟨v,g⟩:=yE ((H*H32+u0)%Y)
   rw[g] at y4
   obtain⟨z1,z2,z4,z5,J⟩:=cG N.out (iR b.out t.out V.out i.out)
   have y5:(v:Int)/2^s=((v/2^s:Nat):Int):=by rw[tO,tM];rfl
   obtain⟨x,c⟩:=yE (v/2^s)
   rw[c] at y5
   have EZ:=zh J
   have ER:=zh c
   have z:=zh g
   clear g J c
   go_wp2
   go_ret2
   have fq:z2=qf:=by rw[EZ.out,← R.out,i.out,O.out,ERR.out]
   have fr:x=rf:=by rw[←ER.out,← z.out,← S.out,ERR.out]
   exact⟨by rw[←fq,← fr];rfl,rfl⟩
theorem eM {y:Nat}(b:0<y)(a:y<W64):1≤Lib.bitLen y∧Lib.bitLen y≤64∧2^(Lib.bitLen y-1)≤y∧y<2^Lib.bitLen y:=by
 rw[zR] at a
 have h:=Lib.bitLenAux_bounds 64 y qO qO
 exact⟨h.1,Lib.bitLen_le y 64 qO qO,h.2.1,h.2.2⟩
noncomputable def divQ (hi lo y:Nat):Nat:=(hi*W64+lo)/y
noncomputable def divR (hi lo y:Nat):Nat:=(hi*W64+lo)%y
theorem Zcv (hi lo y:Nat):divQ hi lo y*y+divR hi lo y=hi*W64+lo:=by
 unfold divQ divR;rw[uG];exact tB _ _
theorem Zb1 (hi lo:Nat){y:Nat}(a:0<y):divR hi lo y<y:=uO _ a
theorem Zgy {hi lo y:Nat}(h:hi<y)(a:lo<W64):divQ hi lo y<W64:=by
 unfold divQ
 rw[vQ qO]
 have:(hi+1)*W64≤y*W64:=uE _ h
 rw[vC] at this
 rw[uG W64]
 omega
theorem ZmJ (hi lo y:Nat)(w:World)(q:0<hi)(h:hi<y)(n:y<W64)(d:lo<W64) :
 yA 182 #[.int .u64 (hi:Int),.int .u64 (lo:Int),.int .u64 (y:Int)] w fun e w'=>e=.returned (.tuple #[.int .u64 (divQ hi lo y:Nat),.int .u64 (divR hi lo y:Nat)])∧w=w':=by
 obtain⟨z,A,r,t⟩:=eM (y:=y) qO n
 obtain⟨s,B⟩:=yE (64-Lib.bitLen y)
 have i:0<2^s:=uY qO
 have b:y*2^s<W64:=by
  have:y*2^s<2^Lib.bitLen y*2^s:=tS t i
  rw[←uW,show Lib.bitLen y+s=64 by omega] at this
  rw[zR];exact this
 have u:9223372036854775808≤y*2^s:=by
  have:2^(Lib.bitLen y-1)*2^s≤y*2^s:=uE _ r
  rw[←uW,show Lib.bitLen y-1+s=63 by omega] at this
  exact this
 have C:hi*2^s<y*2^s:=tS h i
 have j:lo/2^(64-s)<2^s:=by
  rw[vQ (uY qO),← uW,show s+(64-s)=64 by omega]
  rw[zR] at d;exact d
 have k:hi*2^s ||| lo/2^(64-s)=hi*2^s+lo/2^(64-s):=by
  have:=sM j hi
  rw[rL] at this
  exact this.symm
 have f:hi*2^s+lo/2^(64-s)<y*2^s:=by
  have:(hi+1)*2^s≤y*2^s:=uE _ h
  rw[vC] at this
  omega
 have l:y*2^s<18446744073709551616:=by rw[zR] at b;exact b
 have v:lo*2^s%18446744073709551616<18446744073709551616:=uO _ qO
 have g:hi*2^s<18446744073709551616:=qO
 have a:((2:Int)^s)=((2^s:Nat):Int):=by rw[tM];rfl
 have c:((2:Int)^(64-s))=((2^(64-s):Nat):Int):=by rw[tM];rfl
 have x:=ZjT hi lo s qO
 have o:y*2^s/4294967296*H32+y*2^s%4294967296=y*2^s:=by rw[wI,uG];exact tB _ _
 have p:=Zdn (hi*18446744073709551616+lo) y (2^s) i
 have m:=Zqc (H:=H32) (Y:=y*2^s) (U:=hi*2^s+lo/2^(64-s)) (u1:=lo*2^s%18446744073709551616/4294967296) (u0:=lo*2^s%18446744073709551616%4294967296) qO f (by rw[wI];omega) (by rw[wI];omega)
 rw[wI,← x,p.1] at m
 refine ZlD hi lo y s (y*2^s) (y*2^s/4294967296) (y*2^s%4294967296) (hi*2^s) (lo/2^(64-s)) (hi*2^s+lo/2^(64-s)) (lo*2^s%18446744073709551616) (lo*2^s%18446744073709551616/4294967296) (lo*2^s%18446744073709551616%4294967296) _ _ w ?_ ?_ q h n qO qO ⟨?_,?_,?_,?_,?_,?_,?_,?_,?_⟩ (by rw[o];exact f) o qO (by rw[wI];omega) (by rw[wI];omega) (by rw[wI];omega) (by rw[wI];omega)
 ·rw[wI,← m.2.2.2.1,divQ,zR]
 ·rw[wI,← m.2.2.2.2,divR,zR];exact p.2
 ·rw[a,← tU];exact wK _ b
 ·omega
 ·exact M64.maskN _ l
 ·rw[a,← tU];exact M64.wrapN _ g
 ·rw[c,tO]
 ·rw[bits_or_u64_nat _ _ g qO,k]
 ·rw[a,← tU];exact M64.wrapM _
 ·omega
 exact M64.maskN _ v
theorem ZjV (lo y q r:Nat)(w:World)(f:0<y)(b:lo/y=q)(c:lo%y=r)(a:lo<W64) :
 yA 182 #[.int .u64 0,.int .u64 (lo:Int),.int .u64 (y:Int)] w fun e w'=>e=.returned (.tuple #[.int .u64 (q:Int),.int .u64 (r:Int)])∧∃ n,w'=w.drewN n:=by
 have g:((y:Int) == 0)=false:=by simp;omega
 have h:(lo:Int)/(y:Int)=(q:Int):=by rw[←tO,b]
 have p2:IntKind.u64.wrap (q:Int)=(q:Int):=wK _ (by have:=vG lo y;omega)
 have d:(lo:Int)%(y:Int)=(r:Int):=by rw[←nG,c]
 clear b c a
 go_enter func182,ntmps182
 go_wp2
 go_quiet (fail)
 go_wp2
 go_ret2
 exact⟨by rw[←d];rfl,_,rfl⟩
theorem Zbo (hi lo y:Nat)(w:World)(c:hi<y)(d:y<W64)(a:lo<W64) :
 yA 182 #[.int .u64 (hi:Int),.int .u64 (lo:Int),.int .u64 (y:Int)] w fun e w'=>e=.returned (.tuple #[.int .u64 (divQ hi lo y:Nat),.int .u64 (divR hi lo y:Nat)])∧∃ n,w'=w.drewN n:=by
 rcases uJ hi with b|b
 ·subst b
  refine (ZjV lo y (divQ 0 lo y) (divR 0 lo y) w c (by simp[divQ]) (by simp[divR]) a).mono ?_
  rintro e w' ⟨rfl,f⟩
  exact⟨rfl,f⟩
 refine (ZmJ hi lo y w b c d a).mono ?_
 rintro e w' ⟨rfl,rfl⟩
 exact⟨rfl,0,rfl⟩
def aJ (xs:List Nat) (u k r:Nat):Prop:=r<u∧∃ Q,val W64 (xs.drop k)=Q*u+r
theorem aJ.start (xs:qN){u:Nat}(a:0<u):aJ xs u xs.length 0:=⟨a,0,by rw[vA (uF _)];simp⟩
theorem aJ.step {xs:qN}{u k r x:Nat}(h:aJ xs u (k+1) r)(a:k<xs.length)(b:xs[k]?.getD 0=x):aJ xs u k (divR r x u):=by
 obtain⟨d,Q,c⟩:=h
 refine⟨Zb1 _ _ qO,divQ r x u+W64*Q,?_⟩
 rw[xT k a,b]
 exact Ze1 W64 _ _ _ _ _ _ _ c (Zcv r x u).symm
theorem aJ.done {xs:qN}{u r:Nat}(h:aJ xs u 0 r):val W64 xs%u=r:=by
 obtain⟨b,Q,a⟩:=h
 rw[sE] at a
 rw[a,uG,qV,vH b]
theorem fN (A:qA)(xs:qN)(n c u:Nat)(w:World)(z:xs.length=n)(p:zH .u64 w A xs)(J:xs.length≤1099511627776)(s:Dig W64 xs)(B:0<u)(d:u<W64) :
 yA 161 #[.slice A n c,.int .u64 (u:Int)] w fun e w'=>e=.returned (.int .u64 ((val W64 xs%u:Nat):Int))∧∃ n,w'=w.drewN n:=by
 subst z
 have C:=zh p
 have D:=zh s
 have E:=zh d
 obtain⟨F,a⟩:=yE (val W64 xs%u)
 rw[a]
 have f:=zh a
 clear p s d a
 go_enter func161,ntmps161
 go_wp2
 go_loopw [5,6] (fun G i wr=>∃ k r q:Nat,k≤xs.length∧i=.int .i64 ((k:Int)-1)∧G=.int .u64 (r:Int)∧Hid (aJ xs u k r)∧Hid (wr=w.drewN q)) (fun _ i _=>(intOf i+1).toNat)
 case atStart=>exact⟨xs.length,0,0,uF _,rfl,rfl,aJ.start xs B,rfl⟩
 case round =>
  obtain⟨k,r,q,K,rfl,rfl,h,t⟩:=hrel
  obtain rfl:=t.out
  clear t
  by_cases H:0<k
  ·obtain⟨j,rfl⟩:∃ j,k=j+1:=⟨k-1,qO⟩
   have v:(((j+1:Nat):Int)-1)=(j:Int):=qO
   rw[v]
   clear v
   obtain⟨b,I,rfl,_,l⟩:=C.out.at (i:=j) qO
   obtain⟨x,g⟩:=yE (xs[j]?.getD 0)
   rw[g] at l
   have m:=zh (h.out.step qO g)
   have o:Hid (x<W64):=g ▸ D.out.getD zP j
   clear g
   go_wp2_with (go_at_call 182;refine (Zbo _ _ _ _ h.out.1 E.out o.out).mono ?_;rintro e w' ⟨rfl,L,rfl⟩)
   go_roundw
   case rel=>exact⟨j,_,_,qO,rfl,rfl,m,rfl⟩
   case measure=>simp[intOf]
  obtain rfl:k=0:=qO
  have y:=zh h.out.done
  rw[f.out] at y
  go_wp2
  go_ret
  exact⟨by rw[y.out];rfl,_,rfl⟩
def cW (xs:List Nat) (u k:Nat) (qs:List Nat) (r:Nat):Prop:=qs.length=xs.length∧Dig W64 qs∧r<u∧val W64 (xs.drop k)=val W64 (qs.drop k)*u+r
theorem cW.start (xs:qN){u:Nat}(a:0<u):cW xs u xs.length (List.replicate xs.length 0) 0:=by
 refine⟨qS,Dig.replicate zP _,a,?_⟩
 rw[vA (uF _),vA qS];simp
theorem cW.step {xs a:qN}{u k r x:Nat}(h:cW xs u (k+1) a r)(c:k<xs.length)(e:xs[k]?.getD 0=x)(b:x<W64):cW xs u k (a.set k (divQ r x u)) (divR r x u):=by
 obtain⟨d,f,g,i⟩:=h
 refine⟨by simpa using d,f.set k (Zgy g b),Zb1 _ _ qO,?_⟩
 rw[xT k c,e,xT (xs:=a.set k _) k (by simp;omega),tJ qO]
 have:(a.set k (divQ r x u))[k]?.getD 0=divQ r x u:=by simp[d,c]
 rw[this]
 exact Ze1 W64 _ _ _ _ _ _ _ i (Zcv r x u).symm
theorem cW.done {xs a:qN}{u r:Nat}(h:cW xs u 0 a r):val W64 a=val W64 xs/u∧r=val W64 xs%u:=by
 obtain⟨d,e,b,c⟩:=h
 rw[sE,sE] at c
 rw[c,uG,rF qO,qV,vH b,tF b]
 exact⟨rfl,rfl⟩
def ZlE (w:World) (q r:Nat) (e:Ending) (w':World):Prop:=∃ v,e=.returned (.tuple #[v,.int .u64 (r:Int)])∧zL w' v q∧Ext w w'
theorem Zgz (A:qA)(xs:qN)(n c u:Nat)(w:World)(R:xs.length=n)(I:zH .u64 w A xs)(hl:xs.length≤4294967296)(J:Dig W64 xs)(S:0<u)(h:u<W64) :
 yA 229 #[.slice A n c,.int .u64 (u:Int)] w (ZlE w (val W64 xs/u) (val W64 xs%u)):=by
 subst R
 have T:=zh I
 have U:=zh J
 have V:=zh h
 clear I J h
 go_enter func229,ntmps229
 go_wp2_with (
  at_make
  refine wV rfl _ _ _ rfl _ _ _ underlying83 eL _ _ _ _ xs.length rfl rfl qO qO qO qO ?_
  intro b w1 K l _ m t
  have y:=zh l
  have B:=zh m
  have W:=zh K
  clear l m K t)
 go_loopw [7,8] (fun X i wr=>∃ (k r:Nat) (f:List Nat),k≤xs.length∧i=.int .i64 ((k:Int)-1)∧X=.int .u64 (r:Int)∧Hid (cW xs u k f r)∧Hid (Own .u64 207 wr b f)∧Hid (Ext w wr)) (fun _ i _=>(intOf i+1).toNat)
 case atStart=>exact⟨xs.length,0,_,uF _,rfl,rfl,cW.start xs S,y.out,B.out⟩
 case round =>
  obtain⟨k,r,f,hk,rfl,rfl,g,a,d⟩:=hrel
  by_cases Y:0<k
  ·obtain⟨j,rfl⟩:∃ j,k=j+1:=⟨k-1,qO⟩
   have L:(((j+1:Nat):Int)-1)=(j:Int):=qO
   rw[L]
   clear L
   obtain⟨b2,M,rfl,_,C⟩:=(T.out.ext d.out).at (i:=j) qO
   obtain⟨x,s⟩:=yE (xs[j]?.getD 0)
   rw[s] at C
   have o:Hid (x<W64):=s ▸ U.out.getD zP j
   have D:=zh (g.out.step qO s o.out)
   clear s
   have E:=g.out.1
   have q:j<f.length:=qO
   have F:=a.out.cell q
   have Z:=a.out.frozen j
   obtain⟨z,N⟩:=yE (f[j]?.getD 0)
   rw[N] at F
   have G:=zh (fun v=>a.out.set j v q)
   clear N E
   go_wp2_with (go_at_call 182;refine (Zbo _ _ _ _ g.out.2.2.1 V.out o.out).mono ?_;rintro e w' ⟨rfl,n1,rfl⟩)
   go_roundw
   case rel=>exact⟨j,_,_,qO,rfl,rfl,D,G.out _,(d.out.setCell (p:=⟨b,j,none⟩) (Or.inr (by have:=W.out;show w.heap.size≤b;omega)) _).drewN _⟩
   case measure=>simp[intOf]
  obtain rfl:k=0:=qO
  have H:=g.out.done
  have O:=g.out.1
  have P:=zh (eC _ f xs.length xs.length wr O a.out.shows0 qO qO)
  have Q:=zh (zL.of_own (c:=xs.length) a.out g.out.2.1 qO)
  rw[H.1] at Q
  have Hr:=zh H.2
  clear O H
  go_wp2_with fail
  refine P.out.mono ?_
  rintro e w2 ⟨rfl,rfl⟩
  clear P
  go_wp2
  go_ret2
  exact⟨_,by rw[←Hr.out];rfl,Q.out,d.out⟩
theorem jA {t:Nat}(a:t≤63):2^(64-t)*2^t=W64:=by
 rw[←uW,show 64-t+t=64 by omega,zR]
theorem ZmL {x t:Nat}(a:t≤63):x*2^t=x*2^t%W64+W64*(x/2^(64-t)):=by
 have h:=sH (x*2^t) W64
 have:x*2^t/W64=x/2^(64-t):=by
  rw[←jA a,qF _ _ (uY qO)]
 rw[this] at h
 exact h.symm
theorem ZmM {h x t:Nat}(a:h<2^t)(b:t≤63):h ||| x*2^t%W64=h+x*2^t%W64:=by
 have e:x*2^t%W64=(x%2^(64-t)) <<< t:=by
  rw[rL,← jA b,rG]
 rw[e,Nat.or_comm,← sM a,vO]
theorem aZ (x t:Nat):IntKind.u64.wrap ((x:Int)*2^t)=((x*2^t%W64:Nat):Int):=by
 have a:((2:Int)^t)=((2^t:Nat):Int):=by rw[tM];rfl
 rw[a,← tU,zR]
 exact M64.wrapM _
theorem Za4 (x t:Nat):(x:Int)/2^t=((x/2^t:Nat):Int):=by
 have a:((2:Int)^t)=((2^t:Nat):Int):=by rw[tM];rfl
 rw[a,tO]
theorem cX {a b:Nat}(ha:a<W64)(c:b<W64):bits .or .u64 (a:Int) (b:Int)=((a ||| b:Nat):Int):=by
 rw[zR] at ha c
 exact bits_or_u64_nat a b ha c
def dI (xs:List Nat) (skip t k:Nat) (zs:List Nat):Prop :=
 zs.length=xs.length+skip+1∧Dig W64 zs∧val W64 (zs.take (k+skip+1))=val W64 (xs.take k)*2^(64*skip+t)∧(zs[k+skip]?.getD 0)<2^t
theorem dI.start (xs:qN)(a t:Nat):dI xs a t 0 (List.replicate (xs.length+a+1) 0):=by
 refine⟨qS,Dig.replicate zP _,?_,?_⟩
 ·rw[List.take_replicate,kS];simp
 have:((List.replicate (xs.length+a+1) 0)[0+a]?.getD 0)=0:=by
  rw[pI];split<;>rfl
 rw[this];exact uY qO
theorem dI.step {xs zs:qN}{a t k h x:Nat}(j:dI xs a t k zs)(g:t≤63)(l:k<xs.length)(i:zs[k+a]?.getD 0=h)(m:xs[k]?.getD 0=x)(b:x<W64) :
 dI xs a t (k+1) ((zs.set (k+a) (h+x*2^t%W64)).set (k+a+1) (x/2^(64-t)))∧h+x*2^t%W64<W64:=by
 obtain⟨n,o,p,q⟩:=j
 rw[i] at q
 have c:h+x*2^t%W64<W64:=by
  rw[←jA g,rG]
  have:x%2^(64-t)<2^(64-t):=uO _ (uY qO)
  have r:(x%2^(64-t)+1)*2^t≤2^(64-t)*2^t:=uE _ this
  rw[vC] at r
  omega
 have f:x/2^(64-t)<2^t:=by
  rw[vQ (uY qO),← uW,show t+(64-t)=64 by omega]
  rw[zR] at b;exact b
 have d:x/2^(64-t)<W64:=vN (vG _ _) b
 refine⟨⟨by simpa using n,(o.set _ c).set _ d,?_,?_⟩,c⟩
 ·rw[show k+1+a+1=(k+a+1)+1 by omega,xN _ _ _ _ (by simp;omega),xN _ _ _ _ qO,zU k l,m,vC,← p,zU (k+a) qO,i]
  have e:=ZmL (x:=x) g
  have s:W64^k*x*2^(64*a+t)=W64^(k+a)*(x*2^t):=by
   rw[uW 2,← cF,uW]
   simp only[uH,tL]
  rw[s]
  have u:=uX (W64^(k+a) * ·) e
  simp only[uK] at u
  rw[uK,uP,uH]
  omega
 have:((zs.set (k+a) (h+x*2^t%W64)).set (k+a+1) (x/2^(64-t)))[k+1+a]?.getD 0=x/2^(64-t):=by
  rw[show k+1+a=k+a+1 by omega,tW (by simp;omega)]
  rfl
 rw[this];exact f
theorem dI.done {xs zs:qN}{a t:Nat}(h:dI xs a t xs.length zs):val W64 zs=val W64 xs*2^(64*a+t):=by
 obtain⟨c,d,b,e⟩:=h
 rw[uA qO,uA qO] at b
 exact b
theorem ZgA (A:qA)(xs:qN)(n c s f t:Nat)(w:World)(hn:xs.length=n)(W:zH .u64 w A xs)(X:xs.length≤c)(hl:xs.length≤4294967296)(Y:Dig W64 xs)(Z:Trim xs)(I:s=64*f+t)(ht:t≤63)(hk:f≤4294967296) :
 yA 223 #[.slice A n c,.int .u64 (s:Int)] w (lH w (val W64 xs*2^s)):=by
 subst hn
 have K:=zh W
 have L:=zh Y
 have Tx:=zh Z
 have HS:=zh I
 clear W Y Z
 by_cases h0:xs.length=0
 ·obtain rfl:xs=[]:=tG.1 h0
  clear I
  go_enter func223,ntmps223
  go_wp2
  go_ret
  exact⟨_,rfl,⟨A,[],c,rfl,X,K.out,L.out,Tx.out,qS⟩,Fr.refl _ _⟩
 have M:(((xs.length:Nat):Int) == 0)=false:=by simp;intro e;simp[e] at h0
 by_cases h1:s=0
 ·subst h1
  clear I
  go_enter func223,ntmps223
  go_wp2
  go_ret
  exact⟨_,rfl,⟨A,xs,c,rfl,X,K.out,L.out,Tx.out,qS⟩,Fr.refl _ _⟩
 have N:((s:Int) == 0)=false:=by simp;omega
 have p1:(s:Int)/64=(f:Int):=qO
 have p2:(s:Int)%64=(t:Int):=qO
 clear I h1
 go_enter func223,ntmps223
 go_wp2_with (
  at_make
  refine wV rfl _ _ _ rfl _ _ _ underlying83 eL _ _ _ _ (xs.length+f+1) rfl rfl qO qO qO qO ?_
  intro b w1 hb y _ z O
  have P:=zh y
  have Q:=zh z
  have Hb:=zh hb
  clear y z hb O)
 go_loopw [31] (fun i wr=>∃ (k:Nat) (q:List Nat),k≤xs.length∧i=.int .i64 (k:Int)∧Hid (dI xs f t k q)∧Hid (Own .u64 207 wr b q)∧Hid (Ext w wr)) (fun i _=>xs.length-(intOf i).toNat)
 case atStart=>exact⟨0,_,qO,rfl,dI.start xs f t,P.out,Q.out⟩
 case round =>
  obtain⟨k,q,b0,rfl,r,j,u⟩:=hrel
  clear p1 p2 M N
  by_cases B:k<xs.length
  ·obtain⟨b2,a0,rfl,_,R⟩:=(K.out.ext u.out).at B
   obtain⟨x,J⟩:=yE (xs[k]?.getD 0)
   obtain⟨h,C⟩:=yE (q[k+f]?.getD 0)
   rw[J] at R
   have S:Hid (x<W64):=J ▸ L.out.getD zP k
   obtain⟨D,E⟩:=r.out.step ht B C J S.out
   have l:=zh D
   have T:q.length=xs.length+f+1:=r.out.1
   have U:=j.out.cell (i:=k+f) qO
   have c0:=j.out.frozen (k+f)
   rw[C] at U
   have m:=j.out.set (k+f) (h+x*2^t%W64) qO
   have v:=m.cell (i:=k+f+1) (by simp;omega)
   have F:=m.frozen (k+f+1)
   obtain⟨g,eg⟩:=yE ((q.set (k+f) (h+x*2^t%W64))[k+f+1]?.getD 0)
   rw[eg] at v
   have o:=zh (m.set (k+f+1) (x/2^(64-t)) (by simp;omega))
   have q1:=aZ x t
   have V:=cX (a:=h) (b:=x*2^t%W64) (C ▸ r.out.2.1.getD zP _) (uO _ zP)
   rw[ZmM (C ▸ r.out.2.2.2) ht] at V
   have q3:=Za4 x (64-t)
   obtain⟨lo,G⟩:=yE (x*2^t%W64)
   obtain⟨hi,H⟩:=yE (x/2^(64-t))
   rw[G] at q1 V v F l o
   rw[H] at q3 l o
   obtain⟨d,ed⟩:=yE (h+lo)
   rw[ed] at V v F l o
   clear J C D E T m eg G H ed
   go_wp2
   go_roundw
   case rel=>exact⟨k+1,_,qO,by go_num,l,o.out,(u.out.setCell (p:=⟨b,k+f,none⟩) (Or.inr (by have:=Hb.out;show w.heap.size≤b;omega)) _).setCell (p:=⟨b,k+f+1,none⟩) (Or.inr (by have:=Hb.out;show w.heap.size≤b;omega)) _⟩
   case measure=>simp[intOf];omega
  obtain rfl:k=xs.length:=qO
  have hz:=r.out.1
  have HT:=zh (eC _ q (xs.length+f+1) (xs.length+f+1) wr hz j.out.shows0 qO qO)
  have HN:=zh (zL.of_own (c:=xs.length+f+1) j.out r.out.2.1 qO)
  rw[r.out.done,← HS.out] at HN
  clear hz
  go_wp2_with fail
  refine HT.out.mono ?_
  rintro e w2 ⟨rfl,rfl⟩
  clear HT
  go_wp2
  go_ret
  exact⟨_,rfl,HN.out,u.out⟩
theorem Zc7 (a:Value)(x s:Nat)(w:World)(f:zL w a x)(b:wl x≤4294967296)(j:s≤274877906944):yA 223 #[a,.int .u64 (s:Int)] w (lH w (x*2^s)):=by
 obtain⟨A,g,c,rfl,h,i,d,e,rfl⟩:=f
 rw[←xR d e] at b
 exact ZgA A g _ c s (s/64) (s%64) w rfl i h b d e qO qO qO
def dJ (ys:List Nat) (t k:Nat) (zs:List Nat):Prop :=
 zs.length=ys.length∧Dig W64 zs∧2^t*val W64 (zs.take k)+(ys[0]?.getD 0)%2^t=val W64 (ys.take k)+W64^k*((ys[k]?.getD 0)%2^t)
theorem dJ.start (ys:qN)(t:Nat):dJ ys t 0 (List.replicate ys.length 0):=by
 refine⟨qS,Dig.replicate zP _,?_⟩
 simp
theorem Zqf {y t:Nat}(a:t≤63):y*2^(64-t)%W64=y%2^t*2^(64-t):=by
 rw[←jA a,uG (2^(64-t)),rG]
theorem ZmN {x y t:Nat}(b:t≤63)(c:x<W64):x/2^t ||| y*2^(64-t)%W64=x/2^t+y%2^t*2^(64-t):=by
 have a:x/2^t<2^(64-t):=by
  rw[vQ (uY qO),jA b];exact c
 rw[Zqf b,← rL,Nat.or_comm,← sM a,vO]
theorem dJ.step {ys zs:qN}{t k x y:Nat}(h:dJ ys t k zs)(a:t≤63)(i:k<ys.length)(f:ys[k]?.getD 0=x)(j:ys[k+1]?.getD 0=y)(b:x<W64) :
 dJ ys t (k+1) (zs.set k (x/2^t+y%2^t*2^(64-t))):=by
 obtain⟨l,m,n⟩:=h
 have c:x/2^t+y%2^t*2^(64-t)<W64:=by
  have g:x/2^t<2^(64-t):=by
   rw[vQ (uY qO),jA a];exact b
  have d:y%2^t<2^t:=uO _ (uY qO)
  have e:(y%2^t+1)*2^(64-t)≤2^t*2^(64-t):=uE _ d
  rw[uG (2^t),jA a,vC] at e
  omega
 refine⟨by simpa using l,m.set k c,?_⟩
 rw[xN _ _ _ _ qO,zU k i,f,j]
 rw[f] at n
 have g:=tB x (2^t)
 have d:2^t*(y%2^t*2^(64-t))=W64*(y%2^t):=by
  rw[←jA a]
  simp only[uG,tL]
 have e:=uX (W64^k * ·) g
 simp only[uK] at e
 rw[uK,tL (2^t),uK (2^t),d,uK,uP,uH (W64^k) W64]
 omega
theorem dJ.done {ys zs:qN}{t:Nat}(h:dJ ys t ys.length zs):val W64 zs=val W64 ys/2^t:=by
 obtain⟨b,c,a⟩:=h
 rw[uA qO,uA qO,vL (uF _)] at a
 simp only[Option.getD_none,nL,tV,tE] at a
 rw[←a,rF (uY qO),tF (uO _ (uY qO)),tE]
theorem ZgB (xs:qN)(a t:Nat)(c:Dig W64 xs)(b:a≤xs.length):val W64 (xs.drop a)/2^t=val W64 xs/2^(64*a+t):=by
 rw[uW,← cF,← sS]
 congr 1
 rw[xS (xs:=xs) a,uU b,vO,rF (uY zP)]
 have h:=xZ (c.take a)
 rw[uM,uU b] at h
 rw[tF h,tE]
theorem Ze3 {xs:qN}{s:Nat}(a:Dig W64 xs)(h:xs.length≤s/64):val W64 xs/2^s=0:=by
 refine tF (uS (xZ a) ?_)
 rw[cF]
 exact vE qO qO
theorem Zfy (A:qA)(xs:qN)(n c s skip t:Nat)(w:World)(hn:xs.length=n)(hX:zH .u64 w A xs)(hl:xs.length≤4294967296)(hd:Dig W64 xs)(S:s=64*skip+t)(T:t≤63)(hk:skip≤4294967296) :
 yA 228 #[.slice A n c,.int .u64 (s:Int)] w (Zb0 w none none (val W64 xs/2^s)):=by
 subst hn
 have U:=zh hX
 have V:=zh hd
 have HS:=zh S
 have p1:(s:Int)/64=(skip:Int):=qO
 have p2:(s:Int)%64=(t:Int):=qO
 clear hX hd
 by_cases h0:xs.length≤skip
 ·have HZ:=zh (Ze3 (s:=s) V.out qO)
  clear S
  go_enter func228,ntmps228
  go_wp2
  go_ret
  exact⟨none,0,0,rfl,by rw[HZ.out];exact zL.zero _,Fr.refl _ _,fun a h=>by cases h⟩
 clear S
 go_enter func228,ntmps228
 go_wp2_with (
  at_make
  refine wV rfl _ _ _ rfl _ _ _ underlying83 eL _ _ _ _ (xs.length-skip) rfl rfl qO qO qO qO ?_
  intro b w1 hb H _ I W
  have X:=zh H
  have Y:=zh I
  have J:=zh hb
  clear H I hb W)
 have f:Hid ((xs.drop skip).length=xs.length-skip):=by unfold Hid;simp
 go_loopw [27] (fun i wr=>∃ (k:Nat) (r:List Nat),k≤xs.length-skip∧i=.int .i64 (k:Int)∧Hid (dJ (xs.drop skip) t k r)∧Hid (Own .u64 207 wr b r)∧Hid (Ext w wr)) (fun i _=>xs.length-skip-(intOf i).toNat)
 case atStart=>exact⟨0,_,qO,rfl,dJ.start _ t,by rw[f.out];exact X.out,Y.out⟩
 case round =>
  obtain⟨k,r,j0,rfl,G,g,m⟩:=hrel
  clear p1 p2
  by_cases u:k<xs.length-skip
  ·obtain⟨b2,K,rfl,_,L⟩:=(U.out.ext m.out).at (i:=k+skip) qO
   obtain⟨x,M⟩:=yE (xs[k+skip]?.getD 0)
   rw[M] at L
   have v:Hid (x<W64):=M ▸ V.out.getD zP _
   have z:(xs.drop skip)[k]?.getD 0=x:=by rw[vJ,vO];exact M
   have N:r.length=xs.length-skip:=by rw[←f.out];exact G.out.1
   have j:k<r.length:=qO
   have O:=g.out.cell j
   have Z:=g.out.frozen k
   obtain⟨z0,C⟩:=yE (r[k]?.getD 0)
   rw[C] at O
   have q3:=Za4 x t
   by_cases D:k+skip+1<xs.length
   ·obtain⟨b3,g0,e3,_,E⟩:=(U.out.ext m.out).at (i:=k+skip+1) D
    injection e3 with e3
    injection e3 with e31 e32
    subst e31 e32
    obtain⟨y,ey⟩:=yE (xs[k+skip+1]?.getD 0)
    rw[ey] at E
    have o:(xs.drop skip)[k+1]?.getD 0=y:=by rw[vJ,show skip+(k+1)=k+skip+1 by omega];exact ey
    have l:=zh (G.out.step T (by rw[f.out];exact u) z o v.out)
    have q1:=aZ y (64-t)
    have Q:=cX (a:=x/2^t) (b:=y*2^(64-t)%W64) (vN (vG _ _) v.out) (uO _ zP)
    rw[ZmN T v.out] at Q
    obtain⟨lo,q⟩:=yE (x/2^t)
    obtain⟨hi,P⟩:=yE (y*2^(64-t)%W64)
    obtain⟨d,ed⟩:=yE (x/2^t+y%2^t*2^(64-t))
    rw[ed] at Q l
    rw[q] at Q q3
    rw[P] at q1 Q
    have B:=g.out.set k lo j
    have k0:=B.frozen k
    have a0:=B.cell (i:=k) (by simpa using j)
    have e4:(r.set k lo)[k]?.getD 0=lo:=by rw[tW j];rfl
    rw[e4] at a0
    have b0:=zh (B.set k d (by simpa using j))
    have i0:(wr.setCell ⟨b,k,none⟩ (.int .u64 (lo:Int))).cell? ⟨b2,K+(k+skip+1),none⟩=some (.int .u64 (y:Int)):=by
     rw[World.cell?_setCell_other _ _ _ _ (by intro e;injection e with e;have:=J.out;obtain⟨b',o',R,l0,_⟩:=U.out (by intro e0;rw[e0] at u;simp at u);injection R with R;injection R with R;omega)]
     exact E
    clear M z ey o C q P ed N B e4
    have c0:=zh (m.out.setCell (p:=⟨b,k,none⟩) (Or.inr (by have:=J.out;show w.heap.size≤b;omega)) (.int .u64 (lo:Int)))
    go_wp2
    clear E L
    generalize d0:wr.setCell ⟨b,k,none⟩ (.int .u64 (lo:Int))=wq at *
    clear d0 O Z
    go_region
    all_goals
     go_wp2
     go_roundw
     case rel=>exact⟨k+1,_,qO,by go_num,l,by have:=b0.out;rw[List.set_set] at this;exact this.drewN _,(c0.out.setCell (p:=⟨b,k,none⟩) (Or.inr (by have:=J.out;show w.heap.size≤b;omega)) _).drewN _⟩
     case measure=>simp[intOf];omega
   have o:(xs.drop skip)[k+1]?.getD 0=0:=by rw[vJ,vL qO];rfl
   have l:=zh (G.out.step T (by rw[f.out];exact u) z o v.out)
   rw[nL,sY,tE] at l
   obtain⟨lo,q⟩:=yE (x/2^t)
   rw[q] at q3 l
   have f0:=zh (g.out.set k lo j)
   clear M z o C q N
   go_wp2
   go_roundw
   case rel=>exact⟨k+1,_,qO,by go_num,l,f0.out,m.out.setCell (p:=⟨b,k,none⟩) (Or.inr (by have:=J.out;show w.heap.size≤b;omega)) _⟩
   case measure=>simp[intOf];omega
  obtain rfl:k=xs.length-skip:=qO
  have hz:r.length=xs.length-skip:=by rw[←f.out];exact G.out.1
  have HT:=zh (eC _ r (xs.length-skip) (xs.length-skip) wr hz g.out.shows0 qO qO)
  have HN:=zh (zL.of_own (c:=xs.length-skip) g.out G.out.2.1 qO)
  have F:=G.out
  rw[←f.out] at F
  rw[F.done,ZgB xs skip t V.out qO,← HS.out] at HN
  clear hz F
  go_wp2_with fail
  refine HT.out.mono ?_
  rintro e w2 ⟨rfl,rfl⟩
  clear HT
  go_wp2
  go_ret
  exact⟨_,_,_,rfl,HN.out,m.out,fun a h=>Or.inl (by injection h with h;subst h;have:=J.out;show w.heap.size≤b;omega)⟩
theorem Zfz (a:Value)(x s:Nat)(w:World)(e:zL w a x)(b:wl x≤4294967296)(i:s≤274877906944):yA 228 #[a,.int .u64 (s:Int)] w (Zb0 w none none (x/2^s)):=by
 obtain⟨A,f,c,rfl,j,g,d,h,rfl⟩:=e
 rw[←xR d h] at b
 exact Zfy A f _ c s (s/64) (s%64) w rfl g b d qO qO qO
theorem top2 {B:Nat}{a:qN}{n:Nat}(h:a.length=n+2):val B a=val B (a.take n)+B^n*((a[n]?.getD 0)+B*(a[n+1]?.getD 0)):=by
 rw[xS (xs:=a) n,xT n qO,xT (n+1) qO,vA (by omega:a.length≤n+1+1),uU qO]
 simp
theorem top3 {B:Nat}{a:qN}{n:Nat}(h:a.length=n+3):val B a=val B (a.take n)+B^n*((a[n]?.getD 0)+B*((a[n+1]?.getD 0)+B*(a[n+2]?.getD 0))):=by
 rw[xS (xs:=a) n,xT n qO,xT (n+1) qO,xT (n+2) qO,vA (by omega:a.length≤n+2+1),uU qO]
 simp
def fR (u v d:Nat):Prop:=d*v≤u+v∧u<(d+1)*v
theorem Zbp (a:Nat){b:Nat}(c:0<b):a<(a/b+1)*b:=by
 have d:=tB a b
 have e:=uO a c
 rw[vC,uG (a/b)]
 omega
theorem ZmR {B:Nat}{c b:qN}{n a v1:Nat}(o:2≤B)(p:b.length=n+2)(q:c.length=n+3)(g:Dig B b)(h:c[n+2]?.getD 0=a)(i:b[n+1]?.getD 0=v1)(d:v1≤a)(e:B≤2*v1)(j:val B c<val B b*B) :
 fR (val B c) (val B b) (B-1):=by
 have k:val B b=val B (b.take (n+1))+B^(n+1)*v1:=by
  have:=zU (B:=B) (xs:=b) (n+1) qO
  rw[uA qO,i] at this
  exact this
 have r:val B c=val B (c.take (n+2))+B^(n+2)*a:=by
  have:=zU (B:=B) (xs:=c) (n+2) qO
  rw[uA qO,h] at this
  exact this
 have f:=xZ (g.take (n+1))
 rw[uM,uU qO] at f
 obtain⟨C,rfl⟩:∃ C,B=C+2:=⟨B-2,qO⟩
 refine⟨?_,by rw[show C+2-1+1=C+2 by omega,uG];exact j⟩
 have l:val (C+2) b≤(C+2)^(n+1)*(v1+1):=by rw[k,uK];omega
 have s:C*val (C+2) b≤C*((C+2)^(n+1)*(v1+1)):=uI C l
 have t:C*((C+2)^(n+1)*(v1+1))=(C+2)^(n+1)*(C*(v1+1)):=tL _ _ _
 have m:C*(v1+1)≤(C+2)*v1:=by rw[uK,vC];omega
 have u:(C+2)^(n+1)*(C*(v1+1))≤(C+2)^(n+1)*((C+2)*v1):=uI _ m
 have v:(C+2)^(n+2)*v1=(C+2)^(n+1)*((C+2)*v1):=by rw[uP,uH]
 have w:(C+2)^(n+2)*v1≤(C+2)^(n+2)*a:=uI _ d
 rw[show C+2-1=C+1 by omega,vC,pJ]
 omega
theorem ZmS {B:Nat}{c d:qN}{n a b c0 v1 v0:Nat}(k:0<B)(o:d.length=n+2)(p:c.length=n+3)(q:Dig B d)(g:Dig B c)(r:c[n+2]?.getD 0=a)(l:c[n+1]?.getD 0=b)(m:c[n]?.getD 0=c0)(s:d[n+1]?.getD 0=v1)(t:d[n]?.getD 0=v0)(h:a<v1) :
 fR (val B c) (val B d) (((a*B+b)*B+c0)/(v1*B+v0)):=by
 have y:b<B:=l ▸ g.getD k _
 have z:c0<B:=m ▸ g.getD k _
 have A:a*B+b<v1*B:=by
  have:(a+1)*B≤v1*B:=uE B h
  rw[vC] at this;omega
 have u:((a*B+b)*B+c0)/(v1*B+v0)<B:=by
  rw[vQ qO]
  have:(a*B+b+1)*B≤(v1*B+v0)*B:=uE B qO
  rw[vC (a*B+b)] at this
  rw[uG B]
  omega
 have i:B≤v1*B+v0:=by
  have:1*B≤v1*B:=uE B qO
  omega
 have v:=Nat.div_mul_le_self ((a*B+b)*B+c0) (v1*B+v0)
 have j:(a*B+b)*B+c0<(((a*B+b)*B+c0)/(v1*B+v0)+1)*(v1*B+v0):=Zbp _ qO
 have e:=xZ (q.take n)
 have f:=xZ (g.take n)
 rw[uM,uU qO] at e f
 have w:val B d=(v1*B+v0)*B^n+val B (d.take n):=by
  rw[top2 o,s,t,vO,uG (B^n),uG B v1,vO v0]
 have x:val B c=((a*B+b)*B+c0)*B^n+val B (c.take n):=by
  rw[top3 p,r,l,m,vO,uG (B^n),vO c0,uG B,vO b,uG B a]
 rw[w,x]
 exact⟨ZmF _ _ _ _ _ _ B e u (uE _ i) v,Zdk _ _ _ _ _ _ f j⟩
theorem ZmT {P:Program}{f:FuncId}{args:Array Value}{w:World}{a n:Nat}{v:Value}(h:Calls P f args (w.drewN (a+n)) fun e w'=>e=.returned v∧∃ m,w'=(w.drewN (a+n)).drewN m) :
 Calls P f args (w.drewN (a+n)) fun e b=>e=.returned v∧∃ m,b=w.drewN (a+m) :=
 h.mono fun _ _ ⟨c,m,d⟩=>⟨c,n+m,by rw[d,World.drewN_drewN,sD]⟩
theorem ZlI {H U v1 v0 u a ri:Nat}(c:0<H)(b:0<v1)(f:u<H)(h:a*v1+ri=U)(g:ri<v1):gL H U v1 v0 u a ri:=by
 refine⟨h,?_⟩
 have i:0<v1*H:=rC b c
 rw[←Nat.lt_succ_iff,vQ qO]
 have d:U<(a+1)*v1:=by rw[vC];omega
 have e:(U+1)*H≤(a+1)*v1*H:=uE _ d
 rw[Nat.succ_eq_add_one,uK,← uH]
 rw[vC U] at e
 omega
theorem ZoA {p q rest c0:Nat}(c:xH p q<W64)(d:c0<W64):(wQ p q<rest∨wQ p q=rest∧xH p q≤c0)↔p*q≤W64*rest+c0:=by
 have h:=dG p q
 constructor
 ·rintro (b|⟨b,a⟩)
  ·have:W64*(wQ p q+1)≤W64*rest:=uI _ b
   rw[uK] at this
   omega
  rw[b] at h;omega
 intro b
 rcases Nat.lt_trichotomy (wQ p q) rest with a|a|a
 ·exact Or.inl a
 ·exact Or.inr ⟨a,by rw[a] at h;omega⟩
 have:W64*(rest+1)≤W64*wQ p q:=uI _ a
 rw[uK] at this
 omega
def Zqi (u v:Nat) (w:World) (e:Ending) (w':World):Prop:=∃ d:Nat,e=.returned (.int .u64 (d:Int))∧d<W64∧fR u v d∧∃ n,w'=w.drewN n
theorem ZiC (A A2:qA)(J K:qN)(n m c c2 k:Nat)(w:World)(hn:J.length=n)(hm:K.length=m)(O:zH .u64 w A J)(hV:zH .u64 w A2 K)(hk:K.length=k+2)(L:J.length=k+3)(hl:k≤1099511627776)(dw:Dig W64 J)(dv:Dig W64 K)(j:W64≤2*(K[k+1]?.getD 0))(hu:val W64 J<val W64 K*W64) :
 yA 230 #[.slice A n c,.slice A2 m c2] w (Zqi (val W64 J) (val W64 K) w):=by
 obtain⟨b1,o1,rfl,_,c0⟩:=O.at (i:=k+2) qO
 obtain⟨d0,f0,s,_,g0⟩:=O.at (i:=k+1) qO
 injection s with s;injection s with f1 f2;subst f1 f2
 obtain⟨d0,f0,s,_,h0⟩:=O.at (i:=k) qO
 injection s with s;injection s with f1 f2;subst f1 f2
 obtain⟨b2,o2,rfl,_,i0⟩:=hV.at (i:=k+1) qO
 obtain⟨q0,r0,T,_,j0⟩:=hV.at (i:=k) qO
 injection T with T;injection T with f1 f2;subst f1 f2
 obtain⟨a,ea⟩:=yE (J[k+2]?.getD 0)
 obtain⟨P,eb⟩:=yE (J[k+1]?.getD 0)
 obtain⟨C,ec⟩:=yE (J[k]?.getD 0)
 obtain⟨v1,e1⟩:=yE (K[k+1]?.getD 0)
 obtain⟨v0,e0⟩:=yE (K[k]?.getD 0)
 rw[ea] at c0
 rw[eb] at g0
 rw[ec] at h0
 rw[e1] at i0 j
 rw[e0] at j0
 have s0:Hid (a<W64):=ea ▸ dw.getD zP _
 have U:Hid (P<W64):=eb ▸ dw.getD zP _
 have R:Hid (C<W64):=ec ▸ dw.getD zP _
 have B:Hid (v1<W64):=e1 ▸ dv.getD zP _
 have D:Hid (v0<W64):=e0 ▸ dv.getD zP _
 obtain rfl:m=k+2:=qO
 obtain rfl:n=k+3:=qO
 by_cases k0:v1≤a
 ·have HD:=zh (ZmR Zkz hk L dv ea e1 k0 j hu)
  clear O hV dw dv j hu ea eb ec e1 e0 hn hm hk L
  go_enter func230,ntmps230
  go_wp2
  have g3:IntKind.i64.wrap ((k:Int)+2-1)=(k:Int)+1:=by rw[IntKind.wrap_i64];omega
  have g4:IntKind.i64.wrap ((k:Int)+2-2)=(k:Int):=by rw[IntKind.wrap_i64];omega
  have g5:(0:Int)≤(k:Int)+1:=qO
  have g6:((k:Int)+1).toNat=k+1:=qO
  have g7:(k:Int)+1<(k:Int)+2:=qO
  have g8:(k:Int)<(k:Int)+2:=qO
  go_quiet (fail)
  clear g3 g4 g5 g6 g7 g8
  go_wp2
  go_ret
  exact⟨W64-1,by rw[show (((W64-1:Nat):Int))=18446744073709551615 by rw[zR];rfl];rfl,by have:=zP;omega,HD.out,_,rfl⟩
 have HD:=zh (ZmS zP hk L dv dw ea eb ec e1 e0 qO)
 have V:a<v1:=qO
 have hU:Hid (a*W64+P<v1*W64+v0):=by
  have:(a+1)*W64≤v1*W64:=uE _ V
  rw[vC] at this
  have:=U.out
  unfold Hid;omega
 have S:Hid (0<v1*W64+v0):=by have:=hU.out;unfold Hid;omega
 have HE:=zh (ZlI (v0:=v0) (u:=C) zP qO R.out (Zcv a P v1) (Zb1 _ _ qO))
 have l0:Hid (divQ a P v1<W64):=Zgy V U.out
 have m0:Hid (divR a P v1<W64):=qL (Zb1 _ _ qO) B.out
 clear O hV dw dv j hu ea eb ec e1 e0 hn hm hk L
 go_enter func230,ntmps230
 go_wp2
 have g3:IntKind.i64.wrap ((k:Int)+2-1)=(k:Int)+1:=by rw[IntKind.wrap_i64];omega
 have g4:IntKind.i64.wrap ((k:Int)+2-2)=(k:Int):=by rw[IntKind.wrap_i64];omega
 have g5:(0:Int)≤(k:Int)+1:=qO
 have g6:((k:Int)+1).toNat=k+1:=qO
 have g7:(k:Int)+1<(k:Int)+2:=qO
 have g8:(k:Int)<(k:Int)+2:=qO
 go_quiet (fail)
 clear g3 g4 g5 g6 g7 g8
 go_wp2
 have g3:IntKind.i64.wrap ((k:Int)+2-1)=(k:Int)+1:=by rw[IntKind.wrap_i64];omega
 have g5:(0:Int)≤(k:Int)+1:=qO
 have g6:((k:Int)+1).toNat=k+1:=qO
 have g7:(k:Int)+1<(k:Int)+3:=qO
 have g8:(k:Int)+2<(k:Int)+3:=qO
 have g9:(0:Int)≤(k:Int)+2:=qO
 have n0:((k:Int)+2).toNat=k+2:=qO
 go_quiet ((go_at_call 182;exact ZmT (Zbo _ _ _ _ V B.out U.out)))
 clear g3 g5 g6 g7 g8 g9 n0
 go_wp2
 go_loopw [8,9] (fun qv rv wr=>∃ q r m:Nat,qv=.int .u64 (q:Int)∧rv=.int .u64 (r:Int)∧Hid (q<W64)∧Hid (r<W64)∧Hid (gL W64 (a*W64+P) v1 v0 C q r)∧Hid (wr=w.drewN m)) (fun qv _ _=>(intOf qv).toNat)
 case atStart=>exact⟨_,_,_,rfl,rfl,l0,m0,HE,World.drewN_drewN _ _ _⟩
 case round =>
  obtain⟨q,r,m,rfl,rfl,t,M,Q,O⟩:=hrel
  obtain rfl:=O.out
  clear O
  have a0:∀ hh:W64*r+C<q*v0,Hid (gL W64 (a*W64+P) v1 v0 C (q-1) (r+v1)):=fun hh=>Za2 S.out hh Q.out
  have b0:=zh a0
  clear a0
  have d:=zh (ZoA (p:=q) (q:=v0) (rest:=r) (Zov _ _) R.out)
  have E:∀ hh:q*v0≤W64*r+C,q=((a*W64+P)*W64+C)/(v1*W64+v0):=fun hh=>aX S.out hh Q.out
  have F:=zh E
  clear E
  obtain⟨hi,W⟩:=yE (wQ q v0)
  obtain⟨lo,X⟩:=yE (xH q v0)
  rw[W,X] at d
  have f:=zh (Zav q v0 t.out D.out (w.drewN m))
  rw[W,X] at f
  clear W X
  by_cases t1:hi<r
  ·have Y:=zh (F.out (d.out.1 (Or.inl t1)))
   have o0:=eS t1
   go_wp2_with (go_at_call 117;refine f.out.mono ?_;rintro e w' ⟨rfl,rfl⟩)
   go_ret
   exact⟨q,rfl,t.out,by rw[Y.out];exact HD.out,_,rfl⟩
  have o0:=fH t1
  by_cases t2:hi=r
  ·subst t2
   by_cases t3:lo≤C
   ·have Y:=zh (F.out (d.out.1 (Or.inr ⟨rfl,t3⟩)))
    go_wp2_with (go_at_call 117;refine f.out.mono ?_;rintro e w' ⟨rfl,rfl⟩)
    go_ret
    exact⟨q,rfl,t.out,by rw[Y.out];exact HD.out,_,rfl⟩
   have v:W64*hi+C<q*v0:=by
    rcases vM (W64*hi+C) (q*v0) with h|h
    ·exact h
    rcases d.out.2 h with h|h<;>omega
   have x:=b0.out v
   have l:0<q:=by
    rcases uJ q with e|e
    ·rw[e,sY] at v;omega
    exact e
   clear v
   have g1:=iK l t.out
   obtain⟨N,G⟩:=yE (q-1)
   rw[G] at g1 x
   have p0:N<q:=qO
   have o:Hid (N<W64):=by have:=t.out;unfold Hid;omega
   have y:=zh x.out
   clear G x l
   by_cases z:hi+v1<W64
   ·have Z:=kT z
    obtain⟨H,g⟩:=yE (hi+v1)
    rw[g] at Z y
    have t5:=fH (a:=H) (b:=v1) qO
    have I:Hid (H<W64):=by unfold Hid;omega
    clear g z
    go_wp2_with (go_at_call 117;refine f.out.mono ?_;rintro e w' ⟨rfl,rfl⟩)
    go_roundw
    case rel=>exact⟨N,H,_,rfl,rfl,o,I,y,rfl⟩
    case measure=>simp[intOf];omega
   have Y:=zh (gB hU.out D.out qO y.out)
   have Z:IntKind.u64.wrap ((hi:Int)+(v1:Int))=((hi+v1-W64:Nat):Int):=by
    have h1:=M.out
    have h2:=B.out
    rw[zR] at *
    rw[IntKind.wrap_u64]
    omega
   obtain⟨H,g⟩:=yE (hi+v1-W64)
   rw[g] at Z
   have t5:=eS (a:=H) (b:=v1) (by have:=M.out;omega)
   clear g z
   go_wp2_with (go_at_call 117;refine f.out.mono ?_;rintro e w' ⟨rfl,rfl⟩)
   go_ret
   exact⟨N,rfl,o.out,by rw[Y.out];exact HD.out,_,rfl⟩
  have t0:((hi:Int) == (r:Int))=false:=by simp;omega
  have v:W64*r+C<q*v0:=by
   rcases vM (W64*r+C) (q*v0) with h|h
   ·exact h
   rcases d.out.2 h with h|h<;>omega
  have x:=b0.out v
  have l:0<q:=by
   rcases uJ q with e|e
   ·rw[e,sY] at v;omega
   exact e
  clear v
  have g1:=iK l t.out
  obtain⟨N,G⟩:=yE (q-1)
  rw[G] at g1 x
  have p0:N<q:=qO
  have o:Hid (N<W64):=by have:=t.out;unfold Hid;omega
  have y:=zh x.out
  clear G x l
  by_cases z:r+v1<W64
  ·have Z:=kT z
   obtain⟨H,g⟩:=yE (r+v1)
   rw[g] at Z y
   have t5:=fH (a:=H) (b:=v1) qO
   have I:Hid (H<W64):=by unfold Hid;omega
   clear g z
   go_wp2_with (go_at_call 117;refine f.out.mono ?_;rintro e w' ⟨rfl,rfl⟩)
   go_roundw
   case rel=>exact⟨N,H,_,rfl,rfl,o,I,y,rfl⟩
   case measure=>simp[intOf];omega
  have Y:=zh (gB hU.out D.out qO y.out)
  have Z:IntKind.u64.wrap ((r:Int)+(v1:Int))=((r+v1-W64:Nat):Int):=by
   have h1:=M.out
   have h2:=B.out
   rw[zR] at *
   rw[IntKind.wrap_u64]
   omega
  obtain⟨H,g⟩:=yE (r+v1-W64)
  rw[g] at Z
  have t5:=eS (a:=H) (b:=v1) (by have:=M.out;omega)
  clear g z
  go_wp2_with (go_at_call 117;refine f.out.mono ?_;rintro e w' ⟨rfl,rfl⟩)
  go_ret
  exact⟨N,rfl,o.out,by rw[Y.out];exact HD.out,_,rfl⟩
end Go.Proofs.YtdlgidnkmbklcaaGreatDoor
namespace Go.Proofs.YtdlgidnkmbklcaaGreatDoor
theorem ZoB {u v d:Nat}(h:fR u v d)(a:d*v≤u):d=u/v:=by
 have b:=h.2
 have c:u<(d+1)*v:=b
 have:=Nat.div_eq_of_lt_le (m:=u) (n:=v) (k:=d) qO (by simpa using c)
 exact this.symm
theorem ZlJ {u v d:Nat}(h:fR u v d)(a:u<d*v):0<d∧d-1=u/v:=by
 have b:=h.1
 have f:0<d:=by
  rcases uJ d with e|e
  ·subst e;simp at a
  exact e
 obtain⟨c,rfl⟩:∃ c,d=c+1:=⟨d-1,qO⟩
 refine⟨f,?_⟩
 have e:c+1-1=c:=qO
 rw[e]
 rw[vC] at b
 exact (Nat.div_eq_of_lt_le (m:=u) (n:=v) (k:=c) qO (by simpa using a)).symm
theorem ZfC {P v u c b d a m:Nat}(n:v≤P)(j:u=c+P*b)(i:fR u v d)(o:m+v*d=c+P*a)(k:a≤b) :
 d=u/v∧m=u%v∧b=a:=by
 have e:u=d*v+(m+P*(b-a)):=by
  obtain⟨t,rfl⟩:∃ t,b=a+t:=⟨b-a,qO⟩
  rw[show a+t-a=t by omega,j,uK,uG d]
  omega
 have l:=ZoB i qO
 have f:m+P*(b-a)<v:=by
  have:=i.2
  rw[vC] at this
  omega
 have g:b-a=0:=by
  rcases uJ (b-a) with h|h
  ·exact h
  have:P*1≤P*(b-a):=uI P h
  omega
 refine⟨l,?_,qO⟩
 rw[g] at e f
 simp only[tV,tE] at e f
 rw[e,uG,qV,vH f]
theorem Zg5 {P v u b a d borrow m f c:Nat}(i:0<v)(z:v≤P)(A:u=b+P*a)(s:fR u v d)(t:m+v*d=b+P*borrow)(j:a<borrow)(w:m<P)(x:f+P*c=m+v)(p:f<P):0<d∧d-1=u/v∧f=u%v∧c+a=borrow:=by
 have k:u<d*v:=by
  have:P*(a+1)≤P*borrow:=uI P j
  rw[uK] at this
  rw[uG d]
  omega
 obtain⟨l,n⟩:=ZlJ s k
 obtain⟨q,rfl⟩:∃ q,d=q+1:=⟨d-1,qO⟩
 have e:q+1-1=q:=qO
 rw[e] at n ⊢
 refine⟨l,n,?_⟩
 have g:=tB u v
 have y:=uO u i
 rw[←n,uG] at g
 rw[uK] at t
 -- f + P*(c + a)=u % v + P * borrow
 have o:f+P*(c+a)=u%v+P*borrow:=by
  rw[uK,uG q] at *
  omega
 have r:c+a=borrow:=by
  rcases Nat.lt_trichotomy (c+a) borrow with h|h|h
  ·have:P*(c+a+1)≤P*borrow:=uI P h
   rw[uK] at this
   omega
  ·exact h
  have:P*(borrow+1)≤P*(c+a):=uI P h
  rw[uK] at this
  omega
 rw[r] at o
 exact⟨qO,r⟩
def eN (X v n k:Nat) (rs qs:List Nat):Prop :=
 Dig W64 rs∧Dig W64 qs∧rs.length=qs.length+n∧val W64 rs+val W64 (qs.drop k)*W64^k*v=X∧val W64 (rs.drop k)<v
theorem eN.window {X v n k:Nat}{a c:qN}(h:eN X v n (k+1) a c)(g:v≤W64^n)(i:k+n<a.length) :
 val W64 (a.drop k)=val W64 ((a.drop k).take (n+1))∧val W64 (a.drop k)<v*W64∧val W64 (a.drop (k+n+1))=0:=by
 obtain⟨d,j,l,m,f⟩:=h
 have b:val W64 (a.drop (k+n+1))=0:=by
  have e:=xS (B:=W64) (xs:=a.drop (k+1)) n
  rw[vV,show k+1+n=k+n+1 by omega,uU (by simp;omega)] at e
  rcases uJ (val W64 (a.drop (k+n+1))) with h|h
  ·exact h
  have:W64^n*1≤W64^n*val W64 (a.drop (k+n+1)):=uI _ h
  omega
 refine⟨?_,?_,b⟩
 ·have e:=xS (B:=W64) (xs:=a.drop k) (n+1)
  rw[vV,show k+(n+1)=k+n+1 by omega,b] at e
  simpa using e
 rw[xT k qO]
 have o:=d.getD zP k
 have:W64*(val W64 (a.drop (k+1))+1)≤W64*v:=uI _ f
 rw[uK] at this
 rw[uG v]
 omega
theorem eN.step {X v n k q:Nat}{a c m:qN}(h:eN X v n (k+1) a c)(e:0<v)(s:v≤W64^n)(t:k+n<a.length)(u:m.length=n)(w:Dig W64 m)(l:q=val W64 (a.drop k)/v)(o:val W64 m=val W64 (a.drop k)%v) :
 eN X v n k (a.take k ++ m ++ (0 :: a.drop (k+n+1))) (c.set k q):=by
 obtain⟨E,x,y⟩:=h.window s t
 obtain⟨p,z,F,G,H⟩:=h
 have f:k<c.length:=qO
 have i:q<W64:=by rw[l,vQ e,uG];exact x
 have g:(a.take k).length=k:=by simp;omega
 have b:val W64 (m ++ (0 :: a.drop (k+n+1)))=val W64 m:=by
  rw[kK,iP,y];simp
 have d:(a.take k ++ m ++ (0 :: a.drop (k+n+1))).drop k=m ++ (0 :: a.drop (k+n+1)):=by
  rw[vU,nH,g,vA qO,qM];simp
 refine⟨((p.take k).append w).append (Dig.cons zP (p.drop _)),z.set k i,?_,?_,?_⟩
 ·simp[u];omega
 ·rw[vU,kK,g,b,o]
  rw[xT (xs:=c.set k q) k (by simpa using f),tJ qO]
  have j:(c.set k q)[k]?.getD 0=q:=by rw[tW f];rfl
  rw[j]
  have A:=xS (B:=W64) (xs:=a) k
  rw[uU qO] at A
  have r:=tB (val W64 (a.drop k)) v
  rw[←l] at r
  have C:=uX (W64^k * ·) r
  simp only[uK] at C
  rw[vC,vC]
  have e4:q*W64^k*v=W64^k*(v*q):=by rw[uG q,uH,uG q]
  have D:W64*val W64 (c.drop (k+1))*W64^k*v=val W64 (c.drop (k+1))*W64^(k+1)*v:=by
   rw[uP,uG W64 (val W64 _),uH (val W64 _) W64,uG W64 (W64^k)]
  rw[e4,D]
  omega
 rw[d,b,o];exact uO _ e
theorem eN.done {X v n:Nat}{c d:qN}(h:eN X v n 0 c d):val W64 d=X/v∧val W64 c=X%v:=by
 obtain⟨e,f,g,a,b⟩:=h
 rw[sE] at a b
 simp only[tX,sU] at a
 rw[←a,vO,uG,rF qO,qV,vH b,tF b]
 exact⟨qO,rfl⟩
theorem eN.start {x y s L n:Nat}{a:qN}(c:Dig W64 a)(m:a.length=L+1)(b:val W64 a=x*2^s)(d:x<W64^L)(f:W64^(n-1)≤y)(o:1≤n)(g:n≤L) :
 eN (x*2^s) (y*2^s) n (L-n+1) a (List.replicate (L-n+1) 0):=by
 refine⟨c,Dig.replicate zP _,by simp;omega,?_,?_⟩
 ·rw[vA qS];simp[b]
 have e:=xS (B:=W64) (xs:=a) (L-n+1)
 rw[uU qO,b] at e
 have h:0<2^s:=uY qO
 have p:W64^(L-n+1)*val W64 (a.drop (L-n+1))≤x*2^s:=qO
 have i:x*2^s<W64^L*2^s:=tS d h
 have j:W64^L=W64^(L-n+1)*W64^(n-1):=by rw[←uW,show L-n+1+(n-1)=L by omega]
 rw[j,uH] at i
 have k:W64^(L-n+1)*val W64 (a.drop (L-n+1))<W64^(L-n+1)*(W64^(n-1)*2^s):=qO
 have l:=sN k
 exact uS l (uE _ f)
theorem ZmU {ys a:qN}{n yt s:Nat}(w:ys.length=n+1)(l:Dig W64 ys)(m:ys[n]?.getD 0=yt)(e:0<yt)(x:64-Lib.bitLen yt=s)(o:Dig W64 a)(p:Trim a)(q:val W64 a=val W64 ys*2^s) :
 a.length=n+1∧W64≤2*(a[n]?.getD 0)∧W64^n≤val W64 ys∧s≤63:=by
 have f:yt<W64:=m ▸ l.getD zP _
 obtain⟨y,z,r,t⟩:=eM e f
 have A:val W64 ys=val W64 (ys.take n)+W64^n*yt:=by
  have:=zU (B:=W64) (xs:=ys) n qO
  rw[uA qO,m] at this
  exact this
 have g:=xZ (l.take n)
 rw[uM,uU qO] at g
 have u:0<2^s:=uY qO
 have i:val W64 ys*2^s<W64^(n+1):=by
  have d:val W64 ys<W64^n*2^Lib.bitLen yt:=by
   have:W64^n*(yt+1)≤W64^n*2^Lib.bitLen yt:=uI _ t
   rw[uK] at this
   omega
  have b:=tS d u
  rw[uH,← uW,show Lib.bitLen yt+s=64 by omega] at b
  rw[uP,zR] at *
  exact b
 have v:W64^n*2^63≤val W64 ys*2^s:=by
  have d:W64^n*2^(Lib.bitLen yt-1)≤val W64 ys:=by
   have:W64^n*2^(Lib.bitLen yt-1)≤W64^n*yt:=uI _ r
   omega
  have b:=uE (2^s) d
  rw[uH,← uW,show Lib.bitLen yt-1+s=63 by omega] at b
  exact b
 have j:a.length≤n+1:=jB fP p (q ▸ i)
 have k:n+1≤a.length:=by
  rcases vM a.length (n+1) with h|h
  ·have d:=xZ o
   have b:W64^a.length≤W64^n:=vE zP qO
   have C:W64^n*1≤W64^n*2^63:=uI _ qD
   omega
  exact h
 refine⟨qO,?_,?_,qO⟩
 ·have D:val W64 a=val W64 (a.take n)+W64^n*(a[n]?.getD 0):=by
   have:=zU (B:=W64) (xs:=a) n qO
   rw[uA qO] at this
   exact this
  have c:=xZ (o.take n)
  rw[uM,uU qO] at c
  have d:W64^n*2^63<W64^n*((a[n]?.getD 0)+1):=by rw[uK];omega
  have b:=sN d
  rw[zR]
  omega
 have:W64^n*1≤W64^n*yt:=uI _ e
 omega
end Go.Proofs.YtdlgidnkmbklcaaGreatDoor
namespace Go.Proofs.YtdlgidnkmbklcaaGreatDoor
open Go.RowKit Tryz
def Zdt (w:World) (q r:Nat) (e:Ending) (w':World):Prop:=∃ u v,e=.returned (.tuple #[u,v])∧zL w' u q∧zL w' v r∧Ext w w'
def bR (w:World) (A A2:Option Addr) (q r:Nat) (e:Ending) (w':World):Prop:=∃ D m d B l c,e=.returned (.tuple #[.slice D m d,.slice B l c])∧zL w' (.slice D m d) q∧zL w' (.slice B l c) r∧Ext w w'∧∀ a,B=some a→w.heap.size≤a.block∨B=A∨B=A2
theorem bR.ret {w w':World}{A a:qA}{q r:Nat}{e:Ending}(h:bR w A a q r e w'):Zdt w q r e w':=by
 obtain⟨D,m,d,B,l,c,rfl,b,f,g,_⟩:=h
 exact⟨_,_,rfl,b,f,g⟩
theorem fI {a b:Nat}:cmpI a b<0↔a<b:=by
 unfold cmpI
 split
 ·omega
 split<;>omega
theorem ZfD (A:qA)(l c:Nat)(k:Value)(x y:Nat)(w:World)(n:zL w (.slice A l c) x)(q:zL w k y)(r:wl x≤4294967296)(s:wl y≤4294967296)(b:x<y) :
 yA 200 #[.slice A l c,k] w (bR w A A 0 x):=by
 have t:=zh n
 obtain⟨_,u,_,h,v,o,d,f,rfl⟩:=n
 injection h with e1 e2 e3
 subst e1 e2 e3
 obtain⟨z,B,C,rfl,g,k1,i,j,rfl⟩:=q
 rw[←xR d f] at r
 rw[←xR i j] at s
 have p:=zh (eE A z u B _ _ c C w rfl rfl o k1 qO qO d i f j)
 rw[iJ qO] at p
 clear o d f k1 i j b v g
 go_enter func200,ntmps200
 go_wp2_with (go_at_call 153;refine p.out.mono ?_;rintro e w' ⟨rfl,m,rfl⟩)
 go_ret2
 exact⟨none,0,0,_,_,_,rfl,zL.zero _,t.out.ext ((Fr.refl _ _).drewN _),(Fr.refl _ _).drewN _,fun a _=>Or.inr (Or.inl rfl)⟩
theorem Ze4 (M N:Value)(x y:Nat)(w:World)(X:zL w M x)(Y:zL w N y)(O:wl x≤4294967296)(B:wl y=1)(C:y≤x) :
 yA 200 #[M,N] w (bR w none none (x/y) (x%y)):=by
 obtain⟨A,s,c,rfl,Z,E,t,F,rfl⟩:=X
 obtain⟨A2,ys,G,rfl,H,k1,u,z,rfl⟩:=Y
 rw[←xR t F] at O
 rw[←xR u z] at B
 obtain⟨y,rfl⟩:=oV.1 B
 have P:=zh (eE A A2 s [y] _ _ c G w rfl rfl E k1 qO qS t u F z)
 obtain⟨Q,f⟩:=yE (cmpI (val W64 s) (val W64 [y]))
 have a0:0≤Q:=by
  rcases oW Q 0 with h|h
  ·rw[←f] at h;have:=fI.1 h;omega
  exact h
 rw[f] at P
 have k:val W64 [y]=y:=qS
 rw[k]
 have g:0<y:=by have:=z 0 qS;simp at this;omega
 have j:y<W64:=u.head
 obtain⟨b,o,rfl,_,l⟩:=k1.at (i:=0) qS
 have R:w.cell? ⟨b,o,none⟩=some (.int .u64 (y:Int)):=by simpa using l
 have S:=fun w' (hf:Ext w w')=>zh (Zgz A s _ c y w' rfl (E.ext hf) O t g j)
 have I:=zh S
 have J:Hid (val W64 s%y<W64):=qL (uO _ g) j
 clear E t F k1 u z Z H f C l S B k g j
 go_enter func200,ntmps200
 go_wp2_with (first
  | (go_at_call 153;refine P.out.mono ?_;rintro e w' ⟨rfl,m,rfl⟩)
  | (go_at_call 229;refine (I.out _ ((Fr.refl _ _).drewN _)).out.mono ?_;rintro e w1 ⟨v,rfl,T,U⟩;have V:=zh T;have W:=zh U;clear T U)
  | (go_at_call 159;refine (Zc6 _ _ J.out).mono ?_;rintro e w2 ⟨B2,l2,G,rfl,n,p,q⟩;have K:=zh n;have r:=zh p;have L:=zh q;clear n p q))
 go_ret2
 obtain⟨D,m,d,rfl⟩:∃ D m d,v=.slice D m d:=by obtain⟨D,b0,d,h,_⟩:=V.out;exact⟨D,_,d,h⟩
 exact⟨D,m,d,B2,l2,G,rfl,V.out.ext r.out,K.out,(((Fr.refl _ _).drewN _).ext W.out).ext r.out,fun a h=>(L.out a h).imp (uD (show Ext w _ from ((Fr.refl _ _).drewN _).ext W.out).size) id⟩
theorem ZgD (a m:qN)(b:qN)(j n v:Nat)(c:a.length=j)(d:m.length=n)(e:j+n<b.length):(a ++ m ++ b.drop (j+n)).set (j+n) v=a ++ m ++ (v :: b.drop (j+n+1)):=by
 have f:(a ++ m).length=j+n:=by simp[c,d]
 rw[pB _ _ qO,f,qM,tR e]
 rfl
theorem ZkC (a m:qN)(b:qN)(j n:Nat)(c:a.length=j)(d:m.length=n):(a ++ m ++ b.drop (j+n))[j+n]?.getD 0=b[j+n]?.getD 0:=by
 have e:(a ++ m).length=j+n:=by simp[c,d]
 rw[sJ qO,e,qM,vJ];rfl
theorem ZiD (a m l:qN)(t v j n:Nat)(b:a.length=j)(c:m.length=n):(a ++ m ++ (t :: l)).set (j+n) v=a ++ m ++ (v :: l):=by
 have d:(a ++ m).length=j+n:=by simp[b,c]
 rw[pB _ _ qO,d,qM]
 rfl
theorem ZiE (a m l:qN)(t j n:Nat)(b:a.length=j)(c:m.length=n):(a ++ m ++ (t :: l))[j+n]?.getD 0=t:=by
 have d:(a ++ m).length=j+n:=by simp[b,c]
 rw[sJ qO,d,qM]
 rfl
theorem Zeu (A A2:qA)(xs ys:qN)(c c2 f:Nat)(w:World)(hX:zH .u64 w A xs)(hY:zH .u64 w A2 ys)(hc:xs.length≤c)(Y0:ys.length≤c2)(hl:xs.length≤4294967296)(hk:ys.length=f+2)(dx:Dig W64 xs)(dy:Dig W64 ys)(tx:Trim xs)(ty:Trim ys)(Z0:val W64 ys≤val W64 xs) :
 yA 200 #[.slice A xs.length c,.slice A2 ys.length c2] w (bR w none none (val W64 xs/val W64 ys) (val W64 xs%val W64 ys)):=by
 have a1:f+2≤xs.length:=by
  have:=lV Z0
  rw[←xR dx tx,← xR dy ty] at this
  omega
 have HC:=zh (eE A A2 xs ys _ _ c c2 w rfl rfl hX hY qO qO dx dy tx ty)
 obtain⟨cr,y0⟩:=yE (cmpI (val W64 xs) (val W64 ys))
 have T2:0≤cr:=by
  rcases oW cr 0 with h|h
  ·rw[←y0] at h;have:=fI.1 h;omega
  exact h
 rw[y0] at HC
 clear y0
 obtain⟨bY,oY,rfl,_,C⟩:=hY.at (i:=f+1) qO
 obtain⟨yt,m0⟩:=yE (ys[f+1]?.getD 0)
 rw[m0] at C
 have U:0<yt:=by have:=ty (f+1) qO;omega
 have W:Hid (yt<W64):=m0 ▸ dy.getD zP _
 obtain⟨s,hs⟩:=yE (64-Lib.bitLen yt)
 have Z1:=eM U W.out
 have b1:Hid (64-(Lib.bitLen yt:Int)=(s:Int)):=by unfold Hid;omega
 have c1:s≤63:=qO
 have NX:Hid (zL w (.slice A xs.length c) (val W64 xs)):=⟨A,xs,c,rfl,hc,hX,dx,tx,rfl⟩
 have NY:Hid (zL w (.slice (some ⟨bY,oY,none⟩) ys.length c2) (val W64 ys)):=⟨_,ys,c2,rfl,Y0,hY,dy,ty,rfl⟩
 have e1:Hid (wl (val W64 xs)≤4294967296):=by unfold Hid;rw[←xR dx tx];omega
 have f1:Hid (wl (val W64 ys)≤4294967296):=by unfold Hid;rw[←xR dy ty];omega
 have i1:=zh dx
 have a2:=zh dy
 have HS:=zh hs
 have j1:=zh m0
 have HK:=zh hk
 clear hX hY hc Y0 dx dy tx ty Z0 Z1 hs m0
 obtain⟨n,hn⟩:=yE ys.length
 rw[hn] at HC NY
 rw[hn] at HK
 rw[hn]
 have HN:=zh hn
 have b2:n=f+2:=HK.out
 subst b2
 clear hn hk HK
 have l1:(((f:Int)+2) == 1)=false:=by simp;omega
 have R2:decide (cr<0)=false:=by rw[vF];omega
 go_enter func200,ntmps200
 go_wp2_with (first
  | (go_at_call 153;refine HC.out.mono ?_;rintro e w' ⟨rfl,m,rfl⟩)
  | (go_at_call 164;refine (aY _ _ W.out).mono ?_;rintro e w' ⟨rfl,rfl⟩;rw[b1.out]))
 refine (Zc7 _ _ s _ (NY.out.ext ((Fr.refl _ _).drewN _)) f1.out qO).mono ?_
 rintro e wD ⟨vD,rfl,d2,m1⟩
 obtain⟨AD,Y,cD,rfl,e2,o1,A0,p1,B0⟩:=d2
 obtain⟨n1,n2,n3,n4⟩:=ZmU (n:=f+1) HN.out a2.out j1.out U HS.out A0 p1 B0
 have r1:=zh o1
 have n0:=zh A0
 have C0:Hid (Ext w wD):=((Fr.refl _ _).drewN _).ext m1
 have N:=zh B0
 have x:=zh n1
 have f2:=zh n2
 have s1:=zh n3
 rw[n1]
 clear o1 A0 p1 B0 m1 n1 n2 n3 n4 e2 C HC U W b1 HS j1
 go_wp2_with (
  at_make
  refine wV rfl _ _ _ rfl _ _ _ underlying83 eL _ _ _ _ (xs.length+1) rfl rfl qO qO qO qO ?_
  intro R w1 I E _ F i2
  have u1:Hid (Own .u64 207 w1 R ([] ++ List.replicate (xs.length+1) 0 ++ [])):=by simpa [Hid] using E
  have D0:=zh F
  have HR:=zh I
  clear E F I i2)
 refine (Zc7 _ _ s _ (NX.out.ext (C0.out.ext D0.out)) e1.out qO).mono ?_
 rintro e w2 ⟨v2,rfl,j2,v1⟩
 obtain⟨A3,x2,c3,rfl,l2,x1,d3,t3,E0⟩:=j2
 have y1:=zh x1
 have F0:=zh v1
 have z1:=zh d3
 have A1:=zh E0
 have o0:Hid (x2.length≤xs.length+1):=by
  unfold Hid
  refine jB fP t3 ?_
  rw[E0,uP]
  have h1:=xZ i1.out
  have h2:2^s≤W64:=by rw[zR];exact uD (vE qO c1) qD
  exact uS (tS h1 (uY qO)) (uI _ h2)
 clear x1 v1 d3 t3 E0 l2 NX e1 NY f1
 go_wp2_with (first
  | (
   with_reducible refine ZaF rfl (.tmp 57) (.tmp 60) _ _ rfl _ _ underlying83 Zqe _ _ _ _ _ _ rfl rfl R [] (List.replicate (xs.length+1) 0) [] x2 qS rfl (u1.out.ext F0.out) y1.out (fun _=>rfl) ?_
   intro w3 z B1 _ C1 o2
   have O:=zh B1
   have D1:=zh C1
   clear B1 C1 o2)
  | (
   at_make
   refine wV rfl _ _ _ rfl _ _ _ underlying83 eL _ _ _ _ (xs.length-(f+2)+1) rfl rfl qO qO qO qO ?_
   intro Z w4 hQ E1 _ F1 p2
   have G1:=zh E1
   have G0:=zh F1
   have HQ:=zh hQ
   clear E1 F1 hQ p2))
 have l:Hid (R<Z):=by
  have h1:=O.out.lt
  have h2:=HQ.out
  unfold Hid;omega
 have hV:Hid (val W64 Y≤W64^(f+2)):=by
  have:=xZ n0.out
  rw[x.out] at this
  exact qZ this
 have a0:Hid (0<val W64 Y):=by
  rw[N.out]
  have h1:=s1.out
  have h2:=uY (n:=f+1) zP
  exact rC qO (uY qO)
 obtain⟨X,eX⟩:=yE (val W64 xs*2^s)
 have HX:=zh eX
 have H0:Hid (∃ g,Own .u64 207 w4 R g∧g.length=xs.length+1∧eN X (val W64 Y) (f+2) (xs.length-(f+2)+1) g (List.replicate (xs.length-(f+2)+1) 0)):=by
  refine⟨x2 ++ List.replicate (xs.length+1-x2.length) 0,?_,?_,?_⟩
  ·have h:=O.out
   rw[uA (by simp;exact o0.out),List.drop_replicate] at h
   have h':Own .u64 207 w3 R (x2 ++ List.replicate (xs.length+1-x2.length) 0):=by simpa using h
   exact h'.ext G0.out
  ·have:=o0.out
   simp;omega
  rw[←HX.out,N.out]
  refine eN.start (L:=xs.length) (z1.out.append (Dig.replicate zP _)) (by have:=o0.out;simp;omega) ?_ (xZ i1.out) (by simpa using s1.out) qO a1
  rw[kK,kS,A1.out];simp
 have H1:Hid (Ext wD w4):=by
  have h1:=HR.out
  exact ((D0.out.ext F0.out).next D1.out (fun i hi e=>qO)).ext G0.out
 clear O D1 y1 z1 A1 o0 D0 F0 G0 u1 l1 eX
 obtain⟨V,eV⟩:=yE (val W64 Y)
 have HV:=zh eV
 rw[eV] at hV a0 H0
 clear eV
 go_loopw [13] (fun i wr=>∃ (k:Nat) (g qs:List Nat),k≤xs.length-(f+2)+1∧i=.int .i64 ((k:Int)-1)∧Hid (eN X V (f+2) k g qs)∧Hid (g.length=xs.length+1)∧Hid (Own .u64 207 wr R g)∧Hid (Own .u64 207 wr Z qs)∧Hid (Ext wD wr)) (fun i _=>(intOf i+1).toNat)
 case atStart =>
  obtain⟨g,h1,h2,h3⟩:=H0.out
  exact⟨xs.length-(f+2)+1,g,_,uF _,by go_num,h3,h2,h1,G1.out,H1.out⟩
 case round =>
  clear H0 G1 H1
  obtain⟨k,g,qs,hk,rfl,I,B,E,I0,F⟩:=hrel
  by_cases U2:0<k
  ·obtain⟨j,rfl⟩:∃ j,k=j+1:=⟨k-1,qO⟩
   have ej:(((j+1:Nat):Int)-1)=(j:Int):=qO
   rw[ej]
   clear ej
   have V2:j+(f+2)<xs.length+1:=qO
   have o:=B.out
   obtain⟨q1,q2,q3⟩:=I.out.window hV.out qO
   have p0:((g.drop j).take (f+3)).length=f+3:=by simp;omega
   have J0:Hid (zH .u64 wr AD Y):=r1.out.ext F.out
   have b0:=zh (ZiC (some ⟨R,j,none⟩) AD ((g.drop j).take (f+3)) Y (j+(f+2)+1-j) (f+1+1) (xs.length+1-j) cD f wr qO x.out (E.out.shows j (f+3)) J0.out x.out p0 qO ((I.out.1.drop j).take _) n0.out f2.out (by rw[←q1,HV.out];exact q2))
   rw[←q1,HV.out] at b0
   have W2:=zh q2
   clear q1 q2 q3 p0 o
   go_wp2_with fail
   (with_reducible refine b0.out.mono ?_)
   rintro e w5 ⟨d,rfl,K0,t0,n5,rfl⟩
   clear b0
   have q0:Hid (∀ a,AD=some a→a.block≠R):=by
    intro a ha
    obtain⟨b',o',e',X2,_⟩:=r1.out.at (i:=0) (by rw[x.out];omega)
    rw[e'] at ha;injection ha with ha;subst ha
    have:=HR.out
    show b'≠R
    omega
   have o:=B.out
   have O:Hid (Own .u64 207 (wr.drewN n5) R (g.take j ++ (g.drop j).take (f+2) ++ g.drop (j+(f+2)))):=by rw[ZmK];exact E.out.drewN _
   have I1:=zh (Zde R (xs.length+1-j) cD j (f+2) (f+1+1) d (g.take j) ((g.drop j).take (f+2)) (g.drop (j+(f+2))) Y AD (wr.drewN n5) (by simp;omega) (by simp;omega) x.out O.out (J0.out.drewN _) q0.out (by rw[x.out];simp;omega) (by simp;omega) ((I.out.1.drop j).take _) n0.out K0)
   have u0:=zh t0
   have r2:=zh K0
   clear O K0 t0 o
   go_wp2_with fail
   (with_reducible refine I1.out.mono ?_)
   rintro e P ⟨br,rfl,v0,c0,_,m,Q,L0,d0,M0⟩
   clear I1
   have o:=B.out
   have q:m.length=f+2:=by rw[L0];simp;omega
   have S:(g.take j).length=j:=by simp;omega
   have t:j+(f+2)<(g.take j ++ m ++ g.drop (j+(f+2))).length:=by simp;omega
   have C:=Q.cell t
   have J1:=Q.frozen (j+(f+2))
   rw[ZkC _ _ _ _ _ S q] at C
   obtain⟨top,J⟩:=yE (g[j+(f+2)]?.getD 0)
   rw[J] at C
   have hu:val W64 (g.drop j)=val W64 ((g.drop j).take (f+2))+W64^(f+2)*top:=by
    obtain⟨q1,_,_⟩:=I.out.window hV.out qO
    rw[q1,zU (f+2) (by simp;omega),vJ,J]
   have K:val W64 m+V*d=val W64 ((g.drop j).take (f+2))+W64^(f+2)*br:=by
    have h:=M0
    unfold Ziy at h
    rw[HV.out] at h
    have e:((g.drop j).take (f+2)).length=f+2:=by simp;omega
    rw[e] at h
    exact h
   have N0:Hid (Own .u64 207 P Z qs):=(I0.out.drewN n5).fr c0 (by have:=l.out;omega)
   have O0:Hid (Ext wD P):=(F.out.drewN n5).next c0 (fun i hi e=>by have:=HR.out;omega)
   have w0:Hid (zH .u64 P AD Y):=(J0.out.drewN n5).fr c0 (fun a ha _=>q0.out a ha)
   have e0:qs.length=xs.length-(f+2)+1:=by have:=I.out.2.2.1;omega
   have P0:val W64 m<W64^(f+2):=by have:=xZ d0;rw[q] at this;exact this
   have f0:j<qs.length:=qO
   by_cases Q0:br≤top
   ·obtain⟨k1,k2,k3⟩:=ZfC hV.out hu u0.out K Q0
    have R0:=zh (I.out.step a0.out hV.out qO q d0 k1 k2)
    subst k3
    have g1:IntKind.u64.wrap ((top:Int)-(top:Int))=0:=by rw[Int.sub_self];rfl
    have t1:=fH (a:=top) (b:=top) qO
    have G:=Q.set (j+(f+2)) 0 t
    rw[ZgD _ _ _ _ _ _ S q qO] at G
    have r:Fr (· = R) P (P.setCell ⟨R,j+(f+2),none⟩ (.int .u64 ((0:Nat):Int))):=(Fr.refl (· = R) P).setCell (p:=⟨R,j+(f+2),none⟩) (Or.inl rfl) _
    have r0:=N0.out.fr r (by have:=l.out;omega)
    have S0:=r0.cell f0
    have s2:=r0.frozen j
    obtain⟨z0,g0⟩:=yE (qs[j]?.getD 0)
    rw[g0] at S0
    have u2:=zh (r0.set j d f0)
    have K1:=zh (G.far (p:=⟨Z,j,none⟩) (by have:=l.out;show R≠Z;omega) (.int .u64 (d:Int)))
    have L1:Hid (Ext wD ((P.setCell ⟨R,j+(f+2),none⟩ (.int .u64 ((0:Nat):Int))).setCell ⟨Z,j,none⟩ (.int .u64 (d:Int)))):=(O0.out.next r (fun i hi e=>by have:=HR.out;omega)).setCell (Or.inr (by have:=HR.out;have:=l.out;show wD.heap.size≤Z;omega)) _
    have T0:Hid ((g.take j ++ m ++ (0 :: g.drop (j+(f+2)+1))).length=xs.length+1):=by unfold Hid;simp;omega
    clear v0 c0 Q L0 d0 M0 o q S t J hu K P0 k1 k2 G r r0 g0 Q0
    simp only[Int.ofNat_zero] at *
    go_wp2
    go_roundw
    case rel=>exact⟨j,_,_,qO,rfl,R0,T0,K1.out,u2.out,L1.out⟩
    case measure=>simp[intOf]
   have y2:0<d:=by
    rcases uJ d with e|e
    ·subst e
     have:W64^(f+2)*1≤W64^(f+2)*br:=uI _ qO
     omega
    exact e
   have g2:=iK y2 r2.out
   obtain⟨d1,U0⟩:=yE (d-1)
   rw[U0] at g2
   obtain⟨t2,g1,k1⟩:=Zfx ((top:Int)-(br:Int))
   have t1:=eS (a:=top) (b:=br) qO
   have G:=Q.set (j+(f+2)) t2 t
   rw[ZgD _ _ _ _ _ _ S q qO] at G
   have r:Fr (· = R) P (P.setCell ⟨R,j+(f+2),none⟩ (.int .u64 (t2:Int))):=(Fr.refl (· = R) P).setCell (p:=⟨R,j+(f+2),none⟩) (Or.inl rfl) _
   have z2:=zh G
   have V0:=zh r
   have B2:=zh (N0.out.fr r (by have:=l.out;omega))
   have M1:Hid (zH .u64 (P.setCell ⟨R,j+(f+2),none⟩ (.int .u64 (t2:Int))) AD Y):=w0.out.fr r (fun a ha _=>q0.out a ha)
   have C2:Hid (Ext wD (P.setCell ⟨R,j+(f+2),none⟩ (.int .u64 (t2:Int)))):=O0.out.next r (fun i hi e=>by have:=HR.out;omega)
   have D2:=zh d0
   have h0:=zh q
   have s0:=zh S
   have Hu:=zh hu
   have E2:=zh K
   have F2:=zh P0
   have G2:=zh k1
   have H2:=zh U0
   have I2:=zh e0
   have N1:top<br:=qO
   clear v0 c0 Q L0 d0 M0 o q S t J hu K P0 k1 G r Q0 U0 e0 w0 O0 N0
   go_wp2
   generalize J2:P.setCell ⟨R,j+(f+2),none⟩ (.int .u64 (t2:Int))=w7 at *
   clear J2 C J1 g1 g2 t1
   obtain⟨wo,rfl⟩:∃ wo:World,wo=wr:=⟨_,rfl⟩
   go_loopw [17,115] (fun cv iv wr=>∃ (D cc:Nat) (m2:List Nat),D≤f+2∧iv=.int .i64 (D:Int)∧cc≤1∧cv=.int .u64 (cc:Int)∧Hid (dH m Y D m2 cc)∧Hid (Own .u64 207 wr R (g.take j ++ m2 ++ (t2 :: g.drop (j+(f+2)+1))))∧Hid (Fr (· = R) w7 wr)) (fun _ iv _=>f+2-(intOf iv).toNat)
   case atStart=>exact⟨0,0,m,qO,rfl,qO,rfl,dH.start _ _ D2.out,z2.out,Fr.refl _ _⟩
   case round =>
    obtain⟨D,cc,m2,Y2,rfl,O1,rfl,T,u,i0⟩:=hrel
    have v:m2.length=f+2:=by rw[T.out.1];exact h0.out
    by_cases S2:D<f+2
    ·obtain⟨b3,o3,rfl,_,K2⟩:=(M1.out.fr i0.out (fun a ha _=>q0.out a ha)).at (i:=D) (by rw[x.out];omega)
     obtain⟨y,ey⟩:=yE (Y[D]?.getD 0)
     obtain⟨z,ez⟩:=yE (m2[D]?.getD 0)
     have P1:D<m2.length:=qO
     have Q1:=u.out.mid (k:=D) P1
     have Z2:=u.out.frozen (j+D)
     rw[s0.out] at Q1
     rw[ey] at K2
     rw[ez] at Q1
     have L2:=zh (T.out.step (by rw[h0.out];omega) ez ey (by rw[x.out];omega))
     have R1:xU z y cc≤1:=Zcr (ez ▸ T.out.2.2.1.getD zP D) (ey ▸ n0.out.getD zP D) O1
     have x0:=zh (u.out.set_mid P1 (xO z y cc))
     rw[s0.out] at x0
     have ha:=gY z y cc O1
     clear ey ez v
     go_wp2
     go_roundw
     case rel=>exact⟨D+1,_,_,qO,by go_num,R1,rfl,L2,x0.out,i0.out.setCell (p:=⟨R,j+D,none⟩) (Or.inl rfl) _⟩
     case measure=>simp[intOf];omega
    obtain rfl:D=f+2:=qO
    have j0:=T.out.done (by rw[x.out];omega) (by rw[h0.out];omega) (Or.inr h0.out.symm)
    rw[h0.out,HV.out] at j0
    obtain⟨_,k2,k3,k4⟩:=Zg5 a0.out hV.out Hu.out u0.out E2.out N1 F2.out j0 (by have:=xZ T.out.2.2.1;rw[v] at this;exact this)
    have g3:IntKind.u64.wrap ((t2:Int)+(cc:Int))=0:=by
     have h1:=G2.out
     rw[IntKind.wrap_u64]
     omega
    rw[H2.out] at k2
    have o:=B.out
    have S1:=I2.out
    have H:j+(f+2)<(g.take j ++ m2 ++ (t2 :: g.drop (j+(f+2)+1))).length:=by simp;omega
    have C:=u.out.cell H
    have J1:=u.out.frozen (j+(f+2))
    rw[ZiE _ _ _ _ _ _ s0.out v] at C
    have k0:=u.out.set (j+(f+2)) 0 H
    rw[ZiD _ _ _ _ _ _ _ s0.out v] at k0
    have l0:Fr (· = R) w7 (wr.setCell ⟨R,j+(f+2),none⟩ (.int .u64 ((0:Nat):Int))):=i0.out.setCell (p:=⟨R,j+(f+2),none⟩) (Or.inl rfl) _
    have M:=B2.out.fr l0 (by have:=l.out;omega)
    have f0:j<qs.length:=qO
    have S0:=M.cell f0
    have s2:=M.frozen j
    obtain⟨z0,g0⟩:=yE (qs[j]?.getD 0)
    rw[g0] at S0
    have R0:=zh (I.out.step a0.out hV.out qO v T.out.2.2.1 k2 k3)
    have T1:=zh (M.set j d1 f0)
    have U1:=zh (k0.far (p:=⟨Z,j,none⟩) (by have:=l.out;show R≠Z;omega) (.int .u64 (d1:Int)))
    have V1:Hid (Ext wD ((wr.setCell ⟨R,j+(f+2),none⟩ (.int .u64 ((0:Nat):Int))).setCell ⟨Z,j,none⟩ (.int .u64 (d1:Int)))):=(C2.out.next l0 (fun i hi e=>by have:=HR.out;omega)).setCell (Or.inr (by have:=HR.out;have:=l.out;show wD.heap.size≤Z;omega)) _
    have T0:Hid ((g.take j ++ m2 ++ (0 :: g.drop (j+(f+2)+1))).length=xs.length+1):=by unfold Hid;simp;omega
    clear j0 k2 k3 k4 o S1 H k0 l0 M g0 v
    simp only[Int.ofNat_zero] at *
    go_wp2
    go_roundw
    case rel=>exact⟨j,_,_,qO,rfl,R0,T0,U1.out,T1.out,V1.out⟩
    case measure=>simp[intOf]
  obtain rfl:k=0:=qO
  obtain⟨k1,k2⟩:=I.out.done
  have e0:qs.length=xs.length-(f+2)+1:=by have:=I.out.2.2.1;have:=B.out;omega
  have W0:=Zdn (val W64 xs) (val W64 ys) (2^s) (uY qO)
  have NQ:=zL.of_own (c:=xs.length-(f+2)+1) I0.out I.out.2.1 qO
  have NR:=zL.of_own (c:=xs.length+1) E.out I.out.1 (by have:=B.out;omega)
  rw[k1,← HX.out,← HV.out,N.out,W0.1] at NQ
  rw[k2,← HX.out,← HV.out,N.out] at NR
  have M2:=zh NQ
  have N2:=zh NR
  have W1:=zh (eC _ qs (xs.length-(f+2)+1) (xs.length-(f+2)+1) wr e0 I0.out.shows0 qO qO)
  have X1:=zh (eC _ g (xs.length+1) (xs.length+1) wr B.out E.out.shows0 (by have:=B.out;omega) (by have:=B.out;omega))
  have O2:=zh W0.2
  have p0:Hid (wl (val W64 xs*2^s%(val W64 ys*2^s))≤4294967296):=by
   refine uD ((jC (k:=f+2)).2 ?_) qO
   have h1:=uO (val W64 xs*2^s) a0.out
   rw[←HV.out,N.out] at h1
   have h2:=hV.out
   rw[←HV.out,N.out] at h2
   exact uS h1 h2
  clear k1 k2 e0 W0 NQ NR
  go_wp2_with fail
  (with_reducible refine W1.out.mono ?_)
  rintro e w7 ⟨rfl,rfl⟩
  clear W1
  go_wp2_with fail
  (with_reducible refine X1.out.mono ?_)
  rintro e w7 ⟨rfl,rfl⟩
  clear X1
  go_wp2_with fail
  (with_reducible refine (Zfz _ _ s _ N2.out p0.out qO).mono ?_)
  rintro e w7 ⟨B7,l7,c7,rfl,X0,r,Y1⟩
  rw[O2.out] at X0
  have P2:=zh Y1
  have Q2:=zh X0
  have V0:=zh r
  clear X0 r Y1
  go_wp2
  go_ret2
  exact⟨_,_,_,B7,l7,c7,rfl,M2.out.ext V0.out,Q2.out,(C0.out.ext F.out).ext V0.out,fun a h=>(P2.out a h).imp (uD (C0.out.ext F.out).size) id⟩
theorem Zev (A:qA)(l c:Nat)(g:Value)(x y:Nat)(w:World)(o:zL w (.slice A l c) x)(p:zL w g y)(i:wl x≤4294967296)(s:wl y≤4294967296)(E:0<y) :
 yA 200 #[.slice A l c,g] w (bR w A A (x/y) (x%y)):=by
 have t:∀ e w',bR w none none (x/y) (x%y) e w'→bR w A A (x/y) (x%y) e w':=by
  rintro e w' ⟨D,m,d,B,l,c,j,k,n,F,G⟩
  exact⟨D,m,d,B,l,c,j,k,n,F,fun a u=>Or.inl ((G a u).elim id fun h=>by rcases h with h|h<;>rw[u] at h<;>cases h)⟩
 rcases vM x y with b|f
 ·rw[tF b,vH b]
  exact ZfD A l c g x y w o p i s b
 have H:=Zfw E
 by_cases j:wl y=1
 ·exact (Ze4 _ g x y w o p i j f).mono t
 obtain⟨_,I,_,h,J,q,k,n,rfl⟩:=o
 injection h with e1 e2 e3
 subst e1 e2 e3
 obtain⟨K,v,L,rfl,r,k1,z,C,rfl⟩:=p
 rw[←xR k n] at i
 rw[←xR z C] at s j H
 exact (Zeu A K I v c L (v.length-2) w q k1 J r i qO k z n C f).mono t
theorem Ze5 (b a:Value)(x y:Nat)(w:World)(d:zL w b x)(e:zL w a y)(f:wl x≤4294967296)(g:wl y≤4294967296)(i:0<y) :
 yA 200 #[b,a] w (Zdt w (x/y) (x%y)):=by
 obtain⟨A,_,c,rfl,_⟩:=id d
 exact (Zev _ _ _ a x y w d e f g i).mono fun _ _ h=>h.ret
theorem Zbq (d f:Value)(x y:Nat)(w:World)(k:zL w d x)(l:zL w f y)(p:wl x≤4294967296)(q:wl y<80)(r:0<y) :
 yA 156 #[d,f] w (Zdt w (x/y) (x%y)):=by
 have s:=zh (Ze5 d f x y w k l p qO r)
 obtain⟨A,D,c,rfl,t,g,z,B,rfl⟩:=k
 obtain⟨E,F,G,rfl,h,k1,m,n,rfl⟩:=l
 rw[←xR m n] at q
 clear g z B k1 m n t h
 go_enter func156,ntmps156
 go_wp2_with (go_at_call 200;refine s.out.mono ?_;rintro e H ⟨u,v,rfl,a,b,o⟩;have i:=zh a;have j:=zh b;have C:=zh o;clear a b o)
 go_ret2
 exact⟨_,_,rfl,i.out,j.out,C.out⟩
noncomputable def W32:Nat:=Classical.choose (p:=fun n:Nat=>n=4294967296) ⟨_,rfl⟩
theorem zW:W32=4294967296:=pP (p:=fun n:Nat=>n=4294967296) ⟨_,rfl⟩
theorem zZ:0<W32:=by have:=zW;omega
theorem ZgG:1<W32:=by have:=zW;omega
theorem Zqo:2≤W32:=by have:=zW;omega
theorem bE:W32*W32=W64:=by rw[zW,zR]
theorem dN:(prog.info? 166).map (fun i=>(i.zero,i.size,i.bytes))=some (some (.int .u32 0),1,4):=qK
theorem kD (A:qA)(xs:qN)(n c:Nat)(w:World)(o:xs.length=n)(h:zH .u32 w A xs)(s:xs.length≤c)(t:xs.length≤70368744177664) :
 yA 75 #[.slice A n c] w fun e w'=>e=.returned (.slice A (wO xs xs.length) c)∧w=w':=by
 subst o
 have H:=zh h
 clear h
 go_enter func75,ntmps75
 go_wp2
 go_loop [0] (fun v=>∃ k:Nat,k≤xs.length∧v=.slice A k c∧Hid (wO xs xs.length=wO xs k)) (fun v=>match v with | .slice _ k _=>k | _=>0)
 case atStart=>exact⟨xs.length,uF _,rfl,rfl⟩
 case round =>
  obtain⟨k,u,rfl,d⟩:=hrel
  by_cases p:0<k
  ·obtain⟨b,q,rfl,y,f⟩:=H.out.at (i:=k-1) qO
   obtain⟨x,g⟩:=yE (xs[k-1]?.getD 0)
   rw[g] at f
   have l:=zh g
   clear g
   by_cases j:x=0
   ·subst j
    go_wp2
    go_round
    case rel =>
     refine⟨k-1,qO,by go_num,?_⟩
     have e:=d.out
     obtain⟨m,rfl⟩:∃ m,k=m+1:=⟨k-1,qO⟩
     rw[wO,uZ (by simpa using l.out)] at e
     exact e
    case measure=>simp;omega
   have r:(((x:Nat):Int) == 0)=false:=by simpa using j
   go_wp2
   go_ret
   refine⟨?_,rfl⟩
   have e:=d.out
   obtain⟨m,rfl⟩:∃ m,k=m+1:=⟨k-1,qO⟩
   have a:=l.out
   simp only[tN] at a
   rw[wO,uQ (by rw[a];exact j)] at e
   rw[e];rfl
  obtain rfl:k=0:=qO
  go_wp2
  go_ret
  exact⟨by rw[d.out];rfl,rfl⟩
def ml (n:Nat):Nat:=if n=0 then 0 else n.log2/32+1
theorem bU (k:Nat):W32^k=2^(32*k):=by rw[rU,zW]
theorem lD {n k:Nat}:ml n≤k↔n<W32^k:=by
 unfold ml
 rw[bU]
 split
 ·rename_i h;subst h;simp[uY]
 rename_i h
 rw[←Nat.log2_lt h];omega
theorem Zed (n:Nat):n<W32^ml n:=lD.1 (uF _)
theorem Zee:ml 0=0:=rfl
theorem iM {a b:Nat}(h:a≤b):ml a≤ml b:=lD.2 (vN h (Zed b))
theorem ZrL (a b:Nat):ml (a*b)≤ml a+ml b:=lD.2 (by rw[uW];exact nF (Zed a) (Zed b))
theorem ZrM {a b k:Nat}(ha:ml a≤k)(c:ml b≤k):ml (a+b)≤k+1:=by
 rw[lD] at *
 have:W32^k*2≤W32^k*W32:=uI _ Zqo
 rw[uP]
 omega
theorem kO {xs:qN}(a:Dig W32 xs)(b:Trim xs):xs.length=ml (val W32 xs):=by
 have c:=jB (n:=ml (val W32 xs)) ZgG b (Zed _)
 have d:ml (val W32 xs)≤xs.length:=lD.2 (xZ a)
 omega
theorem ZfT {n:Nat}(h:0<n):0<ml n:=by
 unfold ml;rw[uQ qO];omega
def zY (w:World) (v:Value) (n:Nat):Prop :=
 ∃ (A:Option Addr) (xs:List Nat) (c:Nat),v=.slice A xs.length c∧xs.length≤c∧zH .u32 w A xs∧Dig W32 xs∧Trim xs∧val W32 xs=n
theorem zY.ext {w w':World}{v:Value}{n:Nat}(h:zY w v n)(a:Ext w w'):zY w' v n:=by
 obtain⟨A,b,c,d,e,f,g⟩:=h
 exact⟨A,b,c,d,e,f.ext a,g⟩
theorem zY.zero (w:World):zY w (.slice none 0 0) 0:=⟨none,[],0,rfl,qS,zH.nil,Dig.nil,Trim.nil,rfl⟩
def dO (w:World) (n:Nat) (e:Ending) (w':World):Prop:=∃ v,e=.returned v∧zY w' v n∧Ext w w'
theorem zY.of_own {w:World}{b:Nat}{xs:qN}(h:Own .u32 166 w b xs)(a:Dig W32 xs){c:Nat}(d:xs.length≤c):zY w (.slice (some ⟨b,0,none⟩) (wO xs xs.length) c) (val W32 xs):=by
 refine⟨_,wL xs,c,by rw[wM],by rw[wM];exact uD (iY _ _) d,h.shows0.take _,iD a,iG xs,lC _ _⟩
theorem jK (s:Nat):(s:Int)%4294967296=((s%W32:Nat):Int):=by rw[zW];omega
theorem hi32 (s:Nat):(s:Int)/4294967296=((s/W32:Nat):Int):=by rw[zW];omega
theorem addW {a b:Nat}(h:a+b<W64):IntKind.u64.wrap ((a:Int)+(b:Int))=((a+b:Nat):Int):=by rw[←rS];exact wK _ h
def iN (xs ys:List Nat) (k:Nat) (m:List Nat) (c:Nat):Prop :=
 m.length=xs.length+1∧Dig W32 m∧c≤1∧val W32 (m.take k)+W32^k*c=val W32 (xs.take k)+val W32 (ys.take k)
theorem iN.start (xs ys:qN):iN xs ys 0 (List.replicate (xs.length+1) 0) 0:=⟨qS,Dig.replicate zZ _,qO,qS⟩
theorem Za9 {x y c:Nat}(a:x<W32)(b:y<W32)(d:c≤1):(c+x+y)/W32≤1:=by
 rw[zW] at *;omega
theorem iN.step {xs ys m:qN}{k c x y:Nat}(h:iN xs ys k m c)(e:k<xs.length)(b:xs[k]?.getD 0=x)(d:ys[k]?.getD 0=y)(a:k<ys.length)(dx:Dig W32 xs)(f:Dig W32 ys) :
 iN xs ys (k+1) (m.set k ((c+x+y)%W32)) ((c+x+y)/W32):=by
 obtain⟨g,i,j,l⟩:=h
 refine⟨by simpa using g,i.set k (uO _ zZ),Za9 (b ▸ dx.getD zZ k) (d ▸ f.getD zZ k) j,?_⟩
 rw[xN _ _ _ _ qO,zU k e,zU k a,b,d,uP]
 exact ZaZ _ _ _ _ _ _ _ _ _ _ l (by have:=sH (c+x+y) W32;omega)
theorem iN.step0 {xs ys m:qN}{k c x:Nat}(h:iN xs ys k m c)(d:k<xs.length)(a:xs[k]?.getD 0=x)(e:ys.length≤k)(dx:Dig W32 xs) :
 iN xs ys (k+1) (m.set k ((c+x)%W32)) ((c+x)/W32):=by
 obtain⟨f,g,i,b⟩:=h
 refine⟨by simpa using f,g.set k (uO _ zZ),by simpa using Za9 (y:=0) (a ▸ dx.getD zZ k) zZ i,?_⟩
 rw[xN _ _ _ _ qO,zU k d,a,uP,uA (l:=ys) qO]
 rw[uA (l:=ys) qO] at b
 have:=ZaZ _ _ _ _ _ _ 0 _ _ _ b (by have:=sH (c+x) W32;omega:(c+x)%W32+W32*((c+x)/W32)=x+0+c)
 simpa using this
theorem iN.last {xs ys m:qN}{c:Nat}(h:iN xs ys xs.length m c)(a:ys.length≤xs.length):(m.set xs.length c).length=xs.length+1∧Dig W32 (m.set xs.length c)∧val W32 (m.set xs.length c)=val W32 xs+val W32 ys:=by
 obtain⟨b,d,g,f⟩:=h
 refine⟨by simpa using b,d.set _ (by have:=zW;omega),?_⟩
 have e:m.set xs.length c=(m.set xs.length c).take (xs.length+1):=by rw[uA (by simp;omega)]
 rw[e,xN _ _ _ _ qO,f,uA (uF _),uA a]
theorem Zj6 (A A2:qA)(xs ys:qN)(c c2:Nat)(w:World)(hX:zH .u32 w A xs)(hY:zH .u32 w A2 ys)(hl:xs.length≤35184372088832)(L:ys.length≤xs.length)(hx:Dig W32 xs)(hy:Dig W32 ys) :
 yA 73 #[.slice A xs.length c,.slice A2 ys.length c2] w (dO w (val W32 xs+val W32 ys)):=by
 have HX:=zh hX
 have HY:=zh hY
 have M:=zh hx
 have Hy:=zh hy
 clear hX hY hx hy
 go_enter func73,ntmps73
 go_wp2_with (
  at_make
  refine wV rfl _ _ _ rfl _ _ _ underlying39 dN _ _ _ _ (xs.length+1) rfl rfl qO qO qO qO ?_
  intro b w1 hb E N F O
  have P:=zh E
  have Q:=zh F
  have R:=zh hb
  clear E F hb O N)
 go_loopw [6,7] (fun cv i wr=>∃ (k q:Nat) (m:List Nat),k≤xs.length∧i=.int .i64 k∧cv=.int .u64 q∧Hid (iN xs ys k m q)∧Hid (Own .u32 166 wr b m)∧Hid (Ext w wr)) (fun _ i _=>xs.length-(intOf i).toNat)
 case atStart=>exact⟨0,0,_,qO,rfl,rfl,iN.start _ _,P,Q⟩
 case round =>
  obtain⟨k,q,m,hk,rfl,rfl,B,g,j⟩:=hrel
  have S:=B.out.1
  by_cases t:k<xs.length
  ·obtain⟨b2,a0,rfl,_,T⟩:=(HX.out.ext j.out).at t
   obtain⟨x,C⟩:=yE (xs[k]?.getD 0)
   rw[C] at T
   have s:=C ▸ M.out.getD zZ k
   have r:=B.out.2.2.1
   have u:=g.out.cell (i:=k) qO
   have U:=g.out.frozen k
   obtain⟨z,D⟩:=yE (m[k]?.getD 0)
   rw[D] at u
   have h:q+x<W64:=by have:=zW;have:=zR;omega
   have q0:=wK x (by have:=zR;have:=zW;omega)
   have q1:=addW (a:=q) (b:=x) h
   obtain⟨v,l⟩:=yE (q+x)
   rw[l] at q1
   by_cases G:k<ys.length
   ·obtain⟨b3,b0,rfl,_,V⟩:=(HY.out.ext j.out).at G
    obtain⟨y,K⟩:=yE (ys[k]?.getD 0)
    rw[K] at V
    have H:=K ▸ Hy.out.getD zZ k
    have d:=zh (B.out.step t C K G M.out Hy.out)
    rw[l] at d
    have d0:=wK y (by have:=zR;have:=zW;omega)
    have q2:=addW (a:=v) (b:=y) (by have:=zW;have:=zR;omega)
    obtain⟨I,J⟩:=yE (v+y)
    rw[J] at q2 d
    have f:=zh (g.out.set k (I%W32) qO)
    have W:=jK I
    have X:=hi32 I
    obtain⟨lo,n⟩:=yE (I%W32)
    obtain⟨hi,o⟩:=yE (I/W32)
    rw[n] at W d f
    rw[o] at X d
    clear C K D n o l J s H r h
    go_wp2
    go_roundw
    case rel=>exact⟨k+1,_,_,qO,by go_num,rfl,d,f.out,j.out.setCell (p:=⟨b,k,none⟩) (Or.inr (by have:=R.out;show w.heap.size≤b;omega)) _⟩
    case measure=>simp[intOf];omega
   have d:=zh (B.out.step0 t C qO M.out)
   rw[l] at d
   have f:=zh (g.out.set k (v%W32) qO)
   have W:=jK v
   have X:=hi32 v
   obtain⟨lo,n⟩:=yE (v%W32)
   obtain⟨hi,o⟩:=yE (v/W32)
   rw[n] at W d f
   rw[o] at X d
   clear C D n o l s r h
   go_wp2
   go_roundw
   case rel=>exact⟨k+1,_,_,qO,by go_num,rfl,d,f.out,j.out.setCell (p:=⟨b,k,none⟩) (Or.inr (by have:=R.out;show w.heap.size≤b;omega)) _⟩
   case measure=>simp[intOf];omega
  obtain rfl:k=xs.length:=qO
  obtain⟨Y,Z,l3⟩:=B.out.last L
  have u:=g.out.cell (i:=xs.length) qO
  have U:=g.out.frozen xs.length
  obtain⟨z,D⟩:=yE (m[xs.length]?.getD 0)
  rw[D] at u
  have r:=B.out.2.2.1
  have c0:(q:Int)%4294967296=(q:Int):=qO
  have f:=g.out.set xs.length q qO
  obtain⟨m',em⟩:=yE (m.set xs.length q)
  rw[em] at Y Z l3 f
  have HT:=zh (kD _ _ (xs.length+1) (xs.length+1) _ Y f.shows0 qO qO)
  have HN:=zh (zY.of_own (c:=xs.length+1) f Z qO)
  rw[l3] at HN
  clear D Y Z l3 f r S em
  go_wp2_with fail
  refine HT.out.mono ?_
  rintro e w2 ⟨rfl,rfl⟩
  clear HT
  go_wp2
  go_ret
  exact⟨_,rfl,HN.out,j.out.setCell (p:=⟨b,xs.length,none⟩) (Or.inr (by have:=R.out;show w.heap.size≤b;omega)) _⟩
theorem Zj7 (A A2:qA)(xs ys:qN)(c c2:Nat)(w:World)(hX:zH .u32 w A xs)(hY:zH .u32 w A2 ys)(hl:xs.length≤35184372088832)(r:ys.length<xs.length)(hx:Dig W32 xs)(hy:Dig W32 ys) :
 yA 73 #[.slice A2 ys.length c2,.slice A xs.length c] w (dO w (val W32 xs+val W32 ys)):=by
 have L:ys.length≤xs.length:=qO
 have HX:=zh hX
 have HY:=zh hY
 have M:=zh hx
 have Hy:=zh hy
 clear hX hY hx hy
 go_enter func73,ntmps73
 go_wp2_with (
  at_make
  refine wV rfl _ _ _ rfl _ _ _ underlying39 dN _ _ _ _ (xs.length+1) rfl rfl qO qO qO qO ?_
  intro b w1 hb E N F O
  have P:=zh E
  have Q:=zh F
  have R:=zh hb
  clear E F hb O N)
 go_loopw [6,7] (fun cv i wr=>∃ (k q:Nat) (m:List Nat),k≤xs.length∧i=.int .i64 k∧cv=.int .u64 q∧Hid (iN xs ys k m q)∧Hid (Own .u32 166 wr b m)∧Hid (Ext w wr)) (fun _ i _=>xs.length-(intOf i).toNat)
 case atStart=>exact⟨0,0,_,qO,rfl,rfl,iN.start _ _,P,Q⟩
 case round =>
  obtain⟨k,q,m,hk,rfl,rfl,B,g,j⟩:=hrel
  have S:=B.out.1
  by_cases r:k<xs.length
  ·obtain⟨b2,a0,rfl,_,T⟩:=(HX.out.ext j.out).at r
   obtain⟨x,C⟩:=yE (xs[k]?.getD 0)
   rw[C] at T
   have t:=C ▸ M.out.getD zZ k
   have s:=B.out.2.2.1
   have u:=g.out.cell (i:=k) qO
   have U:=g.out.frozen k
   obtain⟨z,D⟩:=yE (m[k]?.getD 0)
   rw[D] at u
   have h:q+x<W64:=by have:=zW;have:=zR;omega
   have q0:=wK x (by have:=zR;have:=zW;omega)
   have q1:=addW (a:=q) (b:=x) h
   obtain⟨v,l⟩:=yE (q+x)
   rw[l] at q1
   by_cases G:k<ys.length
   ·obtain⟨b3,b0,rfl,_,V⟩:=(HY.out.ext j.out).at G
    obtain⟨y,K⟩:=yE (ys[k]?.getD 0)
    rw[K] at V
    have H:=K ▸ Hy.out.getD zZ k
    have d:=zh (B.out.step r C K G M.out Hy.out)
    rw[l] at d
    have d0:=wK y (by have:=zR;have:=zW;omega)
    have q2:=addW (a:=v) (b:=y) (by have:=zW;have:=zR;omega)
    obtain⟨I,J⟩:=yE (v+y)
    rw[J] at q2 d
    have f:=zh (g.out.set k (I%W32) qO)
    have W:=jK I
    have X:=hi32 I
    obtain⟨lo,n⟩:=yE (I%W32)
    obtain⟨hi,o⟩:=yE (I/W32)
    rw[n] at W d f
    rw[o] at X d
    clear C K D n o l J t H s h
    go_wp2
    go_roundw
    case rel=>exact⟨k+1,_,_,qO,by go_num,rfl,d,f.out,j.out.setCell (p:=⟨b,k,none⟩) (Or.inr (by have:=R.out;show w.heap.size≤b;omega)) _⟩
    case measure=>simp[intOf];omega
   have d:=zh (B.out.step0 r C qO M.out)
   rw[l] at d
   have f:=zh (g.out.set k (v%W32) qO)
   have W:=jK v
   have X:=hi32 v
   obtain⟨lo,n⟩:=yE (v%W32)
   obtain⟨hi,o⟩:=yE (v/W32)
   rw[n] at W d f
   rw[o] at X d
   clear C D n o l t s h
   go_wp2
   go_roundw
   case rel=>exact⟨k+1,_,_,qO,by go_num,rfl,d,f.out,j.out.setCell (p:=⟨b,k,none⟩) (Or.inr (by have:=R.out;show w.heap.size≤b;omega)) _⟩
   case measure=>simp[intOf];omega
  obtain rfl:k=xs.length:=qO
  obtain⟨Y,Z,l3⟩:=B.out.last L
  have u:=g.out.cell (i:=xs.length) qO
  have U:=g.out.frozen xs.length
  obtain⟨z,D⟩:=yE (m[xs.length]?.getD 0)
  rw[D] at u
  have s:=B.out.2.2.1
  have c0:(q:Int)%4294967296=(q:Int):=qO
  have f:=g.out.set xs.length q qO
  obtain⟨m',em⟩:=yE (m.set xs.length q)
  rw[em] at Y Z l3 f
  have HT:=zh (kD _ _ (xs.length+1) (xs.length+1) _ Y f.shows0 qO qO)
  have HN:=zh (zY.of_own (c:=xs.length+1) f Z qO)
  rw[l3] at HN
  clear D Y Z l3 f s S em
  go_wp2_with fail
  refine HT.out.mono ?_
  rintro e w2 ⟨rfl,rfl⟩
  clear HT
  go_wp2
  go_ret
  exact⟨_,rfl,HN.out,j.out.setCell (p:=⟨b,xs.length,none⟩) (Or.inr (by have:=R.out;show w.heap.size≤b;omega)) _⟩
theorem ZaJ (v v2:Value)(x y:Nat)(w:World)(m:zY w v x)(n:zY w v2 y)(a:ml x≤17592186044416)(b:ml y≤17592186044416) :
 yA 73 #[v,v2] w (dO w (x+y)):=by
 obtain⟨A,d,c,rfl,r,i,e,o,rfl⟩:=m
 obtain⟨j,f,k,rfl,p,l,g,q,rfl⟩:=n
 rw[←kO e o] at a
 rw[←kO g q] at b
 by_cases h:f.length≤d.length
 ·exact Zj6 A j d f c k w i l qO h e g
 rw[vO]
 exact Zj7 j A f d k c w l i qO qO g e
def Zba (xs ys:List Nat) (i:Nat) (zs:List Nat):Prop :=
 zs.length=xs.length+ys.length∧Dig W32 zs∧(∀ j,i+ys.length≤j→zs[j]?.getD 0=0)∧val W32 zs=val W32 (xs.take i)*val W32 ys
theorem Zba.start (xs ys:qN):Zba xs ys 0 (List.replicate (xs.length+ys.length) 0):=by
 refine⟨qS,Dig.replicate zZ _,?_,by simp[kS]⟩
 intro j _
 rw[pI];split<;>rfl
def Zaj (zs:List Nat) (i x:Nat) (ys:List Nat) (k:Nat) (ms:List Nat) (c:Nat):Prop :=
 ms.length=zs.length∧Dig W32 ms∧c<W32∧ms.drop (i+k)=zs.drop (i+k)∧val W32 (ms.take (i+k))+W32^(i+k)*c=val W32 (zs.take (i+k))+W32^i*(x*val W32 (ys.take k))
theorem Zaj.start {zs ys:qN}{i x:Nat}(a:Dig W32 zs):Zaj zs i x ys 0 zs 0:=⟨rfl,a,zZ,rfl,qS⟩
theorem Zaj.at {zs ys a:qN}{i x k c:Nat}(h:Zaj zs i x ys k a c):a[i+k]?.getD 0=zs[i+k]?.getD 0:=by
 have:=uX (fun l=>l[0]?.getD 0) h.2.2.2.1
 simpa [vJ] using this
theorem sq32 {a b z c:Nat}(ha:a<W32)(d:b<W32)(e:z<W32)(f:c<W32):c+(a*b+z)<W32*W32:=by
 have g:a*b≤(W32-1)*(W32-1):=sI qO qO
 rw[zW] at *
 omega
theorem ZoI (a b B V Z Y x y z c d c':Nat)(g:V+a*b*c=Z+a*(x*Y))(e:d+B*c'=c+(x*y+z)):V+a*b*d+a*b*B*c'=Z+a*b*z+a*(x*(Y+b*y)):=by
 have f:=uX (a*b * ·) e
 simp only[uK] at f ⊢
 have h:a*b*(B*c')=a*b*B*c':=by rw[uH (a*b)]
 have i:a*(x*(b*y))=a*b*(x*y):=by rw[tL x,uH]
 omega
theorem Zaj.step {zs ys a:qN}{i x k c y z:Nat}(h:Zaj zs i x ys k a c)(m:i+k<zs.length)(n:x<W32)(d:ys[k]?.getD 0=y)(b:k<ys.length)(o:Dig W32 ys)(e:a[i+k]?.getD 0=z) :
 Zaj zs i x ys (k+1) (a.set (i+k) ((c+(x*y+z))%W32)) ((c+(x*y+z))/W32):=by
 have p:zs[i+k]?.getD 0=z:=h.at.symm.trans e
 obtain⟨q,f,r,s,g⟩:=h
 have t:=sq32 n (d ▸ o.getD zZ k) (e ▸ f.getD zZ (i+k)) r
 refine⟨by simpa using q,f.set _ (uO _ zZ),sW t,?_,?_⟩
 ·rw[tJ qO,← sD,← vV (i:=1) (j:=i+k) (l:=a),← vV (i:=1) (j:=i+k) (l:=zs),s]
 rw[←sD,xN _ _ _ _ qO,zU (i+k) m,zU k b,p,d,uP,uW]
 rw[uW] at g
 exact ZoI _ _ _ _ _ _ _ _ _ _ _ _ g (by have:=sH (c+(x*y+z)) W32;omega)
theorem Zc9 {B:Nat}{zs:qN}{n:Nat}(h:∀ j,n≤j→zs[j]?.getD 0=0):val B zs=val B (zs.take n):=by
 rw[xS (xs:=zs) n]
 have:val B (zs.drop n)=0:=by
  have e:zs.drop n=List.replicate (zs.drop n).length 0:=by
   apply pZ qS
   intro i a b
   have:=h (n+i) qO
   rw[tC] at a
   rw[uV qO] at this
   simpa using this
  rw[e,kS]
 rw[this];simp
theorem Zba.next {xs ys zs a:qN}{i x c:Nat}(h:Zba xs ys i zs)(k:Zaj zs i x ys ys.length a c)(hi:i<xs.length)(e:xs[i]?.getD 0=x):Zba xs ys (i+1) (a.set (i+ys.length) c):=by
 obtain⟨f,q,b,g⟩:=h
 obtain⟨k1,m,n,o,p⟩:=k
 have d:∀ j,i+1+ys.length≤j→(a.set (i+ys.length) c)[j]?.getD 0=0:=by
  intro j r
  rw[List.getElem?_set_ne qO]
  have:=uX (fun l=>l[j-(i+ys.length)]?.getD 0) o
  simp only[vJ] at this
  rw[show i+ys.length+(j-(i+ys.length))=j by omega] at this
  rw[this];exact b j qO
 refine⟨by simp[k1,f],m.set _ n,d,?_⟩
 rw[Zc9 d,show i+1+ys.length=i+ys.length+1 by omega,xN _ _ _ _ qO,p,← Zc9 b,g,zU i hi,e,vC,uA (uF ys.length),uH]
theorem Zj8 (A A2:qA)(xs ys:qN)(c c2:Nat)(w:World)(hX:zH .u32 w A xs)(hY:zH .u32 w A2 ys)(hl:xs.length≤35184372088832)(e0:ys.length≤35184372088832)(Q:0<xs.length)(R:0<ys.length)(hx:Dig W32 xs)(hy:Dig W32 ys) :
 yA 74 #[.slice A xs.length c,.slice A2 ys.length c2] w (dO w (val W32 xs*val W32 ys)):=by
 have HX:=zh hX
 have HY:=zh hY
 have Hx:=zh hx
 have Hy:=zh hy
 have g1:(((xs.length:Nat):Int) == 0)=false:=by simp;intro e;simp[e] at Q
 have g2:(((ys.length:Nat):Int) == 0)=false:=by simp;intro e;simp[e] at R
 clear hX hY hx hy
 go_enter func74,ntmps74
 go_wp2_with (
  at_make
  refine wV rfl _ _ _ rfl _ _ _ underlying39 dN _ _ _ _ (xs.length+ys.length) rfl rfl qO qO qO qO ?_
  intro b w1 o E S F T
  have U:=zh E
  have V:=zh F
  have Hb:=zh o
  clear E F o T S)
 go_loopw [6,7,8] (fun i _ _ wr=>∃ (k:Nat) (m:List Nat),k≤xs.length∧i=.int .i64 k∧Hid (Zba xs ys k m)∧Hid (Own .u32 166 wr b m)∧Hid (Ext w wr)) (fun i _ _ _=>xs.length-(intOf i).toNat)
 case atStart=>exact⟨0,_,qO,rfl,Zba.start _ _,U,V⟩
 case round =>
  obtain⟨k,zs,hk,rfl,G,t,H⟩:=hrel
  have I:=G.out.1
  by_cases u:k<xs.length
  ·obtain⟨x,W⟩:=yE (xs[k]?.getD 0)
   have J:=zh W
   have g:Hid (x<W32):=W ▸ Hx.out.getD zZ k
   obtain⟨b2,b0,hA,_⟩:=HX.out.at u
   subst hA
   clear W
   go_wp2
   obtain⟨wo,rfl⟩:∃ wo:World,wo=wr:=⟨_,rfl⟩
   go_loopw [7,8] (fun cv j wr=>∃ (n v:Nat) (m:List Nat),n≤ys.length∧j=.int .i64 n∧cv=.int .u64 v∧Hid (Zaj zs k x ys n m v)∧Hid (Own .u32 166 wr b m)∧Hid (Ext w wr)) (fun _ j _=>ys.length-(intOf j).toNat)
   case atStart=>exact⟨0,0,_,qO,rfl,rfl,Zaj.start G.out.2.1,t,H⟩
   case round =>
    obtain⟨n,v,m,hn,rfl,rfl,D,d,h⟩:=hrel
    have f0:=D.out.1
    by_cases q:n<ys.length
    ·obtain⟨b3,c0,rfl,_,X⟩:=(HY.out.ext h.out).at q
     obtain⟨b4,d0,e4,_,Y⟩:=(HX.out.ext h.out).at u
     injection e4 with e4
     injection e4 with e4 e5
     subst e4 e5
     rw[J.out] at Y
     obtain⟨y,P⟩:=yE (ys[n]?.getD 0)
     rw[P] at X
     obtain⟨z,B⟩:=yE (m[k+n]?.getD 0)
     have C:=d.out.cell (i:=k+n) qO
     have Z:=d.out.frozen (k+n)
     rw[B] at C
     have r:=P ▸ Hy.out.getD zZ n
     have s:=B ▸ D.out.2.1.getD zZ (k+n)
     have o:=sq32 g.out r s D.out.2.2.1
     rw[bE] at o
     have f:=zh (D.out.step qO g.out P q Hy.out B)
     have q0:=wK x (by have:=zR;have:=zW;have:=g.out;omega)
     have q1:=wK y (by have:=zR;have:=zW;omega)
     have q2:=wK z (by have:=zR;have:=zW;omega)
     have q3:IntKind.u64.wrap ((x:Int)*(y:Int))=((x*y:Nat):Int):=by rw[←tU];exact wK _ qO
     obtain⟨p,ep⟩:=yE (x*y)
     rw[ep] at q3 f o
     have q4:=addW (a:=p) (b:=z) qO
     obtain⟨s1,K⟩:=yE (p+z)
     rw[K] at q4 f o
     have q5:=addW (a:=v) (b:=s1) o
     obtain⟨L,M⟩:=yE (v+s1)
     rw[M] at q5 f
     have q6:=jK L
     have q7:=hi32 L
     have l:=zh (d.out.set (k+n) (L%W32) qO)
     obtain⟨lo,N⟩:=yE (L%W32)
     obtain⟨hi,O⟩:=yE (L/W32)
     rw[N] at q6 f l
     rw[O] at q7 f
     clear P B r s o ep K M N O
     go_wp2
     go_region
     all_goals
      go_wp2
      go_roundw
      case rel=>exact⟨n+1,_,_,qO,by go_num,rfl,f,l.out.drewN _,(h.out.drewN _).setCell (p:=⟨b,k+n,none⟩) (Or.inr (by have:=Hb.out;show w.heap.size≤b;omega)) _⟩
      case measure=>simp[intOf];omega
    obtain rfl:n=ys.length:=qO
    have a0:=zh (G.out.next D.out u J.out)
    have C:=d.out.cell (i:=k+ys.length) qO
    have Z:=d.out.frozen (k+ys.length)
    obtain⟨z,B⟩:=yE (m[k+ys.length]?.getD 0)
    rw[B] at C
    have l:=zh (d.out.set (k+ys.length) v qO)
    have q6:=jK v
    rw[vH D.out.2.2.1] at q6
    clear B
    go_wp2
    go_roundw
    case rel=>exact⟨k+1,_,qO,by go_num,a0,l.out,h.out.setCell (p:=⟨b,k+ys.length,none⟩) (Or.inr (by have:=Hb.out;show w.heap.size≤b;omega)) _⟩
    case measure=>simp[intOf];omega
  obtain rfl:k=xs.length:=qO
  have HT:=zh (kD _ zs (xs.length+ys.length) (xs.length+ys.length) wr I t.out.shows0 qO qO)
  have HN:=zh (zY.of_own (c:=xs.length+ys.length) t.out G.out.2.1 qO)
  rw[G.out.2.2.2,uA (uF _)] at HN
  clear I
  go_wp2_with fail
  refine HT.out.mono ?_
  rintro e w2 ⟨rfl,rfl⟩
  clear HT
  go_wp2
  go_ret
  exact⟨_,rfl,HN.out,H.out⟩
theorem Zj9 (A b:qA)(n m c c2:Nat)(w:World)(h:n=0∨m=0)(d:n≤35184372088832)(e:m≤35184372088832) :
 yA 74 #[.slice A n c,.slice b m c2] w (dO w 0):=by
 by_cases a:n=0
 ·subst a
  go_enter func74,ntmps74
  go_wp2
  go_ret
  exact⟨_,rfl,zY.zero _,Fr.refl _ _⟩
 obtain rfl:m=0:=qO
 have f:(((n:Nat):Int) == 0)=false:=by simpa using a
 go_enter func74,ntmps74
 go_wp2
 go_ret
 exact⟨_,rfl,zY.zero _,Fr.refl _ _⟩
theorem ZfU (v v2:Value)(x y:Nat)(w:World)(l:zY w v x)(m:zY w v2 y)(a:ml x≤17592186044416)(b:ml y≤17592186044416) :
 yA 74 #[v,v2] w (dO w (x*y)):=by
 obtain⟨A,d,c,rfl,s,n,g,o,rfl⟩:=l
 obtain⟨i,f,j,rfl,p,q,k,r,rfl⟩:=m
 rw[←kO g o] at a
 rw[←kO k r] at b
 by_cases h:d.length=0∨f.length=0
 ·have e:val W32 d*val W32 f=0:=by
   rcases h with h|h
   ·rw[tG.1 h];simp
   rw[tG.1 h];simp
  rw[e]
  exact Zj9 A i _ _ c j w h qO qO
 exact Zj8 A i d f c j w n q qO qO qO qO g k
def ZcC (xs:List Nat) (d k:Nat) (zs:List Nat) (r:Nat):Prop :=
 zs.length=xs.length∧Dig W32 zs∧r<d∧val W32 (xs.drop k)=val W32 (zs.drop k)*d+r
theorem ZcC.start (xs:qN){d:Nat}(h:0<d):ZcC xs d xs.length (List.replicate xs.length 0) 0:=⟨qS,Dig.replicate zZ _,h,qS⟩
theorem ZcC.step {xs zs:qN}{d k r x:Nat}(h:ZcC xs d (k+1) zs r)(c:k<xs.length)(a:xs[k]?.getD 0=x)(dx:Dig W32 xs) :
 ZcC xs d k (zs.set k ((r*W32+x)/d)) ((r*W32+x)%d)∧(r*W32+x)/d<W32:=by
 obtain⟨e,f,g,i⟩:=h
 have j:x<W32:=a ▸ dx.getD zZ k
 have b:(r*W32+x)/d<W32:=by
  apply sW
  have:(r+1)*W32≤d*W32:=uE _ g
  rw[vC,pJ] at this
  omega
 refine⟨⟨by simpa using e,f.set k b,uO _ qO,?_⟩,b⟩
 rw[xT k c,xT (xs:=zs.set k _) k (by simp;omega),a,tJ qO,tW qO]
 exact Ze1 _ _ _ _ _ _ _ _ i (by have:=tB (r*W32+x) d;rw[uG d] at this;show _=(r*W32+x)/d*d+_;omega)
theorem ZlR (r:Nat)(h:r<W32):IntKind.u64.wrap ((r:Int)*4294967296)=((r*W32:Nat):Int):=by
 rw[zW] at *;rw[IntKind.wrap_u64];omega
theorem or32 (r x:Nat)(a:x<W32):r*W32 ||| x=r*W32+x:=by
 rw[zW] at *
 have:=sM (i:=32) (b:=x) qO r
 rw[rL] at this
 exact this.symm
def Zhg (w:World) (x d:Nat) (e:Ending) (w':World):Prop:=∃ l c,e=.returned (.tuple #[.slice (some ⟨w.heap.size,0,none⟩) l c,.int .u32 ((x%d:Nat):Int)])∧zY w' (.slice (some ⟨w.heap.size,0,none⟩) l c) (x/d)∧Ext w w'
theorem Zh3 (A:qA)(xs:qN)(c d:Nat)(w:World)(W:zH .u32 w A xs)(hl:xs.length≤35184372088832)(X:Dig W32 xs)(hd:0<d)(y:d<W32) :
 yA 93 #[.slice A xs.length c,.int .u32 (d:Int)] w (Zhg w (val W32 xs) d):=by
 have HX:=zh W
 have Y:=zh X
 have Z:=zh hd
 have B:=zh y
 have g1:(((d:Nat):Int) == 0)=false:=by simp;omega
 have q0:=wK d (by have:=zR;have:=zW;omega)
 clear W X y
 go_enter func93,ntmps93
 go_wp2_with (
  at_make
  refine wV rfl _ _ _ rfl _ _ _ underlying39 dN _ _ _ _ xs.length rfl rfl qO qO qO qO ?_
  intro b w1 hb C M D N
  have O:=zh C
  have P:=zh D
  have Q:=zh hb
  clear C D hb N M)
 go_loopw [7,8] (fun rv i wr=>∃ (k r:Nat) (m:List Nat),k≤xs.length∧i=.int .i64 ((k:Int)-1)∧rv=.int .u64 r∧Hid (ZcC xs d k m r)∧Hid (Own .u32 166 wr b m)∧Hid (Ext w wr)) (fun _ i _=>(intOf i+1).toNat)
 case atStart=>exact⟨xs.length,0,_,qO,rfl,rfl,ZcC.start _ Z.out,O,P⟩
 case round =>
  obtain⟨k,r,m,hk,rfl,rfl,v,f,t⟩:=hrel
  have E:=v.out.1
  by_cases b0:0<k
  ·obtain⟨k,rfl⟩:∃ j,k=j+1:=⟨k-1,qO⟩
   have F:k<xs.length:=qO
   obtain⟨b2,a0,rfl,_,R⟩:=(HX.out.ext t.out).at F
   obtain⟨x,J⟩:=yE (xs[k]?.getD 0)
   rw[J] at R
   have o:=J ▸ Y.out.getD zZ k
   have S:=f.out.cell (i:=k) qO
   have c0:=f.out.frozen k
   obtain⟨z,ez⟩:=yE (m[k]?.getD 0)
   rw[ez] at S
   have hi:((k+1:Nat):Int)-1=(k:Int):=qO
   rw[hi]
   obtain⟨G,K⟩:=v.out.step F J Y.out
   have g:=zh G
   have h:r<W32:=qL v.out.2.2.1 B.out
   have q1:=ZlR r h
   have q2:=wK x (by have:=zR;have:=zW;omega)
   have u:r*W32+x<W64:=by
    have:(r+1)*W32≤W32*W32:=uE _ h
    rw[vC,bE] at this;omega
   have T:=cX (a:=r*W32) (b:=x) qO qO
   rw[or32 r x o] at T
   obtain⟨rw1,e1⟩:=yE (r*W32)
   rw[e1] at q1 T g K u
   obtain⟨s,es⟩:=yE (rw1+x)
   rw[es] at T g K u
   have q4:(s:Int).tdiv (d:Int)=((s/d:Nat):Int):=by rw[rA qO];rfl
   have U:(s:Int)/(d:Int)=((s/d:Nat):Int):=rfl
   have q5:(s:Int).tmod (d:Int)=((s%d:Nat):Int):=by rw[tY qO];rfl
   have V:(s:Int)%(d:Int)=((s%d:Nat):Int):=rfl
   have H:=zh (f.out.set k (s/d) qO)
   have L:=jK (s/d)
   rw[vH K] at L
   have q7:IntKind.u64.wrap ((s/d:Nat):Int)=((s/d:Nat):Int):=wK _ (by have:=zR;have:=zW;omega)
   obtain⟨q,eq⟩:=yE (s/d)
   obtain⟨r2,I⟩:=yE (s%d)
   rw[eq] at q4 U L q7 H g
   rw[I] at q5 V g
   clear J ez o G K h u e1 es eq I hi
   go_wp2
   refine⟨⟨k,_,_,qO,rfl,rfl,g,H,t.out.setCell (p:=⟨b,k,none⟩) (Or.inr (by have:=Q.out;show w.heap.size≤b;omega)) _⟩,?_⟩
   simp[intOf]
  obtain rfl:k=0:=qO
  have l:=v.out.2.2.2
  rw[sE,sE] at l
  have HT:=zh (kD _ m xs.length xs.length wr E f.out.shows0 qO qO)
  have HN:=zh (zY.of_own (c:=xs.length) f.out v.out.2.1 qO)
  have n:=v.out.2.2.1
  have ed:val W32 xs/d=val W32 m:=by
   rw[l,uG,rF Z.out,tF n,tE]
  have I:val W32 xs%d=r:=by
   rw[l,uG,qV,vH n]
  rw[←ed] at HN
  have HE:=zh I
  have L:=jK r
  rw[vH (qL n B.out)] at L
  clear l n ed I E
  go_wp2_with fail
  refine HT.out.mono ?_
  rintro e w2 ⟨rfl,rfl⟩
  clear HT
  go_wp2
  go_ret2
  exact⟨_,_,by rw[HE.out,Q.out];rfl,by rw[Q.out];exact HN.out,t.out⟩
theorem ZdA (v:Value)(x d:Nat)(w:World)(f:zY w v x)(a:ml x≤17592186044416)(g:0<d)(b:d<W32) :
 yA 93 #[v,.int .u32 (d:Int)] w (Zhg w x d):=by
 obtain⟨A,h,c,rfl,k,i,e,j,rfl⟩:=f
 rw[←kO e j] at a
 exact Zh3 A h c d w i qO e g b
def iU (xs ys:List Nat) (k:Nat) (m:List Nat) (c:Nat):Prop :=
 m.length=xs.length∧Dig W32 m∧c≤1∧val W32 (m.take k)+val W32 (ys.take k)=val W32 (xs.take k)+W32^k*c
theorem iU.start (xs ys:qN):iU xs ys 0 (List.replicate xs.length 0) 0:=⟨qS,Dig.replicate zZ _,qO,qS⟩
noncomputable def d32 (x y c:Nat):Nat:=(x+W64-c-y)%W64
theorem Ze7 {x y c:Nat}(a:x<W32)(b:y<W32)(d:c≤1):d32 x y c%W32+y+c=x+W32*(d32 x y c/W32%2):=by
 unfold d32
 rw[zW] at *
 rw[zR] at *
 omega
theorem iU.step {xs ys m:qN}{k c x y:Nat}(h:iU xs ys k m c)(e:k<xs.length)(b:xs[k]?.getD 0=x)(d:ys[k]?.getD 0=y)(a:k<ys.length)(dx:Dig W32 xs)(f:Dig W32 ys) :
 iU xs ys (k+1) (m.set k (d32 x y c%W32)) (d32 x y c/W32%2):=by
 obtain⟨g,i,j,l⟩:=h
 refine⟨by simpa using g,i.set k (uO _ zZ),qO,?_⟩
 rw[xN _ _ _ _ qO,zU k e,zU k a,b,d,uP]
 exact Ze0 _ _ _ _ _ _ _ _ _ _ l (Ze7 (b ▸ dx.getD zZ k) (d ▸ f.getD zZ k) j)
theorem iU.step0 {xs ys m:qN}{k c x:Nat}(h:iU xs ys k m c)(d:k<xs.length)(a:xs[k]?.getD 0=x)(e:ys.length≤k)(dx:Dig W32 xs) :
 iU xs ys (k+1) (m.set k (d32 x 0 c%W32)) (d32 x 0 c/W32%2):=by
 obtain⟨f,g,i,b⟩:=h
 refine⟨by simpa using f,g.set k (uO _ zZ),qO,?_⟩
 rw[xN _ _ _ _ qO,zU k d,a,uP,uA (l:=ys) qO]
 rw[uA (l:=ys) qO] at b
 have:=Ze0 _ _ _ _ _ _ 0 _ _ _ b (Ze7 (y:=0) (a ▸ dx.getD zZ k) zZ i)
 simpa using this
theorem iU.done {xs ys m:qN}{c:Nat}(h:iU xs ys xs.length m c)(e:ys.length≤xs.length)(f:val W32 ys≤val W32 xs):val W32 m=val W32 xs-val W32 ys:=by
 obtain⟨b,d,g,a⟩:=h
 rw[uA qO,uA qO,uA qO] at a
 have:=xZ d
 rw[b] at this
 rcases (by omega:c=0∨c=1) with rfl|rfl
 ·simp at a;omega
 omega
theorem Zqp {x c:Nat}(a:x<W32)(b:c≤1):IntKind.u64.wrap ((x:Int)-(c:Int))=((d32 x 0 c:Nat):Int):=by
 unfold d32;rw[IntKind.wrap_u64,zR];rw[zW] at a;omega
theorem Zqq {x y c:Nat}(a:x<W32)(b:y<W32)(d:c≤1):IntKind.u64.wrap (((d32 x 0 c:Nat):Int)-(y:Int))=((d32 x y c:Nat):Int):=by
 unfold d32;rw[IntKind.wrap_u64,zR];rw[zW] at a b;omega
theorem ZiT (x y c:Nat):d32 x y c<W64:=uO _ zP
theorem ZgH (h:Nat)(a:h<W64):bits .and .u64 (h:Int) 1=((h%2:Nat):Int):=by
 rw[zR] at a
 have:=bits_and_u64_nat h 1 a qO
 rw[oP] at this
 exact this
theorem Zka (A V:qA)(xs ys:qN)(c c2:Nat)(w:World)(W:zH .u32 w A xs)(X:zH .u32 w V ys)(hl:xs.length≤35184372088832)(L:ys.length≤xs.length)(Y:Dig W32 xs)(Z:Dig W32 ys)(hv:val W32 ys≤val W32 xs) :
 yA 174 #[.slice A xs.length c,.slice V ys.length c2] w (dO w (val W32 xs-val W32 ys)):=by
 have HX:=zh W
 have HY:=zh X
 have M:=zh Y
 have Hy:=zh Z
 have HV:=zh hv
 clear W X Y Z hv
 go_enter func174,ntmps174
 go_wp2_with (
  at_make
  refine wV rfl _ _ _ rfl _ _ _ underlying39 dN _ _ _ _ xs.length rfl rfl qO qO qO qO ?_
  intro b w1 hb C N D O
  have P:=zh C
  have Q:=zh D
  have Hb:=zh hb
  clear C D hb O N)
 go_loopw [6,7,8] (fun cv i _ wr=>∃ (k f:Nat) (m:List Nat),k≤xs.length∧i=.int .i64 k∧cv=.int .u64 f∧Hid (iU xs ys k m f)∧Hid (Own .u32 166 wr b m)∧Hid (Ext w wr)) (fun _ i _ _=>xs.length-(intOf i).toNat)
 case atStart=>exact⟨0,0,_,qO,rfl,rfl,iU.start _ _,P,Q⟩
 case round =>
  obtain⟨k,f,m,hk,rfl,rfl,v,h,j⟩:=hrel
  have E:=v.out.1
  by_cases t:k<xs.length
  ·obtain⟨b2,a0,rfl,_,R⟩:=(HX.out.ext j.out).at t
   obtain⟨x,B⟩:=yE (xs[k]?.getD 0)
   rw[B] at R
   have g:=B ▸ M.out.getD zZ k
   have r:=v.out.2.2.1
   have S:=h.out.cell (i:=k) qO
   have c0:=h.out.frozen k
   obtain⟨z,T⟩:=yE (m[k]?.getD 0)
   rw[T] at S
   have q0:=wK x (by have:=zR;have:=zW;omega)
   have q1:=Zqp g r
   by_cases F:k<ys.length
   ·obtain⟨b3,b0,rfl,_,U⟩:=(HY.out.ext j.out).at F
    obtain⟨y,K⟩:=yE (ys[k]?.getD 0)
    rw[K] at U
    have s:=K ▸ Hy.out.getD zZ k
    have a:=zh (v.out.step t B K F M.out Hy.out)
    have d0:=wK y (by have:=zR;have:=zW;omega)
    have q2:=Zqq g s r
    have G:=jK (d32 x y f)
    have H:=hi32 (d32 x y f)
    have u:=ZgH (d32 x y f/W32) (vN (vG _ _) (ZiT _ _ _))
    have d:=zh (h.out.set k (d32 x y f%W32) qO)
    obtain⟨d1,I⟩:=yE (d32 x 0 f)
    obtain⟨J,l⟩:=yE (d32 x y f)
    rw[I] at q1 q2
    rw[l] at q2 G H u d a
    obtain⟨lo,n⟩:=yE (J%W32)
    obtain⟨hi,o⟩:=yE (J/W32)
    rw[n] at G a d
    rw[o] at H u a
    obtain⟨bw,q⟩:=yE (hi%2)
    rw[q] at u a
    clear B K T n o I l q g s r
    go_wp2
    go_roundw
    case rel=>exact⟨k+1,_,_,qO,by go_num,rfl,a,d.out,j.out.setCell (p:=⟨b,k,none⟩) (Or.inr (by have:=Hb.out;show w.heap.size≤b;omega)) _⟩
    case measure=>simp[intOf];omega
   have a:=zh (v.out.step0 t B qO M.out)
   have G:=jK (d32 x 0 f)
   have H:=hi32 (d32 x 0 f)
   have u:=ZgH (d32 x 0 f/W32) (vN (vG _ _) (ZiT _ _ _))
   have d:=zh (h.out.set k (d32 x 0 f%W32) qO)
   obtain⟨J,l⟩:=yE (d32 x 0 f)
   rw[l] at q1 G H u d a
   obtain⟨lo,n⟩:=yE (J%W32)
   obtain⟨hi,o⟩:=yE (J/W32)
   rw[n] at G a d
   rw[o] at H u a
   obtain⟨bw,q⟩:=yE (hi%2)
   rw[q] at u a
   clear B T n o l q g r
   go_wp2
   go_roundw
   case rel=>exact⟨k+1,_,_,qO,by go_num,rfl,a,d.out,j.out.setCell (p:=⟨b,k,none⟩) (Or.inr (by have:=Hb.out;show w.heap.size≤b;omega)) _⟩
   case measure=>simp[intOf];omega
  obtain rfl:k=xs.length:=qO
  have l3:=v.out.done L HV.out
  have HT:=zh (kD _ m xs.length xs.length wr E h.out.shows0 qO qO)
  have HN:=zh (zY.of_own (c:=xs.length) h.out v.out.2.1 qO)
  rw[l3] at HN
  clear l3 E
  go_wp2_with fail
  refine HT.out.mono ?_
  rintro e w2 ⟨rfl,rfl⟩
  clear HT
  go_wp2
  go_ret
  exact⟨_,rfl,HN.out,j.out⟩
theorem ZaK (v v2:Value)(x y:Nat)(w:World)(g:zY w v x)(h:zY w v2 y)(b:ml x≤17592186044416)(a:y≤x) :
 yA 174 #[v,v2] w (dO w (x-y)):=by
 have d:=iM a
 obtain⟨A,i,c,rfl,r,j,e,k,rfl⟩:=g
 obtain⟨l,m,n,rfl,o,p,f,q,rfl⟩:=h
 rw[←kO e k] at b d
 rw[←kO f q] at d
 exact Zka A l i m c n w j p qO d e f a
theorem Zm8 {xs ys:qN}(a:Dig W32 xs)(b:Dig W32 ys)(c:Trim xs)(d:Trim ys)(e:xs.length≠ys.length):cmpI xs.length ys.length=cmpI (val W32 xs) (val W32 ys):=by
 rcases pK e with h|h
 ·rw[iJ qO,iJ (by have:=gK zZ a d h;omega)]
 rw[gU qO,gU (by have:=gK zZ b c h;omega)]
theorem Zkb {xs ys:qN}(d:Dig W32 xs)(e:Dig W32 ys)(b:xs.length=ys.length){k x y:Nat}(f:k<xs.length)(c:xs.drop (k+1)=ys.drop (k+1))(g:xs[k]?.getD 0=x)(i:ys[k]?.getD 0=y)(a:x≠y) :
 cmpI x y=cmpI (val W32 xs) (val W32 ys):=by
 subst g i
 rcases pK a with h|h
 ·rw[iJ qO,iJ (by have:=dA d b k f c h;omega)]
 rw[gU qO,gU (by have:=dA e b.symm k qO c.symm h;omega)]
theorem ZeJ (A F:qA)(xs ys:qN)(n m c c2:Nat)(w:World)(M:xs.length=n)(N:ys.length=m)(t:zH .u32 w A xs)(u:zH .u32 w F ys)(Y:xs.length≤70368744177664)(_:ys.length≤70368744177664)(p:Dig W32 xs)(q:Dig W32 ys)(v:Trim xs)(z:Trim ys) :
 yA 171 #[.slice A n c,.slice F m c2] w fun e w'=>e=.returned (.int .i64 (cmpI (val W32 xs) (val W32 ys)))∧∃ n,w'=w.drewN n:=by
 subst M N
 by_cases r:xs.length=ys.length
 ·have O:=zh t
  have P:=zh u
  have o:=zh r
  have R:=zh p
  have S:=zh q
  have B:(((xs.length:Nat):Int) != (ys.length:Nat))=false:=by simp[r]
  clear t u p q v z r
  go_enter func171,ntmps171
  go_wp2
  go_loopw [5] (fun i wr=>∃ k n:Nat,k≤xs.length∧i=.int .i64 ((k:Int)-1)∧Hid (xs.drop k=ys.drop k)∧Hid (wr=w.drewN n)) (fun i _=>(intOf i+1).toNat)
  case atStart=>exact⟨xs.length,0,uF _,rfl,by unfold Hid;rw[vA (uF _),vA (by rw[o.out];exact uF _)],rfl⟩
  case round =>
   obtain⟨k,n,Z,rfl,Q,G⟩:=hrel
   obtain rfl:=G.out
   clear G
   by_cases T:0<k
   ·obtain⟨j,rfl⟩:∃ j,k=j+1:=⟨k-1,qO⟩
    have H:(((j+1:Nat):Int)-1)=(j:Int):=qO
    rw[H]
    clear H
    obtain⟨b,U,rfl,_,C⟩:=O.out.at (i:=j) qO
    obtain⟨b2,I,rfl,_,D⟩:=P.out.at (i:=j) (by have:=o.out;omega)
    obtain⟨x,f⟩:=yE (xs[j]?.getD 0)
    obtain⟨y,g⟩:=yE (ys[j]?.getD 0)
    rw[f] at C
    rw[g] at D
    have V:(j:Int)<(ys.length:Nat):=by have:=o.out;omega
    have W:(j:Int)<(xs.length:Nat):=qO
    by_cases J:x=y
    ·subst J
     have s:Hid (xs.drop j=ys.drop j):=by
      unfold Hid
      have K:j<xs.length:=qO
      have L:j<ys.length:=by have:=o.out;omega
      rw[tR K,tR L,Q.out]
      rw[uV K] at f
      rw[uV L] at g
      simp only[qG] at f g
      rw[f,g]
     clear f g Q
     go_wp2
     go_quiet (fail)
     go_wp2
     go_roundw
     case rel=>exact⟨j,_,qO,rfl,s,rfl⟩
     case measure=>simp[intOf]
    have h:=zh (Zkb R.out S.out o.out qO Q.out f g J)
    have X:(((x:Nat):Int) != (y:Nat))=true:=by simp;omega
    clear f g Q
    by_cases E:x<y
    ·have d:=zh (iJ (a:=x) (b:=y) qO)
     go_wp2
     go_quiet (fail)
     go_wp2
     go_quiet (fail)
     go_wp2
     go_ret
     exact⟨by rw[←h.out,d.out];rfl,by simp only[World.drewN_drewN];exact⟨_,rfl⟩⟩
    have d:=zh (gU (a:=x) (b:=y) qO)
    go_wp2
    go_quiet (fail)
    go_wp2
    go_quiet (fail)
    go_wp2
    go_ret
    exact⟨by rw[←h.out,d.out];rfl,by simp only[World.drewN_drewN];exact⟨_,rfl⟩⟩
   obtain rfl:k=0:=qO
   have s:xs=ys:=by simpa using Q.out
   have h:=zh (uX (fun l=>cmpI (val W32 xs) (val W32 l)) s)
   clear Q s
   go_wp2
   go_ret
   exact⟨by rw[←(show _=cmpI (val W32 xs) (val W32 ys) from h.out),Zdo];rfl,_,rfl⟩
 have B:(((xs.length:Nat):Int) != (ys.length:Nat))=true:=by simp;omega
 have h:=zh (Zm8 p q v z r)
 clear t u p q v z
 by_cases E:xs.length<ys.length
 ·have d:=zh (iJ (a:=xs.length) (b:=ys.length) qO)
  go_enter func171,ntmps171
  go_wp2
  go_ret
  exact⟨by rw[←h.out,d.out];rfl,0,rfl⟩
 have d:=zh (gU (a:=xs.length) (b:=ys.length) qO)
 go_enter func171,ntmps171
 go_wp2
 go_ret
 exact⟨by rw[←h.out,d.out];rfl,0,rfl⟩
theorem cI (u v:Value)(m n:Nat)(w:World)(g:zY w u m)(h:zY w v n)(i:ml m≤17592186044416)(j:ml n≤17592186044416) :
 yA 171 #[u,v] w fun e w'=>e=.returned (.int .i64 (cmpI m n))∧∃ n,w'=w.drewN n:=by
 obtain⟨A,k,c,rfl,s,l,a,b,rfl⟩:=g
 obtain⟨o,p,q,rfl,r,k1,d,f,rfl⟩:=h
 rw[←kO a b] at i
 rw[←kO d f] at j
 exact ZeJ A o k p _ _ c q w rfl rfl l k1 qO qO a d b f
end Go.Proofs.YtdlgidnkmbklcaaGreatDoor
namespace Go.Proofs.YtdlgidnkmbklcaaGreatDoor
def iW (X v n k:Nat) (rs qs:List Nat):Prop :=
 Dig W32 rs∧Dig W32 qs∧rs.length=qs.length+n∧val W32 rs+val W32 (qs.drop k)*W32^k*v=X∧val W32 (rs.drop k)<v
theorem iW.window {X v n k:Nat}{a c:qN}(h:iW X v n (k+1) a c)(g:v≤W32^n)(i:k+n<a.length) :
 val W32 (a.drop k)=val W32 ((a.drop k).take (n+1))∧val W32 (a.drop k)<v*W32∧val W32 (a.drop (k+n+1))=0:=by
 obtain⟨d,j,l,m,f⟩:=h
 have b:val W32 (a.drop (k+n+1))=0:=by
  have e:=xS (B:=W32) (xs:=a.drop (k+1)) n
  rw[vV,show k+1+n=k+n+1 by omega,uU (by simp;omega)] at e
  rcases uJ (val W32 (a.drop (k+n+1))) with h|h
  ·exact h
  have:W32^n*1≤W32^n*val W32 (a.drop (k+n+1)):=uI _ h
  omega
 refine⟨?_,?_,b⟩
 ·have e:=xS (B:=W32) (xs:=a.drop k) (n+1)
  rw[vV,show k+(n+1)=k+n+1 by omega,b] at e
  simpa using e
 rw[xT k qO]
 have o:=d.getD zZ k
 have:W32*(val W32 (a.drop (k+1))+1)≤W32*v:=uI _ f
 rw[uK] at this
 rw[uG v]
 omega
theorem iW.step {X v n k q:Nat}{a c m:qN}(h:iW X v n (k+1) a c)(e:0<v)(s:v≤W32^n)(t:k+n<a.length)(u:m.length=n)(w:Dig W32 m)(l:q=val W32 (a.drop k)/v)(o:val W32 m=val W32 (a.drop k)%v) :
 iW X v n k (a.take k ++ m ++ (0 :: a.drop (k+n+1))) (c.set k q):=by
 obtain⟨E,x,y⟩:=h.window s t
 obtain⟨p,z,F,G,H⟩:=h
 have f:k<c.length:=qO
 have i:q<W32:=by rw[l,vQ e,uG];exact x
 have g:(a.take k).length=k:=by simp;omega
 have b:val W32 (m ++ (0 :: a.drop (k+n+1)))=val W32 m:=by
  rw[kK,iP,y];simp
 have d:(a.take k ++ m ++ (0 :: a.drop (k+n+1))).drop k=m ++ (0 :: a.drop (k+n+1)):=by
  rw[vU,nH,g,vA qO,qM];simp
 refine⟨((p.take k).append w).append (Dig.cons zZ (p.drop _)),z.set k i,?_,?_,?_⟩
 ·simp[u];omega
 ·rw[vU,kK,g,b,o]
  rw[xT (xs:=c.set k q) k (by simpa using f),tJ qO]
  have j:(c.set k q)[k]?.getD 0=q:=by rw[tW f];rfl
  rw[j]
  have A:=xS (B:=W32) (xs:=a) k
  rw[uU qO] at A
  have r:=tB (val W32 (a.drop k)) v
  rw[←l] at r
  have C:=uX (W32^k * ·) r
  simp only[uK] at C
  rw[vC,vC]
  have e4:q*W32^k*v=W32^k*(v*q):=by rw[uG q,uH,uG q]
  have D:W32*val W32 (c.drop (k+1))*W32^k*v=val W32 (c.drop (k+1))*W32^(k+1)*v:=by
   rw[uP,uG W32 (val W32 _),uH (val W32 _) W32,uG W32 (W32^k)]
  rw[e4,D]
  omega
 rw[d,b,o];exact uO _ e
theorem iW.done {X v n:Nat}{c d:qN}(h:iW X v n 0 c d):val W32 d=X/v∧val W32 c=X%v:=by
 obtain⟨e,f,g,a,b⟩:=h
 rw[sE] at a b
 simp only[tX,sU] at a
 rw[←a,vO,uG,rF qO,qV,vH b,tF b]
 exact⟨qO,rfl⟩
theorem iW.start {x y s L n:Nat}{a:qN}(c:Dig W32 a)(m:a.length=L+1)(b:val W32 a=x*2^s)(d:x<W32^L)(f:W32^(n-1)≤y)(o:1≤n)(g:n≤L) :
 iW (x*2^s) (y*2^s) n (L-n+1) a (List.replicate (L-n+1) 0):=by
 refine⟨c,Dig.replicate zZ _,by simp;omega,?_,?_⟩
 ·rw[vA qS];simp[b]
 have e:=xS (B:=W32) (xs:=a) (L-n+1)
 rw[uU qO,b] at e
 have h:0<2^s:=uY qO
 have p:W32^(L-n+1)*val W32 (a.drop (L-n+1))≤x*2^s:=qO
 have i:x*2^s<W32^L*2^s:=tS d h
 have j:W32^L=W32^(L-n+1)*W32^(n-1):=by rw[←uW,show L-n+1+(n-1)=L by omega]
 rw[j,uH] at i
 have k:W32^(L-n+1)*val W32 (a.drop (L-n+1))<W32^(L-n+1)*(W32^(n-1)*2^s):=qO
 have l:=sN k
 exact uS l (uE _ f)
theorem lY {t:Nat}(a:t≤31):2^(32-t)*2^t=W32:=by
 rw[←uW,show 32-t+t=32 by omega,zW]
theorem Zkf {x t:Nat}(a:t≤31):x*2^t=x*2^t%W32+W32*(x/2^(32-t)):=by
 have h:=sH (x*2^t) W32
 have:x*2^t/W32=x/2^(32-t):=by
  rw[←lY a,qF _ _ (uY qO)]
 rw[this] at h
 exact h.symm
theorem ZoS {h x t:Nat}(a:h<2^t)(b:t≤31):h ||| x*2^t%W32=h+x*2^t%W32:=by
 have e:x*2^t%W32=(x%2^(32-t)) <<< t:=by
  rw[rL,← lY b,rG]
 rw[e,Nat.or_comm,← sM a,vO]
def eI (xs:List Nat) (skip t k:Nat) (zs:List Nat):Prop :=
 zs.length=xs.length+skip+1∧Dig W32 zs∧val W32 (zs.take (k+skip+1))=val W32 (xs.take k)*2^(32*skip+t)∧(zs[k+skip]?.getD 0)<2^t
theorem eI.start (xs:qN)(a t:Nat):eI xs a t 0 (List.replicate (xs.length+a+1) 0):=by
 refine⟨qS,Dig.replicate zZ _,?_,?_⟩
 ·rw[List.take_replicate,kS];simp
 have:((List.replicate (xs.length+a+1) 0)[0+a]?.getD 0)=0:=by
  rw[pI];split<;>rfl
 rw[this];exact uY qO
theorem eI.step {xs zs:qN}{a t k h x:Nat}(j:eI xs a t k zs)(g:t≤31)(l:k<xs.length)(i:zs[k+a]?.getD 0=h)(m:xs[k]?.getD 0=x)(b:x<W32) :
 eI xs a t (k+1) ((zs.set (k+a) (h+x*2^t%W32)).set (k+a+1) (x/2^(32-t)))∧h+x*2^t%W32<W32:=by
 obtain⟨n,o,p,q⟩:=j
 rw[i] at q
 have c:h+x*2^t%W32<W32:=by
  rw[←lY g,rG]
  have:x%2^(32-t)<2^(32-t):=uO _ (uY qO)
  have r:(x%2^(32-t)+1)*2^t≤2^(32-t)*2^t:=uE _ this
  rw[vC] at r
  omega
 have f:x/2^(32-t)<2^t:=by
  rw[vQ (uY qO),← uW,show t+(32-t)=32 by omega]
  rw[zW] at b;exact b
 have d:x/2^(32-t)<W32:=vN (vG _ _) b
 refine⟨⟨by simpa using n,(o.set _ c).set _ d,?_,?_⟩,c⟩
 ·rw[show k+1+a+1=(k+a+1)+1 by omega,xN _ _ _ _ (by simp;omega),xN _ _ _ _ qO,zU k l,m,vC,← p,zU (k+a) qO,i]
  have e:=Zkf (x:=x) g
  have s:W32^k*x*2^(32*a+t)=W32^(k+a)*(x*2^t):=by
   rw[uW 2,← bU,uW]
   simp only[uH,tL]
  rw[s]
  have u:=uX (W32^(k+a) * ·) e
  simp only[uK] at u
  rw[uK,uP,uH]
  omega
 have:((zs.set (k+a) (h+x*2^t%W32)).set (k+a+1) (x/2^(32-t)))[k+1+a]?.getD 0=x/2^(32-t):=by
  rw[show k+1+a=k+a+1 by omega,tW (by simp;omega)]
  rfl
 rw[this];exact f
theorem eI.done {xs zs:qN}{a t:Nat}(h:eI xs a t xs.length zs):val W32 zs=val W32 xs*2^(32*a+t):=by
 obtain⟨c,d,b,e⟩:=h
 rw[uA qO,uA qO] at b
 exact b
def iX (ys:List Nat) (t k:Nat) (zs:List Nat):Prop :=
 zs.length=ys.length∧Dig W32 zs∧2^t*val W32 (zs.take k)+(ys[0]?.getD 0)%2^t=val W32 (ys.take k)+W32^k*((ys[k]?.getD 0)%2^t)
theorem iX.start (ys:qN)(t:Nat):iX ys t 0 (List.replicate ys.length 0):=by
 refine⟨qS,Dig.replicate zZ _,?_⟩
 simp
theorem Znh {y t:Nat}(a:t≤31):y*2^(32-t)%W32=y%2^t*2^(32-t):=by
 rw[←lY a,uG (2^(32-t)),rG]
theorem Zi4 {x y t:Nat}(b:t≤31)(c:x<W32):x/2^t ||| y*2^(32-t)%W32=x/2^t+y%2^t*2^(32-t):=by
 have a:x/2^t<2^(32-t):=by
  rw[vQ (uY qO),lY b];exact c
 rw[Znh b,← rL,Nat.or_comm,← sM a,vO]
theorem iX.step {ys zs:qN}{t k x y:Nat}(h:iX ys t k zs)(a:t≤31)(i:k<ys.length)(f:ys[k]?.getD 0=x)(j:ys[k+1]?.getD 0=y)(b:x<W32) :
 iX ys t (k+1) (zs.set k (x/2^t+y%2^t*2^(32-t))):=by
 obtain⟨l,m,n⟩:=h
 have c:x/2^t+y%2^t*2^(32-t)<W32:=by
  have g:x/2^t<2^(32-t):=by
   rw[vQ (uY qO),lY a];exact b
  have d:y%2^t<2^t:=uO _ (uY qO)
  have e:(y%2^t+1)*2^(32-t)≤2^t*2^(32-t):=uE _ d
  rw[uG (2^t),lY a,vC] at e
  omega
 refine⟨by simpa using l,m.set k c,?_⟩
 rw[xN _ _ _ _ qO,zU k i,f,j]
 rw[f] at n
 have g:=tB x (2^t)
 have d:2^t*(y%2^t*2^(32-t))=W32*(y%2^t):=by
  rw[←lY a]
  simp only[uG,tL]
 have e:=uX (W32^k * ·) g
 simp only[uK] at e
 rw[uK,tL (2^t),uK (2^t),d,uK,uP,uH (W32^k) W32]
 omega
theorem iX.done {ys zs:qN}{t:Nat}(h:iX ys t ys.length zs):val W32 zs=val W32 ys/2^t:=by
 obtain⟨b,c,a⟩:=h
 rw[uA qO,uA qO,vL (uF _)] at a
 simp only[Option.getD_none,nL,tV,tE] at a
 rw[←a,rF (uY qO),tF (uO _ (uY qO)),tE]
theorem Zhn (xs:qN)(a t:Nat)(c:Dig W32 xs)(b:a≤xs.length):val W32 (xs.drop a)/2^t=val W32 xs/2^(32*a+t):=by
 rw[uW,← bU,← sS]
 congr 1
 rw[xS (xs:=xs) a,uU b,vO,rF (uY zZ)]
 have h:=xZ (c.take a)
 rw[uM,uU b] at h
 rw[tF h,tE]
theorem ZlY {xs:qN}{s:Nat}(a:Dig W32 xs)(h:xs.length≤s/32):val W32 xs/2^s=0:=by
 refine tF (uS (xZ a) ?_)
 rw[bU]
 exact vE qO qO
theorem Zkg {ys a:qN}{n yt s:Nat}(z:ys.length=n+1)(r:Dig W32 ys)(t:ys[n]?.getD 0=yt)(d:2147483648≤yt*2^s)(u:s≤31)(f:yt*2^s<W32)(p:Dig W32 a)(v:Trim a)(w:val W32 a=val W32 ys*2^s) :
 a.length=n+1∧W32≤2*(a[n]?.getD 0)∧W32^n≤val W32 ys:=by
 have x:0<2^s:=uY qO
 have j:0<yt:=by
  rcases uJ yt with e|e
  ·rw[e,sY] at d;omega
  exact e
 have A:val W32 ys=val W32 (ys.take n)+W32^n*yt:=by
  have:=zU (B:=W32) (xs:=ys) n qO
  rw[uA qO,t] at this
  exact this
 have g:=xZ (r.take n)
 rw[uM,uU qO] at g
 have k:(yt+1)*2^s≤W32:=by
  rw[←lY u] at f ⊢
  exact uE _ (rW f)
 have l:val W32 ys*2^s<W32^(n+1):=by
  have c:val W32 ys<W32^n*(yt+1):=by rw[uK];omega
  have i:=tS c x
  rw[uH] at i
  have q:W32^n*((yt+1)*2^s)≤W32^n*W32:=uI _ k
  rw[uP]
  omega
 have y:W32^n*2147483648≤val W32 ys*2^s:=by
  have c:W32^n*yt≤val W32 ys:=qO
  have i:=uE (2^s) c
  rw[uH] at i
  have q:W32^n*2147483648≤W32^n*(yt*2^s):=uI _ d
  omega
 have m:a.length≤n+1:=jB ZgG v (w ▸ l)
 have o:n+1≤a.length:=by
  rcases vM a.length (n+1) with h|h
  ·have c:=xZ p
   have i:W32^a.length≤W32^n:=vE zZ qO
   have q:W32^n*1≤W32^n*2147483648:=uI _ qO
   omega
  exact h
 refine⟨qO,?_,?_⟩
 ·have C:val W32 a=val W32 (a.take n)+W32^n*(a[n]?.getD 0):=by
   have:=zU (B:=W32) (xs:=a) n qO
   rw[uA qO] at this
   exact this
  have b:=xZ (p.take n)
  rw[uM,uU qO] at b
  have c:W32^n*2147483648<W32^n*((a[n]?.getD 0)+1):=by rw[uK];omega
  have i:=sN c
  rw[zW]
  omega
 have:W32^n*1≤W32^n*yt:=uI _ j
 omega
def jN (U V top v1 h r:Nat):Prop:=top=h*v1+r∧U<(h+1)*V
def Lead (U V top u3 v1 v2:Nat):Prop :=
 ∃ R u' v',0<R∧u'<R∧v'<R∧U=(top*W32+u3)*R+u'∧V=(v1*W32+v2)*R+v'∧U<V*W32∧0<v1∧u3<W32∧v2<W32
theorem jN.start {U V a u3 v1 v2:Nat}(b:Lead U V a u3 v1 v2):jN U V a v1 (a/v1) (a%v1):=by
 obtain⟨R,j,k,l,c,m,d,e,f,g,n,o⟩:=b
 refine⟨by have:=tB a v1;rw[uG] at this;exact this.symm,?_⟩
 rw[d,e]
 refine Zdk _ _ _ _ _ _ c ?_
 have h:=Zbp a g
 have i:(a+1)*W32≤(a/v1+1)*v1*W32:=uE _ h
 rw[vC a] at i
 rw[uK (a/v1+1),← uH]
 omega
theorem jN.big {U V a u3 v1 v2 h r:Nat}(b:jN U V a v1 h r)(c:Lead U V a u3 v1 v2)(d:W32≤h):0<h∧jN U V a v1 (h-1) (r+v1):=by
 obtain⟨R,i,j,k,l,m,n,o,e,p,q,s⟩:=c
 obtain⟨f,t⟩:=b
 have u:=zZ
 obtain⟨g,rfl⟩:∃ g,h=g+1:=⟨h-1,qO⟩
 refine⟨qO,?_,?_⟩
 ·rw[f,tN,vC];omega
 rw[tN]
 have:V*W32≤V*(g+1):=uI _ d
 rw[uG (g+1)]
 omega
theorem jN.more {U V a u3 v1 v2 h r:Nat}(c:jN U V a v1 h r)(d:Lead U V a u3 v1 v2)(f:r*W32+u3<h*v2):0<h∧jN U V a v1 (h-1) (r+v1):=by
 obtain⟨R,n,o,p,i,q,j,k,l,s,t,u⟩:=d
 obtain⟨b,v⟩:=c
 have m:0<h:=by
  rcases uJ h with e|e
  ·rw[e,sY] at f;omega
  exact e
 obtain⟨g,rfl⟩:∃ g,h=g+1:=⟨h-1,qO⟩
 refine⟨m,?_,?_⟩
 ·rw[b,tN,vC];omega
 rw[tN,j,k]
 refine Zdk _ _ _ _ _ _ i ?_
 rw[b,uK (g+1),← uH,vC ((g+1)*v1)]
 omega
theorem Lead.top_lt {U V a u3 v1 v2:Nat}(c:Lead U V a u3 v1 v2):a<v1*W32+W32:=by
 obtain⟨R,i,d,j,k,l,e,f,b,m,n,o⟩:=c
 rw[e,f] at b
 have p:(a*W32)*R≤(a*W32+u3)*R:=uE _ qO
 have g:((v1*W32+v2)*R+d)*W32≤((v1*W32+v2)*R+R)*W32:=uE _ qO
 have h:((v1*W32+v2)*R+R)*W32=((v1*W32+v2+1)*W32)*R:=by
  rw[vC (v1*W32+v2) 1 W32,vC,pJ,vC _ W32 R,uG R W32,uH,uG R W32,← uH]
 rw[h] at g
 have e4:a*W32*R<(v1*W32+v2+1)*W32*R:=qO
 have q:=rW (rW e4)
 omega
theorem jN.done {U V a u3 v1 v2 h r:Nat}(b:jN U V a v1 h r)(c:Lead U V a u3 v1 v2)(d:h<W32)(m:h*v2≤r*W32+u3):fR U V h:=by
 obtain⟨R,n,o,p,q,e,f,g,i,j,s,t⟩:=c
 obtain⟨k,l⟩:=b
 refine⟨?_,l⟩
 rw[f,g]
 refine ZmF _ _ _ _ _ _ W32 e d (uE _ ?_) ?_
 ·have:1*W32≤v1*W32:=uE _ j
  omega
 rw[k,uK h,← uH,vC (h*v1)]
 omega
theorem jN.broke {U V a u3 v1 v2 h r:Nat}(c:jN U V a v1 h r)(b:Lead U V a u3 v1 v2)(f:W32≤r):h<W32∧fR U V h:=by
 have g:=b.top_lt
 have d:v2<W32:=by obtain⟨_,_,_,_,_,_,_,_,_,_,_,d⟩:=b;exact d
 have i:=c.1
 have e:h<W32:=by
  have:h*v1<v1*W32:=qO
  rw[uG v1] at this
  exact rW this
 refine⟨e,c.done b e ?_⟩
 have j:h*v2≤W32*W32:=sI qO qO
 have k:W32*W32≤r*W32:=uE _ f
 omega
theorem ZqA {a b:qN}{n u1 u2 u3 v1 v2:Nat}(i:b.length=n+2)(j:a.length=n+3)(c:Dig W32 b)(d:Dig W32 a)(k:a[n+2]?.getD 0=u1)(l:a[n+1]?.getD 0=u2)(e:a[n]?.getD 0=u3)(m:b[n+1]?.getD 0=v1)(f:b[n]?.getD 0=v2)(o:val W32 a<val W32 b*W32)(p:W32≤2*v1) :
 Lead (val W32 a) (val W32 b) (u1*W32+u2) u3 v1 v2:=by
 have g:=xZ (d.take n)
 have h:=xZ (c.take n)
 rw[uM,uU qO] at g h
 have q:=zZ
 refine⟨W32^n,val W32 (a.take n),val W32 (b.take n),uY zZ,g,h,?_,?_,o,qO,e ▸ d.getD zZ _,f ▸ c.getD zZ _⟩
 ·rw[top3 j,k,l,e,vO]
  congr 1
  rw[uG]
  congr 1
  rw[vO,uG W32,uG W32,vO u2]
 rw[top2 i,m,f,vO]
 congr 1
 rw[uG]
 congr 1
 rw[vO,uG W32]
def Zbv (w0 vs:List Nat) (h i:Nat) (m:List Nat) (c bw:Nat):Prop :=
 m.length=w0.length∧Dig W32 m∧c<W32∧bw≤1∧m.drop i=w0.drop i∧val W32 (m.take i)+val W32 (vs.take i)*h=val W32 (w0.take i)+W32^i*(c+bw)
theorem Zbv.start {a b:qN}{h:Nat}(c:Dig W32 a):Zbv a b h 0 a 0 0:=⟨rfl,c,zZ,qO,rfl,qS⟩
theorem ZkP {xs ys:qN}{i:Nat}(h:xs.drop i=ys.drop i):xs[i]?.getD 0=ys[i]?.getD 0:=by
 have:=uX (fun l=>l[0]?.getD 0) h
 simpa [vJ] using this
theorem Zho {xs ys:qN}{i v:Nat}(h:xs.drop i=ys.drop i):(xs.set i v).drop (i+1)=ys.drop (i+1):=by
 rw[tJ qO,← vV (i:=1) (j:=i) (l:=xs),← vV (i:=1) (j:=i) (l:=ys),h]
theorem Zi5 {h x c:Nat}(a:h<W32)(b:x<W32)(d:c<W32):h*x+c<W32*W32:=by
 have e:h*x≤(W32-1)*(W32-1):=sI qO qO
 rw[zW] at *
 omega
theorem Zbv.step {b a m:qN}{h i c d z x:Nat}(l:Zbv b a h i m c d)(hi:i<b.length)(e:i<a.length)(n:h<W32)(f:m[i]?.getD 0=z)(g:a[i]?.getD 0=x)(o:Dig W32 a) :
 Zbv b a h (i+1) (m.set i (d32 z ((h*x+c)%W32) d%W32)) ((h*x+c)/W32) (d32 z ((h*x+c)%W32) d/W32%2):=by
 obtain⟨p,j,q,r,k,s⟩:=l
 have t:x<W32:=g ▸ o.getD zZ i
 have u:z<W32:=f ▸ j.getD zZ i
 have v:=Ze7 (y:=(h*x+c)%W32) u (uO _ zZ) r
 refine⟨by simpa using p,j.set _ (uO _ zZ),sW (Zi5 n t q),qO,Zho k,?_⟩
 rw[xN _ _ _ _ qO,zU i hi,zU i e,g,← ZkP k,f,uP]
 refine Zg2 _ _ _ _ _ _ _ _ _ _ _ s ?_
 have w:=sH (h*x+c) W32
 rw[uG x h,uK W32]
 omega
def Zbw (w0 vs:List Nat) (i:Nat) (m:List Nat) (c:Nat):Prop :=
 m.length=w0.length∧Dig W32 m∧c≤1∧m.drop i=w0.drop i∧val W32 (m.take i)+W32^i*c=val W32 (w0.take i)+val W32 (vs.take i)
theorem Zbw.start {a b:qN}(c:Dig W32 a):Zbw a b 0 a 0:=⟨rfl,c,qO,rfl,qS⟩
theorem Zbw.step {b a m:qN}{i c z x:Nat}(j:Zbw b a i m c)(hi:i<b.length)(d:i<a.length)(e:m[i]?.getD 0=z)(f:a[i]?.getD 0=x)(k:Dig W32 a) :
 Zbw b a (i+1) (m.set i ((c+(z+x))%W32)) ((c+(z+x))/W32):=by
 obtain⟨l,g,n,h,o⟩:=j
 have p:x<W32:=f ▸ k.getD zZ i
 have q:z<W32:=e ▸ g.getD zZ i
 have r:(c+(z+x))/W32≤1:=by have:=Za9 q p n;rwa [sD] at this
 refine⟨by simpa using l,g.set _ (uO _ zZ),r,Zho h,?_⟩
 rw[xN _ _ _ _ qO,zU i hi,zU i d,f,← ZkP h,e,uP]
 exact ZaZ _ _ _ _ _ _ _ _ _ _ o (by have:=sH (c+(z+x)) W32;omega)
theorem zH.cell0 {k:Go.IntKind}{w:Go.World}{b off:Nat}{xs:qN}(h:zH k w (some ⟨b,off,none⟩) xs){i:Nat}(hi:i<xs.length):w.cell? ⟨b,off+i,none⟩=some (.int k ((xs[i]?.getD 0:Nat):Int)):=by
 obtain⟨c,d,e,_,a⟩:=h.at hi
 injection e with e
 injection e with e1 e2
 subst e1 e2
 exact a
theorem ZrQ (p:Nat)(h:p<W64):Go.bits .and .u64 (p:Int) 4294967295=((p%W32:Nat):Int):=by
 rw[zR] at h
 have:=Go.bits_and_u64_nat p 4294967295 h qO
 rw[show (4294967295:Nat)=2^32-1 from rfl,Nat.and_two_pow_sub_one_eq_mod] at this
 rw[zW]
 exact this
theorem ZkQ {z l:Nat}(a:z<W32)(b:l<W32):Go.IntKind.u64.wrap ((z:Int)-(l:Int))=((d32 z l 0:Nat):Int):=by
 unfold d32;rw[Go.IntKind.wrap_u64,zR];rw[zW] at a b;omega
theorem ZkR {z l a:Nat}(b:z<W32)(c:l<W32)(d:a≤1):Go.IntKind.u64.wrap (((d32 z l 0:Nat):Int)-(a:Int))=((d32 z l a:Nat):Int):=by
 unfold d32;rw[Go.IntKind.wrap_u64,zR];rw[zW] at b c;omega
theorem ZqB {t c a:Nat}(b:t<W32)(d:c<W32)(e:a≤1):d32 t c a/9223372036854775808=(if t<c+a then 1 else 0):=by
 unfold d32
 rw[zW] at *
 rw[zR]
 split<;>omega
theorem ZoT {t c a:Nat}(h:t=c+a):d32 t c a%W32=0:=by
 unfold d32
 rw[zW,zR]
 omega
theorem ZqC {t c a b:Nat}(h:b+t=c+a)(_:c<W32)(_:a≤1)(d:b≤1)(e:t<c+a):(d32 t c a%W32+b)%W32=0:=by
 unfold d32
 rw[zW] at *
 rw[zR]
 omega
theorem Own.mid32 {k0:Go.IntKind}{t:Go.TypeId}{w:Go.World}{b:Nat}{a mid c:qN}(h:Own k0 t w b (a ++ mid ++ c)){k:Nat}(d:k<mid.length):w.cell? ⟨b,a.length+k,none⟩=some (.int k0 ((mid[k]?.getD 0:Nat):Int)):=by
 rw[h.cell (by simp;omega),ZkA _ _ _ _ d]
theorem Own.set_mid32 {k0:Go.IntKind}{t:Go.TypeId}{w:Go.World}{b:Nat}{a mid c:qN}(h:Own k0 t w b (a ++ mid ++ c)){k:Nat}(d:k<mid.length)(v:Nat):Own k0 t (w.setCell ⟨b,a.length+k,none⟩ (.int k0 (v:Int))) b (a ++ mid.set k v ++ c):=by
 have:=h.set (a.length+k) v (by simp;omega)
 rwa [Go.Proofs.YtdlgidnkmbklcaaGreatDoor.set_mid _ _ _ _ _ d] at this
theorem ZeK {zs ts rest:qN}{k v:Nat}(a:k<ts.length)(d:zs.length=ts.length):(zs.take k ++ ts.drop k ++ rest).set k v=(zs.set k v).take (k+1) ++ ts.drop (k+1) ++ rest:=by
 have b:(zs.take k).length=k:=by simp;omega
 rw[vU,pB _ _ qO,b,qM,tR a,nI,List.set_cons_zero,vY (by simp;omega)]
 have c:(zs.set k v).take k=zs.take k:=by rw[rP qO]
 simp[c]
theorem ZeL {zs ts rest:qN}{k i:Nat}(b:k≤i)(hi:i<ts.length)(c:zs.length=ts.length):(zs.take k ++ ts.drop k ++ rest)[i]?.getD 0=ts[i]?.getD 0:=by
 have a:(zs.take k).length=k:=by simp;omega
 rw[vU,sJ qO,a,rN (by simp;omega),vJ,show k+(i-k)=i by omega]
end Go.Proofs.YtdlgidnkmbklcaaGreatDoor
namespace Go.Proofs.YtdlgidnkmbklcaaGreatDoor
open Go.RowKit Tryz
theorem Zi6 {a b:Nat}(ha:a<W32)(c:b<W32):bits .or .u32 (a:Int) (b:Int)=((a ||| b:Nat):Int):=by
 rw[zW] at ha c
 have f:a ||| b<2^32:=Nat.or_lt_two_pow qO qO
 have d:(BitVec.ofInt 32 (a:Int)).toNat=a:=by
  rw[pR,oQ];exact vH qO
 have e:(BitVec.ofInt 32 (b:Int)).toNat=b:=by
  rw[pR,oQ];exact vH qO
 show IntKind.u32.wrap ((BitVec.ofInt 32 (a:Int) ||| BitVec.ofInt 32 (b:Int)).toNat:Int)=_
 rw[BitVec.toNat_or,d,e,IntKind.wrap_u32]
 omega
theorem Zhp {x s:Nat}(a:x<W32)(b:s≤32):IntKind.u64.wrap ((x:Int)*2^s)=((x*2^s:Nat):Int):=by
 rw[aZ,vH]
 have c:2^s≤W32:=by rw[zW];exact uD (vE qO b) qD
 rw[←bE]
 exact uS (tS a (uY qO)) (uI _ c)
theorem ZrR {x s:Nat}(a:s≤31):x*2^s/W32=x/2^(32-s):=by
 rw[←lY a,qF _ _ (uY qO)]
def ZoU (w:World) (l:Nat) (v:Nat) (e:Ending) (w':World):Prop :=
 ∃ us:List Nat,e=.returned (.slice (some ⟨w.heap.size,0,none⟩) l l)∧us.length=l∧Own .u32 166 w' w.heap.size us∧Dig W32 us∧val W32 us=v∧Ext w w'
theorem ZdI (A:qA)(xs:qN)(n c s:Nat)(w:World)(hn:xs.length=n)(T:zH .u32 w A xs)(hl:xs.length≤35184372088832)(U:Dig W32 xs)(L:s≤31) :
 yA 172 #[.slice A n c,.int .u64 (s:Int)] w (ZoU w (n+1) (val W32 xs*2^s)):=by
 subst hn
 have HX:=zh T
 have Hd:=zh U
 clear T U
 go_enter func172,ntmps172
 go_wp2_with (
  at_make
  refine wV rfl _ _ _ rfl _ _ _ underlying39 dN _ _ _ _ (xs.length+1) rfl rfl qO qO qO qO ?_
  intro b w1 V z _ B M
  have N:=zh z
  have O:=zh B
  have J:=zh V
  clear z B V M)
 go_loopw [6,7] (fun i _ wr=>∃ (k:Nat) (o:List Nat),k≤xs.length∧i=.int .i64 (k:Int)∧Hid (eI xs 0 s k o)∧Hid (Own .u32 166 wr b o)∧Hid (Ext w wr)) (fun i _ _=>xs.length-(intOf i).toNat)
 case atStart=>exact⟨0,_,qO,rfl,eI.start xs 0 s,N.out,O.out⟩
 case round =>
  obtain⟨k,o,a0,rfl,q,f,r⟩:=hrel
  by_cases C:k<xs.length
  ·obtain⟨b2,W,rfl,_,P⟩:=(HX.out.ext r.out).at C
   obtain⟨x,K⟩:=yE (xs[k]?.getD 0)
   obtain⟨h,y⟩:=yE (o[k+0]?.getD 0)
   rw[K] at P
   have j:Hid (x<W32):=K ▸ Hd.out.getD zZ k
   obtain⟨D,E⟩:=q.out.step L C y K j.out
   have e:=zh D
   have F:o.length=xs.length+0+1:=q.out.1
   simp only[tE] at y F e
   have Q:=f.out.cell (i:=k) qO
   have b0:=f.out.frozen k
   rw[y] at Q
   have l:=f.out.set k (h+x*2^s%W32) qO
   have t:=l.cell (i:=k+1) (by simp;omega)
   have G:=l.frozen (k+1)
   obtain⟨g,X⟩:=yE ((o.set k (h+x*2^s%W32))[k+1]?.getD 0)
   rw[X] at t
   have m:=zh (l.set (k+1) (x/2^(32-s)) (by simp;omega))
   have q0:=wK x (by have:=zR;have:=zW;have:=j.out;omega)
   have q1:=Zhp j.out (by omega:s≤32)
   have Y:=jK (x*2^s)
   have R:=Zi6 (a:=h) (b:=x*2^s%W32) (y ▸ q.out.2.1.getD zZ _) (uO _ zZ)
   have u:=q.out.2.2.2
   simp only[tE] at u
   rw[ZoS (y ▸ u) L] at R
   have S:=hi32 (x*2^s)
   rw[ZrR L] at S
   have Z:=jK (x/2^(32-s))
   rw[vH (vN (vG _ _) j.out)] at Z
   obtain⟨lo,H⟩:=yE (x*2^s%W32)
   obtain⟨v,ev⟩:=yE (x*2^s)
   obtain⟨hi,I⟩:=yE (x/2^(32-s))
   rw[H] at Y R t G e m
   rw[ev] at q1 Y S
   rw[I] at S Z e m
   obtain⟨d,ed⟩:=yE (h+lo)
   rw[ed] at R t G e m
   clear K y D E F l X H I ed ev u
   go_wp2
   go_roundw
   case rel=>exact⟨k+1,_,qO,by go_num,e,m.out,(r.out.setCell (p:=⟨b,k,none⟩) (Or.inr (by have:=J.out;show w.heap.size≤b;omega)) _).setCell (p:=⟨b,k+1,none⟩) (Or.inr (by have:=J.out;show w.heap.size≤b;omega)) _⟩
   case measure=>simp[intOf];omega
  obtain rfl:k=xs.length:=qO
  have hz:=zh q.out.1
  have hv:=zh q.out.done
  go_wp2
  go_ret
  exact⟨o,by rw[J.out];rfl,by have:=hz.out;omega,by rw[J.out];exact f.out,q.out.2.1,by rw[hv.out];simp,r.out⟩
def ZcJ (w:World) (q r:Nat) (e:Ending) (w':World):Prop:=∃ u v,e=.returned (.tuple #[u,v])∧zY w' u q∧zY w' v r∧Ext w w'
theorem Zhq {a b:Nat}:cmpI a b<0↔a<b:=by
 unfold cmpI
 split
 ·omega
 split<;>omega
theorem Zni (l j:Value)(x y:Nat)(w:World)(F:zY w l x)(o:zY w j y)(p:ml x≤17592186044416)(G:ml y≤17592186044416)(q:x<y) :
 yA 119 #[l,j] w (ZcJ w 0 x):=by
 have r:=zh (cI l j x y w F o p G)
 rw[iJ qO] at r
 obtain⟨A,s,c,rfl,K,H,t,u,v⟩:=F
 obtain⟨z,I,c2,rfl⟩:∃ z I c2,j=.slice z I c2:=by obtain⟨z,Q,c2,h,_⟩:=o;exact⟨_,_,_,h⟩
 rw[←v,← kO t u] at p
 have L:=zh H
 have M:=zh t
 have N:=zh u
 have O:=zh v
 obtain⟨n,k⟩:=yE s.length
 rw[k] at p r
 rw[k]
 have J:=zh k
 clear H t u v q K o G k
 go_enter func119,ntmps119
 go_wp2_with (first
  | (go_at_call 171;refine r.out.mono ?_;rintro e w' ⟨rfl,m,rfl⟩)
  | (
   at_builtin
   refine lA rfl _ _ _ rfl _ .u32 4 underlying39 dN (some ⟨w.heap.size,0,none⟩) A 0 n 0 c rfl rfl [] s rfl J.out ?_ ((L.out.drewN _).alloc _) (by simp only[maxLen];omega) qO ?_
   ·exact Or.inr ⟨_,rfl,Own.new (w.drewN m) _ _ [] [],⟨#[],heap_alloc_new (w.drewN m) _,rfl⟩,uF _,by simp only[maxLen];omega⟩
   intro P b R d f B
   have g:=zh d
   have C:=zh f
   clear d f B))
 go_ret2
 refine⟨_,_,rfl,zY.zero _,⟨P,s,b,?_,?_,?_,M.out,N.out,O.out⟩,?_⟩
 ·rw[J.out];simp
 ·have:=g.out.len;simpa using this
 ·have:=g.out.shows;simpa using this
 refine (((Fr.refl (fun _=>False) w).drewN m).alloc _).next C.out (fun i hi D=>?_)
 obtain⟨a,E,D⟩:=D
 injection E with E
 subst E
 simp at D;omega
theorem zY.one {w:World}{b r:Nat}(h:Own .u32 166 w b [r])(a:r<W32):zY w (.slice (some ⟨b,0,none⟩) (wO [r] 1) 1) r:=by
 have:=zY.of_own (c:=1) h (Dig.cons a Dig.nil) qS
 simpa using this
theorem ZlZ (p q:Value)(x y:Nat)(w:World)(s:zY w p x)(D:zY w q y)(E:ml x≤17592186044416)(t:ml y=1)(g:y≤x) :
 yA 119 #[p,q] w (ZcJ w (x/y) (x%y)):=by
 have F:=zh (cI p q x y w s D E qO)
 obtain⟨u,a⟩:=yE (cmpI x y)
 have N:0≤u:=by
  rcases oW u 0 with h|h
  ·rw[←a] at h;have:=Zhq.1 h;omega
  exact h
 rw[a] at F
 obtain⟨R,S,T,rfl,v,k1,z,A,rfl⟩:=D
 rw[←kO z A] at t
 obtain⟨y,rfl⟩:=oV.1 t
 have j:val W32 [y]=y:=qS
 rw[j] at g ⊢
 have d:0<y:=by have:=A 0 qS;simp at this;omega
 have f:y<W32:=z.head
 obtain⟨b,o,rfl,_,k⟩:=k1.at (i:=0) qS
 have G:w.cell? ⟨b,o,none⟩=some (.int .u32 (y:Int)):=by simpa using k
 have H:=fun w' (O:Ext w w')=>zh (ZdA p x y w' (s.ext O) E d f)
 have B:=zh H
 have n:Hid (x%y<W32):=qL (uO _ d) f
 obtain⟨r,C⟩:=yE (x%y)
 have I:=zh C
 rw[C] at n
 have J:decide (u<0)=false:=by rw[vF];omega
 clear k1 z A v a g k H t j d f s C
 go_enter func119,ntmps119
 go_wp2_with (first
  | (go_at_call 171;refine F.out.mono ?_;rintro e w' ⟨rfl,m,rfl⟩)
  | (go_at_call 93;refine (B.out _ ((Fr.refl _ _).drewN _)).out.mono ?_;rintro e K ⟨l,c,rfl,L,M⟩;have P:=zh L;have Q:=zh M;clear L M;rw[I.out])
  | (go_at_call 75;refine (kD _ [r] 1 1 _ rfl (Own.new K _ _ [r] []).shows0 qS qS).mono ?_;rintro e U ⟨rfl,rfl⟩))
 go_ret2
 exact⟨_,_,rfl,P.out.ext ((Fr.refl _ _).alloc _),by rw[I.out];exact zY.one (Own.new K _ _ [r] []) n.out,(((Fr.refl _ _).drewN _).ext Q.out).alloc _⟩
theorem ZkS {x s:Nat}(h:x*2^s<W32):IntKind.u32.wrap ((x:Int)*2^s)=((x*2^s:Nat):Int):=by
 have a:((2:Int)^s)=((2^s:Nat):Int):=by rw[tM];rfl
 rw[a,← tU,IntKind.wrap_u32]
 rw[zW] at h
 omega
theorem ZoV {x s:Nat}(h:x*2^s<W32):((x:Int)*2^s)%4294967296=((x*2^s:Nat):Int):=by
 have:=ZkS h
 rw[IntKind.wrap_u32] at this
 exact this
theorem Znj {y s:Nat}(b:0<y)(h:y*2^s<W32):s≤31:=by
 rcases vM s 32 with a|a
 ·omega
 have c:2^32≤2^s:=vE qO a
 have d:1*2^s≤y*2^s:=uE _ b
 rw[zW] at h
 omega
theorem Zkh (A A2:qA)(xs ys:qN)(c c2 kk:Nat)(w:World)(hX:zH .u32 w A xs)(hY:zH .u32 w A2 ys)(_:xs.length≤c)(y2:ys.length≤c2)(hl:xs.length≤17592186044416)(hk:ys.length=kk+2)(dx:Dig W32 xs)(dy:Dig W32 ys)(tx:Trim xs)(ty:Trim ys)(z2:val W32 ys≤val W32 xs) :
 yA 119 #[.slice A xs.length c,.slice A2 ys.length c2] w (ZcJ w (val W32 xs/val W32 ys) (val W32 xs%val W32 ys)):=by
 have o3:kk+2≤xs.length:=by
  have:=iM z2
  rw[←kO dx tx,← kO dy ty] at this
  omega
 have HC:=zh (ZeJ A A2 xs ys _ _ c c2 w rfl rfl hX hY qO qO dx dy tx ty)
 obtain⟨cr,B2⟩:=yE (cmpI (val W32 xs) (val W32 ys))
 have A5:0≤cr:=by
  rcases oW cr 0 with h|h
  ·rw[←B2] at h;have:=Zhq.1 h;omega
  exact h
 rw[B2] at HC
 clear B2
 obtain⟨bY,oY,rfl,_,T⟩:=hY.at (i:=kk+1) qO
 obtain⟨yt,y1⟩:=yE (ys[kk+1]?.getD 0)
 rw[y1] at T
 have S1:Hid (0<yt):=by have:=ty (kk+1) qO;unfold Hid;omega
 have T1:Hid (yt<W32):=y1 ▸ dy.getD zZ _
 have HX:=zh hX
 have HY:=zh hY
 have p3:=zh dx
 have s3:=zh dy
 have t3:=zh y1
 clear hX hY dx dy tx ty z2 y1
 obtain⟨n,hn⟩:=yE ys.length
 rw[hn] at HC hk y2
 rw[hn]
 have HN:=zh hn
 subst hk
 clear hn
 have v3:(((kk:Int)+2) == 1)=false:=by simp;omega
 have x3:decide (cr<0)=false:=by rw[vF];omega
 go_enter func119,ntmps119
 go_wp2_with (go_at_call 171;refine HC.out.mono ?_;rintro e w' ⟨rfl,m0,rfl⟩)
 go_loop [8] (fun sv=>∃ s:Nat,s≤31∧sv=.int .u64 (s:Int)∧Hid (yt*2^s<W32)) (fun sv=>32-(intOf sv).toNat)
 case atStart=>exact⟨0,qO,rfl,by have:=T1.out;unfold Hid;simpa using this⟩
 case round =>
  obtain⟨s,hs,rfl,z1⟩:=hrel
  have q1:=ZkS z1.out
  have J0:=ZoV z1.out
  obtain⟨p,ep⟩:=yE (yt*2^s)
  rw[ep] at q1 J0
  by_cases hp:p<2147483648
  ·have t1:decide ((p:Int)<2147483648)=true:=by rw[vZ];omega
   have y3:decide (p<2147483648)=true:=by rw[vZ];omega
   have z3:Hid (yt*2^(s+1)<W32):=by unfold Hid;rw[uP,← uH,ep,zW];omega
   have B5:=Znj S1.out z3.out
   clear ep hp
   go_wp2
   go_round
   case rel=>exact⟨s+1,qO,by go_num,z3⟩
   case measure=>simp[intOf];omega
  have t1:decide ((p:Int)<2147483648)=false:=by rw[vF];omega
  have y3:decide (p<2147483648)=false:=by rw[vF];omega
  have HP:Hid (2147483648≤yt*2^s):=by unfold Hid;omega
  clear ep hp
  have A3:=zh (ZdI _ ys (kk+2) c2 s (w.drewN m0) HN.out (HY.out.drewN _) (by have:=HN.out;omega) s3.out hs)
  clear HC
  go_wp2_with fail
  clear q1 J0 t1 y3 T
  refine A3.out.mono ?_
  rintro e wD ⟨H4,rfl,U1,C2,K0,B3,C3⟩
  have NV:=zY.of_own (c:=kk+2+1) C2 K0 qO
  obtain⟨AV,vs,cV,eV,I4,D3,D2,E3,A1⟩:=NV
  injection eV with eV1 eV2 eV3
  rw[B3] at A1
  obtain⟨n1,n2,n3⟩:=Zkg (n:=kk+1) HN.out s3.out t3.out HP.out hs z1.out D2 E3 A1
  replace n1:vs.length=kk+2:=n1
  have HT:=zh (kD (some ⟨(w.drewN m0).heap.size,0,none⟩) H4 (kk+2+1) (kk+2+1) wD U1 C2.shows0 qO qO)
  rw[eV2,n1] at HT
  obtain⟨Vb,E2⟩:=yE ((w.drewN m0).heap.size)
  rw[E2] at HT eV1 ⊢
  have C5:=zh E2
  subst eV1
  have L0:=zh D3
  have W:=zh D2
  have F2:Hid (Ext w wD):=((Fr.refl _ _).drewN _).ext C3
  have M0:=zh A1
  have H:=zh n1
  have J4:=zh n2
  have F3:=zh n3
  clear A3 U1 C2 K0 B3 C3 I4 D3 D2 E3 A1 n1 n2 n3 eV2 eV3 E2 HP z1 T1 S1 t3
  go_wp2_with fail
  refine HT.out.mono ?_
  rintro e w' ⟨rfl,rfl⟩
  clear HT
  have M:=zh (ZdI A xs xs.length c s wD rfl (HX.out.ext F2.out) qO p3.out hs)
  go_wp2_with fail
  refine M.out.mono ?_
  rintro e w2 ⟨us,rfl,G3,Y,H3,N0,I3⟩
  obtain⟨R,eR⟩:=yE wD.heap.size
  rw[eR] at Y ⊢
  have HR:=zh eR
  have G2:=zh Y
  have J3:=zh I3
  have K3:=zh H3
  have L3:=zh N0
  have H2:=zh G3
  clear G3 Y H3 N0 I3 eR M
  go_wp2_with (
   at_make
   refine wV rfl _ _ _ rfl _ _ _ underlying39 dN _ _ _ _ (xs.length-(kk+2)+1) rfl rfl qO qO qO qO ?_
   intro Qb w4 hQ M3 _ N3 K4
   have I:=zh M3
   have I2:=zh N3
   have HQ:=zh hQ
   clear M3 N3 hQ K4)
  have u:Hid (R<Qb):=by
   have F:=G2.out.lt
   have h2:=HQ.out
   unfold Hid;omega
  have hV:Hid (val W32 vs≤W32^(kk+2)):=by
   have:=xZ W.out
   rw[H.out] at this
   exact qZ this
  have B1:Hid (0<val W32 vs):=by
   rw[M0.out]
   have F:=F3.out
   have h2:=uY (n:=kk+1) zZ
   exact rC qO (uY qO)
  obtain⟨X,eX⟩:=yE (val W32 xs*2^s)
  have C1:=zh eX
  have J2:Hid (iW X (val W32 vs) (kk+2) (xs.length-(kk+2)+1) us (List.replicate (xs.length-(kk+2)+1) 0)):=by
   unfold Hid
   rw[←C1.out,M0.out]
   exact iW.start (L:=xs.length) K3.out H2.out L3.out (xZ p3.out) (by simpa using F3.out) qO o3
  have O3:Hid (Ext wD w4):=J3.out.ext I2.out
  have D1:Hid (Vb<R):=by
   have F:Vb<wD.heap.size:=by
    obtain⟨b',o',e',D5,_⟩:=L0.out.at (i:=0) (by rw[H.out];omega)
    injection e' with e'
    injection e' with e1 e2
    omega
   have h2:=HR.out
   unfold Hid;omega
  have V1:=zh (G2.out.ext I2.out)
  clear G2 J3 I2 K3 L3 eX v3 x3
  obtain⟨V,eV⟩:=yE (val W32 vs)
  have HV:=zh eV
  rw[eV] at hV B1 J2
  clear eV
  go_loopw [14] (fun i wr=>∃ (k:Nat) (rs qs:List Nat),k≤xs.length-(kk+2)+1∧i=.int .i64 ((k:Int)-1)∧Hid (iW X V (kk+2) k rs qs)∧Hid (rs.length=xs.length+1)∧Hid (Own .u32 166 wr R rs)∧Hid (Own .u32 166 wr Qb qs)∧Hid (Ext wD wr)) (fun i _=>(intOf i+1).toNat)
  case atStart=>exact⟨xs.length-(kk+2)+1,us,_,uF _,by go_num,J2,H2,V1.out,I.out,O3.out⟩
  case round =>
   clear J2 I O3 V1 H2
   obtain⟨k,rs,qs,hk,rfl,Z,y0,A0,Y,l0⟩:=hrel
   by_cases L4:0<k
   ·obtain⟨j,rfl⟩:∃ j,k=j+1:=⟨k-1,qO⟩
    have ej:(((j+1:Nat):Int)-1)=(j:Int):=qO
    rw[ej]
    clear ej
    obtain⟨wo,rfl⟩:∃ wo:World,wo=wr:=⟨_,rfl⟩
    have E5:j+(kk+2)<xs.length+1:=qO
    have C:=y0.out
    obtain⟨q1,q2,q3⟩:=Z.out.window hV.out qO
    have P3:((rs.drop j).take (kk+3)).length=kk+3:=by simp;omega
    obtain⟨u1,E1⟩:=yE (rs[j+(kk+2)]?.getD 0)
    obtain⟨u2,F1⟩:=yE (rs[j+(kk+1)]?.getD 0)
    obtain⟨u3,G1⟩:=yE (rs[j+kk]?.getD 0)
    obtain⟨v1,O0⟩:=yE (vs[kk+1]?.getD 0)
    obtain⟨v2,H1⟩:=yE (vs[kk]?.getD 0)
    have K2:=J4.out
    rw[O0] at K2
    have HL:=ZqA (n:=kk) (u1:=u1) (u2:=u2) (u3:=u3) (v1:=v1) (v2:=v2) H.out P3 W.out ((Z.out.1.drop j).take _) (by rw[tP qO,vJ];exact E1) (by rw[tP qO,vJ];exact F1) (by rw[tP qO,vJ];exact G1) O0 H1 (by rw[←q1,HV.out];exact q2) K2
    rw[←q1,HV.out] at HL
    have N:=zh HL
    have L2:Hid (u1<W32):=E1 ▸ Z.out.1.getD zZ _
    have M2:Hid (u2<W32):=F1 ▸ Z.out.1.getD zZ _
    have N2:Hid (u3<W32):=G1 ▸ Z.out.1.getD zZ _
    have O2:Hid (v1<W32):=O0 ▸ W.out.getD zZ _
    have N0:Hid (v2<W32):=H1 ▸ W.out.getD zZ _
    have P0:Hid (0<v1):=by have:=zZ;unfold Hid;omega
    have c1:=A0.out.cell (i:=j+(kk+2)) qO
    have Q3:=A0.out.cell (i:=j+(kk+1)) qO
    have c3:=A0.out.cell (i:=j+kk) qO
    have d1:=((L0.out.ext l0.out).cell0 (i:=kk+1) (by rw[H.out];omega))
    have d2:=((L0.out.ext l0.out).cell0 (i:=kk) (by rw[H.out];omega))
    rw[E1] at c1
    rw[F1] at Q3
    rw[G1] at c3
    rw[O0,tA] at d1
    rw[H1,tA] at d2
    have w1:=wK u1 (by have:=zR;have:=zW;have:=L2.out;omega)
    have w2:=wK u2 (by have:=zR;have:=zW;have:=M2.out;omega)
    have w3:=wK u3 (by have:=zR;have:=zW;have:=N2.out;omega)
    have w4:=wK v1 (by have:=zR;have:=zW;have:=O2.out;omega)
    have w5:=wK v2 (by have:=zR;have:=zW;have:=N0.out;omega)
    have s1:=ZlR u1 L2.out
    have B0:u1*W32+u2<W64:=by
     have:(u1+1)*W32≤W32*W32:=uE _ L2.out
     rw[vC,bE] at this;have:=M2.out;omega
    have s2:=cX (a:=u1*W32) (b:=u2) qO qO
    rw[or32 u1 u2 M2.out] at s2
    obtain⟨a1,Q0⟩:=yE (u1*W32)
    rw[Q0] at s1 s2 N B0
    obtain⟨f,W1⟩:=yE (a1+u2)
    rw[W1] at s2 N B0
    have R3:((v1:Int) == 0)=false:=by have:=P0.out;simp;omega
    have v5:=zh B0
    have i1:IntKind.i64.wrap ((j:Int)+((kk:Int)+2))=(j:Int)+((kk:Int)+2):=IntWalk.i64_in _ qO
    have i2:((j:Int)+((kk:Int)+2)).toNat=j+(kk+2):=qO
    have i3:IntKind.i64.wrap ((j:Int)+((kk:Int)+2)-1)=(j:Int)+((kk:Int)+1):=by rw[show (j:Int)+((kk:Int)+2)-1=(j:Int)+((kk:Int)+1) by omega];exact IntWalk.i64_in _ qO
    have i4:((j:Int)+((kk:Int)+1)).toNat=j+(kk+1):=qO
    have r1:(f:Int).tdiv (v1:Int)=((f/v1:Nat):Int):=by rw[rA qO];rfl
    have S3:(f:Int)/(v1:Int)=((f/v1:Nat):Int):=rfl
    have r2:(f:Int).tmod (v1:Int)=((f%v1:Nat):Int):=by rw[tY qO];rfl
    have T3:(f:Int)%(v1:Int)=((f%v1:Nat):Int):=rfl
    have r3:IntKind.u64.wrap ((f/v1:Nat):Int)=((f/v1:Nat):Int):=wK _ (vN (vG _ _) B0)
    have C0:Hid (jN (val W32 (rs.drop j)) V f v1 (f/v1) (f%v1)):=jN.start N.out
    have I1:Hid (f/v1<W64):=vN (vG _ _) B0
    have J1:Hid (f%v1<W32):=qL (uO _ P0.out) O2.out
    obtain⟨h0,U3⟩:=yE (f/v1)
    obtain⟨r0,V3⟩:=yE (f%v1)
    rw[U3] at r1 S3 r3 C0 I1
    rw[V3] at r2 T3 C0 J1
    have x5:0<v1:=P0.out
    clear q1 q2 q3 P3 C E1 F1 G1 O0 H1 K2 HL Q0 W1 B0 U3 V3
    go_wp2
    go_quiet (fail)
    go_upto_block 4 with fail
    clear r1 S3 r2 T3 r3 i1 i2 i3 i4 s1 s2 c1 Q3 w1 w2
    obtain⟨U,eU⟩:=yE (val W32 (rs.drop j))
    have HU:=zh eU
    rw[eU] at C0 N
    clear eU
    go_cut [16,17] from 115 to 150 (fun hv _ wx=>∃ (h n2:Nat),hv=.int .u64 (h:Int)∧Hid (h<W32)∧Hid (fR U V h)∧Hid (wx=wo.drewN n2))
    case first =>
     go_wp2_with fail
     go_loopw [16,17] (fun hv rv wx=>∃ (h r n2:Nat),hv=.int .u64 (h:Int)∧rv=.int .u64 (r:Int)∧Hid (jN U V f v1 h r)∧Hid (r<W32)∧Hid (h<W64)∧Hid (wx=wo.drewN n2)) (fun hv _ _=>(intOf hv).toNat)
     case atStart=>exact⟨h0,r0,_,rfl,rfl,C0,J1,I1,rfl⟩
     case round =>
      obtain⟨h,r,n2,rfl,rfl,hC,hr,D0,hw⟩:=hrel
      obtain rfl:=hw.out
      clear hw C0 I1 J1
      have a3:=kT (a:=r) (b:=v1) (by have:=hr.out;have:=O2.out;have:=zW;have:=zR;omega)
      obtain⟨r',E0⟩:=yE (r+v1)
      rw[E0] at a3
      by_cases R0:W32≤h
      ·obtain⟨hp,a0⟩:=hC.out.big N.out R0
       rw[E0] at a0
       have g1:decide ((4294967296:Int)≤(h:Int))=true:=by rw[vZ];have:=zW;omega
       have M4:decide (4294967296≤h)=true:=by rw[vZ];have:=zW;omega
       have a2:=iK hp D0.out
       obtain⟨F,O⟩:=yE (h-1)
       rw[O] at a2 a0
       have n0:=zh a0
       have W3:F<h:=qO
       have P2:Hid (F<W64):=by have:=D0.out;unfold Hid;omega
       clear a0 R0 E0 O hp hC hr D0
       by_cases o0:W32≤r'
       ·have g2:decide ((4294967296:Int)≤(r':Int))=true:=by rw[vZ];have:=zW;omega
        have Q2:decide (4294967296≤r')=true:=by rw[vZ];have:=zW;omega
        have HB:=zh (n0.out.broke N.out o0)
        clear o0 n0
        go_wp2
        go_quiet (fail)
        go_wp2
        go_meet
        exact⟨F,_,rfl,HB.out.1,HB.out.2,rfl⟩
       have g2:decide ((4294967296:Int)≤(r':Int))=false:=by rw[vF];have:=zW;omega
       have Q2:decide (4294967296≤r')=false:=by rw[vF];have:=zW;omega
       have R2:Hid (r'<W32):=by unfold Hid;omega
       clear o0
       go_wp2
       go_quiet (fail)
       go_wp2
       go_roundw
       case rel=>exact⟨F,r',_,rfl,rfl,n0,R2,P2,rfl⟩
       case measure=>simp[intOf];omega
      have g1:decide ((4294967296:Int)≤(h:Int))=false:=by rw[vF];have:=zW;omega
      have M4:decide (4294967296≤h)=false:=by rw[vF];have:=zW;omega
      have P:Hid (h<W32):=by unfold Hid;omega
      have X3:h*v2<W64:=by
       rw[←bE]
       exact nF P.out N0.out
      have m1:=gV (a:=h) (b:=v2) X3
      have m2:=ZlR r hr.out
      have m3:r*W32+u3<W64:=by
       have:(r+1)*W32≤W32*W32:=uE _ hr.out
       rw[vC,bE] at this;have:=N2.out;omega
      have m4:=cX (a:=r*W32) (b:=u3) qO qO
      rw[or32 r u3 N2.out] at m4
      have i1:IntKind.i64.wrap ((kk:Int)+2-2)=(kk:Int):=by rw[show (kk:Int)+2-2=(kk:Int) by omega];exact IntWalk.i64_in _ qO
      have i3:IntKind.i64.wrap ((j:Int)+((kk:Int)+2))=(j:Int)+((kk:Int)+2):=IntWalk.i64_in _ qO
      have i4:IntKind.i64.wrap ((j:Int)+((kk:Int)+2)-2)=(j:Int)+(kk:Int):=by rw[show (j:Int)+((kk:Int)+2)-2=(j:Int)+(kk:Int) by omega];exact IntWalk.i64_in _ qO
      have i5:((j:Int)+(kk:Int)).toNat=j+kk:=qO
      have F5:(j:Int)+(kk:Int)<(xs.length:Int)+1:=qO
      have S2:=hC
      have Y3:∀ a b:Nat,h*v2=a→r*W32+u3=b→Hid ((b<a→0<h∧jN U V f v1 (h-1) (r+v1))∧(¬ b<a→fR U V h)):=by
       intro a b ea eb
       refine⟨fun L4=>S2.out.more N.out qO,fun z2=>S2.out.done N.out P.out qO⟩
      obtain⟨p,ep⟩:=yE (h*v2)
      rw[ep] at m1
      obtain⟨a1,Q0⟩:=yE (r*W32)
      rw[Q0] at m2 m4
      obtain⟨q,eq⟩:=yE (a1+u3)
      rw[eq] at m4
      have HM:=Y3 p q ep qO
      rw[E0] at HM
      clear Y3 S2 hC ep Q0 eq X3 m3 R0
      by_cases D:q<p
      ·obtain⟨hp,a0⟩:=HM.out.1 D
       have t2:=eS D
       have a2:=iK hp D0.out
       obtain⟨F,O⟩:=yE (h-1)
       rw[O] at a2 a0
       have n0:=zh a0
       have W3:F<h:=qO
       have P2:Hid (F<W64):=by have:=D0.out;unfold Hid;omega
       clear a0 E0 O hp hr D0 HM D
       by_cases o0:W32≤r'
       ·have g2:decide ((4294967296:Int)≤(r':Int))=true:=by rw[vZ];have:=zW;omega
        have Q2:decide (4294967296≤r')=true:=by rw[vZ];have:=zW;omega
        have HB:=zh (n0.out.broke N.out o0)
        clear o0 n0
        go_wp2
        go_quiet (fail)
        go_wp2
        go_meet
        exact⟨F,_,rfl,HB.out.1,HB.out.2,rfl⟩
       have g2:decide ((4294967296:Int)≤(r':Int))=false:=by rw[vF];have:=zW;omega
       have Q2:decide (4294967296≤r')=false:=by rw[vF];have:=zW;omega
       have R2:Hid (r'<W32):=by unfold Hid;omega
       clear o0
       go_wp2
       go_quiet (fail)
       go_wp2
       go_roundw
       case rel=>exact⟨F,r',_,rfl,rfl,n0,R2,P2,rfl⟩
       case measure=>simp[intOf];omega
      have HD:=zh (HM.out.2 D)
      have t2:=fH D
      clear HM D E0
      go_wp2
      go_quiet (fail)
      go_wp2
      go_meet
      exact⟨h,_,rfl,P,HD,World.drewN_drewN _ _ _⟩
    case rest =>
     obtain⟨h,n2,rfl,P,Z3,hw⟩:=hcut
     obtain rfl:=hw.out
     clear hw C0 I1 J1 c3 d1 d2 w3 w4 w5 R3
     have C:=y0.out
     have p0:Hid ((rs.take j).length=j):=by unfold Hid;simp;omega
     have b0:Hid (((rs.drop j).take (kk+2)).length=kk+2):=by unfold Hid;simp;omega
     have T2:Hid (Own .u32 166 (wo.drewN n2) R (rs.take j ++ (rs.drop j).take (kk+2) ++ rs.drop (j+(kk+2)))):=by rw[ZmK];exact A0.out.drewN _
     have U2:Hid (Zbv ((rs.drop j).take (kk+2)) vs h 0 ((rs.drop j).take (kk+2)) 0 0):=Zbv.start ((Z.out.1.drop j).take _)
     obtain⟨w0,V2⟩:=yE ((rs.drop j).take (kk+2))
     have N4:=zh V2
     rw[V2] at b0 T2 U2
     clear C V2
     go_wp2_with fail
     go_loopw [18,19,20] (fun cv bv iv wx=>∃ (i cc bw:Nat) (m:List Nat),i≤kk+2∧iv=.int .i64 (i:Int)∧cv=.int .u64 (cc:Int)∧bv=.int .u64 (bw:Int)∧Hid (Zbv w0 vs h i m cc bw)∧Hid (Own .u32 166 wx R (rs.take j ++ m ++ rs.drop (j+(kk+2))))∧Hid (Fr (· = R) wo wx)) (fun _ _ iv _=>kk+2-(intOf iv).toNat)
     case atStart=>exact⟨0,0,0,w0,qO,rfl,rfl,rfl,U2,T2,(Fr.refl _ _).drewN _⟩
     case round =>
      obtain⟨i,cc,bw,m,hi,rfl,rfl,rfl,hM,c0,d0⟩:=hrel
      clear U2 T2
      by_cases X1:i<kk+2
      ·have g:m.length=kk+2:=by rw[hM.out.1];exact b0.out
       obtain⟨x,ex⟩:=yE (vs[i]?.getD 0)
       obtain⟨z,ez⟩:=yE (m[i]?.getD 0)
       have o:x<W32:=ex ▸ W.out.getD zZ _
       have f0:z<W32:=ez ▸ hM.out.2.1.getD zZ _
       have J:=hM.out.2.2.1
       have g0:=hM.out.2.2.2.1
       have i0:zH .u32 wr (some ⟨Vb,0,none⟩) vs:=(L0.out.ext l0.out).fr d0.out (fun a ha _=>by injection ha with ha;subst ha;have:=D1.out;show Vb≠R;omega)
       have dx:=i0.cell0 (i:=i) (by rw[H.out];omega)
       rw[ex,tA] at dx
       have W2:=c0.out.mid32 (k:=i) qO
       have O4:=c0.out.frozen (i+j)
       rw[p0.out,ez,vO j i] at W2
       have Q:=zh (hM.out.step (by rw[b0.out];omega) (by rw[H.out];omega) P.out ez ex W.out)
       have F0:=Zi5 P.out o J
       rw[bE] at F0
       have q0:=wK x (by have:=zR;have:=zW;omega)
       have P4:=wK z (by have:=zR;have:=zW;omega)
       have q1:=gV (a:=h) (b:=x) qO
       have q2:=kT (a:=h*x) (b:=cc) F0
       obtain⟨hx,a4⟩:=yE (h*x)
       rw[a4] at q1 q2 Q F0
       obtain⟨p,ep⟩:=yE (hx+cc)
       rw[ep] at q2 Q F0
       have q3:=hi32 p
       have q4:=ZrQ p F0
       have K1:p%W32<W32:=uO _ zZ
       obtain⟨pl,b4⟩:=yE (p%W32)
       obtain⟨ph,S0⟩:=yE (p/W32)
       rw[S0] at q3 Q
       rw[b4] at q4 Q K1
       have q5:=ZkQ f0 K1
       have q6:=ZkR f0 K1 g0
       have q7:=jK (d32 z pl bw)
       have q8:=hi32 (d32 z pl bw)
       have q9:=ZgH (d32 z pl bw/W32) (vN (vG _ _) (ZiT _ _ _))
       have I:=zh (c0.out.set_mid32 (k:=i) qO (d32 z pl bw%W32))
       rw[p0.out,vO j i] at I
       obtain⟨e1,s0⟩:=yE (d32 z pl 0)
       obtain⟨e2,j0⟩:=yE (d32 z pl bw)
       rw[s0] at q5 q6
       rw[j0] at q6 q7 q8 q9 I Q
       obtain⟨lo,K⟩:=yE (e2%W32)
       obtain⟨Q4,Y1⟩:=yE (e2/W32)
       rw[K] at q7 Q I
       rw[Y1] at q8 q9 Q
       obtain⟨R4,Z1⟩:=yE (Q4%2)
       rw[Z1] at q9 Q
       have S4:(i:Int)+(j:Int)<(xs.length:Int)+1:=qO
       have y5:i+j<xs.length+1:=qO
       clear g ex ez o f0 J g0 i0 F0 a4 ep K1 b4 S0 s0 j0 K Y1 Z1
       go_wp2
       go_roundw
       case rel=>exact⟨i+1,ph,R4,_,qO,by go_num,rfl,rfl,Q,I.out,d0.out.setCell (p:=⟨R,i+j,none⟩) (Or.inl rfl) _⟩
       case measure=>simp[intOf];omega
      obtain rfl:i=kk+2:=qO
      have g:m.length=kk+2:=by rw[hM.out.1];exact b0.out
      have C:=y0.out
      have v0:=p0.out
      have T0:=b0.out
      have J:=hM.out.2.2.1
      have g0:=hM.out.2.2.2.1
      have G0:=hM.out.2.1
      have U0:=hM.out.2.2.2.2.2
      rw[uA qO,uA (by rw[H.out];omega),uA qO,HV.out] at U0
      have S:j+(kk+2)<(rs.take j ++ m ++ rs.drop (j+(kk+2))).length:=by simp;omega
      have T:=c0.out.cell S
      have c4:=c0.out.frozen (j+(kk+2))
      rw[ZkC _ _ _ _ _ v0 g] at T
      obtain⟨tw,V0⟩:=yE (rs[j+(kk+2)]?.getD 0)
      rw[V0] at T
      have W0:tw<W32:=V0 ▸ Z.out.1.getD zZ _
      have hu:U=val W32 w0+W32^(kk+2)*tw:=by
       obtain⟨q1,_,_⟩:=Z.out.window hV.out qO
       rw[←HU.out,q1,zU (kk+2) (by simp;omega),vJ,V0,N4.out]
      have X2:val W32 m<W32^(kk+2):=by have:=xZ G0;rw[g] at this;exact this
      have H0:qs.length=xs.length-(kk+2)+1:=by have:=Z.out.2.2.1;omega
      have q0:=wK tw (by have:=zR;have:=zW;omega)
      have q5:=ZkQ W0 J
      have q6:=ZkR W0 J g0
      have q7:=jK (d32 tw cc bw)
      have q8:=ZqB W0 J g0
      have q9:((d32 tw cc bw:Nat):Int)/9223372036854775808=((d32 tw cc bw/9223372036854775808:Nat):Int):=qO
      rw[q8] at q9
      have Y2:h%W32=h:=vH P.out
      have d4:=jK h
      rw[Y2] at d4
      have t:=c0.out.set (j+(kk+2)) (d32 tw cc bw%W32) S
      rw[ZgD _ _ _ _ _ _ v0 g qO] at t
      have X0:j<qs.length:=qO
      obtain⟨e1,s0⟩:=yE (d32 tw cc 0)
      obtain⟨e2,j0⟩:=yE (d32 tw cc bw)
      by_cases Z2:cc+bw≤tw
      ·rw[uQ qO] at q9
       obtain⟨k1,k2,k3⟩:=ZfC (v:=V) hV.out hu Z3.out U0 Z2
       have b3:=zh (Z.out.step (q:=h) B1.out hV.out qO g G0 (by rw[HU.out];exact k1) (by rw[HU.out];exact k2))
       have k4:=ZoT k3
       rw[k4] at t q7
       rw[s0] at q5 q6
       rw[j0] at q6 q7 q9
       have G:Fr (· = R) wr (wr.setCell ⟨R,j+(kk+2),none⟩ (.int .u32 ((0:Nat):Int))):=(Fr.refl (· = R) wr).setCell (p:=⟨R,j+(kk+2),none⟩) (Or.inl rfl) _
       have L1:=(Y.out.fr d0.out (by have:=u.out;omega)).fr G (by have:=u.out;omega)
       have d3:=L1.cell X0
       have T4:=L1.frozen j
       obtain⟨z0,Y0⟩:=yE (qs[j]?.getD 0)
       rw[Y0] at d3
       have U4:=zh (L1.set j h X0)
       have e4:=zh (t.far (p:=⟨Qb,j,none⟩) (by have:=u.out;show R≠Qb;omega) (.int .u32 (h:Int)))
       have f4:Hid (Ext wD ((wr.setCell ⟨R,j+(kk+2),none⟩ (.int .u32 ((0:Nat):Int))).setCell ⟨Qb,j,none⟩ (.int .u32 (h:Int)))):=((l0.out.next d0.out (fun i hi e=>by have:=HR.out;omega)).next G (fun i hi e=>by have:=HR.out;omega)).setCell (Or.inr (by have:=HR.out;have:=u.out;show wD.heap.size≤Qb;omega)) _
       have M1:Hid ((rs.take j ++ m ++ (0 :: rs.drop (j+(kk+2)+1))).length=xs.length+1):=by unfold Hid;simp;omega
       have V4:(j:Int)+((kk:Int)+2)<(xs.length:Int)+1:=qO
       clear g C v0 T0 J g0 G0 U0 S V0 W0 hu X2 q8 Y2 t L1 G Y0 s0 j0 Z2 k1 k2 k3 k4 c0
       simp only[Int.ofNat_zero] at *
       go_wp2
       go_roundw
       case rel=>exact⟨j,_,_,qO,rfl,b3,M1,e4.out,U4.out,f4.out⟩
       case measure=>simp[intOf]
      rw[uZ qO] at q9
      have b2:Hid (tw<cc+bw):=by unfold Hid;omega
      have K0:0<h:=by
       rcases uJ h with e|e
       ·subst e
        have:W32^(kk+2)*1≤W32^(kk+2)*(cc+bw):=uI _ qO
        omega
       exact e
      have g2:=iK K0 (by have:=P.out;have:=zW;have:=zR;omega)
      obtain⟨F,O⟩:=yE (h-1)
      rw[O] at g2
      have W4:=jK F
      rw[vH (by have:=P.out;omega)] at W4
      rw[s0] at q5 q6
      rw[j0] at q6 q7 q9 t
      have f2:Hid (∀ c',c'+tw=cc+bw→c'≤1→(e2%W32+c')%W32=0):=fun c' Z0 y2=>by rw[←j0];exact ZqC Z0 J g0 y2 b2.out
      have j2:Hid (e2%W32<W32):=uO _ zZ
      obtain⟨t2,g4⟩:=yE (e2%W32)
      rw[g4] at q7 t f2 j2
      have G:Fr (· = R) wr (wr.setCell ⟨R,j+(kk+2),none⟩ (.int .u32 (t2:Int))):=(Fr.refl (· = R) wr).setCell (p:=⟨R,j+(kk+2),none⟩) (Or.inl rfl) _
      have N1:=zh t
      have X4:=zh ((Y.out.fr d0.out (by have:=u.out;omega)).fr G (by have:=u.out;omega))
      have Y4:Hid (Ext wD (wr.setCell ⟨R,j+(kk+2),none⟩ (.int .u32 (t2:Int)))):=(l0.out.next d0.out (fun i hi e=>by have:=HR.out;omega)).next G (fun i hi e=>by have:=HR.out;omega)
      have h4:Hid (zH .u32 (wr.setCell ⟨R,j+(kk+2),none⟩ (.int .u32 (t2:Int))) (some ⟨Vb,0,none⟩) vs):=((L0.out.ext l0.out).fr d0.out (fun a ha _=>by injection ha with ha;subst ha;have:=D1.out;show Vb≠R;omega)).fr G (fun a ha _=>by injection ha with ha;subst ha;have:=D1.out;show Vb≠R;omega)
      have G5:Hid (Dig W32 m):=G0
      have O1:=zh g
      have Hu:=zh hu
      have Z4:=zh U0
      have a5:=zh X2
      have b5:=zh O
      have e3:=zh H0
      have V4:(j:Int)+((kk:Int)+2)<(xs.length:Int)+1:=qO
      have j4:Hid (Zbw m vs 0 m 0):=Zbw.start G0
      clear g C v0 T0 J g0 G0 U0 S V0 W0 hu X2 q8 Y2 t G s0 j0 Z2 c0 K0 O g4 H0 hM d0 X1 hi
      simp only[Int.ofNat_one] at *
      go_wp2
      generalize c5:wr.setCell ⟨R,j+(kk+2),none⟩ (.int .u32 (t2:Int))=w7 at *
      clear c5 T c4 q0 q5 q6 q7 q9 d4 g2
      obtain⟨l4,rfl⟩:∃ l4:World,l4=wr:=⟨_,rfl⟩
      go_loopw [18,24] (fun cv iv wr=>∃ (i c':Nat) (m2:List Nat),i≤kk+2∧iv=.int .i64 (i:Int)∧cv=.int .u64 (c':Int)∧Hid (Zbw m vs i m2 c')∧Hid (Own .u32 166 wr R (rs.take j ++ m2 ++ (t2 :: rs.drop (j+(kk+2)+1))))∧Hid (Fr (· = R) w7 wr)) (fun _ iv _=>kk+2-(intOf iv).toNat)
      case atStart=>exact⟨0,0,m,qO,rfl,rfl,j4,N1,Fr.refl _ _⟩
      case round =>
       obtain⟨i,c',m2,hi,rfl,rfl,hA,I0,f3⟩:=hrel
       clear j4 N1
       by_cases z5:i<kk+2
       ·have g:m2.length=kk+2:=by rw[hA.out.1];exact O1.out
        obtain⟨x,ex⟩:=yE (vs[i]?.getD 0)
        obtain⟨z,ez⟩:=yE (m2[i]?.getD 0)
        have o:x<W32:=ex ▸ W.out.getD zZ _
        have f0:z<W32:=ez ▸ hA.out.2.1.getD zZ _
        have J:=hA.out.2.2.1
        have i0:zH .u32 wr (some ⟨Vb,0,none⟩) vs:=h4.out.fr f3.out (fun a ha _=>by injection ha with ha;subst ha;have:=D1.out;show Vb≠R;omega)
        have dx:=i0.cell0 (i:=i) (by rw[H.out];omega)
        rw[ex,tA] at dx
        have W2:=I0.out.mid32 (k:=i) qO
        have O4:=I0.out.frozen (i+j)
        rw[p0.out,ez,vO j i] at W2
        have b1:=zh (hA.out.step (by rw[O1.out];omega) (by rw[H.out];omega) ez ex W.out)
        have q0:=wK x (by have:=zR;have:=zW;omega)
        have P4:=wK z (by have:=zR;have:=zW;omega)
        have q1:=kT (a:=z) (b:=x) (by have:=zR;have:=zW;omega)
        have q2:=kT (a:=c') (b:=z+x) (by have:=zR;have:=zW;omega)
        obtain⟨zx,n4⟩:=yE (z+x)
        rw[n4] at q1 q2 b1
        obtain⟨p,ep⟩:=yE (c'+zx)
        rw[ep] at q2 b1
        have q3:=hi32 p
        have q4:=jK p
        have I:=zh (I0.out.set_mid32 (k:=i) qO (p%W32))
        rw[p0.out,vO j i] at I
        obtain⟨lo,K⟩:=yE (p%W32)
        obtain⟨ph,S0⟩:=yE (p/W32)
        rw[K] at q4 b1 I
        rw[S0] at q3 b1
        have S4:(i:Int)+(j:Int)<(xs.length:Int)+1:=qO
        have i1:IntKind.i64.wrap ((i:Int)+(j:Int))=(i:Int)+(j:Int):=IntWalk.i64_in _ qO
        have i2:((i:Int)+(j:Int)).toNat=i+j:=qO
        clear g ex ez o f0 J i0 n4 ep K S0
        go_wp2
        go_quiet (fail)
        clear i1 i2
        go_wp2
        go_roundw
        case rel=>exact⟨i+1,ph,_,qO,by go_num,rfl,b1,I.out,(f3.out.drewN _).setCell (p:=⟨R,i+j,none⟩) (Or.inl rfl) _⟩
        case measure=>simp[intOf];omega
       obtain rfl:i=kk+2:=qO
       have g:m2.length=kk+2:=by rw[hA.out.1];exact O1.out
       have f1:=hA.out.2.2.2.2
       rw[uA qO,uA (by rw[O1.out];omega),uA (by rw[H.out];omega),HV.out] at f1
       obtain⟨_,k2,k3,k4⟩:=Zg5 B1.out hV.out Hu.out Z3.out Z4.out b2.out a5.out f1 (by have:=xZ hA.out.2.1;rw[g] at this;exact this)
       have t0:=f2.out c' k4 hA.out.2.2.1
       have d5:=j2.out
       have Z0:=hA.out.2.2.1
       have g5:=jK c'
       rw[vH (by have:=ZgG;omega)] at g5
       have g3:IntKind.u32.wrap ((t2:Int)+(c':Int))=0:=by
        rw[IntKind.wrap_u32];rw[zW] at t0;omega
       have H5:((t2:Int)+(c':Int))%4294967296=0:=by rw[zW] at t0;omega
       rw[b5.out] at k2
       have C:=y0.out
       have o4:=e3.out
       have u0:j+(kk+2)<(rs.take j ++ m2 ++ (t2 :: rs.drop (j+(kk+2)+1))).length:=by simp;omega
       have T:=I0.out.cell u0
       have c4:=I0.out.frozen (j+(kk+2))
       rw[ZiE _ _ _ _ _ _ p0.out g] at T
       have j1:=I0.out.set (j+(kk+2)) 0 u0
       rw[ZiD _ _ _ _ _ _ _ p0.out g] at j1
       have l1:Fr (· = R) w7 (wr.setCell ⟨R,j+(kk+2),none⟩ (.int .u32 ((0:Nat):Int))):=f3.out.setCell (p:=⟨R,j+(kk+2),none⟩) (Or.inl rfl) _
       have x0:=X4.out.fr l1 (by have:=u.out;omega)
       have X0:j<qs.length:=qO
       have d3:=x0.cell X0
       have T4:=x0.frozen j
       obtain⟨z0,Y0⟩:=yE (qs[j]?.getD 0)
       rw[Y0] at d3
       have b3:=zh (Z.out.step (q:=F) B1.out hV.out qO g hA.out.2.1 (by rw[HU.out];exact k2) (by rw[HU.out];exact k3))
       have p4:=zh (x0.set j F X0)
       have r4:=zh (j1.far (p:=⟨Qb,j,none⟩) (by have:=u.out;show R≠Qb;omega) (.int .u32 (F:Int)))
       have s4:Hid (Ext wD ((wr.setCell ⟨R,j+(kk+2),none⟩ (.int .u32 ((0:Nat):Int))).setCell ⟨Qb,j,none⟩ (.int .u32 (F:Int)))):=(Y4.out.next l1 (fun i hi e=>by have:=HR.out;omega)).setCell (Or.inr (by have:=HR.out;have:=u.out;show wD.heap.size≤Qb;omega)) _
       have M1:Hid ((rs.take j ++ m2 ++ (0 :: rs.drop (j+(kk+2)+1))).length=xs.length+1):=by unfold Hid;simp;omega
       clear f1 k2 k3 k4 C o4 u0 j1 l1 x0 Y0 g t0 d5 Z0
       simp only[Int.ofNat_zero] at *
       go_wp2
       go_roundw
       case rel=>exact⟨j,_,_,qO,rfl,b3,M1,r4.out,p4.out,s4.out⟩
       case measure=>simp[intOf]
   obtain rfl:k=0:=qO
   obtain⟨k1,k2⟩:=Z.out.done
   have C:=y0.out
   have H0:qs.length=xs.length-(kk+2)+1:=by have:=Z.out.2.2.1;omega
   have P1:=Zdn (val W32 xs) (val W32 ys) (2^s) (uY qO)
   have NQ:=zY.of_own (c:=xs.length-(kk+2)+1) Y.out Z.out.2.1 qO
   rw[k1,← C1.out,← HV.out,M0.out,P1.1] at NQ
   rw[←C1.out,← HV.out,M0.out] at k2
   have t4:val W32 rs<W32^(kk+2):=by
    have F:=Z.out.2.2.2.2
    rw[sE] at F
    have:=hV.out
    omega
   have u4:val W32 (rs.take (kk+2))=val W32 rs:=by
    have F:=xS (B:=W32) (xs:=rs) (kk+2)
    rw[uU qO] at F
    rcases uJ (val W32 (rs.drop (kk+2))) with h|h
    ·rw[h] at F;simp at F;omega
    have:W32^(kk+2)*1≤W32^(kk+2)*val W32 (rs.drop (kk+2)):=uI _ h
    omega
   have v4:(rs.take (kk+2)).length=kk+2:=by simp;omega
   have h3:val W32 (wL (rs.take (kk+2)))=val W32 xs*2^s%(val W32 ys*2^s):=by rw[lC,u4,k2]
   have o1:wL (rs.take (kk+2))=rs.take (wL (rs.take (kk+2))).length:=by
    have F:=wM (rs.take (kk+2))
    have h2:=iY (rs.take (kk+2)) (rs.take (kk+2)).length
    rw[F]
    unfold wL
    rw[List.take_take,uU qO]
   have j3:Dig W32 (wL (rs.take (kk+2))):=iD (Z.out.1.take _)
   have l2:(wL (rs.take (kk+2))).length≤kk+2:=by rw[wM];have:=iY (rs.take (kk+2)) (rs.take (kk+2)).length;omega
   have p1:=zh (kD (some ⟨R,0,none⟩) (rs.take (kk+2)) (kk+2) (xs.length+1) wr v4 (A0.out.shows0.take _) qO qO)
   rw[←wM] at p1
   have e5:=zh (fun wz (hO:Own .u32 166 wz Qb qs)=>kD (some ⟨Qb,0,none⟩) qs (xs.length-(kk+2)+1) (xs.length-(kk+2)+1) wz H0 hO.shows0 qO qO)
   obtain⟨ts,x4⟩:=yE (wL (rs.take (kk+2)))
   rw[x4] at p1 h3 o1 j3 l2
   obtain⟨l,el⟩:=yE ts.length
   rw[el] at p1 o1 l2
   have y4:=zh el
   have I5:=zh o1
   have z4:=zh j3
   have f5:=zh h3
   have e3:=zh H0
   have h5:=zh P1.2
   have j5:Hid (Dig W32 qs):=Z.out.2.1
   have k5:Hid (val W32 qs=val W32 xs/val W32 ys):=by unfold Hid;rw[k1,← C1.out,← HV.out,M0.out,P1.1]
   have o2:Hid (Own .u32 166 wr R ((List.replicate ts.length 0).take 0 ++ ts.drop 0 ++ rs.drop l)):=by
    unfold Hid
    rw[List.take_zero,qW,sE,o1,qE]
    exact A0.out
   have M1:Hid (rs.length=xs.length+1):=y0
   have p2:Hid (iX ts s 0 (List.replicate ts.length 0)):=iX.start ts s
   have l5:Hid (wD.heap.size≤R):=by have:=HR.out;unfold Hid;omega
   clear k1 k2 C H0 P1 NQ t4 u4 v4 h3 o1 j3 x4 el
   go_wp2_with fail
   refine p1.out.mono ?_
   rintro e w' ⟨rfl,rfl⟩
   clear p1
   go_wp2_with fail
   obtain⟨wo,rfl⟩:∃ wo:World,wo=wr:=⟨_,rfl⟩
   go_loopw [26] (fun iv wr=>∃ (k:Nat) (zs:List Nat),k≤l∧iv=.int .i64 (k:Int)∧Hid (iX ts s k zs)∧Hid (Own .u32 166 wr R (zs.take k ++ ts.drop k ++ rs.drop l))∧Hid (Fr (· = R) wo wr)) (fun iv _=>l-(intOf iv).toNat)
   case atStart=>exact⟨0,_,qO,rfl,p2,o2,Fr.refl _ _⟩
   case round =>
    obtain⟨k,zs,J5,rfl,hS,x1,Q1⟩:=hrel
    clear p2 o2
    have K5:=y4.out
    have R1:zs.length=ts.length:=hS.out.1
    by_cases X1:k<l
    ·obtain⟨x,ex⟩:=yE (ts[k]?.getD 0)
     have o:x<W32:=ex ▸ z4.out.getD zZ _
     have k0:k<(zs.take k ++ ts.drop k ++ rs.drop l).length:=by simp;omega
     have Z0:=x1.out.cell k0
     have L5:=x1.out.frozen k
     rw[ZeL (uF k) qO R1,ex] at Z0
     have q3:=Za4 x s
     have G4:k<xs.length+1:=qO
     by_cases m5:k+1<l
     ·obtain⟨y,ey⟩:=yE (ts[k+1]?.getD 0)
      have x2:y<W32:=ey ▸ z4.out.getD zZ _
      have M:=zh (hS.out.step hs qO ex ey o)
      have q1:=Zhp x2 (by omega:32-s≤32)
      have J0:=jK (y*2^(32-s))
      have q2:=Zi6 (a:=x/2^s) (b:=y*2^(32-s)%W32) (vN (vG _ _) o) (uO _ zZ)
      rw[Zi4 hs o] at q2
      obtain⟨lo,K⟩:=yE (x/2^s)
      obtain⟨hi,A4⟩:=yE (y*2^(32-s)%W32)
      obtain⟨yy,B4⟩:=yE (y*2^(32-s))
      obtain⟨d,ed⟩:=yE (x/2^s+y%2^s*2^(32-s))
      rw[ed] at q2 M
      rw[K] at q2 q3
      rw[A4] at J0 q2
      rw[B4] at q1 J0
      have E:=x1.out.set k lo k0
      have M5:=E.frozen k
      have n5:=E.cell (i:=k) (by simpa using k0)
      rw[tW k0,qG] at n5
      have o5:=E.cell (i:=k+1) (by simp;omega)
      rw[List.getElem?_set_ne qO,ZeL qO qO R1,ey] at o5
      have t:=E.set k d (by simpa using k0)
      rw[List.set_set,ZeK qO R1] at t
      have N1:=zh t
      have q0:=wK y (by have:=zR;have:=zW;omega)
      have i1:IntKind.u64.wrap ((32:Int)-(s:Int))=((32-s:Nat):Int):=by rw[IntKind.wrap_u64];omega
      obtain⟨r,er⟩:=yE (32-s)
      rw[er] at i1 q1
      have i4:min r 64=r:=qO
      have i2:IntKind.i64.wrap ((k:Int)+1)=(k:Int)+1:=IntWalk.i64_in _ qO
      have i3:((k:Int)+1).toNat=k+1:=qO
      have G:Hid (∀ n,Fr (· = R) wo (((wr.setCell ⟨R,k,none⟩ (.int .u32 (lo:Int))).drewN n).setCell ⟨R,k,none⟩ (.int .u32 (d:Int)))):=fun n=>((Q1.out.setCell (p:=⟨R,k,none⟩) (Or.inl rfl) _).drewN _).setCell (p:=⟨R,k,none⟩) (Or.inl rfl) _
      clear ex o k0 ey x2 K A4 B4 ed E t er
      have C4:(k:Int)+1<(l:Int):=qO
      go_wp2
      go_region
      all_goals
       go_wp2
       go_roundw
       case rel=>exact⟨k+1,_,qO,by go_num,M,N1.out.drewN _,G.out _⟩
       case measure=>simp[intOf];omega
     have M:=zh (hS.out.step hs qO ex (show ts[k+1]?.getD 0=0 by rw[vL qO];rfl) o)
     have e0:x/2^s+0%2^s*2^(32-s)=x/2^s:=qS
     rw[e0] at M
     obtain⟨lo,K⟩:=yE (x/2^s)
     rw[K] at M q3
     have E:=x1.out.set k lo k0
     rw[ZeK qO R1] at E
     have p5:=zh E
     have G:Hid (Fr (· = R) wo (wr.setCell ⟨R,k,none⟩ (.int .u32 (lo:Int)))):=Q1.out.setCell (p:=⟨R,k,none⟩) (Or.inl rfl) _
     have C4:¬ ((k:Int)+1<(l:Int)):=qO
     have N5:decide ((k:Int)+1<(l:Int))=false:=by rw[vF];omega
     clear ex o k0 e0 K E
     go_wp2
     go_roundw
     case rel=>exact⟨k+1,_,qO,by go_num,M,p5.out,G.out⟩
     case measure=>simp[intOf];omega
    obtain rfl:k=l:=qO
    have l3:=hS.out
    rw[←y4.out] at l3
    have D4:=l3.done
    have E:=x1.out
    rw[uA qO,vA (by omega:ts.length≤k),rJ] at E
    have t:=E.front
    have NR:=zY.of_own (c:=xs.length+1) t hS.out.2.1 qO
    rw[D4,f5.out,h5.out,show zs.length=k by omega] at NR
    have r5:=zh NR
    have E4:=zh (Y.out.fr Q1.out (by have:=u.out;omega))
    have NQ:=zY.of_own (c:=xs.length-(kk+2)+1) E4.out j5.out (by have:=e3.out;omega)
    rw[k5.out] at NQ
    have s5:=zh NQ
    have t5:=zh (kD (some ⟨R,0,none⟩) zs k (xs.length+1) wr qO t.shows0 qO qO)
    have F4:=zh (e5.out wr E4.out)
    have u5:Hid (Ext w wr):=(F2.out.ext l0.out).next Q1.out (fun i hi e=>by have:=F2.out.size;have:=HR.out;omega)
    have C4:¬ ((k:Int)<(k:Int)):=qO
    clear l3 D4 E t NR NQ
    go_wp2_with fail
    refine F4.out.mono ?_
    rintro e w' ⟨rfl,rfl⟩
    go_wp2_with fail
    refine t5.out.mono ?_
    rintro e w' ⟨rfl,rfl⟩
    go_wp2
    go_ret2
    exact⟨_,_,rfl,s5.out,r5.out,u5.out⟩
theorem Zf6 (e f:Value)(x y:Nat)(w:World)(b:zY w e x)(d:zY w f y)(g:ml x≤17592186044416)(o:ml y≤17592186044416)(p:0<y) :
 yA 119 #[e,f] w (ZcJ w (x/y) (x%y)):=by
 by_cases a:x<y
 ·rw[tF a,vH a]
  exact Zni e f x y w b d g o a
 have q:=ZfT p
 by_cases i:ml y=1
 ·exact ZlZ e f x y w b d g i qO
 obtain⟨A,r,c,rfl,s,b,j,k,rfl⟩:=b
 obtain⟨t,l,u,rfl,h,d,m,n,rfl⟩:=d
 rw[←kO j k] at g
 rw[←kO m n] at i q
 exact Zkh A t r l c u (l.length-2) w b d s h g qO j m k n qO
end Go.Proofs.YtdlgidnkmbklcaaGreatDoor
