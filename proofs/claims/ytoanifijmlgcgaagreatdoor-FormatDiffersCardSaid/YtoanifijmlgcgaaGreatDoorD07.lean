/-
 My texts Div64, DivWord, Shift, Est, Knuth, DivS, Num1, Num2, Num3, DvM, Dv1, Dv2 put together.
-/
import Derived.Test.YtoanifijmlgcgaaGreatDoorD02
import Derived.Test.YtoanifijmlgcgaaGreatDoorD03
import Derived.Test.YtoanifijmlgcgaaGreatDoorD00
import Derived.Test.YtoanifijmlgcgaaGreatDoorD06
import Derived.Lib.ItoaNum
import Derived.Deep.QuietTactic
import Derived.BigQuiet
import Derived.RegionTactic
import Derived.BigRegion
set_option maxRecDepth 100000
set_option maxHeartbeats 8000000
namespace Go.Proofs.YtoanifijmlgcgaaGreatDoor
open Go.RowKit
theorem aV (x:Nat)(w:World)(a:x<W64):yA 329 #[.int .u64 (x:Int)] w fun e w'=>e=.returned (.int .i64 (64-(Lib.bitLen x:Int)))∧w=w':=by
 rw[zM] at a
 refine (Tryz.bits_LeadingZeros64 x w (by omega) (by omega)).mono ?_
 rintro e w' ⟨rfl,rfl⟩
 exact⟨by simp,rfl⟩
noncomputable def H32:Nat:=Classical.choose (p:=fun n:Nat=>n=4294967296) ⟨_,rfl⟩
theorem xT:H32=4294967296:=rY (p:=fun n:Nat=>n=4294967296) ⟨_,rfl⟩
structure Prep (hi lo y s Y v1 v0 Hs Ls U T u1 u0:Nat):Prop where
 hY:IntKind.u64.wrap ((y:Int)*2^s)=(Y:Int)
 hv1:(Y:Int)/4294967296=(v1:Int)
 hv0:bits .and .u64 (Y:Int) 4294967295=(v0:Int)
 hH:IntKind.u64.wrap ((hi:Int)*2^s)=(Hs:Int)
 hL:(lo:Int)/2^(64-s)=(Ls:Int)
 hU:bits .or .u64 (Hs:Int) (Ls:Int)=(U:Int)
 hT:IntKind.u64.wrap ((lo:Int)*2^s)=(T:Int)
 hu1:(T:Int)/4294967296=(u1:Int)
 hu0:bits .and .u64 (T:Int) 4294967295=(u0:Int)
theorem ZdT (a:Int):∃ n:Nat,IntKind.u64.wrap a=(n:Int)∧(n:Int)=a%18446744073709551616:=by
 refine⟨(a%18446744073709551616).toNat,?_,?_⟩
 ·rw[IntKind.wrap_u64];omega
 omega
theorem un21 {U u Y q R:Nat}(d:Y≤W64)(f:q*Y+R=U*4294967296+u)(l:R<Y) :
 ∃ a b c:Nat,IntKind.u64.wrap ((U:Int)*4294967296)=(a:Int)∧IntKind.u64.wrap ((a:Int)+(u:Int))=(b:Int)∧IntKind.u64.wrap ((q:Int)*(Y:Int))=(c:Int)∧IntKind.u64.wrap ((b:Int)-(c:Int))=(R:Int):=by
 have g:=d
 rw[zM] at g
 obtain⟨a,h,m⟩:=ZdT ((U:Int)*4294967296)
 obtain⟨b,i,n⟩:=ZdT ((a:Int)+(u:Int))
 obtain⟨c,j,o⟩:=ZdT ((q:Int)*(Y:Int))
 obtain⟨p,k,r⟩:=ZdT ((b:Int)-(c:Int))
 refine⟨a,b,c,h,i,j,?_⟩
 rw[k]
 have e:((q*Y+R:Nat):Int)=((U*4294967296+u:Nat):Int):=by rw[f]
 rw[rB,tW,rB,tW] at e
 omega
theorem Zay {U v1:Nat}(b:0<v1)(c:U<W64) :
 ∃ a e d:Nat,(U:Int)/(v1:Int)=(a:Int)∧IntKind.u64.wrap (a:Int)=(a:Int)∧IntKind.u64.wrap ((a:Int)*(v1:Int))=(e:Int)∧IntKind.u64.wrap ((U:Int)-(e:Int))=(d:Int)∧a*v1+d=U∧d<v1:=by
 have g:=c
 rw[zM] at g
 have f:=tG U v1
 have h:=uP U b
 have i:U/v1*v1≤U:=Nat.div_mul_le_self U v1
 rw[uG] at f
 refine⟨U/v1,U/v1*v1,U%v1,(vY _ _).symm,xV _ (by rw[zM];have:=vU U v1;omega),?_,?_,f,h⟩
 ·rw[←tW];exact xV _ (by rw[zM];omega)
 rw[show (U:Int)-((U/v1*v1:Nat):Int)=((U%v1:Nat):Int) by omega]
 exact xV _ (by rw[zM];omega)
theorem Zaz {U v1 v0 u a ri:Nat}(b:0<v1)(e:u<H32)(h:a*v1+ri=U)(f:ri<v1):jZ H32 U v1 v0 u a ri:=by
 refine⟨h,?_⟩
 have g:0<v1*H32:=rQ b (by rw[xT];omega)
 rw[←Nat.lt_succ_iff,vX (by omega)]
 have c:U<(a+1)*v1:=by rw[uT];omega
 have d:(U+1)*H32≤(a+1)*v1*H32:=uC _ c
 rw[Nat.succ_eq_add_one,uS,← uQ]
 rw[uT U] at d
 omega
theorem ZaA {U v1 v0 u q r:Nat}(a:2147483648≤v1)(b:U<W64)(h:jZ H32 U v1 v0 u q r):q≤8589934592:=by
 have c:=b
 rw[zM] at c
 have d:=h.1
 have e:q*2147483648≤q*v1:=uK q a
 omega
theorem jG {H U Y u q:Nat}(h:q=(U*H+u)/Y):q*Y+(U*H+u)%Y=U*H+u:=by
 subst h
 rw[uG]
 exact tG _ _
theorem jH {U u Y q:Nat}(a:0<Y)(b:U<Y)(d:u<H32)(c:q=(U*H32+u)/Y):q<H32:=by
 subst c
 rw[vX a]
 have:(U+1)*H32≤Y*H32:=uC _ b
 rw[uT] at this
 rw[uG H32]
 omega
theorem jD {q:Nat}(a:0<q)(h:q<W64):IntKind.u64.wrap ((q:Int)-1)=((q-1:Nat):Int):=by
 rw[show (q:Int)-1=((q-1:Nat):Int) by omega]
 exact xV _ (by omega)
theorem lR {a b:Nat}(h:a+b<W64):IntKind.u64.wrap ((a:Int)+(b:Int))=((a+b:Nat):Int):=by
 rw[←rB]
 exact xV _ h
theorem iL {a b:Nat}(h:a*b<W64):IntKind.u64.wrap ((a:Int)*(b:Int))=((a*b:Nat):Int):=by
 rw[←tW]
 exact xV _ h
theorem Zgs:H32*H32=W64:=by rw[xT,zM]
theorem fN {a q0:Nat}(d:a<H32)(e:q0<H32):∃ b c:Nat,IntKind.u64.wrap ((a:Int)*4294967296)=(b:Int)∧IntKind.u64.wrap ((b:Int)+(q0:Int))=(c:Int)∧c=a*H32+q0:=by
 have h:a*H32+q0<W64:=by
  rw[←Zgs]
  have:(a+1)*H32≤H32*H32:=uC _ d
  rw[uT] at this
  omega
 refine⟨a*H32,a*H32+q0,?_,lR h,rfl⟩
 rw[show (4294967296:Int)=((H32:Nat):Int) by rw[xT];rfl]
 exact iL (by omega)
theorem ZcD {r u:Nat}(c:r<H32)(e:u<H32):∃ a b:Nat,IntKind.u64.wrap (4294967296*(r:Int))=(a:Int)∧IntKind.u64.wrap ((a:Int)+(u:Int))=(b:Int)∧b=H32*r+u:=by
 have d:H32*r+u<W64:=by
  rw[←Zgs]
  have:H32*(r+1)≤H32*H32:=uK _ c
  rw[uS] at this
  omega
 refine⟨H32*r,H32*r+u,?_,lR d,rfl⟩
 rw[show (4294967296:Int)=((H32:Nat):Int) by rw[xT];rfl]
 exact iL (by omega)
theorem jI {q:Nat}(h:H32≤q):decide ((4294967296:Int)≤(q:Int))=true:=by rw[xT] at h;rw[vF];omega
theorem kS {q:Nat}(h:¬ H32≤q):decide ((4294967296:Int)≤(q:Int))=false:=by rw[xT] at h;rw[vA];omega
theorem gV {a b:Nat}(h:a<b):decide (a<b)=true:=by rw[vF];omega
theorem iP {a b:Nat}(h:¬ a<b):decide (a<b)=false:=by rw[vA];omega
theorem Zbe {q v:Nat}(b:¬ H32≤q)(c:v<H32):q*v<W64:=by
 rw[←Zgs]
 have d:q*v≤q*H32:=uK _ (by omega)
 have a:(q+1)*H32≤H32*H32:=uC _ (by omega)
 rw[uT] at a
 have:=xT
 omega
theorem ZiQ (hi lo y s Y v1 v0 Hs Ls U T u1 u0 qf rf:Nat)(w:World)(d0:(U*H32+u1)/Y*H32+((U*H32+u1)%Y*H32+u0)/Y=qf)(e0:((U*H32+u1)%Y*H32+u0)%Y/2^s=rf)(h0:0<hi)(h1:hi<y)(hy:y<W64)(hs:64-(Lib.bitLen y:Int)=s)(i0:s≤63)(P:Prep hi lo y s Y v1 v0 Hs Ls U T u1 u0)(hU:U<v1*H32+v0)(c0:v1*H32+v0=Y)(b1:2147483648≤v1)(b2:v1<H32)(b3:v0<H32)(b4:u1<H32)(b5:u0<H32) :
 yA 335 #[.int .u64 (hi:Int),.int .u64 (lo:Int),.int .u64 (y:Int)] w fun e w'=>e=.returned (.tuple #[.int .u64 (qf:Int),.int .u64 (rf:Int)])∧w=w':=by
 have R:=zh d0
 have S:=zh e0
 clear d0 e0
 have he:=xT
 have HS:=zh hs
 have HY:=zh hy
 have e1:((hi:Int) == 0)=false:=by simp;omega
 have e2:((y:Int) == 0)=false:=by simp;omega
 have K:=zh hU
 have o:=zh c0
 have f0:U<18446744073709551616:=by rw[he] at hU b2 b3;omega
 have g0:Hid (U<W64):=by unfold Hid;rw[zM];exact f0
 have l:Hid (Y≤W64):=by unfold Hid;rw[zM];rw[he] at c0 b2 b3;omega
 obtain⟨p1,p2,p3,p4,p5,p6,p7,p8,p9⟩:=P
 have j0:((v1:Int) == 0)=false:=by simp;omega
 obtain⟨qi,mi,ri,f1,f2,f3,f4,f5,f6⟩:=Zay (U:=U) (v1:=v1) (by omega) g0.out
 have HE:=zh (Zaz (v0:=v0) (u:=u1) (by omega) b4 f5 f6)
 clear hs hy hU c0 f5
 have B1:=zh b1
 have B2:=zh b2
 have B3:=zh b3
 have B4:=zh b4
 have V:=zh b5
 clear b1 b2 b3 b4 b5 he f0
 go_enter Tryz.func335,Tryz.ntmps335
 go_wp2_with (go_at_call 329;refine (aV _ _ HY.out).mono ?_;rintro e w' ⟨rfl,rfl⟩;rw[HS.out])
 clear p1 p2 p3 p4 p5 p6 p7 p8 p9 e1 e2
 go_loop [15,16] (fun qv rv=>∃ q r:Nat,qv=.int .u64 q∧rv=.int .u64 r∧Hid (r<H32)∧Hid (jZ H32 U v1 v0 u1 q r)) (fun qv _=>(intOf qv).toNat)
 case atStart=>exact⟨_,_,rfl,rfl,by have:=B2.out;unfold Hid;omega,HE⟩
 case round =>
  obtain⟨q,r,rfl,rfl,hr,Q⟩:=hrel
  clear f1 f2 f3 f4 f6 HE
  have L:Hid (q<W64):=by
   have h1:=ZaA B1.out g0.out Q.out
   unfold Hid;rw[zM];omega
  have b0:Hid (r+v1<W64):=by
   have h1:=hr.out
   have h2:=B2.out
   unfold Hid;rw[zM];rw[xT] at h1 h2;omega
  have g2:=lR b0.out
  obtain⟨G,A⟩:=yE (r+v1)
  rw[A] at g2
  have M:=zh A
  clear A
  by_cases a:H32≤q
  ·have d:=zh (ZcB K.out B4.out a Q.out)
   have t1:=jI a
   have g1:=jD (q:=q) (by have:=xT;omega) L.out
   obtain⟨p,h⟩:=yE (q-1)
   rw[h] at g1 d
   rw[M.out] at d
   have B:p<q:=by have:=xT;omega
   by_cases f:H32≤G
   ·have i:=zh (jQ K.out B3.out f d.out)
    have t2:=jI f
    clear f a h B d Q
    rw[o.out] at i
    have b:Hid (0<Y):=by have:=o.out;have:=K.out;unfold Hid;omega
    obtain⟨H,F⟩:=yE ((U*H32+u1)%Y)
    have t:Hid (H<Y):=by rw[←F];exact uP _ b.out
    obtain⟨a1,a2,a3,x1,x2,x3,x4⟩:=un21 l.out (by rw[←xT];exact jG i.out) (uP _ b.out)
    rw[F] at x4
    have N:Hid (p<H32):=jH b.out (by have:=K.out;rw[o.out] at this;exact this) B4.out i.out
    have O:=i
    clear i
    have ERR:=zh F
    clear F
    have I:Hid (H<W64):=uX t.out l.out
    have k:Hid (H<v1*H32+v0):=by rw[o.out];exact t.out
    obtain⟨qi,mi,ri,k1,k2,k3,k4,k5,k6⟩:=Zay (U:=H) (v1:=v1) (by have:=B1.out;omega) I.out
    have W:=zh (Zaz (v0:=v0) (u:=u0) (by have:=B1.out;omega) V.out k5 k6)
    clear k5
    go_wp2
    go_loop [16,18] (fun rv qv=>∃ q r:Nat,qv=.int .u64 q∧rv=.int .u64 r∧Hid (r<H32)∧Hid (jZ H32 H v1 v0 u0 q r)) (fun _ qv=>(intOf qv).toNat)
    case atStart=>exact⟨_,_,rfl,rfl,by have:=B2.out;unfold Hid;omega,W⟩
    case round =>
     obtain⟨q,r,rfl,rfl,hr,Q⟩:=hrel
     clear k1 k2 k3 k4 k6 W x1 x2 x3 x4
     have L:Hid (q<W64):=by
      have h1:=ZaA B1.out I.out Q.out
      unfold Hid;rw[zM];omega
     have b0:Hid (r+v1<W64):=by
      have h1:=hr.out
      have h2:=B2.out
      unfold Hid;rw[zM];rw[xT] at h1 h2;omega
     have g2:=lR b0.out
     obtain⟨G,A⟩:=yE (r+v1)
     rw[A] at g2
     have M:=zh A
     clear A
     by_cases a:H32≤q
     ·have d:=zh (ZcB k.out V.out a Q.out)
      have t1:=jI a
      have g1:=jD (q:=q) (by have:=xT;omega) L.out
      obtain⟨p,h⟩:=yE (q-1)
      rw[h] at g1 d
      rw[M.out] at d
      have B:p<q:=by have:=xT;omega
      by_cases f:H32≤G
      ·have i:=zh (jQ k.out B3.out f d.out)
       have t2:=jI f
       clear f a h B d Q
       rw[o.out] at i
       obtain⟨X,Z,a0,y1,y2,y3,y4⟩:=un21 l.out (by rw[←xT];exact jG i.out) (uP _ b.out)
       obtain⟨v,g⟩:=yE ((H*H32+u0)%Y)
       rw[g] at y4
       obtain⟨z1,z2,z4,z5,J⟩:=fN N.out (jH b.out t.out V.out i.out)
       have y5:(v:Int)/2^s=((v/2^s:Nat):Int):=by rw[vY,tN];rfl
       obtain⟨x,c⟩:=yE (v/2^s)
       rw[c] at y5
       have EZ:=zh J
       have ER:=zh c
       have z:=zh g
       clear g J c
       go_wp2
       go_ret2
       have fq:z2=qf:=by rw[EZ.out,← R.out,i.out,O.out,ERR.out]
       have fr:x=rf:=by rw[←ER.out,← z.out,← S.out,ERR.out]
       exact⟨by rw[←fq,← fr];rfl,rfl⟩
      have t2:=kS f
      have C:Hid (G<H32):=by unfold Hid;omega
      clear f a h
      go_wp2
      go_round
      case rel=>exact⟨p,G,rfl,rfl,C,d⟩
      case measure=>simp[intOf];omega
     have t1:=kS a
     have g5:=iL (Zbe a B3.out)
     obtain⟨m,D⟩:=yE (q*v0)
     rw[D] at g5
     obtain⟨m2,m3,g6,g7,n⟩:=ZcD hr.out V.out
     by_cases j:m3<m
     ·have t3:=gV j
      have d:=zh (aU (by have:=k.out;omega) (by rw[D,← n];exact j) Q.out)
      have E:0<q:=by
       rcases uJ q with e|e
       ·subst e;simp at D;omega
       exact e
      have g1:=jD E L.out
      obtain⟨p,h⟩:=yE (q-1)
      rw[h] at g1 d
      rw[M.out] at d
      have B:p<q:=by omega
      by_cases f:H32≤G
      ·have i:=zh (jQ k.out B3.out f d.out)
       have t2:=jI f
       clear f a h B d Q j D n E
       rw[o.out] at i
       obtain⟨X,Z,a0,y1,y2,y3,y4⟩:=un21 l.out (by rw[←xT];exact jG i.out) (uP _ b.out)
       obtain⟨v,g⟩:=yE ((H*H32+u0)%Y)
       rw[g] at y4
       obtain⟨z1,z2,z4,z5,J⟩:=fN N.out (jH b.out t.out V.out i.out)
       have y5:(v:Int)/2^s=((v/2^s:Nat):Int):=by rw[vY,tN];rfl
       obtain⟨x,c⟩:=yE (v/2^s)
       rw[c] at y5
       have EZ:=zh J
       have ER:=zh c
       have z:=zh g
       clear g J c
       go_wp2
       go_ret2
       have fq:z2=qf:=by rw[EZ.out,← R.out,i.out,O.out,ERR.out]
       have fr:x=rf:=by rw[←ER.out,← z.out,← S.out,ERR.out]
       exact⟨by rw[←fq,← fr];rfl,rfl⟩
      have t2:=kS f
      have C:Hid (G<H32):=by unfold Hid;omega
      clear f a h j D n E
      go_wp2
      go_round
      case rel=>exact⟨p,G,rfl,rfl,C,d⟩
      case measure=>simp[intOf];omega
     have t3:=iP j
     have i:=zh (dX (by have:=k.out;omega) (by rw[D,← n];omega) Q.out)
     obtain⟨p,rfl⟩:∃ p,p=q:=⟨_,rfl⟩
     clear j D n a Q
     rw[o.out] at i
     obtain⟨X,Z,a0,y1,y2,y3,y4⟩:=un21 l.out (by rw[←xT];exact jG i.out) (uP _ b.out)
     obtain⟨v,g⟩:=yE ((H*H32+u0)%Y)
     rw[g] at y4
     obtain⟨z1,z2,z4,z5,J⟩:=fN N.out (jH b.out t.out V.out i.out)
     have y5:(v:Int)/2^s=((v/2^s:Nat):Int):=by rw[vY,tN];rfl
     obtain⟨x,c⟩:=yE (v/2^s)
     rw[c] at y5
     have EZ:=zh J
     have ER:=zh c
     have z:=zh g
     clear g J c
     go_wp2
     go_ret2
     have fq:z2=qf:=by rw[EZ.out,← R.out,i.out,O.out,ERR.out]
     have fr:x=rf:=by rw[←ER.out,← z.out,← S.out,ERR.out]
     exact⟨by rw[←fq,← fr];rfl,rfl⟩
   have t2:=kS f
   have C:Hid (G<H32):=by unfold Hid;omega
   clear f a h
   go_wp2
   go_round
   case rel=>exact⟨p,G,rfl,rfl,C,d⟩
   case measure=>simp[intOf];omega
  have t1:=kS a
  have g5:=iL (Zbe a B3.out)
  obtain⟨m,D⟩:=yE (q*v0)
  rw[D] at g5
  obtain⟨m2,m3,g6,g7,n⟩:=ZcD hr.out B4.out
  by_cases j:m3<m
  ·have t3:=gV j
   have d:=zh (aU (by have:=K.out;omega) (by rw[D,← n];exact j) Q.out)
   have E:0<q:=by
    rcases uJ q with e|e
    ·subst e;simp at D;omega
    exact e
   have g1:=jD E L.out
   obtain⟨p,h⟩:=yE (q-1)
   rw[h] at g1 d
   rw[M.out] at d
   have B:p<q:=by omega
   by_cases f:H32≤G
   ·have i:=zh (jQ K.out B3.out f d.out)
    have t2:=jI f
    clear f a h B d Q j D n E
    rw[o.out] at i
    have b:Hid (0<Y):=by have:=o.out;have:=K.out;unfold Hid;omega
    obtain⟨H,F⟩:=yE ((U*H32+u1)%Y)
    have t:Hid (H<Y):=by rw[←F];exact uP _ b.out
    obtain⟨a1,a2,a3,x1,x2,x3,x4⟩:=un21 l.out (by rw[←xT];exact jG i.out) (uP _ b.out)
    rw[F] at x4
    have N:Hid (p<H32):=jH b.out (by have:=K.out;rw[o.out] at this;exact this) B4.out i.out
    have O:=i
    clear i
    have ERR:=zh F
    clear F
    have I:Hid (H<W64):=uX t.out l.out
    have k:Hid (H<v1*H32+v0):=by rw[o.out];exact t.out
    obtain⟨qi,mi,ri,k1,k2,k3,k4,k5,k6⟩:=Zay (U:=H) (v1:=v1) (by have:=B1.out;omega) I.out
    have W:=zh (Zaz (v0:=v0) (u:=u0) (by have:=B1.out;omega) V.out k5 k6)
    clear k5
    go_wp2
    go_loop [16,18] (fun rv qv=>∃ q r:Nat,qv=.int .u64 q∧rv=.int .u64 r∧Hid (r<H32)∧Hid (jZ H32 H v1 v0 u0 q r)) (fun _ qv=>(intOf qv).toNat)
    case atStart=>exact⟨_,_,rfl,rfl,by have:=B2.out;unfold Hid;omega,W⟩
    case round =>
     obtain⟨q,r,rfl,rfl,hr,Q⟩:=hrel
     clear k1 k2 k3 k4 k6 W x1 x2 x3 x4
     have L:Hid (q<W64):=by
      have h1:=ZaA B1.out I.out Q.out
      unfold Hid;rw[zM];omega
     have b0:Hid (r+v1<W64):=by
      have h1:=hr.out
      have h2:=B2.out
      unfold Hid;rw[zM];rw[xT] at h1 h2;omega
     have g2:=lR b0.out
     obtain⟨G,A⟩:=yE (r+v1)
     rw[A] at g2
     have M:=zh A
     clear A
     by_cases a:H32≤q
     ·have d:=zh (ZcB k.out V.out a Q.out)
      have t1:=jI a
      have g1:=jD (q:=q) (by have:=xT;omega) L.out
      obtain⟨p,h⟩:=yE (q-1)
      rw[h] at g1 d
      rw[M.out] at d
      have B:p<q:=by have:=xT;omega
      by_cases f:H32≤G
      ·have i:=zh (jQ k.out B3.out f d.out)
       have t2:=jI f
       clear f a h B d Q
       rw[o.out] at i
       obtain⟨X,Z,a0,y1,y2,y3,y4⟩:=un21 l.out (by rw[←xT];exact jG i.out) (uP _ b.out)
       obtain⟨v,g⟩:=yE ((H*H32+u0)%Y)
       rw[g] at y4
       obtain⟨z1,z2,z4,z5,J⟩:=fN N.out (jH b.out t.out V.out i.out)
       have y5:(v:Int)/2^s=((v/2^s:Nat):Int):=by rw[vY,tN];rfl
       obtain⟨x,c⟩:=yE (v/2^s)
       rw[c] at y5
       have EZ:=zh J
       have ER:=zh c
       have z:=zh g
       clear g J c
       go_wp2
       go_ret2
       have fq:z2=qf:=by rw[EZ.out,← R.out,i.out,O.out,ERR.out]
       have fr:x=rf:=by rw[←ER.out,← z.out,← S.out,ERR.out]
       exact⟨by rw[←fq,← fr];rfl,rfl⟩
      have t2:=kS f
      have C:Hid (G<H32):=by unfold Hid;omega
      clear f a h
      go_wp2
      go_round
      case rel=>exact⟨p,G,rfl,rfl,C,d⟩
      case measure=>simp[intOf];omega
     have t1:=kS a
     have g5:=iL (Zbe a B3.out)
     obtain⟨m,D⟩:=yE (q*v0)
     rw[D] at g5
     obtain⟨m2,m3,g6,g7,n⟩:=ZcD hr.out V.out
     by_cases j:m3<m
     ·have t3:=gV j
      have d:=zh (aU (by have:=k.out;omega) (by rw[D,← n];exact j) Q.out)
      have E:0<q:=by
       rcases uJ q with e|e
       ·subst e;simp at D;omega
       exact e
      have g1:=jD E L.out
      obtain⟨p,h⟩:=yE (q-1)
      rw[h] at g1 d
      rw[M.out] at d
      have B:p<q:=by omega
      by_cases f:H32≤G
      ·have i:=zh (jQ k.out B3.out f d.out)
       have t2:=jI f
       clear f a h B d Q j D n E
       rw[o.out] at i
       obtain⟨X,Z,a0,y1,y2,y3,y4⟩:=un21 l.out (by rw[←xT];exact jG i.out) (uP _ b.out)
       obtain⟨v,g⟩:=yE ((H*H32+u0)%Y)
       rw[g] at y4
       obtain⟨z1,z2,z4,z5,J⟩:=fN N.out (jH b.out t.out V.out i.out)
       have y5:(v:Int)/2^s=((v/2^s:Nat):Int):=by rw[vY,tN];rfl
       obtain⟨x,c⟩:=yE (v/2^s)
       rw[c] at y5
       have EZ:=zh J
       have ER:=zh c
       have z:=zh g
       clear g J c
       go_wp2
       go_ret2
       have fq:z2=qf:=by rw[EZ.out,← R.out,i.out,O.out,ERR.out]
       have fr:x=rf:=by rw[←ER.out,← z.out,← S.out,ERR.out]
       exact⟨by rw[←fq,← fr];rfl,rfl⟩
      have t2:=kS f
      have C:Hid (G<H32):=by unfold Hid;omega
      clear f a h j D n E
      go_wp2
      go_round
      case rel=>exact⟨p,G,rfl,rfl,C,d⟩
      case measure=>simp[intOf];omega
     have t3:=iP j
     have i:=zh (dX (by have:=k.out;omega) (by rw[D,← n];omega) Q.out)
     obtain⟨p,rfl⟩:∃ p,p=q:=⟨_,rfl⟩
     clear j D n a Q
     rw[o.out] at i
     obtain⟨X,Z,a0,y1,y2,y3,y4⟩:=un21 l.out (by rw[←xT];exact jG i.out) (uP _ b.out)
     obtain⟨v,g⟩:=yE ((H*H32+u0)%Y)
     rw[g] at y4
     obtain⟨z1,z2,z4,z5,J⟩:=fN N.out (jH b.out t.out V.out i.out)
     have y5:(v:Int)/2^s=((v/2^s:Nat):Int):=by rw[vY,tN];rfl
     obtain⟨x,c⟩:=yE (v/2^s)
     rw[c] at y5
     have EZ:=zh J
     have ER:=zh c
     have z:=zh g
     clear g J c
     go_wp2
     go_ret2
     have fq:z2=qf:=by rw[EZ.out,← R.out,i.out,O.out,ERR.out]
     have fr:x=rf:=by rw[←ER.out,← z.out,← S.out,ERR.out]
     exact⟨by rw[←fq,← fr];rfl,rfl⟩
   have t2:=kS f
   have C:Hid (G<H32):=by unfold Hid;omega
   clear f a h j D n E
   go_wp2
   go_round
   case rel=>exact⟨p,G,rfl,rfl,C,d⟩
   case measure=>simp[intOf];omega
  have t3:=iP j
  have i:=zh (dX (by have:=K.out;omega) (by rw[D,← n];omega) Q.out)
  obtain⟨p,rfl⟩:∃ p,p=q:=⟨_,rfl⟩
  clear j D n a Q
  rw[o.out] at i
  have b:Hid (0<Y):=by have:=o.out;have:=K.out;unfold Hid;omega
  obtain⟨H,F⟩:=yE ((U*H32+u1)%Y)
  have t:Hid (H<Y):=by rw[←F];exact uP _ b.out
  obtain⟨a1,a2,a3,x1,x2,x3,x4⟩:=un21 l.out (by rw[←xT];exact jG i.out) (uP _ b.out)
  rw[F] at x4
  have N:Hid (p<H32):=jH b.out (by have:=K.out;rw[o.out] at this;exact this) B4.out i.out
  have O:=i
  clear i
  have ERR:=zh F
  clear F
  have I:Hid (H<W64):=uX t.out l.out
  have k:Hid (H<v1*H32+v0):=by rw[o.out];exact t.out
  obtain⟨qi,mi,ri,k1,k2,k3,k4,k5,k6⟩:=Zay (U:=H) (v1:=v1) (by have:=B1.out;omega) I.out
  have W:=zh (Zaz (v0:=v0) (u:=u0) (by have:=B1.out;omega) V.out k5 k6)
  clear k5
  go_wp2
  go_loop [16,18] (fun rv qv=>∃ q r:Nat,qv=.int .u64 q∧rv=.int .u64 r∧Hid (r<H32)∧Hid (jZ H32 H v1 v0 u0 q r)) (fun _ qv=>(intOf qv).toNat)
  case atStart=>exact⟨_,_,rfl,rfl,by have:=B2.out;unfold Hid;omega,W⟩
  case round =>
   obtain⟨q,r,rfl,rfl,hr,Q⟩:=hrel
   clear k1 k2 k3 k4 k6 W x1 x2 x3 x4
   have L:Hid (q<W64):=by
    have h1:=ZaA B1.out I.out Q.out
    unfold Hid;rw[zM];omega
   have b0:Hid (r+v1<W64):=by
    have h1:=hr.out
    have h2:=B2.out
    unfold Hid;rw[zM];rw[xT] at h1 h2;omega
   have g2:=lR b0.out
   obtain⟨G,A⟩:=yE (r+v1)
   rw[A] at g2
   have M:=zh A
   clear A
   by_cases a:H32≤q
   ·have d:=zh (ZcB k.out V.out a Q.out)
    have t1:=jI a
    have g1:=jD (q:=q) (by have:=xT;omega) L.out
    obtain⟨p,h⟩:=yE (q-1)
    rw[h] at g1 d
    rw[M.out] at d
    have B:p<q:=by have:=xT;omega
    by_cases f:H32≤G
    ·have i:=zh (jQ k.out B3.out f d.out)
     have t2:=jI f
     clear f a h B d Q
     rw[o.out] at i
     obtain⟨X,Z,a0,y1,y2,y3,y4⟩:=un21 l.out (by rw[←xT];exact jG i.out) (uP _ b.out)
     obtain⟨v,g⟩:=yE ((H*H32+u0)%Y)
     rw[g] at y4
     obtain⟨z1,z2,z4,z5,J⟩:=fN N.out (jH b.out t.out V.out i.out)
     have y5:(v:Int)/2^s=((v/2^s:Nat):Int):=by rw[vY,tN];rfl
     obtain⟨x,c⟩:=yE (v/2^s)
     rw[c] at y5
     have EZ:=zh J
     have ER:=zh c
     have z:=zh g
     clear g J c
     go_wp2
     go_ret2
     have fq:z2=qf:=by rw[EZ.out,← R.out,i.out,O.out,ERR.out]
     have fr:x=rf:=by rw[←ER.out,← z.out,← S.out,ERR.out]
     exact⟨by rw[←fq,← fr];rfl,rfl⟩
    have t2:=kS f
    have C:Hid (G<H32):=by unfold Hid;omega
    clear f a h
    go_wp2
    go_round
    case rel=>exact⟨p,G,rfl,rfl,C,d⟩
    case measure=>simp[intOf];omega
   have t1:=kS a
   have g5:=iL (Zbe a B3.out)
   obtain⟨m,D⟩:=yE (q*v0)
   rw[D] at g5
   obtain⟨m2,m3,g6,g7,n⟩:=ZcD hr.out V.out
   by_cases j:m3<m
   ·have t3:=gV j
    have d:=zh (aU (by have:=k.out;omega) (by rw[D,← n];exact j) Q.out)
    have E:0<q:=by
     rcases uJ q with e|e
     ·subst e;simp at D;omega
     exact e
    have g1:=jD E L.out
    obtain⟨p,h⟩:=yE (q-1)
    rw[h] at g1 d
    rw[M.out] at d
    have B:p<q:=by omega
    by_cases f:H32≤G
    ·have i:=zh (jQ k.out B3.out f d.out)
     have t2:=jI f
     clear f a h B d Q j D n E
     rw[o.out] at i
     obtain⟨X,Z,a0,y1,y2,y3,y4⟩:=un21 l.out (by rw[←xT];exact jG i.out) (uP _ b.out)
     obtain⟨v,g⟩:=yE ((H*H32+u0)%Y)
     rw[g] at y4
     obtain⟨z1,z2,z4,z5,J⟩:=fN N.out (jH b.out t.out V.out i.out)
     have y5:(v:Int)/2^s=((v/2^s:Nat):Int):=by rw[vY,tN];rfl
     obtain⟨x,c⟩:=yE (v/2^s)
     rw[c] at y5
     have EZ:=zh J
     have ER:=zh c
     have z:=zh g
     clear g J c
     go_wp2
     go_ret2
     have fq:z2=qf:=by rw[EZ.out,← R.out,i.out,O.out,ERR.out]
     have fr:x=rf:=by rw[←ER.out,← z.out,← S.out,ERR.out]
     exact⟨by rw[←fq,← fr];rfl,rfl⟩
    have t2:=kS f
    have C:Hid (G<H32):=by unfold Hid;omega
    clear f a h j D n E
    go_wp2
    go_round
    case rel=>exact⟨p,G,rfl,rfl,C,d⟩
    case measure=>simp[intOf];omega
   have t3:=iP j
   have i:=zh (dX (by have:=k.out;omega) (by rw[D,← n];omega) Q.out)
   obtain⟨p,rfl⟩:∃ p,p=q:=⟨_,rfl⟩
   clear j D n a Q
   rw[o.out] at i
   obtain⟨X,Z,a0,y1,y2,y3,y4⟩:=un21 l.out (by rw[←xT];exact jG i.out) (uP _ b.out)
   obtain⟨v,g⟩:=yE ((H*H32+u0)%Y)
   rw[g] at y4
   obtain⟨z1,z2,z4,z5,J⟩:=fN N.out (jH b.out t.out V.out i.out)
   have y5:(v:Int)/2^s=((v/2^s:Nat):Int):=by rw[vY,tN];rfl
   obtain⟨x,c⟩:=yE (v/2^s)
   rw[c] at y5
   have EZ:=zh J
   have ER:=zh c
   have z:=zh g
   clear g J c
   go_wp2
   go_ret2
   have fq:z2=qf:=by rw[EZ.out,← R.out,i.out,O.out,ERR.out]
   have fr:x=rf:=by rw[←ER.out,← z.out,← S.out,ERR.out]
   exact⟨by rw[←fq,← fr];rfl,rfl⟩
theorem eB {y:Nat}(b:0<y)(a:y<W64):1≤Lib.bitLen y∧Lib.bitLen y≤64∧2^(Lib.bitLen y-1)≤y∧y<2^Lib.bitLen y:=by
 rw[zM] at a
 have h:=Lib.bitLenAux_bounds 64 y (by omega) (by omega)
 exact⟨h.1,Lib.bitLen_le y 64 (by omega) (by omega),h.2.1,h.2.2⟩
noncomputable def divQ (hi lo y:Nat):Nat:=(hi*W64+lo)/y
noncomputable def divR (hi lo y:Nat):Nat:=(hi*W64+lo)%y
theorem Zdp (hi lo y:Nat):divQ hi lo y*y+divR hi lo y=hi*W64+lo:=by
 unfold divQ divR;rw[uG];exact tG _ _
theorem ZcE (hi lo:Nat){y:Nat}(a:0<y):divR hi lo y<y:=uP _ a
theorem Zh2 {hi lo y:Nat}(h:hi<y)(a:lo<W64):divQ hi lo y<W64:=by
 unfold divQ
 rw[vX (by omega)]
 have:(hi+1)*W64≤y*W64:=uC _ h
 rw[uT] at this
 rw[uG W64]
 omega
theorem ZjG (hi lo y:Nat)(w:World)(q:0<hi)(h:hi<y)(n:y<W64)(d:lo<W64) :
 yA 335 #[.int .u64 (hi:Int),.int .u64 (lo:Int),.int .u64 (y:Int)] w fun e w'=>e=.returned (.tuple #[.int .u64 (divQ hi lo y:Nat),.int .u64 (divR hi lo y:Nat)])∧w=w':=by
 obtain⟨z,A,r,t⟩:=eB (y:=y) (by omega) n
 obtain⟨s,B⟩:=yE (64-Lib.bitLen y)
 have i:0<2^s:=uU (by omega)
 have b:y*2^s<W64:=by
  have:y*2^s<2^Lib.bitLen y*2^s:=tE t i
  rw[←vV,show Lib.bitLen y+s=64 by omega] at this
  rw[zM];exact this
 have u:9223372036854775808≤y*2^s:=by
  have:2^(Lib.bitLen y-1)*2^s≤y*2^s:=uC _ r
  rw[←vV,show Lib.bitLen y-1+s=63 by omega] at this
  exact this
 have C:hi*2^s<y*2^s:=tE h i
 have j:lo/2^(64-s)<2^s:=by
  rw[vX (uU (by omega)),← vV,show s+(64-s)=64 by omega]
  rw[zM] at d;exact d
 have k:hi*2^s ||| lo/2^(64-s)=hi*2^s+lo/2^(64-s):=by
  have:=tL j hi
  rw[sI] at this
  exact this.symm
 have f:hi*2^s+lo/2^(64-s)<y*2^s:=by
  have:(hi+1)*2^s≤y*2^s:=uC _ h
  rw[uT] at this
  omega
 have l:y*2^s<18446744073709551616:=by rw[zM] at b;exact b
 have v:lo*2^s%18446744073709551616<18446744073709551616:=uP _ (by omega)
 have g:hi*2^s<18446744073709551616:=by omega
 have a:((2:Int)^s)=((2^s:Nat):Int):=by rw[tN];rfl
 have c:((2:Int)^(64-s))=((2^(64-s):Nat):Int):=by rw[tN];rfl
 have x:=Zhl hi lo s (by omega)
 have o:y*2^s/4294967296*H32+y*2^s%4294967296=y*2^s:=by rw[xT,uG];exact tG _ _
 have p:=ZbV (hi*18446744073709551616+lo) y (2^s) i
 have m:=Zmb (H:=H32) (Y:=y*2^s) (U:=hi*2^s+lo/2^(64-s)) (u1:=lo*2^s%18446744073709551616/4294967296) (u0:=lo*2^s%18446744073709551616%4294967296) (by omega) f (by rw[xT];omega) (by rw[xT];omega)
 rw[xT,← x,p.1] at m
 refine ZiQ hi lo y s (y*2^s) (y*2^s/4294967296) (y*2^s%4294967296) (hi*2^s) (lo/2^(64-s)) (hi*2^s+lo/2^(64-s)) (lo*2^s%18446744073709551616) (lo*2^s%18446744073709551616/4294967296) (lo*2^s%18446744073709551616%4294967296) _ _ w ?_ ?_ q h n (by omega) (by omega) ⟨?_,?_,?_,?_,?_,?_,?_,?_,?_⟩ (by rw[o];exact f) o (by omega) (by rw[xT];omega) (by rw[xT];omega) (by rw[xT];omega) (by rw[xT];omega)
 ·rw[xT,← m.2.2.2.1,divQ,zM]
 ·rw[xT,← m.2.2.2.2,divR,zM];exact p.2
 ·rw[a,← tW];exact xV _ b
 ·omega
 ·exact M64.maskN _ l
 ·rw[a,← tW];exact M64.wrapN _ g
 ·rw[c,vY]
 ·rw[bits_or_u64_nat _ _ g (by omega),k]
 ·rw[a,← tW];exact M64.wrapM _
 ·omega
 exact M64.maskN _ v
theorem Zhn (lo y q r:Nat)(w:World)(f:0<y)(b:lo/y=q)(c:lo%y=r)(a:lo<W64) :
 yA 335 #[.int .u64 0,.int .u64 (lo:Int),.int .u64 (y:Int)] w fun e w'=>e=.returned (.tuple #[.int .u64 (q:Int),.int .u64 (r:Int)])∧∃ n,w'=w.drewN n:=by
 have g:((y:Int) == 0)=false:=by simp;omega
 have h:(lo:Int)/(y:Int)=(q:Int):=by rw[←vY,b]
 have i:IntKind.u64.wrap (q:Int)=(q:Int):=xV _ (by have:=vU lo y;omega)
 have d:(lo:Int)%(y:Int)=(r:Int):=by rw[←Int.natCast_emod,c]
 clear b c a
 go_enter Tryz.func335,Tryz.ntmps335
 go_wp2
 go_quiet (fail)
 go_wp2
 go_ret2
 exact⟨by rw[←d];rfl,_,rfl⟩
theorem Zb1 (hi lo y:Nat)(w:World)(c:hi<y)(d:y<W64)(a:lo<W64) :
 yA 335 #[.int .u64 (hi:Int),.int .u64 (lo:Int),.int .u64 (y:Int)] w fun e w'=>e=.returned (.tuple #[.int .u64 (divQ hi lo y:Nat),.int .u64 (divR hi lo y:Nat)])∧∃ n,w'=w.drewN n:=by
 rcases uJ hi with b|b
 ·subst b
  refine (Zhn lo y (divQ 0 lo y) (divR 0 lo y) w c (by simp[divQ]) (by simp[divR]) a).mono ?_
  rintro e w' ⟨rfl,f⟩
  exact⟨rfl,f⟩
 refine (ZjG hi lo y w b c d a).mono ?_
 rintro e w' ⟨rfl,rfl⟩
 exact⟨rfl,0,rfl⟩
def dI (xs:List Nat) (u k r:Nat):Prop:=r<u∧∃ Q,val W64 (xs.drop k)=Q*u+r
theorem dI.start (xs:List Nat){u:Nat}(a:0<u):dI xs u xs.length 0:=⟨a,0,by rw[vN (uR _)];simp⟩
theorem dI.step {xs:List Nat}{u k r x:Nat}(h:dI xs u (k+1) r)(a:k<xs.length)(b:xs[k]?.getD 0=x):dI xs u k (divR r x u):=by
 obtain⟨d,Q,c⟩:=h
 refine⟨ZcE _ _ (by omega),divQ r x u+W64*Q,?_⟩
 rw[xR k a,b]
 exact Zdi W64 _ _ _ _ _ _ _ c (Zdp r x u).symm
theorem dI.done {xs:List Nat}{u r:Nat}(h:dI xs u 0 r):val W64 xs%u=r:=by
 obtain⟨b,Q,a⟩:=h
 rw[sL] at a
 rw[a,uG,rV,vI b]
theorem iX (A:Option Addr)(xs:List Nat)(n c u:Nat)(w:World)(z:xs.length=n)(p:zV .u64 w A xs)(J:xs.length≤1099511627776)(s:Dig W64 xs)(B:0<u)(d:u<W64) :
 yA 300 #[.slice A n c,.int .u64 (u:Int)] w fun e w'=>e=.returned (.int .u64 ((val W64 xs%u:Nat):Int))∧∃ n,w'=w.drewN n:=by
 subst z
 have C:=zh p
 have D:=zh s
 have E:=zh d
 obtain⟨F,a⟩:=yE (val W64 xs%u)
 rw[a]
 have f:=zh a
 clear p s d a
 go_enter Tryz.func300,Tryz.ntmps300
 go_wp2
 go_loopw [5,6] (fun G i wr=>∃ k r q:Nat,k≤xs.length∧i=.int .i64 ((k:Int)-1)∧G=.int .u64 (r:Int)∧Hid (dI xs u k r)∧Hid (wr=w.drewN q)) (fun _ i _=>(intOf i+1).toNat)
 case atStart=>exact⟨xs.length,0,0,uR _,rfl,rfl,dI.start xs B,rfl⟩
 case round =>
  obtain⟨k,r,q,K,rfl,rfl,h,t⟩:=hrel
  obtain rfl:=t.out
  clear t
  by_cases H:0<k
  ·obtain⟨j,rfl⟩:∃ j,k=j+1:=⟨k-1,by omega⟩
   have v:(((j+1:Nat):Int)-1)=(j:Int):=by omega
   rw[v]
   clear v
   obtain⟨b,I,rfl,_,l⟩:=C.out.at (i:=j) (by omega)
   obtain⟨x,g⟩:=yE (xs[j]?.getD 0)
   rw[g] at l
   have m:=zh (h.out.step (by omega) g)
   have o:Hid (x<W64):=g ▸ D.out.getD zZ j
   clear g
   go_wp2_with (go_at_call 335;refine (Zb1 _ _ _ _ h.out.1 E.out o.out).mono ?_;rintro e w' ⟨rfl,L,rfl⟩)
   go_roundw
   case rel=>exact⟨j,_,_,by omega,rfl,rfl,m,rfl⟩
   case measure=>simp[intOf]
  obtain rfl:k=0:=by omega
  have y:=zh h.out.done
  rw[f.out] at y
  go_wp2
  go_ret
  exact⟨by rw[y.out];rfl,_,rfl⟩
def dJ (xs:List Nat) (u k:Nat) (qs:List Nat) (r:Nat):Prop:=qs.length=xs.length∧Dig W64 qs∧r<u∧val W64 (xs.drop k)=val W64 (qs.drop k)*u+r
theorem dJ.start (xs:List Nat){u:Nat}(a:0<u):dJ xs u xs.length (List.replicate xs.length 0) 0:=by
 refine⟨by simp,Dig.replicate zZ _,a,?_⟩
 rw[vN (uR _),vN (by simp)];simp
theorem dJ.step {xs a:List Nat}{u k r x:Nat}(h:dJ xs u (k+1) a r)(c:k<xs.length)(e:xs[k]?.getD 0=x)(b:x<W64):dJ xs u k (a.set k (divQ r x u)) (divR r x u):=by
 obtain⟨d,f,g,i⟩:=h
 refine⟨by simpa using d,f.set k (Zh2 g b),ZcE _ _ (by omega),?_⟩
 rw[xR k c,e,xR (xs:=a.set k _) k (by simp;omega),tU (by omega)]
 have:(a.set k (divQ r x u))[k]?.getD 0=divQ r x u:=by simp[d,c]
 rw[this]
 exact Zdi W64 _ _ _ _ _ _ _ i (Zdp r x u).symm
theorem dJ.done {xs a:List Nat}{u r:Nat}(h:dJ xs u 0 a r):val W64 a=val W64 xs/u∧r=val W64 xs%u:=by
 obtain⟨d,e,b,c⟩:=h
 rw[sL,sL] at c
 rw[c,uG,sM (by omega),rV,vI b,tO b]
 exact⟨rfl,rfl⟩
def ZiR (w:World) (q r:Nat) (e:Ending) (w':World):Prop:=∃ v,e=.returned (.tuple #[v,.int .u64 (r:Int)])∧zY w' v q∧Ext w w'
theorem ZeQ (A:Option Addr)(xs:List Nat)(n c u:Nat)(w:World)(R:xs.length=n)(I:zV .u64 w A xs)(hl:xs.length≤4294967296)(J:Dig W64 xs)(S:0<u)(h:u<W64) :
 yA 353 #[.slice A n c,.int .u64 (u:Int)] w (ZiR w (val W64 xs/u) (val W64 xs%u)):=by
 subst R
 have T:=zh I
 have U:=zh J
 have V:=zh h
 clear I J h
 go_enter Tryz.func353,Tryz.ntmps353
 go_wp2_with (
  at_make
  refine wE rfl _ _ _ rfl _ _ _ Tryz.underlying255 dG _ _ _ _ xs.length rfl rfl (by omega) (by omega) (by omega) (by omega) ?_
  intro b w1 K l _ m t
  have y:=zh l
  have B:=zh m
  have W:=zh K
  clear l m K t)
 go_loopw [7,8] (fun X i wr=>∃ (k r:Nat) (f:List Nat),k≤xs.length∧i=.int .i64 ((k:Int)-1)∧X=.int .u64 (r:Int)∧Hid (dJ xs u k f r)∧Hid (Own .u64 297 wr b f)∧Hid (Ext w wr)) (fun _ i _=>(intOf i+1).toNat)
 case atStart=>exact⟨xs.length,0,_,uR _,rfl,rfl,dJ.start xs S,y.out,B.out⟩
 case round =>
  obtain⟨k,r,f,hk,rfl,rfl,g,a,d⟩:=hrel
  by_cases Y:0<k
  ·obtain⟨j,rfl⟩:∃ j,k=j+1:=⟨k-1,by omega⟩
   have L:(((j+1:Nat):Int)-1)=(j:Int):=by omega
   rw[L]
   clear L
   obtain⟨b2,M,rfl,_,C⟩:=(T.out.ext d.out).at (i:=j) (by omega)
   obtain⟨x,s⟩:=yE (xs[j]?.getD 0)
   rw[s] at C
   have o:Hid (x<W64):=s ▸ U.out.getD zZ j
   have D:=zh (g.out.step (by omega) s o.out)
   clear s
   have E:=g.out.1
   have q:j<f.length:=by omega
   have F:=a.out.cell q
   have Z:=a.out.frozen j
   obtain⟨z,N⟩:=yE (f[j]?.getD 0)
   rw[N] at F
   have G:=zh (fun v=>a.out.set j v q)
   clear N E
   go_wp2_with (go_at_call 335;refine (Zb1 _ _ _ _ g.out.2.2.1 V.out o.out).mono ?_;rintro e w' ⟨rfl,n1,rfl⟩)
   go_roundw
   case rel=>exact⟨j,_,_,by omega,rfl,rfl,D,G.out _,(d.out.setCell (p:=⟨b,j,none⟩) (Or.inr (by have:=W.out;show w.heap.size≤b;omega)) _).drewN _⟩
   case measure=>simp[intOf]
  obtain rfl:k=0:=by omega
  have H:=g.out.done
  have O:=g.out.1
  have P:=zh (gJ _ f xs.length xs.length wr O a.out.shows0 (by omega) (by omega))
  have Q:=zh (zY.of_own (c:=xs.length) a.out g.out.2.1 (by omega))
  rw[H.1] at Q
  have Hr:=zh H.2
  clear O H
  go_wp2_with fail
  refine P.out.mono ?_
  rintro e w2 ⟨rfl,rfl⟩
  clear P
  go_wp2
  go_ret2
  exact⟨_,by rw[←Hr.out];rfl,Q.out,d.out⟩
theorem kC {t:Nat}(a:t≤63):2^(64-t)*2^t=W64:=by
 rw[←vV,show 64-t+t=64 by omega,zM]
theorem ZjI {x t:Nat}(a:t≤63):x*2^t=x*2^t%W64+W64*(x/2^(64-t)):=by
 have h:=sG (x*2^t) W64
 have:x*2^t/W64=x/2^(64-t):=by
  rw[←kC a,qR _ _ (uU (by omega))]
 rw[this] at h
 exact h.symm
theorem Zni {h x t:Nat}(a:h<2^t)(b:t≤63):h ||| x*2^t%W64=h+x*2^t%W64:=by
 have e:x*2^t%W64=(x%2^(64-t)) <<< t:=by
  rw[sI,← kC b,sX]
 rw[e,Nat.or_comm,← tL a,vR]
theorem aW (x t:Nat):IntKind.u64.wrap ((x:Int)*2^t)=((x*2^t%W64:Nat):Int):=by
 have a:((2:Int)^t)=((2^t:Nat):Int):=by rw[tN];rfl
 rw[a,← tW,zM]
 exact M64.wrapM _
theorem Zb2 (x t:Nat):(x:Int)/2^t=((x/2^t:Nat):Int):=by
 have a:((2:Int)^t)=((2^t:Nat):Int):=by rw[tN];rfl
 rw[a,vY]
theorem dK {a b:Nat}(c:a<W64)(d:b<W64):bits .or .u64 (a:Int) (b:Int)=((a ||| b:Nat):Int):=by
 rw[zM] at c d
 exact bits_or_u64_nat a b c d
def dL (xs:List Nat) (skip t k:Nat) (zs:List Nat):Prop :=
 zs.length=xs.length+skip+1∧Dig W64 zs∧val W64 (zs.take (k+skip+1))=val W64 (xs.take k)*2^(64*skip+t)∧(zs[k+skip]?.getD 0)<2^t
theorem dL.start (xs:List Nat)(skip t:Nat):dL xs skip t 0 (List.replicate (xs.length+skip+1) 0):=by
 refine⟨by simp,Dig.replicate zZ _,?_,?_⟩
 ·rw[List.take_replicate,jF];simp
 have:((List.replicate (xs.length+skip+1) 0)[0+skip]?.getD 0)=0:=by
  rw[List.getElem?_replicate];split<;>rfl
 rw[this];exact uU (by omega)
theorem dL.step {xs zs:List Nat}{skip t k h x:Nat}(i:dL xs skip t k zs)(f:t≤63)(j:k<xs.length)(g:zs[k+skip]?.getD 0=h)(l:xs[k]?.getD 0=x)(a:x<W64) :
 dL xs skip t (k+1) ((zs.set (k+skip) (h+x*2^t%W64)).set (k+skip+1) (x/2^(64-t)))∧h+x*2^t%W64<W64:=by
 obtain⟨m,n,o,p⟩:=i
 rw[g] at p
 have b:h+x*2^t%W64<W64:=by
  rw[←kC f,sX]
  have:x%2^(64-t)<2^(64-t):=uP _ (uU (by omega))
  have q:(x%2^(64-t)+1)*2^t≤2^(64-t)*2^t:=uC _ this
  rw[uT] at q
  omega
 have d:x/2^(64-t)<2^t:=by
  rw[vX (uU (by omega)),← vV,show t+(64-t)=64 by omega]
  rw[zM] at a;exact a
 have c:x/2^(64-t)<W64:=uN (vU _ _) a
 refine⟨⟨by simpa using m,(n.set _ b).set _ c,?_,?_⟩,b⟩
 ·rw[show k+1+skip+1=(k+skip+1)+1 by omega,xU _ _ _ _ (by simp;omega),xU _ _ _ _ (by omega),zT k j,l,uT,← o,zT (k+skip) (by omega),g]
  have e:=ZjI (x:=x) f
  have r:W64^k*x*2^(64*skip+t)=W64^(k+skip)*(x*2^t):=by
   rw[vV 2,← ZcC,vV]
   simp only[uQ,sB]
  rw[r]
  have s:=tC (W64^(k+skip) * ·) e
  simp only[uS] at s
  rw[uS,uW,uQ]
  omega
 have:((zs.set (k+skip) (h+x*2^t%W64)).set (k+skip+1) (x/2^(64-t)))[k+1+skip]?.getD 0=x/2^(64-t):=by
  rw[show k+1+skip=k+skip+1 by omega,List.getElem?_set_self (by simp;omega)]
  rfl
 rw[this];exact d
theorem dL.done {xs zs:List Nat}{skip t:Nat}(h:dL xs skip t xs.length zs):val W64 zs=val W64 xs*2^(64*skip+t):=by
 obtain⟨b,c,a,d⟩:=h
 rw[uB (by omega),uB (by omega)] at a
 exact a
theorem ZeR (A:Option Addr)(xs:List Nat)(n c s skip t:Nat)(w:World)(hn:xs.length=n)(V:zV .u64 w A xs)(W:xs.length≤c)(hl:xs.length≤4294967296)(X:Dig W64 xs)(Y:Trim xs)(H:s=64*skip+t)(Z:t≤63)(hk:skip≤4294967296) :
 yA 347 #[.slice A n c,.int .u64 (s:Int)] w (jN w (val W64 xs*2^s)):=by
 subst hn
 have J:=zh V
 have K:=zh X
 have Tx:=zh Y
 have HS:=zh H
 clear V X Y
 by_cases h0:xs.length=0
 ·obtain rfl:xs=[]:=vZ.1 h0
  clear H
  go_enter Tryz.func347,Tryz.ntmps347
  go_wp2
  go_ret
  exact⟨_,rfl,⟨A,[],c,rfl,W,J.out,K.out,Tx.out,by simp⟩,Fr.refl _ _⟩
 have L:(((xs.length:Nat):Int) == 0)=false:=by simp;intro e;simp[e] at h0
 by_cases h1:s=0
 ·subst h1
  clear H
  go_enter Tryz.func347,Tryz.ntmps347
  go_wp2
  go_ret
  exact⟨_,rfl,⟨A,xs,c,rfl,W,J.out,K.out,Tx.out,by simp⟩,Fr.refl _ _⟩
 have M:((s:Int) == 0)=false:=by simp;omega
 have p1:(s:Int)/64=(skip:Int):=by omega
 have p2:(s:Int)%64=(t:Int):=by omega
 clear H h1
 go_enter Tryz.func347,Tryz.ntmps347
 go_wp2_with (
  at_make
  refine wE rfl _ _ _ rfl _ _ _ Tryz.underlying255 dG _ _ _ _ (xs.length+skip+1) rfl rfl (by omega) (by omega) (by omega) (by omega) ?_
  intro b w1 hb v _ y N
  have O:=zh v
  have P:=zh y
  have Hb:=zh hb
  clear v y hb N)
 go_loopw [31] (fun i wr=>∃ (k:Nat) (o:List Nat),k≤xs.length∧i=.int .i64 (k:Int)∧Hid (dL xs skip t k o)∧Hid (Own .u64 297 wr b o)∧Hid (Ext w wr)) (fun i _=>xs.length-(intOf i).toNat)
 case atStart=>exact⟨0,_,by omega,rfl,dL.start xs skip t,O.out,P.out⟩
 case round =>
  obtain⟨k,o,b0,rfl,q,f,r⟩:=hrel
  clear p1 p2 L M
  by_cases z:k<xs.length
  ·obtain⟨b2,a0,rfl,_,Q⟩:=(J.out.ext r.out).at z
   obtain⟨x,I⟩:=yE (xs[k]?.getD 0)
   obtain⟨h,B⟩:=yE (o[k+skip]?.getD 0)
   rw[I] at Q
   have R:Hid (x<W64):=I ▸ K.out.getD zZ k
   obtain⟨C,D⟩:=q.out.step Z z B I R.out
   have j:=zh C
   have S:o.length=xs.length+skip+1:=q.out.1
   have T:=f.out.cell (i:=k+skip) (by omega)
   have c0:=f.out.frozen (k+skip)
   rw[B] at T
   have l:=f.out.set (k+skip) (h+x*2^t%W64) (by omega)
   have u:=l.cell (i:=k+skip+1) (by simp;omega)
   have E:=l.frozen (k+skip+1)
   obtain⟨g,eg⟩:=yE ((o.set (k+skip) (h+x*2^t%W64))[k+skip+1]?.getD 0)
   rw[eg] at u
   have m:=zh (l.set (k+skip+1) (x/2^(64-t)) (by simp;omega))
   have q1:=aW x t
   have U:=dK (a:=h) (b:=x*2^t%W64) (B ▸ q.out.2.1.getD zZ _) (uP _ zZ)
   rw[Zni (B ▸ q.out.2.2.2) Z] at U
   have q3:=Zb2 x (64-t)
   obtain⟨lo,F⟩:=yE (x*2^t%W64)
   obtain⟨hi,G⟩:=yE (x/2^(64-t))
   rw[F] at q1 U u E j m
   rw[G] at q3 j m
   obtain⟨d,ed⟩:=yE (h+lo)
   rw[ed] at U u E j m
   clear I B C D S l eg F G ed
   go_wp2
   go_roundw
   case rel=>exact⟨k+1,_,by omega,by go_num,j,m.out,(r.out.setCell (p:=⟨b,k+skip,none⟩) (Or.inr (by have:=Hb.out;show w.heap.size≤b;omega)) _).setCell (p:=⟨b,k+skip+1,none⟩) (Or.inr (by have:=Hb.out;show w.heap.size≤b;omega)) _⟩
   case measure=>simp[intOf];omega
  obtain rfl:k=xs.length:=by omega
  have hz:=q.out.1
  have HT:=zh (gJ _ o (xs.length+skip+1) (xs.length+skip+1) wr hz f.out.shows0 (by omega) (by omega))
  have HN:=zh (zY.of_own (c:=xs.length+skip+1) f.out q.out.2.1 (by omega))
  rw[q.out.done,← HS.out] at HN
  clear hz
  go_wp2_with fail
  refine HT.out.mono ?_
  rintro e w2 ⟨rfl,rfl⟩
  clear HT
  go_wp2
  go_ret
  exact⟨_,rfl,HN.out,r.out⟩
theorem ZbE (a:Value)(x s:Nat)(w:World)(f:zY w a x)(b:wl x≤4294967296)(j:s≤274877906944):yA 347 #[a,.int .u64 (s:Int)] w (jN w (x*2^s)):=by
 obtain⟨A,g,c,rfl,h,i,d,e,rfl⟩:=f
 rw[←wK d e] at b
 exact ZeR A g _ c s (s/64) (s%64) w rfl i h b d e (by omega) (by omega) (by omega)
def dM (ys:List Nat) (t k:Nat) (zs:List Nat):Prop :=
 zs.length=ys.length∧Dig W64 zs∧2^t*val W64 (zs.take k)+(ys[0]?.getD 0)%2^t=val W64 (ys.take k)+W64^k*((ys[k]?.getD 0)%2^t)
theorem dM.start (a:List Nat)(t:Nat):dM a t 0 (List.replicate a.length 0):=by
 refine⟨by simp,Dig.replicate zZ _,?_⟩
 simp
theorem Zmf {y t:Nat}(a:t≤63):y*2^(64-t)%W64=y%2^t*2^(64-t):=by
 rw[←kC a,uG (2^(64-t)),sX]
theorem Znj {x y t:Nat}(b:t≤63)(c:x<W64):x/2^t ||| y*2^(64-t)%W64=x/2^t+y%2^t*2^(64-t):=by
 have a:x/2^t<2^(64-t):=by
  rw[vX (uU (by omega)),kC b];exact c
 rw[Zmf b,← sI,Nat.or_comm,← tL a,vR]
theorem dM.step {a zs:List Nat}{t k x y:Nat}(h:dM a t k zs)(b:t≤63)(j:k<a.length)(g:a[k]?.getD 0=x)(l:a[k+1]?.getD 0=y)(c:x<W64) :
 dM a t (k+1) (zs.set k (x/2^t+y%2^t*2^(64-t))):=by
 obtain⟨m,n,o⟩:=h
 have d:x/2^t+y%2^t*2^(64-t)<W64:=by
  have i:x/2^t<2^(64-t):=by
   rw[vX (uU (by omega)),kC b];exact c
  have e:y%2^t<2^t:=uP _ (uU (by omega))
  have f:(y%2^t+1)*2^(64-t)≤2^t*2^(64-t):=uC _ e
  rw[uG (2^t),kC b,uT] at f
  omega
 refine⟨by simpa using m,n.set k d,?_⟩
 rw[xU _ _ _ _ (by omega),zT k j,g,l]
 rw[g] at o
 have i:=tG x (2^t)
 have e:2^t*(y%2^t*2^(64-t))=W64*(y%2^t):=by
  rw[←kC b]
  simp only[uG,sB]
 have f:=tC (W64^k * ·) i
 simp only[uS] at f
 rw[uS,sB (2^t),uS (2^t),e,uS,uW,uQ (W64^k) W64]
 omega
theorem dM.done {a zs:List Nat}{t:Nat}(h:dM a t a.length zs):val W64 zs=val W64 a/2^t:=by
 obtain⟨c,d,b⟩:=h
 rw[uB (by omega),uB (by omega),List.getElem?_eq_none (uR _)] at b
 simp only[Option.getD_none,Nat.zero_mod,sS,tK] at b
 rw[←b,sM (uU (by omega)),tO (uP _ (uU (by omega))),tK]
theorem Zmg (xs:List Nat)(skip t:Nat)(b:Dig W64 xs)(a:skip≤xs.length):val W64 (xs.drop skip)/2^t=val W64 xs/2^(64*skip+t):=by
 rw[vV,← ZcC,← rC]
 congr 1
 rw[xQ (xs:=xs) skip,uY a,vR,sM (uU zZ)]
 have h:=wH (b.take skip)
 rw[uL,uY a] at h
 rw[tO h,tK]
theorem Zk1 {xs:List Nat}{s:Nat}(a:Dig W64 xs)(h:xs.length≤s/64):val W64 xs/2^s=0:=by
 refine tO (uX (wH a) ?_)
 rw[ZcC]
 exact vS (by omega) (by omega)
theorem ZdU (A:Option Addr)(xs:List Nat)(n c s skip t:Nat)(w:World)(hn:xs.length=n)(hX:zV .u64 w A xs)(hl:xs.length≤4294967296)(hd:Dig W64 xs)(T:s=64*skip+t)(U:t≤63)(hk:skip≤4294967296) :
 yA 352 #[.slice A n c,.int .u64 (s:Int)] w (Za0 w none none (val W64 xs/2^s)):=by
 subst hn
 have V:=zh hX
 have W:=zh hd
 have HS:=zh T
 have p1:(s:Int)/64=(skip:Int):=by omega
 have p2:(s:Int)%64=(t:Int):=by omega
 clear hX hd
 by_cases h0:xs.length≤skip
 ·have HZ:=zh (Zk1 (s:=s) W.out (by omega))
  clear T
  go_enter Tryz.func352,Tryz.ntmps352
  go_wp2
  go_ret
  exact⟨none,0,0,rfl,by rw[HZ.out];exact zY.zero _,Fr.refl _ _,fun a h=>by cases h⟩
 clear T
 go_enter Tryz.func352,Tryz.ntmps352
 go_wp2_with (
  at_make
  refine wE rfl _ _ _ rfl _ _ _ Tryz.underlying255 dG _ _ _ _ (xs.length-skip) rfl rfl (by omega) (by omega) (by omega) (by omega) ?_
  intro b w1 hb I _ J X
  have Y:=zh I
  have Z:=zh J
  have K:=zh hb
  clear I J hb X)
 have f:Hid ((xs.drop skip).length=xs.length-skip):=by unfold Hid;simp
 go_loopw [27] (fun i wr=>∃ (k:Nat) (r:List Nat),k≤xs.length-skip∧i=.int .i64 (k:Int)∧Hid (dM (xs.drop skip) t k r)∧Hid (Own .u64 297 wr b r)∧Hid (Ext w wr)) (fun i _=>xs.length-skip-(intOf i).toNat)
 case atStart=>exact⟨0,_,by omega,rfl,dM.start _ t,by rw[f.out];exact Y.out,Z.out⟩
 case round =>
  obtain⟨k,r,k0,rfl,H,g,m⟩:=hrel
  clear p1 p2
  by_cases u:k<xs.length-skip
  ·obtain⟨b2,L,rfl,_,M⟩:=(V.out.ext m.out).at (i:=k+skip) (by omega)
   obtain⟨x,N⟩:=yE (xs[k+skip]?.getD 0)
   rw[N] at M
   have v:Hid (x<W64):=N ▸ W.out.getD zZ _
   have z:(xs.drop skip)[k]?.getD 0=x:=by rw[List.getElem?_drop,vR];exact N
   have O:r.length=xs.length-skip:=by rw[←f.out];exact H.out.1
   have j:k<r.length:=by omega
   have P:=g.out.cell j
   have a0:=g.out.frozen k
   obtain⟨z0,D⟩:=yE (r[k]?.getD 0)
   rw[D] at P
   have q3:=Zb2 x t
   by_cases E:k+skip+1<xs.length
   ·obtain⟨b3,i0,e3,_,F⟩:=(V.out.ext m.out).at (i:=k+skip+1) E
    injection e3 with e3
    injection e3 with e31 e32
    subst e31 e32
    obtain⟨y,ey⟩:=yE (xs[k+skip+1]?.getD 0)
    rw[ey] at F
    have o:(xs.drop skip)[k+1]?.getD 0=y:=by rw[List.getElem?_drop,show skip+(k+1)=k+skip+1 by omega];exact ey
    have l:=zh (H.out.step U (by rw[f.out];exact u) z o v.out)
    have q1:=aW y (64-t)
    have R:=dK (a:=x/2^t) (b:=y*2^(64-t)%W64) (uN (vU _ _) v.out) (uP _ zZ)
    rw[Znj U v.out] at R
    obtain⟨C,q⟩:=yE (x/2^t)
    obtain⟨hi,Q⟩:=yE (y*2^(64-t)%W64)
    obtain⟨d,ed⟩:=yE (x/2^t+y%2^t*2^(64-t))
    rw[ed] at R l
    rw[q] at R q3
    rw[Q] at q1 R
    have B:=g.out.set k C j
    have l0:=B.frozen k
    have b0:=B.cell (i:=k) (by simpa using j)
    have e4:(r.set k C)[k]?.getD 0=C:=by rw[List.getElem?_set_self j];rfl
    rw[e4] at b0
    have c0:=zh (B.set k d (by simpa using j))
    have j0:(wr.setCell ⟨b,k,none⟩ (.int .u64 (C:Int))).cell? ⟨b2,L+(k+skip+1),none⟩=some (.int .u64 (y:Int)):=by
     rw[World.cell?_setCell_other _ _ _ _ (by intro e;injection e with e;have:=K.out;obtain⟨b',o',S,m0,_⟩:=V.out (by intro e0;rw[e0] at u;simp at u);injection S with S;injection S with S;omega)]
     exact F
    clear N z ey o D q Q ed O B e4
    have d0:=zh (m.out.setCell (p:=⟨b,k,none⟩) (Or.inr (by have:=K.out;show w.heap.size≤b;omega)) (.int .u64 (C:Int)))
    go_wp2
    clear F M
    generalize f0:wr.setCell ⟨b,k,none⟩ (.int .u64 (C:Int))=wq at *
    clear f0 P a0
    go_region
    all_goals
     go_wp2
     go_roundw
     case rel=>exact⟨k+1,_,by omega,by go_num,l,by have:=c0.out;rw[List.set_set] at this;exact this.drewN _,(d0.out.setCell (p:=⟨b,k,none⟩) (Or.inr (by have:=K.out;show w.heap.size≤b;omega)) _).drewN _⟩
     case measure=>simp[intOf];omega
   have o:(xs.drop skip)[k+1]?.getD 0=0:=by rw[List.getElem?_drop,List.getElem?_eq_none (by omega)];rfl
   have l:=zh (H.out.step U (by rw[f.out];exact u) z o v.out)
   rw[Nat.zero_mod,sU,tK] at l
   obtain⟨C,q⟩:=yE (x/2^t)
   rw[q] at q3 l
   have g0:=zh (g.out.set k C j)
   clear N z o D q O
   go_wp2
   go_roundw
   case rel=>exact⟨k+1,_,by omega,by go_num,l,g0.out,m.out.setCell (p:=⟨b,k,none⟩) (Or.inr (by have:=K.out;show w.heap.size≤b;omega)) _⟩
   case measure=>simp[intOf];omega
  obtain rfl:k=xs.length-skip:=by omega
  have hz:r.length=xs.length-skip:=by rw[←f.out];exact H.out.1
  have HT:=zh (gJ _ r (xs.length-skip) (xs.length-skip) wr hz g.out.shows0 (by omega) (by omega))
  have HN:=zh (zY.of_own (c:=xs.length-skip) g.out H.out.2.1 (by omega))
  have G:=H.out
  rw[←f.out] at G
  rw[G.done,Zmg xs skip t W.out (by omega),← HS.out] at HN
  clear hz G
  go_wp2_with fail
  refine HT.out.mono ?_
  rintro e w2 ⟨rfl,rfl⟩
  clear HT
  go_wp2
  go_ret
  exact⟨_,_,_,rfl,HN.out,m.out,fun a h=>Or.inl (by injection h with h;subst h;have:=K.out;show w.heap.size≤b;omega)⟩
theorem ZdV (a:Value)(x s:Nat)(w:World)(e:zY w a x)(b:wl x≤4294967296)(i:s≤274877906944):yA 352 #[a,.int .u64 (s:Int)] w (Za0 w none none (x/2^s)):=by
 obtain⟨A,f,c,rfl,j,g,d,h,rfl⟩:=e
 rw[←wK d h] at b
 exact ZdU A f _ c s (s/64) (s%64) w rfl g b d (by omega) (by omega) (by omega)
theorem top2 {B:Nat}{a:List Nat}{n:Nat}(h:a.length=n+2):val B a=val B (a.take n)+B^n*((a[n]?.getD 0)+B*(a[n+1]?.getD 0)):=by
 rw[xQ (xs:=a) n,xR n (by omega),xR (n+1) (by omega),vN (by omega:a.length≤n+1+1),uY (by omega)]
 simp
theorem top3 {B:Nat}{a:List Nat}{n:Nat}(h:a.length=n+3):val B a=val B (a.take n)+B^n*((a[n]?.getD 0)+B*((a[n+1]?.getD 0)+B*(a[n+2]?.getD 0))):=by
 rw[xQ (xs:=a) n,xR n (by omega),xR (n+1) (by omega),xR (n+2) (by omega),vN (by omega:a.length≤n+2+1),uY (by omega)]
 simp
def gA (u v d:Nat):Prop:=d*v≤u+v∧u<(d+1)*v
theorem ZaB (a:Nat){b:Nat}(c:0<b):a<(a/b+1)*b:=by
 have d:=tG a b
 have e:=uP a c
 rw[uT,uG (a/b)]
 omega
theorem ZjL {B:Nat}{c b:List Nat}{n a v1:Nat}(o:2≤B)(p:b.length=n+2)(q:c.length=n+3)(g:Dig B b)(h:c[n+2]?.getD 0=a)(i:b[n+1]?.getD 0=v1)(d:v1≤a)(e:B≤2*v1)(j:val B c<val B b*B) :
 gA (val B c) (val B b) (B-1):=by
 have k:val B b=val B (b.take (n+1))+B^(n+1)*v1:=by
  have:=zT (B:=B) (xs:=b) (n+1) (by omega)
  rw[uB (by omega),i] at this
  exact this
 have r:val B c=val B (c.take (n+2))+B^(n+2)*a:=by
  have:=zT (B:=B) (xs:=c) (n+2) (by omega)
  rw[uB (by omega),h] at this
  exact this
 have f:=wH (g.take (n+1))
 rw[uL,uY (by omega)] at f
 obtain⟨C,rfl⟩:∃ C,B=C+2:=⟨B-2,by omega⟩
 refine⟨?_,by rw[show C+2-1+1=C+2 by omega,uG];exact j⟩
 have l:val (C+2) b≤(C+2)^(n+1)*(v1+1):=by rw[k,uS];omega
 have s:C*val (C+2) b≤C*((C+2)^(n+1)*(v1+1)):=uK C l
 have t:C*((C+2)^(n+1)*(v1+1))=(C+2)^(n+1)*(C*(v1+1)):=sB _ _ _
 have m:C*(v1+1)≤(C+2)*v1:=by rw[uS,uT];omega
 have u:(C+2)^(n+1)*(C*(v1+1))≤(C+2)^(n+1)*((C+2)*v1):=uK _ m
 have v:(C+2)^(n+2)*v1=(C+2)^(n+1)*((C+2)*v1):=by rw[uW,uQ]
 have w:(C+2)^(n+2)*v1≤(C+2)^(n+2)*a:=uK _ d
 rw[show C+2-1=C+1 by omega,uT,Nat.one_mul]
 omega
theorem ZjM {B:Nat}{c d:List Nat}{n a b c0 v1 v0:Nat}(k:0<B)(o:d.length=n+2)(p:c.length=n+3)(q:Dig B d)(g:Dig B c)(r:c[n+2]?.getD 0=a)(l:c[n+1]?.getD 0=b)(m:c[n]?.getD 0=c0)(s:d[n+1]?.getD 0=v1)(t:d[n]?.getD 0=v0)(h:a<v1) :
 gA (val B c) (val B d) (((a*B+b)*B+c0)/(v1*B+v0)):=by
 have y:b<B:=l ▸ g.getD k _
 have z:c0<B:=m ▸ g.getD k _
 have A:a*B+b<v1*B:=by
  have:(a+1)*B≤v1*B:=uC B h
  rw[uT] at this;omega
 have u:((a*B+b)*B+c0)/(v1*B+v0)<B:=by
  rw[vX (by omega)]
  have:(a*B+b+1)*B≤(v1*B+v0)*B:=uC B (by omega)
  rw[uT (a*B+b)] at this
  rw[uG B]
  omega
 have i:B≤v1*B+v0:=by
  have:1*B≤v1*B:=uC B (by omega)
  omega
 have v:=Nat.div_mul_le_self ((a*B+b)*B+c0) (v1*B+v0)
 have j:(a*B+b)*B+c0<(((a*B+b)*B+c0)/(v1*B+v0)+1)*(v1*B+v0):=ZaB _ (by omega)
 have e:=wH (q.take n)
 have f:=wH (g.take n)
 rw[uL,uY (by omega)] at e f
 have w:val B d=(v1*B+v0)*B^n+val B (d.take n):=by
  rw[top2 o,s,t,vR,uG (B^n),uG B v1,vR v0]
 have x:val B c=((a*B+b)*B+c0)*B^n+val B (c.take n):=by
  rw[top3 p,r,l,m,vR,uG (B^n),vR c0,uG B,vR b,uG B a]
 rw[w,x]
 exact⟨ZjC _ _ _ _ _ _ B e u (uC _ i) v,ZbS _ _ _ _ _ _ f j⟩
theorem ZjN {P:Program}{f:FuncId}{b:Array Value}{w:World}{a n:Nat}{v:Value}(h:Calls P f b (w.drewN (a+n)) fun e w'=>e=.returned v∧∃ m,w'=(w.drewN (a+n)).drewN m) :
 Calls P f b (w.drewN (a+n)) fun e c=>e=.returned v∧∃ m,c=w.drewN (a+m) :=
 h.mono fun _ _ ⟨d,m,g⟩=>⟨d,n+m,by rw[g,World.drewN_drewN,tR]⟩
theorem ZiV {H U v1 v0 u a ri:Nat}(c:0<H)(b:0<v1)(f:u<H)(h:a*v1+ri=U)(g:ri<v1):jZ H U v1 v0 u a ri:=by
 refine⟨h,?_⟩
 have i:0<v1*H:=rQ b c
 rw[←Nat.lt_succ_iff,vX (by omega)]
 have d:U<(a+1)*v1:=by rw[uT];omega
 have e:(U+1)*H≤(a+1)*v1*H:=uC _ d
 rw[Nat.succ_eq_add_one,uS,← uQ]
 rw[uT U] at e
 omega
theorem Zk4 {p q rest c0:Nat}(c:iH p q<W64)(d:c0<W64):(fM p q<rest∨fM p q=rest∧iH p q≤c0)↔p*q≤W64*rest+c0:=by
 have h:=Zdm p q
 constructor
 ·rintro (b|⟨b,a⟩)
  ·have:W64*(fM p q+1)≤W64*rest:=uK _ b
   rw[uS] at this
   omega
  rw[b] at h;omega
 intro b
 rcases Nat.lt_trichotomy (fM p q) rest with a|a|a
 ·exact Or.inl a
 ·exact Or.inr ⟨a,by rw[a] at h;omega⟩
 have:W64*(rest+1)≤W64*fM p q:=uK _ a
 rw[uS] at this
 omega
def Zmi (u v:Nat) (w:World) (e:Ending) (w':World):Prop:=∃ d:Nat,e=.returned (.int .u64 (d:Int))∧d<W64∧gA u v d∧∃ n,w'=w.drewN n
theorem Zgw (A A2:Option Addr)(K L:List Nat)(n m c c2 k:Nat)(w:World)(hn:K.length=n)(hm:L.length=m)(P:zV .u64 w A K)(hV:zV .u64 w A2 L)(hk:L.length=k+2)(M:K.length=k+3)(hl:k≤1099511627776)(dw:Dig W64 K)(dv:Dig W64 L)(j:W64≤2*(L[k+1]?.getD 0))(hu:val W64 K<val W64 L*W64) :
 yA 354 #[.slice A n c,.slice A2 m c2] w (Zmi (val W64 K) (val W64 L) w):=by
 obtain⟨b1,o1,rfl,_,c0⟩:=P.at (i:=k+2) (by omega)
 obtain⟨d0,f0,s,_,g0⟩:=P.at (i:=k+1) (by omega)
 injection s with s;injection s with f1 f2;subst f1 f2
 obtain⟨d0,f0,s,_,h0⟩:=P.at (i:=k) (by omega)
 injection s with s;injection s with f1 f2;subst f1 f2
 obtain⟨b2,o2,rfl,_,i0⟩:=hV.at (i:=k+1) (by omega)
 obtain⟨q0,r0,U,_,j0⟩:=hV.at (i:=k) (by omega)
 injection U with U;injection U with f1 f2;subst f1 f2
 obtain⟨a,ea⟩:=yE (K[k+2]?.getD 0)
 obtain⟨R,eb⟩:=yE (K[k+1]?.getD 0)
 obtain⟨C,ec⟩:=yE (K[k]?.getD 0)
 obtain⟨v1,e1⟩:=yE (L[k+1]?.getD 0)
 obtain⟨v0,e0⟩:=yE (L[k]?.getD 0)
 rw[ea] at c0
 rw[eb] at g0
 rw[ec] at h0
 rw[e1] at i0 j
 rw[e0] at j0
 have s0:Hid (a<W64):=ea ▸ dw.getD zZ _
 have V:Hid (R<W64):=eb ▸ dw.getD zZ _
 have S:Hid (C<W64):=ec ▸ dw.getD zZ _
 have B:Hid (v1<W64):=e1 ▸ dv.getD zZ _
 have D:Hid (v0<W64):=e0 ▸ dv.getD zZ _
 obtain rfl:m=k+2:=by omega
 obtain rfl:n=k+3:=by omega
 by_cases k0:v1≤a
 ·have HD:=zh (ZjL Zma hk M dv ea e1 k0 j hu)
  clear P hV dw dv j hu ea eb ec e1 e0 hn hm hk M
  go_enter Tryz.func354,Tryz.ntmps354
  go_wp2
  have g3:IntKind.i64.wrap ((k:Int)+2-1)=(k:Int)+1:=by rw[IntKind.wrap_i64];omega
  have g4:IntKind.i64.wrap ((k:Int)+2-2)=(k:Int):=by rw[IntKind.wrap_i64];omega
  have g5:(0:Int)≤(k:Int)+1:=by omega
  have g6:((k:Int)+1).toNat=k+1:=by omega
  have g7:(k:Int)+1<(k:Int)+2:=by omega
  have g8:(k:Int)<(k:Int)+2:=by omega
  go_quiet (fail)
  clear g3 g4 g5 g6 g7 g8
  go_wp2
  go_ret
  exact⟨W64-1,by rw[show (((W64-1:Nat):Int))=18446744073709551615 by rw[zM];rfl];rfl,by have:=zZ;omega,HD.out,_,rfl⟩
 have HD:=zh (ZjM zZ hk M dv dw ea eb ec e1 e0 (by omega))
 have W:a<v1:=by omega
 have hU:Hid (a*W64+R<v1*W64+v0):=by
  have:(a+1)*W64≤v1*W64:=uC _ W
  rw[uT] at this
  have:=V.out
  unfold Hid;omega
 have T:Hid (0<v1*W64+v0):=by have:=hU.out;unfold Hid;omega
 have HE:=zh (ZiV (v0:=v0) (u:=C) zZ (by omega) S.out (Zdp a R v1) (ZcE _ _ (by omega)))
 have l0:Hid (divQ a R v1<W64):=Zh2 W V.out
 have m0:Hid (divR a R v1<W64):=rR (ZcE _ _ (by omega)) B.out
 clear P hV dw dv j hu ea eb ec e1 e0 hn hm hk M
 go_enter Tryz.func354,Tryz.ntmps354
 go_wp2
 have g3:IntKind.i64.wrap ((k:Int)+2-1)=(k:Int)+1:=by rw[IntKind.wrap_i64];omega
 have g4:IntKind.i64.wrap ((k:Int)+2-2)=(k:Int):=by rw[IntKind.wrap_i64];omega
 have g5:(0:Int)≤(k:Int)+1:=by omega
 have g6:((k:Int)+1).toNat=k+1:=by omega
 have g7:(k:Int)+1<(k:Int)+2:=by omega
 have g8:(k:Int)<(k:Int)+2:=by omega
 go_quiet (fail)
 clear g3 g4 g5 g6 g7 g8
 go_wp2
 have g3:IntKind.i64.wrap ((k:Int)+2-1)=(k:Int)+1:=by rw[IntKind.wrap_i64];omega
 have g5:(0:Int)≤(k:Int)+1:=by omega
 have g6:((k:Int)+1).toNat=k+1:=by omega
 have g7:(k:Int)+1<(k:Int)+3:=by omega
 have g8:(k:Int)+2<(k:Int)+3:=by omega
 have g9:(0:Int)≤(k:Int)+2:=by omega
 have n0:((k:Int)+2).toNat=k+2:=by omega
 go_quiet ((go_at_call 335;exact ZjN (Zb1 _ _ _ _ W B.out V.out)))
 clear g3 g5 g6 g7 g8 g9 n0
 go_wp2
 go_loopw [8,9] (fun qv rv wr=>∃ q r m:Nat,qv=.int .u64 (q:Int)∧rv=.int .u64 (r:Int)∧Hid (q<W64)∧Hid (r<W64)∧Hid (jZ W64 (a*W64+R) v1 v0 C q r)∧Hid (wr=w.drewN m)) (fun qv _ _=>(intOf qv).toNat)
 case atStart=>exact⟨_,_,_,rfl,rfl,l0,m0,HE,World.drewN_drewN _ _ _⟩
 case round =>
  obtain⟨q,r,m,rfl,rfl,t,N,Q,P⟩:=hrel
  obtain rfl:=P.out
  clear P
  have a0:∀ hh:W64*r+C<q*v0,Hid (jZ W64 (a*W64+R) v1 v0 C (q-1) (r+v1)):=fun hh=>aU T.out hh Q.out
  have b0:=zh a0
  clear a0
  have d:=zh (Zk4 (p:=q) (q:=v0) (rest:=r) (ZkX _ _) S.out)
  have E:∀ hh:q*v0≤W64*r+C,q=((a*W64+R)*W64+C)/(v1*W64+v0):=fun hh=>dX T.out hh Q.out
  have F:=zh E
  clear E
  obtain⟨J,X⟩:=yE (fM q v0)
  obtain⟨lo,Y⟩:=yE (iH q v0)
  rw[X,Y] at d
  have f:=zh (ZbW q v0 t.out D.out (w.drewN m))
  rw[X,Y] at f
  clear X Y
  by_cases t1:J<r
  ·have Z:=zh (F.out (d.out.1 (Or.inl t1)))
   have o0:=gV t1
   go_wp2_with (go_at_call 343;refine f.out.mono ?_;rintro e w' ⟨rfl,rfl⟩)
   go_ret
   exact⟨q,rfl,t.out,by rw[Z.out];exact HD.out,_,rfl⟩
  have o0:=iP t1
  by_cases t2:J=r
  ·subst t2
   by_cases t3:lo≤C
   ·have Z:=zh (F.out (d.out.1 (Or.inr ⟨rfl,t3⟩)))
    go_wp2_with (go_at_call 343;refine f.out.mono ?_;rintro e w' ⟨rfl,rfl⟩)
    go_ret
    exact⟨q,rfl,t.out,by rw[Z.out];exact HD.out,_,rfl⟩
   have v:W64*J+C<q*v0:=by
    rcases uZ (W64*J+C) (q*v0) with h|h
    ·exact h
    rcases d.out.2 h with h|h<;>omega
   have x:=b0.out v
   have l:0<q:=by
    rcases uJ q with e|e
    ·rw[e,sU] at v;omega
    exact e
   clear v
   have g1:=jD l t.out
   obtain⟨O,G⟩:=yE (q-1)
   rw[G] at g1 x
   have p0:O<q:=by omega
   have o:Hid (O<W64):=by have:=t.out;unfold Hid;omega
   have y:=zh x.out
   clear G x l
   by_cases z:J+v1<W64
   ·have g2:=lR z
    obtain⟨H,g⟩:=yE (J+v1)
    rw[g] at g2 y
    have t5:=iP (a:=H) (b:=v1) (by omega)
    have I:Hid (H<W64):=by unfold Hid;omega
    clear g z
    go_wp2_with (go_at_call 343;refine f.out.mono ?_;rintro e w' ⟨rfl,rfl⟩)
    go_roundw
    case rel=>exact⟨O,H,_,rfl,rfl,o,I,y,rfl⟩
    case measure=>simp[intOf];omega
   have Z:=zh (jQ hU.out D.out (by omega) y.out)
   have g2:IntKind.u64.wrap ((J:Int)+(v1:Int))=((J+v1-W64:Nat):Int):=by
    have h1:=N.out
    have h2:=B.out
    rw[zM] at *
    rw[IntKind.wrap_u64]
    omega
   obtain⟨H,g⟩:=yE (J+v1-W64)
   rw[g] at g2
   have t5:=gV (a:=H) (b:=v1) (by have:=N.out;omega)
   clear g z
   go_wp2_with (go_at_call 343;refine f.out.mono ?_;rintro e w' ⟨rfl,rfl⟩)
   go_ret
   exact⟨O,rfl,o.out,by rw[Z.out];exact HD.out,_,rfl⟩
  have t0:((J:Int) == (r:Int))=false:=by simp;omega
  have v:W64*r+C<q*v0:=by
   rcases uZ (W64*r+C) (q*v0) with h|h
   ·exact h
   rcases d.out.2 h with h|h<;>omega
  have x:=b0.out v
  have l:0<q:=by
   rcases uJ q with e|e
   ·rw[e,sU] at v;omega
   exact e
  clear v
  have g1:=jD l t.out
  obtain⟨O,G⟩:=yE (q-1)
  rw[G] at g1 x
  have p0:O<q:=by omega
  have o:Hid (O<W64):=by have:=t.out;unfold Hid;omega
  have y:=zh x.out
  clear G x l
  by_cases z:r+v1<W64
  ·have g2:=lR z
   obtain⟨H,g⟩:=yE (r+v1)
   rw[g] at g2 y
   have t5:=iP (a:=H) (b:=v1) (by omega)
   have I:Hid (H<W64):=by unfold Hid;omega
   clear g z
   go_wp2_with (go_at_call 343;refine f.out.mono ?_;rintro e w' ⟨rfl,rfl⟩)
   go_roundw
   case rel=>exact⟨O,H,_,rfl,rfl,o,I,y,rfl⟩
   case measure=>simp[intOf];omega
  have Z:=zh (jQ hU.out D.out (by omega) y.out)
  have g2:IntKind.u64.wrap ((r:Int)+(v1:Int))=((r+v1-W64:Nat):Int):=by
   have h1:=N.out
   have h2:=B.out
   rw[zM] at *
   rw[IntKind.wrap_u64]
   omega
  obtain⟨H,g⟩:=yE (r+v1-W64)
  rw[g] at g2
  have t5:=gV (a:=H) (b:=v1) (by have:=N.out;omega)
  clear g z
  go_wp2_with (go_at_call 343;refine f.out.mono ?_;rintro e w' ⟨rfl,rfl⟩)
  go_ret
  exact⟨O,rfl,o.out,by rw[Z.out];exact HD.out,_,rfl⟩
end Go.Proofs.YtoanifijmlgcgaaGreatDoor
namespace Go.Proofs.YtoanifijmlgcgaaGreatDoor
theorem Zk5 {u v d:Nat}(h:gA u v d)(a:d*v≤u):d=u/v:=by
 have b:=h.2
 have c:u<(d+1)*v:=b
 have:=Nat.div_eq_of_lt_le (m:=u) (n:=v) (k:=d) (by omega) (by simpa using c)
 exact this.symm
theorem ZiW {u v d:Nat}(h:gA u v d)(a:u<d*v):0<d∧d-1=u/v:=by
 have b:=h.1
 have f:0<d:=by
  rcases uJ d with e|e
  ·subst e;simp at a
  exact e
 obtain⟨c,rfl⟩:∃ c,d=c+1:=⟨d-1,by omega⟩
 refine⟨f,?_⟩
 have e:c+1-1=c:=by omega
 rw[e]
 rw[uT] at b
 exact (Nat.div_eq_of_lt_le (m:=u) (n:=v) (k:=c) (by omega) (by simpa using a)).symm
theorem ZdY {P v u c b d a m:Nat}(n:v≤P)(j:u=c+P*b)(i:gA u v d)(o:m+v*d=c+P*a)(k:a≤b) :
 d=u/v∧m=u%v∧b=a:=by
 have e:u=d*v+(m+P*(b-a)):=by
  obtain⟨t,rfl⟩:∃ t,b=a+t:=⟨b-a,by omega⟩
  rw[show a+t-a=t by omega,j,uS,uG d]
  omega
 have l:=Zk5 i (by omega)
 have f:m+P*(b-a)<v:=by
  have:=i.2
  rw[uT] at this
  omega
 have g:b-a=0:=by
  rcases uJ (b-a) with h|h
  ·exact h
  have:P*1≤P*(b-a):=uK P h
  omega
 refine⟨l,?_,by omega⟩
 rw[g] at e f
 simp only[sS,tK] at e f
 rw[e,uG,rV,vI f]
theorem Zfr {P v u b a d borrow m f c:Nat}(i:0<v)(z:v≤P)(A:u=b+P*a)(s:gA u v d)(t:m+v*d=b+P*borrow)(j:a<borrow)(w:m<P)(x:f+P*c=m+v)(p:f<P):0<d∧d-1=u/v∧f=u%v∧c+a=borrow:=by
 have k:u<d*v:=by
  have:P*(a+1)≤P*borrow:=uK P j
  rw[uS] at this
  rw[uG d]
  omega
 obtain⟨l,n⟩:=ZiW s k
 obtain⟨q,rfl⟩:∃ q,d=q+1:=⟨d-1,by omega⟩
 have e:q+1-1=q:=by omega
 rw[e] at n ⊢
 refine⟨l,n,?_⟩
 have g:=tG u v
 have y:=uP u i
 rw[←n,uG] at g
 rw[uS] at t
 -- f + P*(c + a)=u % v + P * borrow
 have o:f+P*(c+a)=u%v+P*borrow:=by
  rw[uS,uG q] at *
  omega
 have r:c+a=borrow:=by
  rcases Nat.lt_trichotomy (c+a) borrow with h|h|h
  ·have:P*(c+a+1)≤P*borrow:=uK P h
   rw[uS] at this
   omega
  ·exact h
  have:P*(borrow+1)≤P*(c+a):=uK P h
  rw[uS] at this
  omega
 rw[r] at o
 exact⟨by omega,r⟩
def gR (X v n k:Nat) (rs qs:List Nat):Prop :=
 Dig W64 rs∧Dig W64 qs∧rs.length=qs.length+n∧val W64 rs+val W64 (qs.drop k)*W64^k*v=X∧val W64 (rs.drop k)<v
theorem gR.window {X v n k:Nat}{a c:List Nat}(h:gR X v n (k+1) a c)(g:v≤W64^n)(i:k+n<a.length) :
 val W64 (a.drop k)=val W64 ((a.drop k).take (n+1))∧val W64 (a.drop k)<v*W64∧val W64 (a.drop (k+n+1))=0:=by
 obtain⟨d,j,l,m,f⟩:=h
 have b:val W64 (a.drop (k+n+1))=0:=by
  have e:=xQ (B:=W64) (xs:=a.drop (k+1)) n
  rw[tH,show k+1+n=k+n+1 by omega,uY (by simp;omega)] at e
  rcases uJ (val W64 (a.drop (k+n+1))) with h|h
  ·exact h
  have:W64^n*1≤W64^n*val W64 (a.drop (k+n+1)):=uK _ h
  omega
 refine⟨?_,?_,b⟩
 ·have e:=xQ (B:=W64) (xs:=a.drop k) (n+1)
  rw[tH,show k+(n+1)=k+n+1 by omega,b] at e
  simpa using e
 rw[xR k (by omega)]
 have o:=d.getD zZ k
 have:W64*(val W64 (a.drop (k+1))+1)≤W64*v:=uK _ f
 rw[uS] at this
 rw[uG v]
 omega
theorem gR.step {X v n k q:Nat}{a c m:List Nat}(h:gR X v n (k+1) a c)(e:0<v)(s:v≤W64^n)(t:k+n<a.length)(u:m.length=n)(w:Dig W64 m)(l:q=val W64 (a.drop k)/v)(o:val W64 m=val W64 (a.drop k)%v) :
 gR X v n k (a.take k ++ m ++ (0 :: a.drop (k+n+1))) (c.set k q):=by
 obtain⟨F,x,y⟩:=h.window s t
 obtain⟨p,z,G,H,I⟩:=h
 have f:k<c.length:=by omega
 have i:q<W64:=by rw[l,vX e,uG];exact x
 have g:(a.take k).length=k:=by simp;omega
 have b:val W64 (m ++ (0 :: a.drop (k+n+1)))=val W64 m:=by
  rw[kL,gH,y];simp
 have d:(a.take k ++ m ++ (0 :: a.drop (k+n+1))).drop k=m ++ (0 :: a.drop (k+n+1)):=by
  rw[uO,List.drop_append,g,vN (by omega),qD];simp
 refine⟨((p.take k).append w).append (Dig.cons zZ (p.drop _)),z.set k i,?_,?_,?_⟩
 ·simp[u];omega
 ·rw[uO,kL,g,b,o]
  rw[xR (xs:=c.set k q) k (by simpa using f),tU (by omega)]
  have j:(c.set k q)[k]?.getD 0=q:=by rw[List.getElem?_set_self f];rfl
  rw[j]
  have A:=xQ (B:=W64) (xs:=a) k
  rw[uY (by omega)] at A
  have r:=tG (val W64 (a.drop k)) v
  rw[←l] at r
  have C:=tC (W64^k * ·) r
  simp only[uS] at C
  rw[uT,uT]
  have D:q*W64^k*v=W64^k*(v*q):=by rw[uG q,uQ,uG q]
  have E:W64*val W64 (c.drop (k+1))*W64^k*v=val W64 (c.drop (k+1))*W64^(k+1)*v:=by
   rw[uW,uG W64 (val W64 _),uQ (val W64 _) W64,uG W64 (W64^k)]
  rw[D,E]
  omega
 rw[d,b,o];exact uP _ e
theorem gR.done {X v n:Nat}{c d:List Nat}(h:gR X v n 0 c d):val W64 d=X/v∧val W64 c=X%v:=by
 obtain⟨e,f,g,a,b⟩:=h
 rw[sL] at a b
 simp only[Nat.pow_zero,Nat.mul_one] at a
 rw[←a,vR,uG,sM (by omega),rV,vI b,tO b]
 exact⟨by omega,rfl⟩
theorem gR.start {x y s L n:Nat}{a:List Nat}(c:Dig W64 a)(m:a.length=L+1)(b:val W64 a=x*2^s)(d:x<W64^L)(f:W64^(n-1)≤y)(o:1≤n)(g:n≤L) :
 gR (x*2^s) (y*2^s) n (L-n+1) a (List.replicate (L-n+1) 0):=by
 refine⟨c,Dig.replicate zZ _,by simp;omega,?_,?_⟩
 ·rw[vN (by simp)];simp[b]
 have e:=xQ (B:=W64) (xs:=a) (L-n+1)
 rw[uY (by omega),b] at e
 have h:0<2^s:=uU (by omega)
 have p:W64^(L-n+1)*val W64 (a.drop (L-n+1))≤x*2^s:=by omega
 have i:x*2^s<W64^L*2^s:=tE d h
 have j:W64^L=W64^(L-n+1)*W64^(n-1):=by rw[←vV,show L-n+1+(n-1)=L by omega]
 rw[j,uQ] at i
 have k:W64^(L-n+1)*val W64 (a.drop (L-n+1))<W64^(L-n+1)*(W64^(n-1)*2^s):=by omega
 have l:=sW k
 exact uX l (uC _ f)
theorem ZjO {ys a:List Nat}{n yt s:Nat}(w:ys.length=n+1)(l:Dig W64 ys)(m:ys[n]?.getD 0=yt)(e:0<yt)(x:64-Lib.bitLen yt=s)(o:Dig W64 a)(p:Trim a)(q:val W64 a=val W64 ys*2^s) :
 a.length=n+1∧W64≤2*(a[n]?.getD 0)∧W64^n≤val W64 ys∧s≤63:=by
 have f:yt<W64:=m ▸ l.getD zZ _
 obtain⟨y,z,r,t⟩:=eB e f
 have A:val W64 ys=val W64 (ys.take n)+W64^n*yt:=by
  have:=zT (B:=W64) (xs:=ys) n (by omega)
  rw[uB (by omega),m] at this
  exact this
 have g:=wH (l.take n)
 rw[uL,uY (by omega)] at g
 have u:0<2^s:=uU (by omega)
 have i:val W64 ys*2^s<W64^(n+1):=by
  have d:val W64 ys<W64^n*2^Lib.bitLen yt:=by
   have:W64^n*(yt+1)≤W64^n*2^Lib.bitLen yt:=uK _ t
   rw[uS] at this
   omega
  have b:=tE d u
  rw[uQ,← vV,show Lib.bitLen yt+s=64 by omega] at b
  rw[uW,zM] at *
  exact b
 have v:W64^n*2^63≤val W64 ys*2^s:=by
  have d:W64^n*2^(Lib.bitLen yt-1)≤val W64 ys:=by
   have:W64^n*2^(Lib.bitLen yt-1)≤W64^n*yt:=uK _ r
   omega
  have b:=uC (2^s) d
  rw[uQ,← vV,show Lib.bitLen yt-1+s=63 by omega] at b
  exact b
 have j:a.length≤n+1:=jY aK p (q ▸ i)
 have k:n+1≤a.length:=by
  rcases uZ a.length (n+1) with h|h
  ·have d:=wH o
   have b:W64^a.length≤W64^n:=vS zZ (by omega)
   have C:W64^n*1≤W64^n*2^63:=uK _ (by decide)
   omega
  exact h
 refine⟨by omega,?_,?_,by omega⟩
 ·have D:val W64 a=val W64 (a.take n)+W64^n*(a[n]?.getD 0):=by
   have:=zT (B:=W64) (xs:=a) n (by omega)
   rw[uB (by omega)] at this
   exact this
  have c:=wH (o.take n)
  rw[uL,uY (by omega)] at c
  have d:W64^n*2^63<W64^n*((a[n]?.getD 0)+1):=by rw[uS];omega
  have b:=sW d
  rw[zM]
  omega
 have:W64^n*1≤W64^n*yt:=uK _ e
 omega
end Go.Proofs.YtoanifijmlgcgaaGreatDoor
namespace Go.Proofs.YtoanifijmlgcgaaGreatDoor
open Go.RowKit
def Zgx (w:World) (q r:Nat) (e:Ending) (w':World):Prop:=∃ u v,e=.returned (.tuple #[u,v])∧zY w' u q∧zY w' v r∧Ext w w'
def eO (w:World) (A A2:Option Addr) (q r:Nat) (e:Ending) (w':World):Prop:=∃ D m d B l c,e=.returned (.tuple #[.slice D m d,.slice B l c])∧zY w' (.slice D m d) q∧zY w' (.slice B l c) r∧Ext w w'∧∀ a,B=some a→w.heap.size≤a.block∨B=A∨B=A2
theorem eO.ret {w w':World}{A a:Option Addr}{q r:Nat}{e:Ending}(h:eO w A a q r e w'):Zgx w q r e w':=by
 obtain⟨D,m,d,B,l,c,rfl,b,f,g,_⟩:=h
 exact⟨_,_,rfl,b,f,g⟩
theorem eG {a b:Nat}:cmpI a b<0↔a<b:=by
 unfold cmpI
 split
 ·omega
 split<;>omega
theorem ZdZ (A:Option Addr)(l c:Nat)(k:Value)(x y:Nat)(w:World)(n:zY w (.slice A l c) x)(r:zY w k y)(s:wl x≤4294967296)(t:wl y≤4294967296)(b:x<y) :
 yA 331 #[.slice A l c,k] w (eO w A A 0 x):=by
 have u:=zh n
 obtain⟨_,v,_,h,z,o,d,f,rfl⟩:=n
 injection h with e1 e2 e3
 subst e1 e2 e3
 obtain⟨B,C,D,rfl,g,p,i,j,rfl⟩:=r
 rw[←wK d f] at s
 rw[←wK i j] at t
 have q:=zh (gK A B v C _ _ c D w rfl rfl o p (by omega) (by omega) d i f j)
 rw[iK (by omega)] at q
 clear o d f p i j b z g
 go_enter Tryz.func331,Tryz.ntmps331
 go_wp2_with (go_at_call 292;refine q.out.mono ?_;rintro e w' ⟨rfl,m,rfl⟩)
 go_ret2
 exact⟨none,0,0,_,_,_,rfl,zY.zero _,u.out.ext ((Fr.refl _ _).drewN _),(Fr.refl _ _).drewN _,fun a _=>Or.inr (Or.inl rfl)⟩
theorem Zdr (N O:Value)(x y:Nat)(w:World)(Y:zY w N x)(Z:zY w O y)(P:wl x≤4294967296)(B:wl y=1)(C:y≤x) :
 yA 331 #[N,O] w (eO w none none (x/y) (x%y)):=by
 obtain⟨A,s,c,rfl,hc,E,t,F,rfl⟩:=Y
 obtain⟨A2,ys,G,rfl,H,I,u,z,rfl⟩:=Z
 rw[←wK t F] at P
 rw[←wK u z] at B
 obtain⟨y,rfl⟩:=qL.1 B
 have Q:=zh (gK A A2 s [y] _ _ c G w rfl rfl E I (by omega) (by simp) t u F z)
 obtain⟨R,f⟩:=yE (cmpI (val W64 s) (val W64 [y]))
 have a0:0≤R:=by
  rcases Int.lt_or_le R 0 with h|h
  ·rw[←f] at h;have:=eG.1 h;omega
  exact h
 rw[f] at Q
 have k:val W64 [y]=y:=by simp
 rw[k]
 have g:0<y:=by have:=z 0 (by simp);simp at this;omega
 have j:y<W64:=u.head
 obtain⟨b,o,rfl,_,l⟩:=I.at (i:=0) (by simp)
 have S:w.cell? ⟨b,o,none⟩=some (.int .u64 (y:Int)):=by simpa using l
 have T:=fun w' (hf:Ext w w')=>zh (ZeQ A s _ c y w' rfl (E.ext hf) P t g j)
 have J:=zh T
 have K:Hid (val W64 s%y<W64):=rR (uP _ g) j
 clear E t F I u z hc H f C l T B k g j
 go_enter Tryz.func331,Tryz.ntmps331
 go_wp2_with (first
  | (go_at_call 292;refine Q.out.mono ?_;rintro e w' ⟨rfl,m,rfl⟩)
  | (go_at_call 353;refine (J.out _ ((Fr.refl _ _).drewN _)).out.mono ?_;rintro e w1 ⟨v,rfl,U,V⟩;have W:=zh U;have X:=zh V;clear U V)
  | (go_at_call 298;refine (ZbD _ _ K.out).mono ?_;rintro e w2 ⟨B2,l2,G,rfl,n,p,q⟩;have L:=zh n;have r:=zh p;have M:=zh q;clear n p q))
 go_ret2
 obtain⟨D,m,d,rfl⟩:∃ D m d,v=.slice D m d:=by obtain⟨D,b0,d,h,_⟩:=W.out;exact⟨D,_,d,h⟩
 exact⟨D,m,d,B2,l2,G,rfl,W.out.ext r.out,L.out,(((Fr.refl _ _).drewN _).ext X.out).ext r.out,fun a h=>(M.out a h).imp (uD (show Ext w _ from ((Fr.refl _ _).drewN _).ext X.out).size) id⟩
theorem ZeT (a m:List Nat)(b:List Nat)(j n v:Nat)(c:a.length=j)(d:m.length=n)(e:j+n<b.length):(a ++ m ++ b.drop (j+n)).set (j+n) v=a ++ m ++ (v :: b.drop (j+n+1)):=by
 have f:(a ++ m).length=j+n:=by simp[c,d]
 rw[rZ _ _ (by omega),f,qD,tM e]
 rfl
theorem Zh3 (a m:List Nat)(b:List Nat)(j n:Nat)(c:a.length=j)(d:m.length=n):(a ++ m ++ b.drop (j+n))[j+n]?.getD 0=b[j+n]?.getD 0:=by
 have e:(a ++ m).length=j+n:=by simp[c,d]
 rw[List.getElem?_append_right (by omega),e,qD,List.getElem?_drop];rfl
theorem Zgy (a m l:List Nat)(t v j n:Nat)(b:a.length=j)(c:m.length=n):(a ++ m ++ (t :: l)).set (j+n) v=a ++ m ++ (v :: l):=by
 have d:(a ++ m).length=j+n:=by simp[b,c]
 rw[rZ _ _ (by omega),d,qD]
 rfl
theorem Zgz (a m l:List Nat)(t j n:Nat)(b:a.length=j)(c:m.length=n):(a ++ m ++ (t :: l))[j+n]?.getD 0=t:=by
 have d:(a ++ m).length=j+n:=by simp[b,c]
 rw[List.getElem?_append_right (by omega),d,qD]
 rfl
theorem ZcU (A A2:Option Addr)(xs x:List Nat)(c c2 f:Nat)(w:World)(hX:zV .u64 w A xs)(hY:zV .u64 w A2 x)(hc:xs.length≤c)(Y0:x.length≤c2)(hl:xs.length≤4294967296)(hk:x.length=f+2)(dx:Dig W64 xs)(dy:Dig W64 x)(tx:Trim xs)(ty:Trim x)(Z0:val W64 x≤val W64 xs) :
 yA 331 #[.slice A xs.length c,.slice A2 x.length c2] w (eO w none none (val W64 xs/val W64 x) (val W64 xs%val W64 x)):=by
 have a1:f+2≤xs.length:=by
  have:=aL Z0
  rw[←wK dx tx,← wK dy ty] at this
  omega
 have HC:=zh (gK A A2 xs x _ _ c c2 w rfl rfl hX hY (by omega) (by omega) dx dy tx ty)
 obtain⟨cr,y0⟩:=yE (cmpI (val W64 xs) (val W64 x))
 have T2:0≤cr:=by
  rcases Int.lt_or_le cr 0 with h|h
  ·rw[←y0] at h;have:=eG.1 h;omega
  exact h
 rw[y0] at HC
 clear y0
 obtain⟨bY,oY,rfl,_,D⟩:=hY.at (i:=f+1) (by omega)
 obtain⟨yt,m0⟩:=yE (x[f+1]?.getD 0)
 rw[m0] at D
 have W:0<yt:=by have:=ty (f+1) (by omega);omega
 have Y:Hid (yt<W64):=m0 ▸ dy.getD zZ _
 obtain⟨s,hs⟩:=yE (64-Lib.bitLen yt)
 have Z1:=eB W Y.out
 have b1:Hid (64-(Lib.bitLen yt:Int)=(s:Int)):=by unfold Hid;omega
 have c1:s≤63:=by omega
 have NX:Hid (zY w (.slice A xs.length c) (val W64 xs)):=⟨A,xs,c,rfl,hc,hX,dx,tx,rfl⟩
 have NY:Hid (zY w (.slice (some ⟨bY,oY,none⟩) x.length c2) (val W64 x)):=⟨_,x,c2,rfl,Y0,hY,dy,ty,rfl⟩
 have e1:Hid (wl (val W64 xs)≤4294967296):=by unfold Hid;rw[←wK dx tx];omega
 have f1:Hid (wl (val W64 x)≤4294967296):=by unfold Hid;rw[←wK dy ty];omega
 have i1:=zh dx
 have a2:=zh dy
 have HS:=zh hs
 have j1:=zh m0
 have HK:=zh hk
 clear hX hY hc Y0 dx dy tx ty Z0 Z1 hs m0
 obtain⟨n,hn⟩:=yE x.length
 rw[hn] at HC NY
 rw[hn] at HK
 rw[hn]
 have HN:=zh hn
 have b2:n=f+2:=HK.out
 subst b2
 clear hn hk HK
 have l1:(((f:Int)+2) == 1)=false:=by simp;omega
 have R2:decide (cr<0)=false:=by rw[vA];omega
 go_enter Tryz.func331,Tryz.ntmps331
 go_wp2_with (first
  | (go_at_call 292;refine HC.out.mono ?_;rintro e w' ⟨rfl,m,rfl⟩)
  | (go_at_call 329;refine (aV _ _ Y.out).mono ?_;rintro e w' ⟨rfl,rfl⟩;rw[b1.out]))
 refine (ZbE _ _ s _ (NY.out.ext ((Fr.refl _ _).drewN _)) f1.out (by omega)).mono ?_
 rintro e wD ⟨vD,rfl,d2,m1⟩
 obtain⟨AD,Z,cD,rfl,e2,o1,A0,p1,B0⟩:=d2
 obtain⟨n1,n2,n3,n4⟩:=ZjO (n:=f+1) HN.out a2.out j1.out W HS.out A0 p1 B0
 have r1:=zh o1
 have n0:=zh A0
 have C0:Hid (Ext w wD):=((Fr.refl _ _).drewN _).ext m1
 have O:=zh B0
 have B:=zh n1
 have f2:=zh n2
 have s1:=zh n3
 rw[n1]
 clear o1 A0 p1 B0 m1 n1 n2 n3 n4 e2 D HC W Y b1 HS j1
 go_wp2_with (
  at_make
  refine wE rfl _ _ _ rfl _ _ _ Tryz.underlying255 dG _ _ _ _ (xs.length+1) rfl rfl (by omega) (by omega) (by omega) (by omega) ?_
  intro R w1 J F _ G i2
  have u1:Hid (Own .u64 297 w1 R ([] ++ List.replicate (xs.length+1) 0 ++ [])):=by simpa [Hid] using F
  have D0:=zh G
  have HR:=zh J
  clear F G J i2)
 refine (ZbE _ _ s _ (NX.out.ext (C0.out.ext D0.out)) e1.out (by omega)).mono ?_
 rintro e w2 ⟨v2,rfl,j2,v1⟩
 obtain⟨A3,x2,c3,rfl,l2,x1,d3,t3,E0⟩:=j2
 have y1:=zh x1
 have F0:=zh v1
 have z1:=zh d3
 have A1:=zh E0
 have o0:Hid (x2.length≤xs.length+1):=by
  unfold Hid
  refine jY aK t3 ?_
  rw[E0,uW]
  have h1:=wH i1.out
  have h2:2^s≤W64:=by rw[zM];exact uD (vS (by omega) c1) (by decide)
  exact uX (tE h1 (uU (by omega))) (uK _ h2)
 clear x1 v1 d3 t3 E0 l2 NX e1 NY f1
 go_wp2_with (first
  | (
   with_reducible refine ZcT rfl (.tmp 57) (.tmp 60) _ _ rfl _ _ Tryz.underlying255 Zme _ _ _ _ _ _ rfl rfl R [] (List.replicate (xs.length+1) 0) [] x2 (by simp) rfl (u1.out.ext F0.out) y1.out (fun _=>rfl) ?_
   intro w3 z B1 _ C1 o2
   have P:=zh B1
   have D1:=zh C1
   clear B1 C1 o2)
  | (
   at_make
   refine wE rfl _ _ _ rfl _ _ _ Tryz.underlying255 dG _ _ _ _ (xs.length-(f+2)+1) rfl rfl (by omega) (by omega) (by omega) (by omega) ?_
   intro Qb w4 hQ E1 _ F1 p2
   have G1:=zh E1
   have G0:=zh F1
   have HQ:=zh hQ
   clear E1 F1 hQ p2))
 have l:Hid (R<Qb):=by
  have h1:=P.out.lt
  have h2:=HQ.out
  unfold Hid;omega
 have hV:Hid (val W64 Z≤W64^(f+2)):=by
  have:=wH n0.out
  rw[B.out] at this
  exact qX this
 have a0:Hid (0<val W64 Z):=by
  rw[O.out]
  have h1:=s1.out
  have h2:=uU (n:=f+1) zZ
  exact rQ (by omega) (uU (by omega))
 obtain⟨X,eX⟩:=yE (val W64 xs*2^s)
 have HX:=zh eX
 have H0:Hid (∃ g,Own .u64 297 w4 R g∧g.length=xs.length+1∧gR X (val W64 Z) (f+2) (xs.length-(f+2)+1) g (List.replicate (xs.length-(f+2)+1) 0)):=by
  refine⟨x2 ++ List.replicate (xs.length+1-x2.length) 0,?_,?_,?_⟩
  ·have h:=P.out
   rw[uB (by simp;exact o0.out),List.drop_replicate] at h
   have h':Own .u64 297 w3 R (x2 ++ List.replicate (xs.length+1-x2.length) 0):=by simpa using h
   exact h'.ext G0.out
  ·have:=o0.out
   simp;omega
  rw[←HX.out,O.out]
  refine gR.start (L:=xs.length) (z1.out.append (Dig.replicate zZ _)) (by have:=o0.out;simp;omega) ?_ (wH i1.out) (by simpa using s1.out) (by omega) a1
  rw[kL,jF,A1.out];simp
 have H1:Hid (Ext wD w4):=by
  have h1:=HR.out
  exact ((D0.out.ext F0.out).next D1.out (fun i hi e=>by omega)).ext G0.out
 clear P D1 y1 z1 A1 o0 D0 F0 G0 u1 l1 eX
 obtain⟨V,eV⟩:=yE (val W64 Z)
 have HV:=zh eV
 rw[eV] at hV a0 H0
 clear eV
 go_loopw [13] (fun i wr=>∃ (k:Nat) (g qs:List Nat),k≤xs.length-(f+2)+1∧i=.int .i64 ((k:Int)-1)∧Hid (gR X V (f+2) k g qs)∧Hid (g.length=xs.length+1)∧Hid (Own .u64 297 wr R g)∧Hid (Own .u64 297 wr Qb qs)∧Hid (Ext wD wr)) (fun i _=>(intOf i+1).toNat)
 case atStart =>
  obtain⟨g,h1,h2,h3⟩:=H0.out
  exact⟨xs.length-(f+2)+1,g,_,uR _,by go_num,h3,h2,h1,G1.out,H1.out⟩
 case round =>
  clear H0 G1 H1
  obtain⟨k,g,qs,hk,rfl,J,C,F,I0,G⟩:=hrel
  by_cases U2:0<k
  ·obtain⟨j,rfl⟩:∃ j,k=j+1:=⟨k-1,by omega⟩
   have ej:(((j+1:Nat):Int)-1)=(j:Int):=by omega
   rw[ej]
   clear ej
   have V2:j+(f+2)<xs.length+1:=by omega
   have o:=C.out
   obtain⟨q1,q2,q3⟩:=J.out.window hV.out (by omega)
   have p0:((g.drop j).take (f+3)).length=f+3:=by simp;omega
   have J0:Hid (zV .u64 wr AD Z):=r1.out.ext G.out
   have b0:=zh (Zgw (some ⟨R,j,none⟩) AD ((g.drop j).take (f+3)) Z (j+(f+2)+1-j) (f+1+1) (xs.length+1-j) cD f wr (by omega) B.out (F.out.shows j (f+3)) J0.out B.out p0 (by omega) ((J.out.1.drop j).take _) n0.out f2.out (by rw[←q1,HV.out];exact q2))
   rw[←q1,HV.out] at b0
   have W2:=zh q2
   clear q1 q2 q3 p0 o
   go_wp2_with fail
   (with_reducible refine b0.out.mono ?_)
   rintro e w5 ⟨d,rfl,K0,t0,n5,rfl⟩
   clear b0
   have q0:Hid (∀ a,AD=some a→a.block≠R):=by
    intro a ha
    obtain⟨b',o',e',X2,_⟩:=r1.out.at (i:=0) (by rw[B.out];omega)
    rw[e'] at ha;injection ha with ha;subst ha
    have:=HR.out
    show b'≠R
    omega
   have o:=C.out
   have P:Hid (Own .u64 297 (wr.drewN n5) R (g.take j ++ (g.drop j).take (f+2) ++ g.drop (j+(f+2)))):=by rw[ZjH];exact F.out.drewN _
   have I1:=zh (ZbP R (xs.length+1-j) cD j (f+2) (f+1+1) d (g.take j) ((g.drop j).take (f+2)) (g.drop (j+(f+2))) Z AD (wr.drewN n5) (by simp;omega) (by simp;omega) B.out P.out (J0.out.drewN _) q0.out (by rw[B.out];simp;omega) (by simp;omega) ((J.out.1.drop j).take _) n0.out K0)
   have u0:=zh t0
   have r2:=zh K0
   clear P K0 t0 o
   go_wp2_with fail
   (with_reducible refine I1.out.mono ?_)
   rintro e Q ⟨br,rfl,v0,c0,_,m,S,L0,d0,M0⟩
   clear I1
   have o:=C.out
   have q:m.length=f+2:=by rw[L0];simp;omega
   have T:(g.take j).length=j:=by simp;omega
   have t:j+(f+2)<(g.take j ++ m ++ g.drop (j+(f+2))).length:=by simp;omega
   have D:=S.cell t
   have J1:=S.frozen (j+(f+2))
   rw[Zh3 _ _ _ _ _ T q] at D
   obtain⟨top,K⟩:=yE (g[j+(f+2)]?.getD 0)
   rw[K] at D
   have hu:val W64 (g.drop j)=val W64 ((g.drop j).take (f+2))+W64^(f+2)*top:=by
    obtain⟨q1,_,_⟩:=J.out.window hV.out (by omega)
    rw[q1,zT (f+2) (by simp;omega),List.getElem?_drop,K]
   have M:val W64 m+V*d=val W64 ((g.drop j).take (f+2))+W64^(f+2)*br:=by
    have h:=M0
    unfold Zgr at h
    rw[HV.out] at h
    have e:((g.drop j).take (f+2)).length=f+2:=by simp;omega
    rw[e] at h
    exact h
   have N0:Hid (Own .u64 297 Q Qb qs):=(I0.out.drewN n5).fr c0 (by have:=l.out;omega)
   have O0:Hid (Ext wD Q):=(G.out.drewN n5).next c0 (fun i hi e=>by have:=HR.out;omega)
   have w0:Hid (zV .u64 Q AD Z):=(J0.out.drewN n5).fr c0 (fun a ha _=>q0.out a ha)
   have e0:qs.length=xs.length-(f+2)+1:=by have:=J.out.2.2.1;omega
   have P0:val W64 m<W64^(f+2):=by have:=wH d0;rw[q] at this;exact this
   have f0:j<qs.length:=by omega
   by_cases Q0:br≤top
   ·obtain⟨k1,k2,k3⟩:=ZdY hV.out hu u0.out M Q0
    have R0:=zh (J.out.step a0.out hV.out (by omega) q d0 k1 k2)
    subst k3
    have g1:IntKind.u64.wrap ((top:Int)-(top:Int))=0:=by rw[Int.sub_self];rfl
    have t1:=iP (a:=top) (b:=top) (by omega)
    have H:=S.set (j+(f+2)) 0 t
    rw[ZeT _ _ _ _ _ _ T q (by omega)] at H
    have r:Fr (· = R) Q (Q.setCell ⟨R,j+(f+2),none⟩ (.int .u64 ((0:Nat):Int))):=(Fr.refl (· = R) Q).setCell (p:=⟨R,j+(f+2),none⟩) (Or.inl rfl) _
    have r0:=N0.out.fr r (by have:=l.out;omega)
    have S0:=r0.cell f0
    have s2:=r0.frozen j
    obtain⟨z0,g0⟩:=yE (qs[j]?.getD 0)
    rw[g0] at S0
    have u2:=zh (r0.set j d f0)
    have K1:=zh (H.far (p:=⟨Qb,j,none⟩) (by have:=l.out;show R≠Qb;omega) (.int .u64 (d:Int)))
    have L1:Hid (Ext wD ((Q.setCell ⟨R,j+(f+2),none⟩ (.int .u64 ((0:Nat):Int))).setCell ⟨Qb,j,none⟩ (.int .u64 (d:Int)))):=(O0.out.next r (fun i hi e=>by have:=HR.out;omega)).setCell (Or.inr (by have:=HR.out;have:=l.out;show wD.heap.size≤Qb;omega)) _
    have T0:Hid ((g.take j ++ m ++ (0 :: g.drop (j+(f+2)+1))).length=xs.length+1):=by unfold Hid;simp;omega
    clear v0 c0 S L0 d0 M0 o q T t K hu M P0 k1 k2 H r r0 g0 Q0
    simp only[Int.ofNat_zero] at *
    go_wp2
    go_roundw
    case rel=>exact⟨j,_,_,by omega,rfl,R0,T0,K1.out,u2.out,L1.out⟩
    case measure=>simp[intOf]
   have y2:0<d:=by
    rcases uJ d with e|e
    ·subst e
     have:W64^(f+2)*1≤W64^(f+2)*br:=uK _ (by omega)
     omega
    exact e
   have g2:=jD y2 r2.out
   obtain⟨d1,U0⟩:=yE (d-1)
   rw[U0] at g2
   obtain⟨t2,g1,k1⟩:=ZdT ((top:Int)-(br:Int))
   have t1:=gV (a:=top) (b:=br) (by omega)
   have H:=S.set (j+(f+2)) t2 t
   rw[ZeT _ _ _ _ _ _ T q (by omega)] at H
   have r:Fr (· = R) Q (Q.setCell ⟨R,j+(f+2),none⟩ (.int .u64 (t2:Int))):=(Fr.refl (· = R) Q).setCell (p:=⟨R,j+(f+2),none⟩) (Or.inl rfl) _
   have z2:=zh H
   have V0:=zh r
   have B2:=zh (N0.out.fr r (by have:=l.out;omega))
   have M1:Hid (zV .u64 (Q.setCell ⟨R,j+(f+2),none⟩ (.int .u64 (t2:Int))) AD Z):=w0.out.fr r (fun a ha _=>q0.out a ha)
   have C2:Hid (Ext wD (Q.setCell ⟨R,j+(f+2),none⟩ (.int .u64 (t2:Int)))):=O0.out.next r (fun i hi e=>by have:=HR.out;omega)
   have D2:=zh d0
   have h0:=zh q
   have s0:=zh T
   have Hu:=zh hu
   have E2:=zh M
   have F2:=zh P0
   have G2:=zh k1
   have H2:=zh U0
   have I2:=zh e0
   have N1:top<br:=by omega
   clear v0 c0 S L0 d0 M0 o q T t K hu M P0 k1 H r Q0 U0 e0 w0 O0 N0
   go_wp2
   generalize J2:Q.setCell ⟨R,j+(f+2),none⟩ (.int .u64 (t2:Int))=w7 at *
   clear J2 D J1 g1 g2 t1
   obtain⟨wo,rfl⟩:∃ wo:World,wo=wr:=⟨_,rfl⟩
   go_loopw [17,115] (fun cv iv wr=>∃ (E cc:Nat) (m2:List Nat),E≤f+2∧iv=.int .i64 (E:Int)∧cc≤1∧cv=.int .u64 (cc:Int)∧Hid (fD m Z E m2 cc)∧Hid (Own .u64 297 wr R (g.take j ++ m2 ++ (t2 :: g.drop (j+(f+2)+1))))∧Hid (Fr (· = R) w7 wr)) (fun _ iv _=>f+2-(intOf iv).toNat)
   case atStart=>exact⟨0,0,m,by omega,rfl,by omega,rfl,fD.start _ _ D2.out,z2.out,Fr.refl _ _⟩
   case round =>
    obtain⟨E,cc,m2,Y2,rfl,O1,rfl,U,u,i0⟩:=hrel
    have v:m2.length=f+2:=by rw[U.out.1];exact h0.out
    by_cases S2:E<f+2
    ·obtain⟨b3,o3,rfl,_,K2⟩:=(M1.out.fr i0.out (fun a ha _=>q0.out a ha)).at (i:=E) (by rw[B.out];omega)
     obtain⟨y,ey⟩:=yE (Z[E]?.getD 0)
     obtain⟨z,ez⟩:=yE (m2[E]?.getD 0)
     have P1:E<m2.length:=by omega
     have Q1:=u.out.mid (k:=E) P1
     have Z2:=u.out.frozen (j+E)
     rw[s0.out] at Q1
     rw[ey] at K2
     rw[ez] at Q1
     have L2:=zh (U.out.step (by rw[h0.out];omega) ez ey (by rw[B.out];omega))
     have R1:fL z y cc≤1:=ZkV (ez ▸ U.out.2.2.1.getD zZ E) (ey ▸ n0.out.getD zZ E) O1
     have x0:=zh (u.out.set_mid P1 (fZ z y cc))
     rw[s0.out] at x0
     have ha:=Zfo z y cc O1
     clear ey ez v
     go_wp2
     go_roundw
     case rel=>exact⟨E+1,_,_,by omega,by go_num,R1,rfl,L2,x0.out,i0.out.setCell (p:=⟨R,j+E,none⟩) (Or.inl rfl) _⟩
     case measure=>simp[intOf];omega
    obtain rfl:E=f+2:=by omega
    have j0:=U.out.done (by rw[B.out];omega) (by rw[h0.out];omega) (Or.inr h0.out.symm)
    rw[h0.out,HV.out] at j0
    obtain⟨_,k2,k3,k4⟩:=Zfr a0.out hV.out Hu.out u0.out E2.out N1 F2.out j0 (by have:=wH U.out.2.2.1;rw[v] at this;exact this)
    have g3:IntKind.u64.wrap ((t2:Int)+(cc:Int))=0:=by
     have h1:=G2.out
     rw[IntKind.wrap_u64]
     omega
    rw[H2.out] at k2
    have o:=C.out
    have S1:=I2.out
    have I:j+(f+2)<(g.take j ++ m2 ++ (t2 :: g.drop (j+(f+2)+1))).length:=by simp;omega
    have D:=u.out.cell I
    have J1:=u.out.frozen (j+(f+2))
    rw[Zgz _ _ _ _ _ _ s0.out v] at D
    have k0:=u.out.set (j+(f+2)) 0 I
    rw[Zgy _ _ _ _ _ _ _ s0.out v] at k0
    have l0:Fr (· = R) w7 (wr.setCell ⟨R,j+(f+2),none⟩ (.int .u64 ((0:Nat):Int))):=i0.out.setCell (p:=⟨R,j+(f+2),none⟩) (Or.inl rfl) _
    have N:=B2.out.fr l0 (by have:=l.out;omega)
    have f0:j<qs.length:=by omega
    have S0:=N.cell f0
    have s2:=N.frozen j
    obtain⟨z0,g0⟩:=yE (qs[j]?.getD 0)
    rw[g0] at S0
    have R0:=zh (J.out.step a0.out hV.out (by omega) v U.out.2.2.1 k2 k3)
    have T1:=zh (N.set j d1 f0)
    have U1:=zh (k0.far (p:=⟨Qb,j,none⟩) (by have:=l.out;show R≠Qb;omega) (.int .u64 (d1:Int)))
    have V1:Hid (Ext wD ((wr.setCell ⟨R,j+(f+2),none⟩ (.int .u64 ((0:Nat):Int))).setCell ⟨Qb,j,none⟩ (.int .u64 (d1:Int)))):=(C2.out.next l0 (fun i hi e=>by have:=HR.out;omega)).setCell (Or.inr (by have:=HR.out;have:=l.out;show wD.heap.size≤Qb;omega)) _
    have T0:Hid ((g.take j ++ m2 ++ (0 :: g.drop (j+(f+2)+1))).length=xs.length+1):=by unfold Hid;simp;omega
    clear j0 k2 k3 k4 o S1 I k0 l0 N g0 v
    simp only[Int.ofNat_zero] at *
    go_wp2
    go_roundw
    case rel=>exact⟨j,_,_,by omega,rfl,R0,T0,U1.out,T1.out,V1.out⟩
    case measure=>simp[intOf]
  obtain rfl:k=0:=by omega
  obtain⟨k1,k2⟩:=J.out.done
  have e0:qs.length=xs.length-(f+2)+1:=by have:=J.out.2.2.1;have:=C.out;omega
  have W0:=ZbV (val W64 xs) (val W64 x) (2^s) (uU (by omega))
  have NQ:=zY.of_own (c:=xs.length-(f+2)+1) I0.out J.out.2.1 (by omega)
  have NR:=zY.of_own (c:=xs.length+1) F.out J.out.1 (by have:=C.out;omega)
  rw[k1,← HX.out,← HV.out,O.out,W0.1] at NQ
  rw[k2,← HX.out,← HV.out,O.out] at NR
  have M2:=zh NQ
  have N2:=zh NR
  have W1:=zh (gJ _ qs (xs.length-(f+2)+1) (xs.length-(f+2)+1) wr e0 I0.out.shows0 (by omega) (by omega))
  have X1:=zh (gJ _ g (xs.length+1) (xs.length+1) wr C.out F.out.shows0 (by have:=C.out;omega) (by have:=C.out;omega))
  have O2:=zh W0.2
  have p0:Hid (wl (val W64 xs*2^s%(val W64 x*2^s))≤4294967296):=by
   refine uD ((fE (k:=f+2)).2 ?_) (by omega)
   have h1:=uP (val W64 xs*2^s) a0.out
   rw[←HV.out,O.out] at h1
   have h2:=hV.out
   rw[←HV.out,O.out] at h2
   exact uX h1 h2
  clear k1 k2 e0 W0 NQ NR
  go_wp2_with fail
  (with_reducible refine W1.out.mono ?_)
  rintro e w7 ⟨rfl,rfl⟩
  clear W1
  go_wp2_with fail
  (with_reducible refine X1.out.mono ?_)
  rintro e w7 ⟨rfl,rfl⟩
  clear X1
  go_wp2_with fail
  (with_reducible refine (ZdV _ _ s _ N2.out p0.out (by omega)).mono ?_)
  rintro e w7 ⟨B7,l7,c7,rfl,X0,r,Y1⟩
  rw[O2.out] at X0
  have P2:=zh Y1
  have Q2:=zh X0
  have V0:=zh r
  clear X0 r Y1
  go_wp2
  go_ret2
  exact⟨_,_,_,B7,l7,c7,rfl,M2.out.ext V0.out,Q2.out,(C0.out.ext G.out).ext V0.out,fun a h=>(P2.out a h).imp (uD (C0.out.ext G.out).size) id⟩
theorem ZcV (A:Option Addr)(l c:Nat)(g:Value)(x y:Nat)(w:World)(o:zY w (.slice A l c) x)(p:zY w g y)(i:wl x≤4294967296)(s:wl y≤4294967296)(E:0<y) :
 yA 331 #[.slice A l c,g] w (eO w A A (x/y) (x%y)):=by
 have t:∀ e w',eO w none none (x/y) (x%y) e w'→eO w A A (x/y) (x%y) e w':=by
  rintro e w' ⟨D,m,d,B,l,c,j,k,n,F,G⟩
  exact⟨D,m,d,B,l,c,j,k,n,F,fun a u=>Or.inl ((G a u).elim id fun h=>by rcases h with h|h<;>rw[u] at h<;>cases h)⟩
 rcases uZ x y with b|f
 ·rw[tO b,vI b]
  exact ZdZ A l c g x y w o p i s b
 have H:=ZbX E
 by_cases j:wl y=1
 ·exact (Zdr _ g x y w o p i j f).mono t
 obtain⟨_,I,_,h,J,q,k,n,rfl⟩:=o
 injection h with e1 e2 e3
 subst e1 e2 e3
 obtain⟨K,v,L,rfl,r,M,z,C,rfl⟩:=p
 rw[←wK k n] at i
 rw[←wK z C] at s j H
 exact (ZcU A K I v c L (v.length-2) w q M J r i (by omega) k z n C f).mono t
theorem Zds (b a:Value)(x y:Nat)(w:World)(d:zY w b x)(e:zY w a y)(f:wl x≤4294967296)(g:wl y≤4294967296)(i:0<y) :
 yA 331 #[b,a] w (Zgx w (x/y) (x%y)):=by
 obtain⟨A,_,c,rfl,_⟩:=id d
 exact (ZcV _ _ _ a x y w d e f g i).mono fun _ _ h=>h.ret
theorem ZaC (d f:Value)(x y:Nat)(w:World)(k:zY w d x)(l:zY w f y)(p:wl x≤4294967296)(q:wl y<80)(r:0<y) :
 yA 295 #[d,f] w (Zgx w (x/y) (x%y)):=by
 have s:=zh (Zds d f x y w k l p (by omega) r)
 obtain⟨A,E,c,rfl,t,g,z,B,rfl⟩:=k
 obtain⟨F,G,H,rfl,h,C,m,n,rfl⟩:=l
 rw[←wK m n] at q
 clear g z B C m n t h
 go_enter Tryz.func295,Tryz.ntmps295
 go_wp2_with (go_at_call 331;refine s.out.mono ?_;rintro e I ⟨u,v,rfl,a,b,o⟩;have i:=zh a;have j:=zh b;have D:=zh o;clear a b o)
 go_ret2
 exact⟨_,_,rfl,i.out,j.out,D.out⟩
noncomputable def W32:Nat:=Classical.choose (p:=fun n:Nat=>n=4294967296) ⟨_,rfl⟩
theorem zU:W32=4294967296:=rY (p:=fun n:Nat=>n=4294967296) ⟨_,rfl⟩
theorem zQ:0<W32:=by have:=zU;omega
theorem ZeX:1<W32:=by have:=zU;omega
theorem Zmm:2≤W32:=by have:=zU;omega
theorem fX:W32*W32=W64:=by rw[zU,zM]
theorem dQ:(Tryz.prog.info? 292).map (fun i=>(i.zero,i.size,i.bytes))=some (some (.int .u32 0),1,4):=by kernel_rfl
theorem kD (A:Option Addr)(xs:List Nat)(n c:Nat)(w:World)(o:xs.length=n)(h:zV .u32 w A xs)(s:xs.length≤c)(t:xs.length≤70368744177664) :
 yA 204 #[.slice A n c] w fun e w'=>e=.returned (.slice A (wU xs xs.length) c)∧w=w':=by
 subst o
 have H:=zh h
 clear h
 go_enter Tryz.func204,Tryz.ntmps204
 go_wp2
 go_loop [0] (fun v=>∃ k:Nat,k≤xs.length∧v=.slice A k c∧Hid (wU xs xs.length=wU xs k)) (fun v=>match v with | .slice _ k _=>k | _=>0)
 case atStart=>exact⟨xs.length,uR _,rfl,rfl⟩
 case round =>
  obtain⟨k,u,rfl,d⟩:=hrel
  by_cases p:0<k
  ·obtain⟨b,q,rfl,y,f⟩:=H.out.at (i:=k-1) (by omega)
   obtain⟨x,g⟩:=yE (xs[k-1]?.getD 0)
   rw[g] at f
   have l:=zh g
   clear g
   by_cases j:x=0
   ·subst j
    go_wp2
    go_round
    case rel =>
     refine⟨k-1,by omega,by go_num,?_⟩
     have e:=d.out
     obtain⟨m,rfl⟩:∃ m,k=m+1:=⟨k-1,by omega⟩
     rw[wU,tA (by simpa using l.out)] at e
     exact e
    case measure=>simp;omega
   have r:(((x:Nat):Int) == 0)=false:=by simpa using j
   go_wp2
   go_ret
   refine⟨?_,rfl⟩
   have e:=d.out
   obtain⟨m,rfl⟩:∃ m,k=m+1:=⟨k-1,by omega⟩
   have a:=l.out
   simp only[sY] at a
   rw[wU,vP (by rw[a];exact j)] at e
   rw[e];rfl
  obtain rfl:k=0:=by omega
  go_wp2
  go_ret
  exact⟨by rw[d.out];rfl,rfl⟩
def ml (n:Nat):Nat:=if n=0 then 0 else n.log2/32+1
theorem ZcK (k:Nat):W32^k=2^(32*k):=by rw[Nat.pow_mul,zU]
theorem fI {n k:Nat}:ml n≤k↔n<W32^k:=by
 unfold ml
 rw[ZcK]
 split
 ·rename_i h;subst h;simp[uU]
 rename_i h
 rw[←Nat.log2_lt h];omega
theorem Zee (n:Nat):n<W32^ml n:=fI.1 (uR _)
theorem ZeY:ml 0=0:=rfl
theorem aN {a b:Nat}(h:a≤b):ml a≤ml b:=fI.2 (uN h (Zee b))
theorem Znp (a b:Nat):ml (a*b)≤ml a+ml b:=fI.2 (by rw[vV];exact Nat.mul_lt_mul'' (Zee a) (Zee b))
theorem Znq {a b k:Nat}(c:ml a≤k)(d:ml b≤k):ml (a+b)≤k+1:=by
 rw[fI] at *
 have:W32^k*2≤W32^k*W32:=uK _ Zmm
 rw[uW]
 omega
theorem kG {xs:List Nat}(a:Dig W32 xs)(b:Trim xs):xs.length=ml (val W32 xs):=by
 have c:=jY (n:=ml (val W32 xs)) ZeX b (Zee _)
 have d:ml (val W32 xs)≤xs.length:=fI.2 (wH a)
 omega
theorem Zef {n:Nat}(h:0<n):0<ml n:=by
 unfold ml;rw[vP (by omega)];omega
def zP (w:World) (v:Value) (n:Nat):Prop :=
 ∃ (A:Option Addr) (xs:List Nat) (c:Nat),v=.slice A xs.length c∧xs.length≤c∧zV .u32 w A xs∧Dig W32 xs∧Trim xs∧val W32 xs=n
theorem zP.ext {w w':World}{v:Value}{n:Nat}(h:zP w v n)(a:Ext w w'):zP w' v n:=by
 obtain⟨A,b,c,d,e,f,g⟩:=h
 exact⟨A,b,c,d,e,f.ext a,g⟩
theorem zP.zero (w:World):zP w (.slice none 0 0) 0:=⟨none,[],0,rfl,by simp,zV.nil,Dig.nil,Trim.nil,rfl⟩
def bM (w:World) (n:Nat) (e:Ending) (w':World):Prop:=∃ v,e=.returned v∧zP w' v n∧Ext w w'
theorem zP.of_own {w:World}{b:Nat}{xs:List Nat}(h:Own .u32 292 w b xs)(a:Dig W32 xs){c:Nat}(d:xs.length≤c):zP w (.slice (some ⟨b,0,none⟩) (wU xs xs.length) c) (val W32 xs):=by
 refine⟨_,xZ xs,c,by rw[wM],by rw[wM];exact uD (gI _ _) d,h.shows0.take _,iO a,iY xs,wZ _ _⟩
theorem kO (s:Nat):(s:Int)%4294967296=((s%W32:Nat):Int):=by rw[zU];omega
theorem hi32 (s:Nat):(s:Int)/4294967296=((s/W32:Nat):Int):=by rw[zU];omega
theorem addW {a b:Nat}(h:a+b<W64):IntKind.u64.wrap ((a:Int)+(b:Int))=((a+b:Nat):Int):=by rw[←rB];exact xV _ h
def jE (xs ys:List Nat) (k:Nat) (m:List Nat) (c:Nat):Prop :=
 m.length=xs.length+1∧Dig W32 m∧c≤1∧val W32 (m.take k)+W32^k*c=val W32 (xs.take k)+val W32 (ys.take k)
theorem jE.start (xs a:List Nat):jE xs a 0 (List.replicate (xs.length+1) 0) 0:=⟨by simp,Dig.replicate zQ _,by omega,by simp⟩
theorem Zad {x y c:Nat}(a:x<W32)(b:y<W32)(d:c≤1):(c+x+y)/W32≤1:=by
 rw[zU] at *;omega
theorem jE.step {xs a m:List Nat}{k c x y:Nat}(h:jE xs a k m c)(f:k<xs.length)(d:xs[k]?.getD 0=x)(e:a[k]?.getD 0=y)(b:k<a.length)(dx:Dig W32 xs)(g:Dig W32 a) :
 jE xs a (k+1) (m.set k ((c+x+y)%W32)) ((c+x+y)/W32):=by
 obtain⟨i,j,l,n⟩:=h
 refine⟨by simpa using i,j.set k (uP _ zQ),Zad (d ▸ dx.getD zQ k) (e ▸ g.getD zQ k) l,?_⟩
 rw[xU _ _ _ _ (by omega),zT k f,zT k b,d,e,uW]
 exact Zbc _ _ _ _ _ _ _ _ _ _ n (by have:=sG (c+x+y) W32;omega)
theorem jE.step0 {xs a m:List Nat}{k c x:Nat}(h:jE xs a k m c)(e:k<xs.length)(b:xs[k]?.getD 0=x)(f:a.length≤k)(dx:Dig W32 xs) :
 jE xs a (k+1) (m.set k ((c+x)%W32)) ((c+x)/W32):=by
 obtain⟨g,i,j,d⟩:=h
 refine⟨by simpa using g,i.set k (uP _ zQ),by simpa using Zad (y:=0) (b ▸ dx.getD zQ k) zQ j,?_⟩
 rw[xU _ _ _ _ (by omega),zT k e,b,uW,uB (l:=a) (by omega)]
 rw[uB (l:=a) (by omega)] at d
 have:=Zbc _ _ _ _ _ _ 0 _ _ _ d (by have:=sG (c+x) W32;omega:(c+x)%W32+W32*((c+x)/W32)=x+0+c)
 simpa using this
theorem jE.last {xs ys m:List Nat}{c:Nat}(h:jE xs ys xs.length m c)(a:ys.length≤xs.length):(m.set xs.length c).length=xs.length+1∧Dig W32 (m.set xs.length c)∧val W32 (m.set xs.length c)=val W32 xs+val W32 ys:=by
 obtain⟨b,d,g,f⟩:=h
 refine⟨by simpa using b,d.set _ (by have:=zU;omega),?_⟩
 have e:m.set xs.length c=(m.set xs.length c).take (xs.length+1):=by rw[uB (by simp;omega)]
 rw[e,xU _ _ _ _ (by omega),f,uB (uR _),uB a]
theorem ZhA (A A2:Option Addr)(xs s:List Nat)(c c2:Nat)(w:World)(hX:zV .u32 w A xs)(hY:zV .u32 w A2 s)(hl:xs.length≤35184372088832)(M:s.length≤xs.length)(hx:Dig W32 xs)(hy:Dig W32 s) :
 yA 241 #[.slice A xs.length c,.slice A2 s.length c2] w (bM w (val W32 xs+val W32 s)):=by
 have HX:=zh hX
 have HY:=zh hY
 have N:=zh hx
 have Hy:=zh hy
 clear hX hY hx hy
 go_enter Tryz.func241,Tryz.ntmps241
 go_wp2_with (
  at_make
  refine wE rfl _ _ _ rfl _ _ _ Tryz.underlying123 dQ _ _ _ _ (xs.length+1) rfl rfl (by omega) (by omega) (by omega) (by omega) ?_
  intro b w1 hb F O G P
  have Q:=zh F
  have R:=zh G
  have S:=zh hb
  clear F G hb P O)
 go_loopw [6,7] (fun cv i wr=>∃ (k q:Nat) (m:List Nat),k≤xs.length∧i=.int .i64 k∧cv=.int .u64 q∧Hid (jE xs s k m q)∧Hid (Own .u32 292 wr b m)∧Hid (Ext w wr)) (fun _ i _=>xs.length-(intOf i).toNat)
 case atStart=>exact⟨0,0,_,by omega,rfl,rfl,jE.start _ _,Q,R⟩
 case round =>
  obtain⟨k,q,m,hk,rfl,rfl,C,g,j⟩:=hrel
  have T:=C.out.1
  by_cases u:k<xs.length
  ·obtain⟨b2,a0,rfl,_,U⟩:=(HX.out.ext j.out).at u
   obtain⟨x,D⟩:=yE (xs[k]?.getD 0)
   rw[D] at U
   have t:=D ▸ N.out.getD zQ k
   have r:=C.out.2.2.1
   have v:=g.out.cell (i:=k) (by omega)
   have V:=g.out.frozen k
   obtain⟨z,E⟩:=yE (m[k]?.getD 0)
   rw[E] at v
   have h:q+x<W64:=by have:=zU;have:=zM;omega
   have q0:=xV x (by have:=zM;have:=zU;omega)
   have q1:=addW (a:=q) (b:=x) h
   obtain⟨B,l⟩:=yE (q+x)
   rw[l] at q1
   by_cases H:k<s.length
   ·obtain⟨b3,b0,rfl,_,W⟩:=(HY.out.ext j.out).at H
    obtain⟨y,L⟩:=yE (s[k]?.getD 0)
    rw[L] at W
    have I:=L ▸ Hy.out.getD zQ k
    have d:=zh (C.out.step u D L H N.out Hy.out)
    rw[l] at d
    have d0:=xV y (by have:=zM;have:=zU;omega)
    have q2:=addW (a:=B) (b:=y) (by have:=zU;have:=zM;omega)
    obtain⟨J,K⟩:=yE (B+y)
    rw[K] at q2 d
    have f:=zh (g.out.set k (J%W32) (by omega))
    have X:=kO J
    have Y:=hi32 J
    obtain⟨lo,n⟩:=yE (J%W32)
    obtain⟨hi,o⟩:=yE (J/W32)
    rw[n] at X d f
    rw[o] at Y d
    clear D L E n o l K t I r h
    go_wp2
    go_roundw
    case rel=>exact⟨k+1,_,_,by omega,by go_num,rfl,d,f.out,j.out.setCell (p:=⟨b,k,none⟩) (Or.inr (by have:=S.out;show w.heap.size≤b;omega)) _⟩
    case measure=>simp[intOf];omega
   have d:=zh (C.out.step0 u D (by omega) N.out)
   rw[l] at d
   have f:=zh (g.out.set k (B%W32) (by omega))
   have X:=kO B
   have Y:=hi32 B
   obtain⟨lo,n⟩:=yE (B%W32)
   obtain⟨hi,o⟩:=yE (B/W32)
   rw[n] at X d f
   rw[o] at Y d
   clear D E n o l t r h
   go_wp2
   go_roundw
   case rel=>exact⟨k+1,_,_,by omega,by go_num,rfl,d,f.out,j.out.setCell (p:=⟨b,k,none⟩) (Or.inr (by have:=S.out;show w.heap.size≤b;omega)) _⟩
   case measure=>simp[intOf];omega
  obtain rfl:k=xs.length:=by omega
  obtain⟨Z,l2,l3⟩:=C.out.last M
  have v:=g.out.cell (i:=xs.length) (by omega)
  have V:=g.out.frozen xs.length
  obtain⟨z,E⟩:=yE (m[xs.length]?.getD 0)
  rw[E] at v
  have r:=C.out.2.2.1
  have c0:(q:Int)%4294967296=(q:Int):=by omega
  have f:=g.out.set xs.length q (by omega)
  obtain⟨m',em⟩:=yE (m.set xs.length q)
  rw[em] at Z l2 l3 f
  have HT:=zh (kD _ _ (xs.length+1) (xs.length+1) _ Z f.shows0 (by omega) (by omega))
  have HN:=zh (zP.of_own (c:=xs.length+1) f l2 (by omega))
  rw[l3] at HN
  clear E Z l2 l3 f r T em
  go_wp2_with fail
  refine HT.out.mono ?_
  rintro e w2 ⟨rfl,rfl⟩
  clear HT
  go_wp2
  go_ret
  exact⟨_,rfl,HN.out,j.out.setCell (p:=⟨b,xs.length,none⟩) (Or.inr (by have:=S.out;show w.heap.size≤b;omega)) _⟩
theorem ZhB (A A2:Option Addr)(xs r:List Nat)(c c2:Nat)(w:World)(hX:zV .u32 w A xs)(hY:zV .u32 w A2 r)(hl:xs.length≤35184372088832)(s:r.length<xs.length)(hx:Dig W32 xs)(hy:Dig W32 r) :
 yA 241 #[.slice A2 r.length c2,.slice A xs.length c] w (bM w (val W32 xs+val W32 r)):=by
 have M:r.length≤xs.length:=by omega
 have HX:=zh hX
 have HY:=zh hY
 have N:=zh hx
 have Hy:=zh hy
 clear hX hY hx hy
 go_enter Tryz.func241,Tryz.ntmps241
 go_wp2_with (
  at_make
  refine wE rfl _ _ _ rfl _ _ _ Tryz.underlying123 dQ _ _ _ _ (xs.length+1) rfl rfl (by omega) (by omega) (by omega) (by omega) ?_
  intro b w1 hb F O G P
  have Q:=zh F
  have R:=zh G
  have S:=zh hb
  clear F G hb P O)
 go_loopw [6,7] (fun cv i wr=>∃ (k q:Nat) (m:List Nat),k≤xs.length∧i=.int .i64 k∧cv=.int .u64 q∧Hid (jE xs r k m q)∧Hid (Own .u32 292 wr b m)∧Hid (Ext w wr)) (fun _ i _=>xs.length-(intOf i).toNat)
 case atStart=>exact⟨0,0,_,by omega,rfl,rfl,jE.start _ _,Q,R⟩
 case round =>
  obtain⟨k,q,m,hk,rfl,rfl,C,g,j⟩:=hrel
  have T:=C.out.1
  by_cases s:k<xs.length
  ·obtain⟨b2,a0,rfl,_,U⟩:=(HX.out.ext j.out).at s
   obtain⟨x,D⟩:=yE (xs[k]?.getD 0)
   rw[D] at U
   have u:=D ▸ N.out.getD zQ k
   have t:=C.out.2.2.1
   have v:=g.out.cell (i:=k) (by omega)
   have V:=g.out.frozen k
   obtain⟨z,E⟩:=yE (m[k]?.getD 0)
   rw[E] at v
   have h:q+x<W64:=by have:=zU;have:=zM;omega
   have q0:=xV x (by have:=zM;have:=zU;omega)
   have q1:=addW (a:=q) (b:=x) h
   obtain⟨B,l⟩:=yE (q+x)
   rw[l] at q1
   by_cases H:k<r.length
   ·obtain⟨b3,b0,rfl,_,W⟩:=(HY.out.ext j.out).at H
    obtain⟨y,L⟩:=yE (r[k]?.getD 0)
    rw[L] at W
    have I:=L ▸ Hy.out.getD zQ k
    have d:=zh (C.out.step s D L H N.out Hy.out)
    rw[l] at d
    have d0:=xV y (by have:=zM;have:=zU;omega)
    have q2:=addW (a:=B) (b:=y) (by have:=zU;have:=zM;omega)
    obtain⟨J,K⟩:=yE (B+y)
    rw[K] at q2 d
    have f:=zh (g.out.set k (J%W32) (by omega))
    have X:=kO J
    have Y:=hi32 J
    obtain⟨lo,n⟩:=yE (J%W32)
    obtain⟨hi,o⟩:=yE (J/W32)
    rw[n] at X d f
    rw[o] at Y d
    clear D L E n o l K u I t h
    go_wp2
    go_roundw
    case rel=>exact⟨k+1,_,_,by omega,by go_num,rfl,d,f.out,j.out.setCell (p:=⟨b,k,none⟩) (Or.inr (by have:=S.out;show w.heap.size≤b;omega)) _⟩
    case measure=>simp[intOf];omega
   have d:=zh (C.out.step0 s D (by omega) N.out)
   rw[l] at d
   have f:=zh (g.out.set k (B%W32) (by omega))
   have X:=kO B
   have Y:=hi32 B
   obtain⟨lo,n⟩:=yE (B%W32)
   obtain⟨hi,o⟩:=yE (B/W32)
   rw[n] at X d f
   rw[o] at Y d
   clear D E n o l u t h
   go_wp2
   go_roundw
   case rel=>exact⟨k+1,_,_,by omega,by go_num,rfl,d,f.out,j.out.setCell (p:=⟨b,k,none⟩) (Or.inr (by have:=S.out;show w.heap.size≤b;omega)) _⟩
   case measure=>simp[intOf];omega
  obtain rfl:k=xs.length:=by omega
  obtain⟨Z,l2,l3⟩:=C.out.last M
  have v:=g.out.cell (i:=xs.length) (by omega)
  have V:=g.out.frozen xs.length
  obtain⟨z,E⟩:=yE (m[xs.length]?.getD 0)
  rw[E] at v
  have t:=C.out.2.2.1
  have c0:(q:Int)%4294967296=(q:Int):=by omega
  have f:=g.out.set xs.length q (by omega)
  obtain⟨m',em⟩:=yE (m.set xs.length q)
  rw[em] at Z l2 l3 f
  have HT:=zh (kD _ _ (xs.length+1) (xs.length+1) _ Z f.shows0 (by omega) (by omega))
  have HN:=zh (zP.of_own (c:=xs.length+1) f l2 (by omega))
  rw[l3] at HN
  clear E Z l2 l3 f t T em
  go_wp2_with fail
  refine HT.out.mono ?_
  rintro e w2 ⟨rfl,rfl⟩
  clear HT
  go_wp2
  go_ret
  exact⟨_,rfl,HN.out,j.out.setCell (p:=⟨b,xs.length,none⟩) (Or.inr (by have:=S.out;show w.heap.size≤b;omega)) _⟩
theorem Zeg (v v2:Value)(x y:Nat)(w:World)(m:zP w v x)(n:zP w v2 y)(a:ml x≤17592186044416)(b:ml y≤17592186044416) :
 yA 241 #[v,v2] w (bM w (x+y)):=by
 obtain⟨A,d,c,rfl,r,i,e,o,rfl⟩:=m
 obtain⟨j,f,k,rfl,p,l,g,q,rfl⟩:=n
 rw[←kG e o] at a
 rw[←kG g q] at b
 by_cases h:f.length≤d.length
 ·exact ZhA A j d f c k w i l (by omega) h e g
 rw[vR]
 exact ZhB j A f d k c w l i (by omega) (by omega) g e
def Zae (xs ys:List Nat) (i:Nat) (zs:List Nat):Prop :=
 zs.length=xs.length+ys.length∧Dig W32 zs∧(∀ j,i+ys.length≤j→zs[j]?.getD 0=0)∧val W32 zs=val W32 (xs.take i)*val W32 ys
theorem Zae.start (xs a:List Nat):Zae xs a 0 (List.replicate (xs.length+a.length) 0):=by
 refine⟨by simp,Dig.replicate zQ _,?_,by simp[jF]⟩
 intro j _
 rw[List.getElem?_replicate];split<;>rfl
def cU (zs:List Nat) (i x:Nat) (ys:List Nat) (k:Nat) (ms:List Nat) (c:Nat):Prop :=
 ms.length=zs.length∧Dig W32 ms∧c<W32∧ms.drop (i+k)=zs.drop (i+k)∧val W32 (ms.take (i+k))+W32^(i+k)*c=val W32 (zs.take (i+k))+W32^i*(x*val W32 (ys.take k))
theorem cU.start {zs a:List Nat}{i x:Nat}(b:Dig W32 zs):cU zs i x a 0 zs 0:=⟨rfl,b,zQ,rfl,by simp⟩
theorem cU.at {zs b a:List Nat}{i x k c:Nat}(h:cU zs i x b k a c):a[i+k]?.getD 0=zs[i+k]?.getD 0:=by
 have:=tC (fun l=>l[0]?.getD 0) h.2.2.2.1
 simpa [List.getElem?_drop] using this
theorem sq32 {a b z c:Nat}(d:a<W32)(e:b<W32)(f:z<W32)(g:c<W32):c+(a*b+z)<W32*W32:=by
 have h:a*b≤(W32-1)*(W32-1):=sE (by omega) (by omega)
 rw[zU] at *
 omega
theorem Zlc (a b B V Z Y x y z c d c':Nat)(g:V+a*b*c=Z+a*(x*Y))(e:d+B*c'=c+(x*y+z)):V+a*b*d+a*b*B*c'=Z+a*b*z+a*(x*(Y+b*y)):=by
 have f:=tC (a*b * ·) e
 simp only[uS] at f ⊢
 have h:a*b*(B*c')=a*b*B*c':=by rw[uQ (a*b)]
 have i:a*(x*(b*y))=a*b*(x*y):=by rw[sB x,uQ]
 omega
theorem cU.step {zs a b:List Nat}{i x k c y z:Nat}(h:cU zs i x a k b c)(n:i+k<zs.length)(o:x<W32)(e:a[k]?.getD 0=y)(d:k<a.length)(p:Dig W32 a)(f:b[i+k]?.getD 0=z) :
 cU zs i x a (k+1) (b.set (i+k) ((c+(x*y+z))%W32)) ((c+(x*y+z))/W32):=by
 have q:zs[i+k]?.getD 0=z:=h.at.symm.trans f
 obtain⟨r,g,s,t,m⟩:=h
 have u:=sq32 o (e ▸ p.getD zQ k) (f ▸ g.getD zQ (i+k)) s
 refine⟨by simpa using r,g.set _ (uP _ zQ),sF u,?_,?_⟩
 ·rw[tU (by omega),← tR,← tH (i:=1) (j:=i+k) (l:=b),← tH (i:=1) (j:=i+k) (l:=zs),t]
 rw[←tR,xU _ _ _ _ (by omega),zT (i+k) n,zT k d,q,e,uW,vV]
 rw[vV] at m
 exact Zlc _ _ _ _ _ _ _ _ _ _ _ _ m (by have:=sG (c+(x*y+z)) W32;omega)
theorem ZbG {B:Nat}{zs:List Nat}{n:Nat}(h:∀ j,n≤j→zs[j]?.getD 0=0):val B zs=val B (zs.take n):=by
 rw[xQ (xs:=zs) n]
 have:val B (zs.drop n)=0:=by
  have e:zs.drop n=List.replicate (zs.drop n).length 0:=by
   apply List.ext_getElem (by simp)
   intro i a b
   have:=h (n+i) (by omega)
   rw[vJ] at a
   rw[List.getElem?_eq_getElem (by omega)] at this
   simpa using this
  rw[e,jF]
 rw[this];simp
theorem Zae.next {xs a zs b:List Nat}{i x c:Nat}(h:Zae xs a i zs)(k:cU zs i x a a.length b c)(hi:i<xs.length)(f:xs[i]?.getD 0=x):Zae xs a (i+1) (b.set (i+a.length) c):=by
 obtain⟨g,s,d,m⟩:=h
 obtain⟨n,o,p,q,r⟩:=k
 have e:∀ j,i+1+a.length≤j→(b.set (i+a.length) c)[j]?.getD 0=0:=by
  intro j t
  rw[List.getElem?_set_ne (by omega)]
  have:=tC (fun l=>l[j-(i+a.length)]?.getD 0) q
  simp only[List.getElem?_drop] at this
  rw[show i+a.length+(j-(i+a.length))=j by omega] at this
  rw[this];exact d j (by omega)
 refine⟨by simp[n,g],o.set _ p,e,?_⟩
 rw[ZbG e,show i+1+a.length=i+a.length+1 by omega,xU _ _ _ _ (by omega),r,← ZbG d,m,zT i hi,f,uT,uB (uR a.length),uQ]
theorem ZhC (A A2:Option Addr)(xs d:List Nat)(c c2:Nat)(w:World)(hX:zV .u32 w A xs)(hY:zV .u32 w A2 d)(hl:xs.length≤35184372088832)(g0:d.length≤35184372088832)(S:0<xs.length)(T:0<d.length)(hx:Dig W32 xs)(hy:Dig W32 d) :
 yA 244 #[.slice A xs.length c,.slice A2 d.length c2] w (bM w (val W32 xs*val W32 d)):=by
 have HX:=zh hX
 have HY:=zh hY
 have Hx:=zh hx
 have Hy:=zh hy
 have g1:(((xs.length:Nat):Int) == 0)=false:=by simp;intro e;simp[e] at S
 have g2:(((d.length:Nat):Int) == 0)=false:=by simp;intro e;simp[e] at T
 clear hX hY hx hy
 go_enter Tryz.func244,Tryz.ntmps244
 go_wp2_with (
  at_make
  refine wE rfl _ _ _ rfl _ _ _ Tryz.underlying123 dQ _ _ _ _ (xs.length+d.length) rfl rfl (by omega) (by omega) (by omega) (by omega) ?_
  intro b w1 q F U G V
  have W:=zh F
  have X:=zh G
  have Hb:=zh q
  clear F G q V U)
 go_loopw [6,7,8] (fun i _ _ wr=>∃ (k:Nat) (m:List Nat),k≤xs.length∧i=.int .i64 k∧Hid (Zae xs d k m)∧Hid (Own .u32 292 wr b m)∧Hid (Ext w wr)) (fun i _ _ _=>xs.length-(intOf i).toNat)
 case atStart=>exact⟨0,_,by omega,rfl,Zae.start _ _,W,X⟩
 case round =>
  obtain⟨k,zs,hk,rfl,H,u,I⟩:=hrel
  have J:=H.out.1
  by_cases v:k<xs.length
  ·obtain⟨x,Y⟩:=yE (xs[k]?.getD 0)
   have K:=zh Y
   have h:Hid (x<W32):=Y ▸ Hx.out.getD zQ k
   obtain⟨b2,d0,hA,_⟩:=HX.out.at v
   subst hA
   clear Y
   go_wp2
   obtain⟨wo,rfl⟩:∃ wo:World,wo=wr:=⟨_,rfl⟩
   go_loopw [7,8] (fun cv j wr=>∃ (n B:Nat) (m:List Nat),n≤d.length∧j=.int .i64 n∧cv=.int .u64 B∧Hid (cU zs k x d n m B)∧Hid (Own .u32 292 wr b m)∧Hid (Ext w wr)) (fun _ j _=>d.length-(intOf j).toNat)
   case atStart=>exact⟨0,0,_,by omega,rfl,rfl,cU.start H.out.2.1,u,I⟩
   case round =>
    obtain⟨n,B,m,hn,rfl,rfl,E,f,l⟩:=hrel
    have h0:=E.out.1
    by_cases r:n<d.length
    ·obtain⟨b3,e0,rfl,_,Z⟩:=(HY.out.ext l.out).at r
     obtain⟨b4,f0,L,_,a0⟩:=(HX.out.ext l.out).at v
     injection L with L
     injection L with L e5
     subst L e5
     rw[K.out] at a0
     obtain⟨y,R⟩:=yE (d[n]?.getD 0)
     rw[R] at Z
     obtain⟨z,C⟩:=yE (m[k+n]?.getD 0)
     have D:=f.out.cell (i:=k+n) (by omega)
     have b0:=f.out.frozen (k+n)
     rw[C] at D
     have s:=R ▸ Hy.out.getD zQ n
     have t:=C ▸ E.out.2.1.getD zQ (k+n)
     have q:=sq32 h.out s t E.out.2.2.1
     rw[fX] at q
     have g:=zh (E.out.step (by omega) h.out R r Hy.out C)
     have q0:=xV x (by have:=zM;have:=zU;have:=h.out;omega)
     have q1:=xV y (by have:=zM;have:=zU;omega)
     have q2:=xV z (by have:=zM;have:=zU;omega)
     have q3:IntKind.u64.wrap ((x:Int)*(y:Int))=((x*y:Nat):Int):=by rw[←tW];exact xV _ (by omega)
     obtain⟨p,ep⟩:=yE (x*y)
     rw[ep] at q3 g q
     have q4:=addW (a:=p) (b:=z) (by omega)
     obtain⟨s1,M⟩:=yE (p+z)
     rw[M] at q4 g q
     have q5:=addW (a:=B) (b:=s1) q
     obtain⟨N,O⟩:=yE (B+s1)
     rw[O] at q5 g
     have q6:=kO N
     have q7:=hi32 N
     have o:=zh (f.out.set (k+n) (N%W32) (by omega))
     obtain⟨lo,P⟩:=yE (N%W32)
     obtain⟨hi,Q⟩:=yE (N/W32)
     rw[P] at q6 g o
     rw[Q] at q7 g
     clear R C s t q ep M O P Q
     go_wp2
     go_region
     all_goals
      go_wp2
      go_roundw
      case rel=>exact⟨n+1,_,_,by omega,by go_num,rfl,g,o.out.drewN _,(l.out.drewN _).setCell (p:=⟨b,k+n,none⟩) (Or.inr (by have:=Hb.out;show w.heap.size≤b;omega)) _⟩
      case measure=>simp[intOf];omega
    obtain rfl:n=d.length:=by omega
    have c0:=zh (H.out.next E.out v K.out)
    have D:=f.out.cell (i:=k+d.length) (by omega)
    have b0:=f.out.frozen (k+d.length)
    obtain⟨z,C⟩:=yE (m[k+d.length]?.getD 0)
    rw[C] at D
    have o:=zh (f.out.set (k+d.length) B (by omega))
    have q6:=kO B
    rw[vI E.out.2.2.1] at q6
    clear C
    go_wp2
    go_roundw
    case rel=>exact⟨k+1,_,by omega,by go_num,c0,o.out,l.out.setCell (p:=⟨b,k+d.length,none⟩) (Or.inr (by have:=Hb.out;show w.heap.size≤b;omega)) _⟩
    case measure=>simp[intOf];omega
  obtain rfl:k=xs.length:=by omega
  have HT:=zh (kD _ zs (xs.length+d.length) (xs.length+d.length) wr J u.out.shows0 (by omega) (by omega))
  have HN:=zh (zP.of_own (c:=xs.length+d.length) u.out H.out.2.1 (by omega))
  rw[H.out.2.2.2,uB (uR _)] at HN
  clear J
  go_wp2_with fail
  refine HT.out.mono ?_
  rintro e w2 ⟨rfl,rfl⟩
  clear HT
  go_wp2
  go_ret
  exact⟨_,rfl,HN.out,I.out⟩
theorem ZhD (A b:Option Addr)(n m c c2:Nat)(w:World)(h:n=0∨m=0)(d:n≤35184372088832)(e:m≤35184372088832) :
 yA 244 #[.slice A n c,.slice b m c2] w (bM w 0):=by
 by_cases a:n=0
 ·subst a
  go_enter Tryz.func244,Tryz.ntmps244
  go_wp2
  go_ret
  exact⟨_,rfl,zP.zero _,Fr.refl _ _⟩
 obtain rfl:m=0:=by omega
 have f:(((n:Nat):Int) == 0)=false:=by simpa using a
 go_enter Tryz.func244,Tryz.ntmps244
 go_wp2
 go_ret
 exact⟨_,rfl,zP.zero _,Fr.refl _ _⟩
theorem aE (v v2:Value)(x y:Nat)(w:World)(l:zP w v x)(m:zP w v2 y)(a:ml x≤17592186044416)(b:ml y≤17592186044416) :
 yA 244 #[v,v2] w (bM w (x*y)):=by
 obtain⟨A,d,c,rfl,s,n,g,o,rfl⟩:=l
 obtain⟨i,f,j,rfl,p,q,k,r,rfl⟩:=m
 rw[←kG g o] at a
 rw[←kG k r] at b
 by_cases h:d.length=0∨f.length=0
 ·have e:val W32 d*val W32 f=0:=by
   rcases h with h|h
   ·rw[vZ.1 h];simp
   rw[vZ.1 h];simp
  rw[e]
  exact ZhD A i _ _ c j w h (by omega) (by omega)
 exact ZhC A i d f c j w n q (by omega) (by omega) (by omega) (by omega) g k
def Zbk (xs:List Nat) (d k:Nat) (zs:List Nat) (r:Nat):Prop :=
 zs.length=xs.length∧Dig W32 zs∧r<d∧val W32 (xs.drop k)=val W32 (zs.drop k)*d+r
theorem Zbk.start (xs:List Nat){d:Nat}(h:0<d):Zbk xs d xs.length (List.replicate xs.length 0) 0:=⟨by simp,Dig.replicate zQ _,h,by simp⟩
theorem Zbk.step {xs zs:List Nat}{d k r x:Nat}(h:Zbk xs d (k+1) zs r)(c:k<xs.length)(a:xs[k]?.getD 0=x)(dx:Dig W32 xs) :
 Zbk xs d k (zs.set k ((r*W32+x)/d)) ((r*W32+x)%d)∧(r*W32+x)/d<W32:=by
 obtain⟨e,f,g,i⟩:=h
 have j:x<W32:=a ▸ dx.getD zQ k
 have b:(r*W32+x)/d<W32:=by
  apply sF
  have:(r+1)*W32≤d*W32:=uC _ g
  rw[uT,Nat.one_mul] at this
  omega
 refine⟨⟨by simpa using e,f.set k b,uP _ (by omega),?_⟩,b⟩
 rw[xR k c,xR (xs:=zs.set k _) k (by simp;omega),a,tU (by omega),List.getElem?_set_self (by omega)]
 exact Zdi _ _ _ _ _ _ _ _ i (by have:=tG (r*W32+x) d;rw[uG d] at this;show _=(r*W32+x)/d*d+_;omega)
theorem Zi5 (r:Nat)(h:r<W32):IntKind.u64.wrap ((r:Int)*4294967296)=((r*W32:Nat):Int):=by
 rw[zU] at *;rw[IntKind.wrap_u64];omega
theorem or32 (r x:Nat)(a:x<W32):r*W32 ||| x=r*W32+x:=by
 rw[zU] at *
 have:=tL (i:=32) (b:=x) (by omega) r
 rw[sI] at this
 exact this.symm
def ZfD (w:World) (x d:Nat) (e:Ending) (w':World):Prop:=∃ l c,e=.returned (.tuple #[.slice (some ⟨w.heap.size,0,none⟩) l c,.int .u32 ((x%d:Nat):Int)])∧zP w' (.slice (some ⟨w.heap.size,0,none⟩) l c) (x/d)∧Ext w w'
theorem Zf8 (A:Option Addr)(xs:List Nat)(c d:Nat)(w:World)(X:zV .u32 w A xs)(hl:xs.length≤35184372088832)(Y:Dig W32 xs)(hd:0<d)(y:d<W32) :
 yA 199 #[.slice A xs.length c,.int .u32 (d:Int)] w (ZfD w (val W32 xs) d):=by
 have HX:=zh X
 have Z:=zh Y
 have HD:=zh hd
 have B:=zh y
 have g1:(((d:Nat):Int) == 0)=false:=by simp;omega
 have q0:=xV d (by have:=zM;have:=zU;omega)
 clear X Y y
 go_enter Tryz.func199,Tryz.ntmps199
 go_wp2_with (
  at_make
  refine wE rfl _ _ _ rfl _ _ _ Tryz.underlying123 dQ _ _ _ _ xs.length rfl rfl (by omega) (by omega) (by omega) (by omega) ?_
  intro b w1 hb C M D N
  have O:=zh C
  have P:=zh D
  have Q:=zh hb
  clear C D hb N M)
 go_loopw [7,8] (fun rv i wr=>∃ (k r:Nat) (m:List Nat),k≤xs.length∧i=.int .i64 ((k:Int)-1)∧rv=.int .u64 r∧Hid (Zbk xs d k m r)∧Hid (Own .u32 292 wr b m)∧Hid (Ext w wr)) (fun _ i _=>(intOf i+1).toNat)
 case atStart=>exact⟨xs.length,0,_,by omega,rfl,rfl,Zbk.start _ HD.out,O,P⟩
 case round =>
  obtain⟨k,r,m,hk,rfl,rfl,v,f,t⟩:=hrel
  have E:=v.out.1
  by_cases b0:0<k
  ·obtain⟨k,rfl⟩:∃ j,k=j+1:=⟨k-1,by omega⟩
   have F:k<xs.length:=by omega
   obtain⟨b2,a0,rfl,_,R⟩:=(HX.out.ext t.out).at F
   obtain⟨x,J⟩:=yE (xs[k]?.getD 0)
   rw[J] at R
   have o:=J ▸ Z.out.getD zQ k
   have S:=f.out.cell (i:=k) (by omega)
   have c0:=f.out.frozen k
   obtain⟨z,ez⟩:=yE (m[k]?.getD 0)
   rw[ez] at S
   have hi:((k+1:Nat):Int)-1=(k:Int):=by omega
   rw[hi]
   obtain⟨G,K⟩:=v.out.step F J Z.out
   have g:=zh G
   have h:r<W32:=rR v.out.2.2.1 B.out
   have q1:=Zi5 r h
   have q2:=xV x (by have:=zM;have:=zU;omega)
   have u:r*W32+x<W64:=by
    have:(r+1)*W32≤W32*W32:=uC _ h
    rw[uT,fX] at this;omega
   have T:=dK (a:=r*W32) (b:=x) (by omega) (by omega)
   rw[or32 r x o] at T
   obtain⟨U,e1⟩:=yE (r*W32)
   rw[e1] at q1 T g K u
   obtain⟨s,es⟩:=yE (U+x)
   rw[es] at T g K u
   have q4:(s:Int).tdiv (d:Int)=((s/d:Nat):Int):=by rw[tF (by omega)];rfl
   have V:(s:Int)/(d:Int)=((s/d:Nat):Int):=rfl
   have q5:(s:Int).tmod (d:Int)=((s%d:Nat):Int):=by rw[tJ (by omega)];rfl
   have W:(s:Int)%(d:Int)=((s%d:Nat):Int):=rfl
   have H:=zh (f.out.set k (s/d) (by omega))
   have L:=kO (s/d)
   rw[vI K] at L
   have q7:IntKind.u64.wrap ((s/d:Nat):Int)=((s/d:Nat):Int):=xV _ (by have:=zM;have:=zU;omega)
   obtain⟨q,eq⟩:=yE (s/d)
   obtain⟨r2,I⟩:=yE (s%d)
   rw[eq] at q4 V L q7 H g
   rw[I] at q5 W g
   clear J ez o G K h u e1 es eq I hi
   go_wp2
   refine⟨⟨k,_,_,by omega,rfl,rfl,g,H,t.out.setCell (p:=⟨b,k,none⟩) (Or.inr (by have:=Q.out;show w.heap.size≤b;omega)) _⟩,?_⟩
   simp[intOf]
  obtain rfl:k=0:=by omega
  have l:=v.out.2.2.2
  rw[sL,sL] at l
  have HT:=zh (kD _ m xs.length xs.length wr E f.out.shows0 (by omega) (by omega))
  have HN:=zh (zP.of_own (c:=xs.length) f.out v.out.2.1 (by omega))
  have n:=v.out.2.2.1
  have ed:val W32 xs/d=val W32 m:=by
   rw[l,uG,sM HD.out,tO n,tK]
  have I:val W32 xs%d=r:=by
   rw[l,uG,rV,vI n]
  rw[←ed] at HN
  have HE:=zh I
  have L:=kO r
  rw[vI (rR n B.out)] at L
  clear l n ed I E
  go_wp2_with fail
  refine HT.out.mono ?_
  rintro e w2 ⟨rfl,rfl⟩
  clear HT
  go_wp2
  go_ret2
  exact⟨_,_,by rw[HE.out,Q.out];rfl,by rw[Q.out];exact HN.out,t.out⟩
theorem Zb9 (v:Value)(x d:Nat)(w:World)(f:zP w v x)(a:ml x≤17592186044416)(g:0<d)(b:d<W32) :
 yA 199 #[v,.int .u32 (d:Int)] w (ZfD w x d):=by
 obtain⟨A,h,c,rfl,k,i,e,j,rfl⟩:=f
 rw[←kG e j] at a
 exact Zf8 A h c d w i (by omega) e g b
def jJ (xs ys:List Nat) (k:Nat) (m:List Nat) (c:Nat):Prop :=
 m.length=xs.length∧Dig W32 m∧c≤1∧val W32 (m.take k)+val W32 (ys.take k)=val W32 (xs.take k)+W32^k*c
theorem jJ.start (xs a:List Nat):jJ xs a 0 (List.replicate xs.length 0) 0:=⟨by simp,Dig.replicate zQ _,by omega,by simp⟩
noncomputable def d32 (x y c:Nat):Nat:=(x+W64-c-y)%W64
theorem Zdt {x y c:Nat}(a:x<W32)(b:y<W32)(d:c≤1):d32 x y c%W32+y+c=x+W32*(d32 x y c/W32%2):=by
 unfold d32
 rw[zU] at *
 rw[zM] at *
 omega
theorem jJ.step {xs a m:List Nat}{k c x y:Nat}(h:jJ xs a k m c)(f:k<xs.length)(d:xs[k]?.getD 0=x)(e:a[k]?.getD 0=y)(b:k<a.length)(dx:Dig W32 xs)(g:Dig W32 a) :
 jJ xs a (k+1) (m.set k (d32 x y c%W32)) (d32 x y c/W32%2):=by
 obtain⟨i,j,l,n⟩:=h
 refine⟨by simpa using i,j.set k (uP _ zQ),by omega,?_⟩
 rw[xU _ _ _ _ (by omega),zT k f,zT k b,d,e,uW]
 exact Zgm _ _ _ _ _ _ _ _ _ _ n (Zdt (d ▸ dx.getD zQ k) (e ▸ g.getD zQ k) l)
theorem jJ.step0 {xs a m:List Nat}{k c x:Nat}(h:jJ xs a k m c)(e:k<xs.length)(b:xs[k]?.getD 0=x)(f:a.length≤k)(dx:Dig W32 xs) :
 jJ xs a (k+1) (m.set k (d32 x 0 c%W32)) (d32 x 0 c/W32%2):=by
 obtain⟨g,i,j,d⟩:=h
 refine⟨by simpa using g,i.set k (uP _ zQ),by omega,?_⟩
 rw[xU _ _ _ _ (by omega),zT k e,b,uW,uB (l:=a) (by omega)]
 rw[uB (l:=a) (by omega)] at d
 have:=Zgm _ _ _ _ _ _ 0 _ _ _ d (Zdt (y:=0) (b ▸ dx.getD zQ k) zQ j)
 simpa using this
theorem jJ.done {xs ys m:List Nat}{c:Nat}(h:jJ xs ys xs.length m c)(e:ys.length≤xs.length)(f:val W32 ys≤val W32 xs):val W32 m=val W32 xs-val W32 ys:=by
 obtain⟨b,d,g,a⟩:=h
 rw[uB (by omega),uB (by omega),uB (by omega)] at a
 have:=wH d
 rw[b] at this
 rcases (by omega:c=0∨c=1) with rfl|rfl
 ·simp at a;omega
 omega
theorem Zmn {x c:Nat}(a:x<W32)(b:c≤1):IntKind.u64.wrap ((x:Int)-(c:Int))=((d32 x 0 c:Nat):Int):=by
 unfold d32;rw[IntKind.wrap_u64,zM];rw[zU] at a;omega
theorem Zmo {x y c:Nat}(a:x<W32)(b:y<W32)(d:c≤1):IntKind.u64.wrap (((d32 x 0 c:Nat):Int)-(y:Int))=((d32 x y c:Nat):Int):=by
 unfold d32;rw[IntKind.wrap_u64,zM];rw[zU] at a b;omega
theorem ZgP (x y c:Nat):d32 x y c<W64:=uP _ zZ
theorem ZeZ (h:Nat)(a:h<W64):bits .and .u64 (h:Int) 1=((h%2:Nat):Int):=by
 rw[zM] at a
 have:=bits_and_u64_nat h 1 a (by omega)
 rw[Nat.and_one_is_mod] at this
 exact this
theorem ZhE (A X:Option Addr)(xs r:List Nat)(c c2:Nat)(w:World)(Y:zV .u32 w A xs)(Z:zV .u32 w X r)(hl:xs.length≤35184372088832)(M:r.length≤xs.length)(hx:Dig W32 xs)(hy:Dig W32 r)(hv:val W32 r≤val W32 xs) :
 yA 243 #[.slice A xs.length c,.slice X r.length c2] w (bM w (val W32 xs-val W32 r)):=by
 have HX:=zh Y
 have HY:=zh Z
 have N:=zh hx
 have Hy:=zh hy
 have HV:=zh hv
 clear Y Z hx hy hv
 go_enter Tryz.func243,Tryz.ntmps243
 go_wp2_with (
  at_make
  refine wE rfl _ _ _ rfl _ _ _ Tryz.underlying123 dQ _ _ _ _ xs.length rfl rfl (by omega) (by omega) (by omega) (by omega) ?_
  intro b w1 hb D O E P
  have Q:=zh D
  have R:=zh E
  have Hb:=zh hb
  clear D E hb P O)
 go_loopw [6,7,8] (fun cv i _ wr=>∃ (k f:Nat) (m:List Nat),k≤xs.length∧i=.int .i64 k∧cv=.int .u64 f∧Hid (jJ xs r k m f)∧Hid (Own .u32 292 wr b m)∧Hid (Ext w wr)) (fun _ i _ _=>xs.length-(intOf i).toNat)
 case atStart=>exact⟨0,0,_,by omega,rfl,rfl,jJ.start _ _,Q,R⟩
 case round =>
  obtain⟨k,f,m,hk,rfl,rfl,B,h,j⟩:=hrel
  have F:=B.out.1
  by_cases u:k<xs.length
  ·obtain⟨b2,a0,rfl,_,S⟩:=(HX.out.ext j.out).at u
   obtain⟨x,C⟩:=yE (xs[k]?.getD 0)
   rw[C] at S
   have g:=C ▸ N.out.getD zQ k
   have s:=B.out.2.2.1
   have T:=h.out.cell (i:=k) (by omega)
   have c0:=h.out.frozen k
   obtain⟨z,U⟩:=yE (m[k]?.getD 0)
   rw[U] at T
   have q0:=xV x (by have:=zM;have:=zU;omega)
   have q1:=Zmn g s
   by_cases G:k<r.length
   ·obtain⟨b3,b0,rfl,_,V⟩:=(HY.out.ext j.out).at G
    obtain⟨y,L⟩:=yE (r[k]?.getD 0)
    rw[L] at V
    have t:=L ▸ Hy.out.getD zQ k
    have a:=zh (B.out.step u C L G N.out Hy.out)
    have d0:=xV y (by have:=zM;have:=zU;omega)
    have q2:=Zmo g t s
    have H:=kO (d32 x y f)
    have I:=hi32 (d32 x y f)
    have v:=ZeZ (d32 x y f/W32) (uN (vU _ _) (ZgP _ _ _))
    have d:=zh (h.out.set k (d32 x y f%W32) (by omega))
    obtain⟨d1,J⟩:=yE (d32 x 0 f)
    obtain⟨K,l⟩:=yE (d32 x y f)
    rw[J] at q1 q2
    rw[l] at q2 H I v d a
    obtain⟨lo,n⟩:=yE (K%W32)
    obtain⟨W,o⟩:=yE (K/W32)
    rw[n] at H a d
    rw[o] at I v a
    obtain⟨bw,q⟩:=yE (W%2)
    rw[q] at v a
    clear C L U n o J l q g t s
    go_wp2
    go_roundw
    case rel=>exact⟨k+1,_,_,by omega,by go_num,rfl,a,d.out,j.out.setCell (p:=⟨b,k,none⟩) (Or.inr (by have:=Hb.out;show w.heap.size≤b;omega)) _⟩
    case measure=>simp[intOf];omega
   have a:=zh (B.out.step0 u C (by omega) N.out)
   have H:=kO (d32 x 0 f)
   have I:=hi32 (d32 x 0 f)
   have v:=ZeZ (d32 x 0 f/W32) (uN (vU _ _) (ZgP _ _ _))
   have d:=zh (h.out.set k (d32 x 0 f%W32) (by omega))
   obtain⟨K,l⟩:=yE (d32 x 0 f)
   rw[l] at q1 H I v d a
   obtain⟨lo,n⟩:=yE (K%W32)
   obtain⟨W,o⟩:=yE (K/W32)
   rw[n] at H a d
   rw[o] at I v a
   obtain⟨bw,q⟩:=yE (W%2)
   rw[q] at v a
   clear C U n o l q g s
   go_wp2
   go_roundw
   case rel=>exact⟨k+1,_,_,by omega,by go_num,rfl,a,d.out,j.out.setCell (p:=⟨b,k,none⟩) (Or.inr (by have:=Hb.out;show w.heap.size≤b;omega)) _⟩
   case measure=>simp[intOf];omega
  obtain rfl:k=xs.length:=by omega
  have l3:=B.out.done M HV.out
  have HT:=zh (kD _ m xs.length xs.length wr F h.out.shows0 (by omega) (by omega))
  have HN:=zh (zP.of_own (c:=xs.length) h.out B.out.2.1 (by omega))
  rw[l3] at HN
  clear l3 F
  go_wp2_with fail
  refine HT.out.mono ?_
  rintro e w2 ⟨rfl,rfl⟩
  clear HT
  go_wp2
  go_ret
  exact⟨_,rfl,HN.out,j.out⟩
theorem aF (v v2:Value)(x y:Nat)(w:World)(g:zP w v x)(h:zP w v2 y)(b:ml x≤17592186044416)(a:y≤x) :
 yA 243 #[v,v2] w (bM w (x-y)):=by
 have d:=aN a
 obtain⟨A,i,c,rfl,r,j,e,k,rfl⟩:=g
 obtain⟨l,m,n,rfl,o,p,f,q,rfl⟩:=h
 rw[←kG e k] at b d
 rw[←kG f q] at d
 exact ZhE A l i m c n w j p (by omega) d e f a
theorem Zj3 {xs a:List Nat}(b:Dig W32 xs)(c:Dig W32 a)(d:Trim xs)(e:Trim a)(f:xs.length≠a.length):cmpI xs.length a.length=cmpI (val W32 xs) (val W32 a):=by
 rcases qH f with h|h
 ·rw[iK (by omega),iK (by have:=jX zQ b e h;omega)]
 rw[gU (by omega),gU (by have:=jX zQ c d h;omega)]
theorem ZhF {xs a:List Nat}(e:Dig W32 xs)(f:Dig W32 a)(c:xs.length=a.length){k x y:Nat}(g:k<xs.length)(d:xs.drop (k+1)=a.drop (k+1))(i:xs[k]?.getD 0=x)(j:a[k]?.getD 0=y)(b:x≠y) :
 cmpI x y=cmpI (val W32 xs) (val W32 a):=by
 subst i j
 rcases qH b with h|h
 ·rw[iK (by omega),iK (by have:=gY e c k g d h;omega)]
 rw[gU (by omega),gU (by have:=gY f c.symm k (by omega) d.symm h;omega)]
theorem Zc8 (A G:Option Addr)(xs d:List Nat)(n m c c2:Nat)(w:World)(N:xs.length=n)(O:d.length=m)(u:zV .u32 w A xs)(v:zV .u32 w G d)(Z:xs.length≤70368744177664)(_:d.length≤70368744177664)(q:Dig W32 xs)(r:Dig W32 d)(z:Trim xs)(B:Trim d) :
 yA 242 #[.slice A n c,.slice G m c2] w fun e w'=>e=.returned (.int .i64 (cmpI (val W32 xs) (val W32 d)))∧∃ n,w'=w.drewN n:=by
 subst N O
 by_cases s:xs.length=d.length
 ·have P:=zh u
  have R:=zh v
  have p:=zh s
  have S:=zh q
  have T:=zh r
  have C:(((xs.length:Nat):Int) != (d.length:Nat))=false:=by simp[s]
  clear u v q r z B s
  go_enter Tryz.func242,Tryz.ntmps242
  go_wp2
  go_loopw [5] (fun i wr=>∃ k n:Nat,k≤xs.length∧i=.int .i64 ((k:Int)-1)∧Hid (xs.drop k=d.drop k)∧Hid (wr=w.drewN n)) (fun i _=>(intOf i+1).toNat)
  case atStart=>exact⟨xs.length,0,uR _,rfl,by unfold Hid;rw[vN (uR _),vN (by rw[p.out];exact uR _)],rfl⟩
  case round =>
   obtain⟨k,n,hk,rfl,Q,H⟩:=hrel
   obtain rfl:=H.out
   clear H
   by_cases U:0<k
   ·obtain⟨j,rfl⟩:∃ j,k=j+1:=⟨k-1,by omega⟩
    have I:(((j+1:Nat):Int)-1)=(j:Int):=by omega
    rw[I]
    clear I
    obtain⟨b,V,rfl,_,D⟩:=P.out.at (i:=j) (by omega)
    obtain⟨b2,J,rfl,_,E⟩:=R.out.at (i:=j) (by have:=p.out;omega)
    obtain⟨x,g⟩:=yE (xs[j]?.getD 0)
    obtain⟨y,h⟩:=yE (d[j]?.getD 0)
    rw[g] at D
    rw[h] at E
    have W:(j:Int)<(d.length:Nat):=by have:=p.out;omega
    have X:(j:Int)<(xs.length:Nat):=by omega
    by_cases K:x=y
    ·subst K
     have t:Hid (xs.drop j=d.drop j):=by
      unfold Hid
      have L:j<xs.length:=by omega
      have M:j<d.length:=by have:=p.out;omega
      rw[tM L,tM M,Q.out]
      rw[List.getElem?_eq_getElem L] at g
      rw[List.getElem?_eq_getElem M] at h
      simp only[qC] at g h
      rw[g,h]
     clear g h Q
     go_wp2
     go_quiet (fail)
     go_wp2
     go_roundw
     case rel=>exact⟨j,_,by omega,rfl,t,rfl⟩
     case measure=>simp[intOf]
    have o:=zh (ZhF S.out T.out p.out (by omega) Q.out g h K)
    have Y:(((x:Nat):Int) != (y:Nat))=true:=by simp;omega
    clear g h Q
    by_cases F:x<y
    ·have f:=zh (iK (a:=x) (b:=y) (by omega))
     go_wp2
     go_quiet (fail)
     go_wp2
     go_quiet (fail)
     go_wp2
     go_ret
     exact⟨by rw[←o.out,f.out];rfl,by simp only[World.drewN_drewN];exact⟨_,rfl⟩⟩
    have f:=zh (gU (a:=x) (b:=y) (by omega))
    go_wp2
    go_quiet (fail)
    go_wp2
    go_quiet (fail)
    go_wp2
    go_ret
    exact⟨by rw[←o.out,f.out];rfl,by simp only[World.drewN_drewN];exact⟨_,rfl⟩⟩
   obtain rfl:k=0:=by omega
   have t:xs=d:=by simpa using Q.out
   have o:=zh (tC (fun l=>cmpI (val W32 xs) (val W32 l)) t)
   clear Q t
   go_wp2
   go_ret
   exact⟨by rw[←(show _=cmpI (val W32 xs) (val W32 d) from o.out),Zfp];rfl,_,rfl⟩
 have C:(((xs.length:Nat):Int) != (d.length:Nat))=true:=by simp;omega
 have o:=zh (Zj3 q r z B s)
 clear u v q r z B
 by_cases F:xs.length<d.length
 ·have f:=zh (iK (a:=xs.length) (b:=d.length) (by omega))
  go_enter Tryz.func242,Tryz.ntmps242
  go_wp2
  go_ret
  exact⟨by rw[←o.out,f.out];rfl,0,rfl⟩
 have f:=zh (gU (a:=xs.length) (b:=d.length) (by omega))
 go_enter Tryz.func242,Tryz.ntmps242
 go_wp2
 go_ret
 exact⟨by rw[←o.out,f.out];rfl,0,rfl⟩
theorem fQ (u v:Value)(m n:Nat)(w:World)(g:zP w u m)(h:zP w v n)(i:ml m≤17592186044416)(j:ml n≤17592186044416) :
 yA 242 #[u,v] w fun e w'=>e=.returned (.int .i64 (cmpI m n))∧∃ n,w'=w.drewN n:=by
 obtain⟨A,k,c,rfl,t,l,a,b,rfl⟩:=g
 obtain⟨o,p,q,rfl,r,s,d,f,rfl⟩:=h
 rw[←kG a b] at i
 rw[←kG d f] at j
 exact Zc8 A o k p _ _ c q w rfl rfl l s (by omega) (by omega) a d b f
end Go.Proofs.YtoanifijmlgcgaaGreatDoor
namespace Go.Proofs.YtoanifijmlgcgaaGreatDoor
def jL (X v n k:Nat) (rs qs:List Nat):Prop :=
 Dig W32 rs∧Dig W32 qs∧rs.length=qs.length+n∧val W32 rs+val W32 (qs.drop k)*W32^k*v=X∧val W32 (rs.drop k)<v
theorem jL.window {X v n k:Nat}{a c:List Nat}(h:jL X v n (k+1) a c)(g:v≤W32^n)(i:k+n<a.length) :
 val W32 (a.drop k)=val W32 ((a.drop k).take (n+1))∧val W32 (a.drop k)<v*W32∧val W32 (a.drop (k+n+1))=0:=by
 obtain⟨d,j,l,m,f⟩:=h
 have b:val W32 (a.drop (k+n+1))=0:=by
  have e:=xQ (B:=W32) (xs:=a.drop (k+1)) n
  rw[tH,show k+1+n=k+n+1 by omega,uY (by simp;omega)] at e
  rcases uJ (val W32 (a.drop (k+n+1))) with h|h
  ·exact h
  have:W32^n*1≤W32^n*val W32 (a.drop (k+n+1)):=uK _ h
  omega
 refine⟨?_,?_,b⟩
 ·have e:=xQ (B:=W32) (xs:=a.drop k) (n+1)
  rw[tH,show k+(n+1)=k+n+1 by omega,b] at e
  simpa using e
 rw[xR k (by omega)]
 have o:=d.getD zQ k
 have:W32*(val W32 (a.drop (k+1))+1)≤W32*v:=uK _ f
 rw[uS] at this
 rw[uG v]
 omega
theorem jL.step {X v n k q:Nat}{a c m:List Nat}(h:jL X v n (k+1) a c)(e:0<v)(s:v≤W32^n)(t:k+n<a.length)(u:m.length=n)(w:Dig W32 m)(l:q=val W32 (a.drop k)/v)(o:val W32 m=val W32 (a.drop k)%v) :
 jL X v n k (a.take k ++ m ++ (0 :: a.drop (k+n+1))) (c.set k q):=by
 obtain⟨F,x,y⟩:=h.window s t
 obtain⟨p,z,G,H,I⟩:=h
 have f:k<c.length:=by omega
 have i:q<W32:=by rw[l,vX e,uG];exact x
 have g:(a.take k).length=k:=by simp;omega
 have b:val W32 (m ++ (0 :: a.drop (k+n+1)))=val W32 m:=by
  rw[kL,gH,y];simp
 have d:(a.take k ++ m ++ (0 :: a.drop (k+n+1))).drop k=m ++ (0 :: a.drop (k+n+1)):=by
  rw[uO,List.drop_append,g,vN (by omega),qD];simp
 refine⟨((p.take k).append w).append (Dig.cons zQ (p.drop _)),z.set k i,?_,?_,?_⟩
 ·simp[u];omega
 ·rw[uO,kL,g,b,o]
  rw[xR (xs:=c.set k q) k (by simpa using f),tU (by omega)]
  have j:(c.set k q)[k]?.getD 0=q:=by rw[List.getElem?_set_self f];rfl
  rw[j]
  have A:=xQ (B:=W32) (xs:=a) k
  rw[uY (by omega)] at A
  have r:=tG (val W32 (a.drop k)) v
  rw[←l] at r
  have C:=tC (W32^k * ·) r
  simp only[uS] at C
  rw[uT,uT]
  have D:q*W32^k*v=W32^k*(v*q):=by rw[uG q,uQ,uG q]
  have E:W32*val W32 (c.drop (k+1))*W32^k*v=val W32 (c.drop (k+1))*W32^(k+1)*v:=by
   rw[uW,uG W32 (val W32 _),uQ (val W32 _) W32,uG W32 (W32^k)]
  rw[D,E]
  omega
 rw[d,b,o];exact uP _ e
theorem jL.done {X v n:Nat}{c d:List Nat}(h:jL X v n 0 c d):val W32 d=X/v∧val W32 c=X%v:=by
 obtain⟨e,f,g,a,b⟩:=h
 rw[sL] at a b
 simp only[Nat.pow_zero,Nat.mul_one] at a
 rw[←a,vR,uG,sM (by omega),rV,vI b,tO b]
 exact⟨by omega,rfl⟩
theorem jL.start {x y s L n:Nat}{a:List Nat}(c:Dig W32 a)(m:a.length=L+1)(b:val W32 a=x*2^s)(d:x<W32^L)(f:W32^(n-1)≤y)(o:1≤n)(g:n≤L) :
 jL (x*2^s) (y*2^s) n (L-n+1) a (List.replicate (L-n+1) 0):=by
 refine⟨c,Dig.replicate zQ _,by simp;omega,?_,?_⟩
 ·rw[vN (by simp)];simp[b]
 have e:=xQ (B:=W32) (xs:=a) (L-n+1)
 rw[uY (by omega),b] at e
 have h:0<2^s:=uU (by omega)
 have p:W32^(L-n+1)*val W32 (a.drop (L-n+1))≤x*2^s:=by omega
 have i:x*2^s<W32^L*2^s:=tE d h
 have j:W32^L=W32^(L-n+1)*W32^(n-1):=by rw[←vV,show L-n+1+(n-1)=L by omega]
 rw[j,uQ] at i
 have k:W32^(L-n+1)*val W32 (a.drop (L-n+1))<W32^(L-n+1)*(W32^(n-1)*2^s):=by omega
 have l:=sW k
 exact uX l (uC _ f)
theorem lG {t:Nat}(a:t≤31):2^(32-t)*2^t=W32:=by
 rw[←vV,show 32-t+t=32 by omega,zU]
theorem ZhG {x t:Nat}(a:t≤31):x*2^t=x*2^t%W32+W32*(x/2^(32-t)):=by
 have h:=sG (x*2^t) W32
 have:x*2^t/W32=x/2^(32-t):=by
  rw[←lG a,qR _ _ (uU (by omega))]
 rw[this] at h
 exact h.symm
theorem Zlo {h x t:Nat}(a:h<2^t)(b:t≤31):h ||| x*2^t%W32=h+x*2^t%W32:=by
 have e:x*2^t%W32=(x%2^(32-t)) <<< t:=by
  rw[sI,← lG b,sX]
 rw[e,Nat.or_comm,← tL a,vR]
def gO (xs:List Nat) (skip t k:Nat) (zs:List Nat):Prop :=
 zs.length=xs.length+skip+1∧Dig W32 zs∧val W32 (zs.take (k+skip+1))=val W32 (xs.take k)*2^(32*skip+t)∧(zs[k+skip]?.getD 0)<2^t
theorem gO.start (xs:List Nat)(skip t:Nat):gO xs skip t 0 (List.replicate (xs.length+skip+1) 0):=by
 refine⟨by simp,Dig.replicate zQ _,?_,?_⟩
 ·rw[List.take_replicate,jF];simp
 have:((List.replicate (xs.length+skip+1) 0)[0+skip]?.getD 0)=0:=by
  rw[List.getElem?_replicate];split<;>rfl
 rw[this];exact uU (by omega)
theorem gO.step {xs zs:List Nat}{skip t k h x:Nat}(i:gO xs skip t k zs)(f:t≤31)(j:k<xs.length)(g:zs[k+skip]?.getD 0=h)(l:xs[k]?.getD 0=x)(a:x<W32) :
 gO xs skip t (k+1) ((zs.set (k+skip) (h+x*2^t%W32)).set (k+skip+1) (x/2^(32-t)))∧h+x*2^t%W32<W32:=by
 obtain⟨m,n,o,p⟩:=i
 rw[g] at p
 have b:h+x*2^t%W32<W32:=by
  rw[←lG f,sX]
  have:x%2^(32-t)<2^(32-t):=uP _ (uU (by omega))
  have q:(x%2^(32-t)+1)*2^t≤2^(32-t)*2^t:=uC _ this
  rw[uT] at q
  omega
 have d:x/2^(32-t)<2^t:=by
  rw[vX (uU (by omega)),← vV,show t+(32-t)=32 by omega]
  rw[zU] at a;exact a
 have c:x/2^(32-t)<W32:=uN (vU _ _) a
 refine⟨⟨by simpa using m,(n.set _ b).set _ c,?_,?_⟩,b⟩
 ·rw[show k+1+skip+1=(k+skip+1)+1 by omega,xU _ _ _ _ (by simp;omega),xU _ _ _ _ (by omega),zT k j,l,uT,← o,zT (k+skip) (by omega),g]
  have e:=ZhG (x:=x) f
  have r:W32^k*x*2^(32*skip+t)=W32^(k+skip)*(x*2^t):=by
   rw[vV 2,← ZcK,vV]
   simp only[uQ,sB]
  rw[r]
  have s:=tC (W32^(k+skip) * ·) e
  simp only[uS] at s
  rw[uS,uW,uQ]
  omega
 have:((zs.set (k+skip) (h+x*2^t%W32)).set (k+skip+1) (x/2^(32-t)))[k+1+skip]?.getD 0=x/2^(32-t):=by
  rw[show k+1+skip=k+skip+1 by omega,List.getElem?_set_self (by simp;omega)]
  rfl
 rw[this];exact d
theorem gO.done {xs zs:List Nat}{skip t:Nat}(h:gO xs skip t xs.length zs):val W32 zs=val W32 xs*2^(32*skip+t):=by
 obtain⟨b,c,a,d⟩:=h
 rw[uB (by omega),uB (by omega)] at a
 exact a
def iU (ys:List Nat) (t k:Nat) (zs:List Nat):Prop :=
 zs.length=ys.length∧Dig W32 zs∧2^t*val W32 (zs.take k)+(ys[0]?.getD 0)%2^t=val W32 (ys.take k)+W32^k*((ys[k]?.getD 0)%2^t)
theorem iU.start (a:List Nat)(t:Nat):iU a t 0 (List.replicate a.length 0):=by
 refine⟨by simp,Dig.replicate zQ _,?_⟩
 simp
theorem Zkd {y t:Nat}(a:t≤31):y*2^(32-t)%W32=y%2^t*2^(32-t):=by
 rw[←lG a,uG (2^(32-t)),sX]
theorem Zlp {x y t:Nat}(b:t≤31)(c:x<W32):x/2^t ||| y*2^(32-t)%W32=x/2^t+y%2^t*2^(32-t):=by
 have a:x/2^t<2^(32-t):=by
  rw[vX (uU (by omega)),lG b];exact c
 rw[Zkd b,← sI,Nat.or_comm,← tL a,vR]
theorem iU.step {a zs:List Nat}{t k x y:Nat}(h:iU a t k zs)(b:t≤31)(j:k<a.length)(g:a[k]?.getD 0=x)(l:a[k+1]?.getD 0=y)(c:x<W32) :
 iU a t (k+1) (zs.set k (x/2^t+y%2^t*2^(32-t))):=by
 obtain⟨m,n,o⟩:=h
 have d:x/2^t+y%2^t*2^(32-t)<W32:=by
  have i:x/2^t<2^(32-t):=by
   rw[vX (uU (by omega)),lG b];exact c
  have e:y%2^t<2^t:=uP _ (uU (by omega))
  have f:(y%2^t+1)*2^(32-t)≤2^t*2^(32-t):=uC _ e
  rw[uG (2^t),lG b,uT] at f
  omega
 refine⟨by simpa using m,n.set k d,?_⟩
 rw[xU _ _ _ _ (by omega),zT k j,g,l]
 rw[g] at o
 have i:=tG x (2^t)
 have e:2^t*(y%2^t*2^(32-t))=W32*(y%2^t):=by
  rw[←lG b]
  simp only[uG,sB]
 have f:=tC (W32^k * ·) i
 simp only[uS] at f
 rw[uS,sB (2^t),uS (2^t),e,uS,uW,uQ (W32^k) W32]
 omega
theorem iU.done {a zs:List Nat}{t:Nat}(h:iU a t a.length zs):val W32 zs=val W32 a/2^t:=by
 obtain⟨c,d,b⟩:=h
 rw[uB (by omega),uB (by omega),List.getElem?_eq_none (uR _)] at b
 simp only[Option.getD_none,Nat.zero_mod,sS,tK] at b
 rw[←b,sM (uU (by omega)),tO (uP _ (uU (by omega))),tK]
theorem ZhH {ys a:List Nat}{n yt s:Nat}(z:ys.length=n+1)(r:Dig W32 ys)(t:ys[n]?.getD 0=yt)(d:2147483648≤yt*2^s)(u:s≤31)(f:yt*2^s<W32)(p:Dig W32 a)(v:Trim a)(w:val W32 a=val W32 ys*2^s) :
 a.length=n+1∧W32≤2*(a[n]?.getD 0)∧W32^n≤val W32 ys:=by
 have x:0<2^s:=uU (by omega)
 have j:0<yt:=by
  rcases uJ yt with e|e
  ·rw[e,sU] at d;omega
  exact e
 have A:val W32 ys=val W32 (ys.take n)+W32^n*yt:=by
  have:=zT (B:=W32) (xs:=ys) n (by omega)
  rw[uB (by omega),t] at this
  exact this
 have g:=wH (r.take n)
 rw[uL,uY (by omega)] at g
 have k:(yt+1)*2^s≤W32:=by
  rw[←lG u] at f ⊢
  exact uC _ (sV f)
 have l:val W32 ys*2^s<W32^(n+1):=by
  have c:val W32 ys<W32^n*(yt+1):=by rw[uS];omega
  have i:=tE c x
  rw[uQ] at i
  have q:W32^n*((yt+1)*2^s)≤W32^n*W32:=uK _ k
  rw[uW]
  omega
 have y:W32^n*2147483648≤val W32 ys*2^s:=by
  have c:W32^n*yt≤val W32 ys:=by omega
  have i:=uC (2^s) c
  rw[uQ] at i
  have q:W32^n*2147483648≤W32^n*(yt*2^s):=uK _ d
  omega
 have m:a.length≤n+1:=jY ZeX v (w ▸ l)
 have o:n+1≤a.length:=by
  rcases uZ a.length (n+1) with h|h
  ·have c:=wH p
   have i:W32^a.length≤W32^n:=vS zQ (by omega)
   have q:W32^n*1≤W32^n*2147483648:=uK _ (by omega)
   omega
  exact h
 refine⟨by omega,?_,?_⟩
 ·have C:val W32 a=val W32 (a.take n)+W32^n*(a[n]?.getD 0):=by
   have:=zT (B:=W32) (xs:=a) n (by omega)
   rw[uB (by omega)] at this
   exact this
  have b:=wH (p.take n)
  rw[uL,uY (by omega)] at b
  have c:W32^n*2147483648<W32^n*((a[n]?.getD 0)+1):=by rw[uS];omega
  have i:=sW c
  rw[zU]
  omega
 have:W32^n*1≤W32^n*yt:=uK _ j
 omega
def kR (U V top v1 h r:Nat):Prop:=top=h*v1+r∧U<(h+1)*V
def Lead (U V top u3 v1 v2:Nat):Prop :=
 ∃ R u' v',0<R∧u'<R∧v'<R∧U=(top*W32+u3)*R+u'∧V=(v1*W32+v2)*R+v'∧U<V*W32∧0<v1∧u3<W32∧v2<W32
theorem kR.start {U V a u3 v1 v2:Nat}(b:Lead U V a u3 v1 v2):kR U V a v1 (a/v1) (a%v1):=by
 obtain⟨R,j,k,l,c,m,d,e,f,g,n,o⟩:=b
 refine⟨by have:=tG a v1;rw[uG] at this;exact this.symm,?_⟩
 rw[d,e]
 refine ZbS _ _ _ _ _ _ c ?_
 have h:=ZaB a g
 have i:(a+1)*W32≤(a/v1+1)*v1*W32:=uC _ h
 rw[uT a] at i
 rw[uS (a/v1+1),← uQ]
 omega
theorem kR.big {U V a u3 v1 v2 h r:Nat}(b:kR U V a v1 h r)(c:Lead U V a u3 v1 v2)(d:W32≤h):0<h∧kR U V a v1 (h-1) (r+v1):=by
 obtain⟨R,i,j,k,l,m,n,o,e,p,q,s⟩:=c
 obtain⟨f,t⟩:=b
 have u:=zQ
 obtain⟨g,rfl⟩:∃ g,h=g+1:=⟨h-1,by omega⟩
 refine⟨by omega,?_,?_⟩
 ·rw[f,sY,uT];omega
 rw[sY]
 have:V*W32≤V*(g+1):=uK _ d
 rw[uG (g+1)]
 omega
theorem kR.more {U V a u3 v1 v2 h r:Nat}(c:kR U V a v1 h r)(d:Lead U V a u3 v1 v2)(f:r*W32+u3<h*v2):0<h∧kR U V a v1 (h-1) (r+v1):=by
 obtain⟨R,n,o,p,i,q,j,k,l,s,t,u⟩:=d
 obtain⟨b,v⟩:=c
 have m:0<h:=by
  rcases uJ h with e|e
  ·rw[e,sU] at f;omega
  exact e
 obtain⟨g,rfl⟩:∃ g,h=g+1:=⟨h-1,by omega⟩
 refine⟨m,?_,?_⟩
 ·rw[b,sY,uT];omega
 rw[sY,j,k]
 refine ZbS _ _ _ _ _ _ i ?_
 rw[b,uS (g+1),← uQ,uT ((g+1)*v1)]
 omega
theorem Lead.top_lt {U V a u3 v1 v2:Nat}(c:Lead U V a u3 v1 v2):a<v1*W32+W32:=by
 obtain⟨R,j,d,k,l,m,e,f,b,n,o,p⟩:=c
 rw[e,f] at b
 have q:(a*W32)*R≤(a*W32+u3)*R:=uC _ (by omega)
 have g:((v1*W32+v2)*R+d)*W32≤((v1*W32+v2)*R+R)*W32:=uC _ (by omega)
 have h:((v1*W32+v2)*R+R)*W32=((v1*W32+v2+1)*W32)*R:=by
  rw[uT (v1*W32+v2) 1 W32,uT,Nat.one_mul,uT _ W32 R,uG R W32,uQ,uG R W32,← uQ]
 rw[h] at g
 have i:a*W32*R<(v1*W32+v2+1)*W32*R:=by omega
 have r:=sV (sV i)
 omega
theorem kR.done {U V a u3 v1 v2 h r:Nat}(b:kR U V a v1 h r)(c:Lead U V a u3 v1 v2)(d:h<W32)(m:h*v2≤r*W32+u3):gA U V h:=by
 obtain⟨R,n,o,p,q,e,f,g,i,j,s,t⟩:=c
 obtain⟨k,l⟩:=b
 refine⟨?_,l⟩
 rw[f,g]
 refine ZjC _ _ _ _ _ _ W32 e d (uC _ ?_) ?_
 ·have:1*W32≤v1*W32:=uC _ j
  omega
 rw[k,uS h,← uQ,uT (h*v1)]
 omega
theorem kR.broke {U V a u3 v1 v2 h r:Nat}(c:kR U V a v1 h r)(b:Lead U V a u3 v1 v2)(f:W32≤r):h<W32∧gA U V h:=by
 have g:=b.top_lt
 have d:v2<W32:=by obtain⟨_,_,_,_,_,_,_,_,_,_,_,d⟩:=b;exact d
 have i:=c.1
 have e:h<W32:=by
  have:h*v1<v1*W32:=by omega
  rw[uG v1] at this
  exact sV this
 refine⟨e,c.done b e ?_⟩
 have j:h*v2≤W32*W32:=sE (by omega) (by omega)
 have k:W32*W32≤r*W32:=uC _ f
 omega
theorem Zmy {a b:List Nat}{n u1 u2 u3 v1 v2:Nat}(i:b.length=n+2)(j:a.length=n+3)(c:Dig W32 b)(d:Dig W32 a)(k:a[n+2]?.getD 0=u1)(l:a[n+1]?.getD 0=u2)(e:a[n]?.getD 0=u3)(m:b[n+1]?.getD 0=v1)(f:b[n]?.getD 0=v2)(o:val W32 a<val W32 b*W32)(p:W32≤2*v1) :
 Lead (val W32 a) (val W32 b) (u1*W32+u2) u3 v1 v2:=by
 have g:=wH (d.take n)
 have h:=wH (c.take n)
 rw[uL,uY (by omega)] at g h
 have q:=zQ
 refine⟨W32^n,val W32 (a.take n),val W32 (b.take n),uU zQ,g,h,?_,?_,o,by omega,e ▸ d.getD zQ _,f ▸ c.getD zQ _⟩
 ·rw[top3 j,k,l,e,vR]
  congr 1
  rw[uG]
  congr 1
  rw[vR,uG W32,uG W32,vR u2]
 rw[top2 i,m,f,vR]
 congr 1
 rw[uG]
 congr 1
 rw[vR,uG W32]
def ZaJ (w0 vs:List Nat) (h i:Nat) (m:List Nat) (c bw:Nat):Prop :=
 m.length=w0.length∧Dig W32 m∧c<W32∧bw≤1∧m.drop i=w0.drop i∧val W32 (m.take i)+val W32 (vs.take i)*h=val W32 (w0.take i)+W32^i*(c+bw)
theorem ZaJ.start {a b:List Nat}{h:Nat}(c:Dig W32 a):ZaJ a b h 0 a 0 0:=⟨rfl,c,zQ,by omega,rfl,by simp⟩
theorem Zik {xs a:List Nat}{i:Nat}(h:xs.drop i=a.drop i):xs[i]?.getD 0=a[i]?.getD 0:=by
 have:=tC (fun l=>l[0]?.getD 0) h
 simpa [List.getElem?_drop] using this
theorem ZfI {xs a:List Nat}{i v:Nat}(h:xs.drop i=a.drop i):(xs.set i v).drop (i+1)=a.drop (i+1):=by
 rw[tU (by omega),← tH (i:=1) (j:=i) (l:=xs),← tH (i:=1) (j:=i) (l:=a),h]
theorem Zg1 {h x c:Nat}(a:h<W32)(b:x<W32)(d:c<W32):h*x+c<W32*W32:=by
 have e:h*x≤(W32-1)*(W32-1):=sE (by omega) (by omega)
 rw[zU] at *
 omega
theorem ZaJ.step {b a m:List Nat}{h i c d z x:Nat}(l:ZaJ b a h i m c d)(hi:i<b.length)(e:i<a.length)(n:h<W32)(f:m[i]?.getD 0=z)(g:a[i]?.getD 0=x)(o:Dig W32 a) :
 ZaJ b a h (i+1) (m.set i (d32 z ((h*x+c)%W32) d%W32)) ((h*x+c)/W32) (d32 z ((h*x+c)%W32) d/W32%2):=by
 obtain⟨p,j,q,r,k,s⟩:=l
 have t:x<W32:=g ▸ o.getD zQ i
 have u:z<W32:=f ▸ j.getD zQ i
 have v:=Zdt (y:=(h*x+c)%W32) u (uP _ zQ) r
 refine⟨by simpa using p,j.set _ (uP _ zQ),sF (Zg1 n t q),by omega,ZfI k,?_⟩
 rw[xU _ _ _ _ (by omega),zT i hi,zT i e,g,← Zik k,f,uW]
 refine Zfn _ _ _ _ _ _ _ _ _ _ _ s ?_
 have w:=sG (h*x+c) W32
 rw[uG x h,uS W32]
 omega
def ZaK (w0 vs:List Nat) (i:Nat) (m:List Nat) (c:Nat):Prop :=
 m.length=w0.length∧Dig W32 m∧c≤1∧m.drop i=w0.drop i∧val W32 (m.take i)+W32^i*c=val W32 (w0.take i)+val W32 (vs.take i)
theorem ZaK.start {a b:List Nat}(c:Dig W32 a):ZaK a b 0 a 0:=⟨rfl,c,by omega,rfl,by simp⟩
theorem ZaK.step {b a m:List Nat}{i c z x:Nat}(j:ZaK b a i m c)(hi:i<b.length)(d:i<a.length)(e:m[i]?.getD 0=z)(f:a[i]?.getD 0=x)(k:Dig W32 a) :
 ZaK b a (i+1) (m.set i ((c+(z+x))%W32)) ((c+(z+x))/W32):=by
 obtain⟨l,g,n,h,o⟩:=j
 have p:x<W32:=f ▸ k.getD zQ i
 have q:z<W32:=e ▸ g.getD zQ i
 have r:(c+(z+x))/W32≤1:=by have:=Zad q p n;rwa [tR] at this
 refine⟨by simpa using l,g.set _ (uP _ zQ),r,ZfI h,?_⟩
 rw[xU _ _ _ _ (by omega),zT i hi,zT i d,f,← Zik h,e,uW]
 exact Zbc _ _ _ _ _ _ _ _ _ _ o (by have:=sG (c+(z+x)) W32;omega)
theorem zV.cell0 {k:Go.IntKind}{w:Go.World}{b off:Nat}{xs:List Nat}(h:zV k w (some ⟨b,off,none⟩) xs){i:Nat}(hi:i<xs.length):w.cell? ⟨b,off+i,none⟩=some (.int k ((xs[i]?.getD 0:Nat):Int)):=by
 obtain⟨c,d,e,_,a⟩:=h.at hi
 injection e with e
 injection e with e1 e2
 subst e1 e2
 exact a
theorem Znu (p:Nat)(h:p<W64):Go.bits .and .u64 (p:Int) 4294967295=((p%W32:Nat):Int):=by
 rw[zM] at h
 have:=Go.bits_and_u64_nat p 4294967295 h (by omega)
 rw[show (4294967295:Nat)=2^32-1 from rfl,Nat.and_two_pow_sub_one_eq_mod] at this
 rw[zU]
 exact this
theorem Zil {z l:Nat}(a:z<W32)(b:l<W32):Go.IntKind.u64.wrap ((z:Int)-(l:Int))=((d32 z l 0:Nat):Int):=by
 unfold d32;rw[Go.IntKind.wrap_u64,zM];rw[zU] at a b;omega
theorem Zim {z l a:Nat}(b:z<W32)(c:l<W32)(d:a≤1):Go.IntKind.u64.wrap (((d32 z l 0:Nat):Int)-(a:Int))=((d32 z l a:Nat):Int):=by
 unfold d32;rw[Go.IntKind.wrap_u64,zM];rw[zU] at b c;omega
theorem Zmz {t c a:Nat}(b:t<W32)(d:c<W32)(e:a≤1):d32 t c a/9223372036854775808=(if t<c+a then 1 else 0):=by
 unfold d32
 rw[zU] at *
 rw[zM]
 split<;>omega
theorem Zlq {t c a:Nat}(h:t=c+a):d32 t c a%W32=0:=by
 unfold d32
 rw[zU,zM]
 omega
theorem ZmA {t c a b:Nat}(h:b+t=c+a)(_:c<W32)(_:a≤1)(d:b≤1)(e:t<c+a):(d32 t c a%W32+b)%W32=0:=by
 unfold d32
 rw[zU] at *
 rw[zM]
 omega
theorem Own.mid32 {d:Go.IntKind}{t:Go.TypeId}{w:Go.World}{b:Nat}{a mid c:List Nat}(h:Own d t w b (a ++ mid ++ c)){k:Nat}(e:k<mid.length):w.cell? ⟨b,a.length+k,none⟩=some (.int d ((mid[k]?.getD 0:Nat):Int)):=by
 rw[h.cell (by simp;omega),Zh1 _ _ _ _ e]
theorem Own.set_mid32 {d:Go.IntKind}{t:Go.TypeId}{w:Go.World}{b:Nat}{a mid c:List Nat}(h:Own d t w b (a ++ mid ++ c)){k:Nat}(e:k<mid.length)(v:Nat):Own d t (w.setCell ⟨b,a.length+k,none⟩ (.int d (v:Int))) b (a ++ mid.set k v ++ c):=by
 have:=h.set (a.length+k) v (by simp;omega)
 rwa [Go.Proofs.YtoanifijmlgcgaaGreatDoor.set_mid _ _ _ _ _ e] at this
theorem Zdd {zs ts rest:List Nat}{k v:Nat}(a:k<ts.length)(d:zs.length=ts.length):(zs.take k ++ ts.drop k ++ rest).set k v=(zs.set k v).take (k+1) ++ ts.drop (k+1) ++ rest:=by
 have b:(zs.take k).length=k:=by simp;omega
 rw[uO,rZ _ _ (by omega),b,qD,tM a,List.cons_append,List.set_cons_zero,vE (by simp;omega)]
 have c:(zs.set k v).take k=zs.take k:=by rw[List.take_set_of_le (by omega)]
 simp[c]
theorem Zde {zs ts rest:List Nat}{k i:Nat}(b:k≤i)(hi:i<ts.length)(c:zs.length=ts.length):(zs.take k ++ ts.drop k ++ rest)[i]?.getD 0=ts[i]?.getD 0:=by
 have a:(zs.take k).length=k:=by simp;omega
 rw[uO,List.getElem?_append_right (by omega),a,List.getElem?_append_left (by simp;omega),List.getElem?_drop,show k+(i-k)=i by omega]
end Go.Proofs.YtoanifijmlgcgaaGreatDoor
namespace Go.Proofs.YtoanifijmlgcgaaGreatDoor
open Go.RowKit
theorem Zke {a b:Nat}(c:a<W32)(d:b<W32):bits .or .u32 (a:Int) (b:Int)=((a ||| b:Nat):Int):=by
 rw[zU] at c d
 have g:a ||| b<2^32:=Nat.or_lt_two_pow (by omega) (by omega)
 have e:(BitVec.ofInt 32 (a:Int)).toNat=a:=by
  rw[BitVec.ofInt_natCast,BitVec.toNat_ofNat];exact vI (by omega)
 have f:(BitVec.ofInt 32 (b:Int)).toNat=b:=by
  rw[BitVec.ofInt_natCast,BitVec.toNat_ofNat];exact vI (by omega)
 show IntKind.u32.wrap ((BitVec.ofInt 32 (a:Int) ||| BitVec.ofInt 32 (b:Int)).toNat:Int)=_
 rw[BitVec.toNat_or,e,f,IntKind.wrap_u32]
 omega
theorem ZfJ {x s:Nat}(a:x<W32)(b:s≤32):IntKind.u64.wrap ((x:Int)*2^s)=((x*2^s:Nat):Int):=by
 rw[aW,vI]
 have c:2^s≤W32:=by rw[zU];exact uD (vS (by omega) b) (by decide)
 rw[←fX]
 exact uX (tE a (uU (by omega))) (uK _ c)
theorem Znv {x s:Nat}(a:s≤31):x*2^s/W32=x/2^(32-s):=by
 rw[←lG a,qR _ _ (uU (by omega))]
def Zlr (w:World) (l:Nat) (v:Nat) (e:Ending) (w':World):Prop :=
 ∃ us:List Nat,e=.returned (.slice (some ⟨w.heap.size,0,none⟩) l l)∧us.length=l∧Own .u32 292 w' w.heap.size us∧Dig W32 us∧val W32 us=v∧Ext w w'
theorem ZfK (A:Option Addr)(xs:List Nat)(n c s:Nat)(w:World)(hn:xs.length=n)(T:zV .u32 w A xs)(hl:xs.length≤35184372088832)(U:Dig W32 xs)(L:s≤31) :
 yA 283 #[.slice A n c,.int .u64 (s:Int)] w (Zlr w (n+1) (val W32 xs*2^s)):=by
 subst hn
 have HX:=zh T
 have Hd:=zh U
 clear T U
 go_enter Tryz.func283,Tryz.ntmps283
 go_wp2_with (
  at_make
  refine wE rfl _ _ _ rfl _ _ _ Tryz.underlying123 dQ _ _ _ _ (xs.length+1) rfl rfl (by omega) (by omega) (by omega) (by omega) ?_
  intro b w1 V z _ B M
  have N:=zh z
  have O:=zh B
  have J:=zh V
  clear z B V M)
 go_loopw [6,7] (fun i _ wr=>∃ (k:Nat) (o:List Nat),k≤xs.length∧i=.int .i64 (k:Int)∧Hid (gO xs 0 s k o)∧Hid (Own .u32 292 wr b o)∧Hid (Ext w wr)) (fun i _ _=>xs.length-(intOf i).toNat)
 case atStart=>exact⟨0,_,by omega,rfl,gO.start xs 0 s,N.out,O.out⟩
 case round =>
  obtain⟨k,o,a0,rfl,q,f,r⟩:=hrel
  by_cases C:k<xs.length
  ·obtain⟨b2,W,rfl,_,P⟩:=(HX.out.ext r.out).at C
   obtain⟨x,K⟩:=yE (xs[k]?.getD 0)
   obtain⟨h,y⟩:=yE (o[k+0]?.getD 0)
   rw[K] at P
   have j:Hid (x<W32):=K ▸ Hd.out.getD zQ k
   obtain⟨D,E⟩:=q.out.step L C y K j.out
   have e:=zh D
   have F:o.length=xs.length+0+1:=q.out.1
   simp only[tK] at y F e
   have Q:=f.out.cell (i:=k) (by omega)
   have b0:=f.out.frozen k
   rw[y] at Q
   have l:=f.out.set k (h+x*2^s%W32) (by omega)
   have t:=l.cell (i:=k+1) (by simp;omega)
   have G:=l.frozen (k+1)
   obtain⟨g,X⟩:=yE ((o.set k (h+x*2^s%W32))[k+1]?.getD 0)
   rw[X] at t
   have m:=zh (l.set (k+1) (x/2^(32-s)) (by simp;omega))
   have q0:=xV x (by have:=zM;have:=zU;have:=j.out;omega)
   have q1:=ZfJ j.out (by omega:s≤32)
   have Y:=kO (x*2^s)
   have R:=Zke (a:=h) (b:=x*2^s%W32) (y ▸ q.out.2.1.getD zQ _) (uP _ zQ)
   have u:=q.out.2.2.2
   simp only[tK] at u
   rw[Zlo (y ▸ u) L] at R
   have S:=hi32 (x*2^s)
   rw[Znv L] at S
   have Z:=kO (x/2^(32-s))
   rw[vI (uN (vU _ _) j.out)] at Z
   obtain⟨lo,H⟩:=yE (x*2^s%W32)
   obtain⟨v,ev⟩:=yE (x*2^s)
   obtain⟨hi,I⟩:=yE (x/2^(32-s))
   rw[H] at Y R t G e m
   rw[ev] at q1 Y S
   rw[I] at S Z e m
   obtain⟨d,ed⟩:=yE (h+lo)
   rw[ed] at R t G e m
   clear K y D E F l X H I ed ev u
   go_wp2
   go_roundw
   case rel=>exact⟨k+1,_,by omega,by go_num,e,m.out,(r.out.setCell (p:=⟨b,k,none⟩) (Or.inr (by have:=J.out;show w.heap.size≤b;omega)) _).setCell (p:=⟨b,k+1,none⟩) (Or.inr (by have:=J.out;show w.heap.size≤b;omega)) _⟩
   case measure=>simp[intOf];omega
  obtain rfl:k=xs.length:=by omega
  have hz:=zh q.out.1
  have hv:=zh q.out.done
  go_wp2
  go_ret
  exact⟨o,by rw[J.out];rfl,by have:=hz.out;omega,by rw[J.out];exact f.out,q.out.2.1,by rw[hv.out];simp,r.out⟩
def Zbr (w:World) (q r:Nat) (e:Ending) (w':World):Prop:=∃ u v,e=.returned (.tuple #[u,v])∧zP w' u q∧zP w' v r∧Ext w w'
theorem ZfL {a b:Nat}:cmpI a b<0↔a<b:=by
 unfold cmpI
 split
 ·omega
 split<;>omega
theorem Zkf (l j:Value)(x y:Nat)(w:World)(F:zP w l x)(o:zP w j y)(p:ml x≤17592186044416)(G:ml y≤17592186044416)(q:x<y) :
 yA 252 #[l,j] w (Zbr w 0 x):=by
 have r:=zh (fQ l j x y w F o p G)
 rw[iK (by omega)] at r
 obtain⟨A,s,c,rfl,K,H,t,u,v⟩:=F
 obtain⟨z,I,c2,rfl⟩:∃ z I c2,j=.slice z I c2:=by obtain⟨z,Q,c2,h,_⟩:=o;exact⟨_,_,_,h⟩
 rw[←v,← kG t u] at p
 have L:=zh H
 have M:=zh t
 have N:=zh u
 have O:=zh v
 obtain⟨n,k⟩:=yE s.length
 rw[k] at p r
 rw[k]
 have J:=zh k
 clear H t u v q K o G k
 go_enter Tryz.func252,Tryz.ntmps252
 go_wp2_with (first
  | (go_at_call 242;refine r.out.mono ?_;rintro e w' ⟨rfl,m,rfl⟩)
  | (
   at_builtin
   refine lC rfl _ _ _ rfl _ .u32 4 Tryz.underlying123 dQ (some ⟨w.heap.size,0,none⟩) A 0 n 0 c rfl rfl [] s rfl J.out ?_ ((L.out.drewN _).alloc _) (by simp only[maxLen];omega) (by omega) ?_
   ·exact Or.inr ⟨_,rfl,Own.new (w.drewN m) _ _ [] [],⟨#[],heap_alloc_new (w.drewN m) _,rfl⟩,uR _,by simp only[maxLen];omega⟩
   intro P b R d f B
   have g:=zh d
   have C:=zh f
   clear d f B))
 go_ret2
 refine⟨_,_,rfl,zP.zero _,⟨P,s,b,?_,?_,?_,M.out,N.out,O.out⟩,?_⟩
 ·rw[J.out];simp
 ·have:=g.out.len;simpa using this
 ·have:=g.out.shows;simpa using this
 refine (((Fr.refl (fun _=>False) w).drewN m).alloc _).next C.out (fun i S D=>?_)
 obtain⟨a,E,D⟩:=D
 injection E with E
 subst E
 simp at D;omega
theorem zP.one {w:World}{b r:Nat}(h:Own .u32 292 w b [r])(a:r<W32):zP w (.slice (some ⟨b,0,none⟩) (wU [r] 1) 1) r:=by
 have:=zP.of_own (c:=1) h (Dig.cons a Dig.nil) (by simp)
 simpa using this
theorem Zjd (p q:Value)(x y:Nat)(w:World)(s:zP w p x)(D:zP w q y)(E:ml x≤17592186044416)(t:ml y=1)(g:y≤x) :
 yA 252 #[p,q] w (Zbr w (x/y) (x%y)):=by
 have F:=zh (fQ p q x y w s D E (by omega))
 obtain⟨u,a⟩:=yE (cmpI x y)
 have O:0≤u:=by
  rcases Int.lt_or_le u 0 with h|h
  ·rw[←a] at h;have:=ZfL.1 h;omega
  exact h
 rw[a] at F
 obtain⟨S,T,U,rfl,v,G,z,A,rfl⟩:=D
 rw[←kG z A] at t
 obtain⟨y,rfl⟩:=qL.1 t
 have j:val W32 [y]=y:=by simp
 rw[j] at g ⊢
 have d:0<y:=by have:=A 0 (by simp);simp at this;omega
 have f:y<W32:=z.head
 obtain⟨b,o,rfl,_,k⟩:=G.at (i:=0) (by simp)
 have H:w.cell? ⟨b,o,none⟩=some (.int .u32 (y:Int)):=by simpa using k
 have I:=fun w' (P:Ext w w')=>zh (Zb9 p x y w' (s.ext P) E d f)
 have B:=zh I
 have n:Hid (x%y<W32):=rR (uP _ d) f
 obtain⟨r,C⟩:=yE (x%y)
 have J:=zh C
 rw[C] at n
 have K:decide (u<0)=false:=by rw[vA];omega
 clear G z A v a g k I t j d f s C
 go_enter Tryz.func252,Tryz.ntmps252
 go_wp2_with (first
  | (go_at_call 242;refine F.out.mono ?_;rintro e w' ⟨rfl,m,rfl⟩)
  | (go_at_call 199;refine (B.out _ ((Fr.refl _ _).drewN _)).out.mono ?_;rintro e L ⟨l,c,rfl,M,N⟩;have Q:=zh M;have R:=zh N;clear M N;rw[J.out])
  | (go_at_call 204;refine (kD _ [r] 1 1 _ rfl (Own.new L _ _ [r] []).shows0 (by simp) (by simp)).mono ?_;rintro e V ⟨rfl,rfl⟩))
 go_ret2
 exact⟨_,_,rfl,Q.out.ext ((Fr.refl _ _).alloc _),by rw[J.out];exact zP.one (Own.new L _ _ [r] []) n.out,(((Fr.refl _ _).drewN _).ext R.out).alloc _⟩
end Go.Proofs.YtoanifijmlgcgaaGreatDoor
