/-
 My texts Div64, DivWord, Shift, Est, Knuth, DivS, Num1, Num2, Num3, DvM, Dv1, Dv2, Dv3 put together.
-/
import Derived.Test.YtenchljfmfgeoaaGreatDoorT02
import Derived.Test.YtenchljfmfgeoaaGreatDoorT03
import Derived.Test.YtenchljfmfgeoaaGreatDoorT00
import Derived.Test.YtenchljfmfgeoaaGreatDoorT06
import Derived.Lib.ItoaNum
import Derived.Deep.QuietTactic
import Derived.BigQuiet
import Derived.RegionTactic
import Derived.BigRegion
import Derived.Deep.CutBlock
import Derived.Deep.DeepCutAuto
set_option maxRecDepth 100000
set_option maxHeartbeats 8000000
namespace Go.Proofs.YtenchljfmfgeoaaGreatDoor
open Go.RowKit Tryz
theorem cC (x:Nat)(w:World)(a:x<W64):yA 194 #[.int .u64 (x:Int)] w fun e w'=>e=.returned (.int .i64 (64-(Lib.bitLen x:Int)))∧w=w':=by
 rw[zR] at a
 refine (Tryz.bits_LeadingZeros64 x w qO qO).mono ?_
 rintro e w' ⟨rfl,rfl⟩
 exact⟨qS,rfl⟩
noncomputable def H32:Nat:=Classical.choose (p:=fun n:Nat=>n=4294967296) ⟨_,rfl⟩
theorem xS:H32=4294967296:=rT (p:=fun n:Nat=>n=4294967296) ⟨_,rfl⟩
structure Prep (hi lo y s Y v1 v0 Hs Ls U T u1 u0:Nat):Prop where
 hY:IntKind.u64.wrap ((y:Int)*2^s)=(Y:Int)
 hv1:(Y:Int)/4294967296=(v1:Int)
 hv0:bits .and .u64 (Y:Int) 4294967295=(v0:Int)
 hH:IntKind.u64.wrap ((hi:Int)*2^s)=(Hs:Int)
 hL:(lo:Int)/2^(64-s)=(Ls:Int)
 hU:bits .or .u64 (Hs:Int) (Ls:Int)=(U:Int)
 hT:IntKind.u64.wrap ((lo:Int)*2^s)=(T:Int)
 hu1:(T:Int)/4294967296=(u1:Int)
 hu0:bits .and .u64 (T:Int) 4294967295=(u0:Int)
theorem ZdM (a:Int):∃ n:Nat,IntKind.u64.wrap a=(n:Int)∧(n:Int)=a%18446744073709551616:=by
 refine⟨(a%18446744073709551616).toNat,?_,?_⟩
 ·rw[IntKind.wrap_u64];omega
 omega
theorem un21 {U u Y q R:Nat}(d:Y≤W64)(f:q*Y+R=U*4294967296+u)(l:R<Y) :
 ∃ a b c:Nat,IntKind.u64.wrap ((U:Int)*4294967296)=(a:Int)∧IntKind.u64.wrap ((a:Int)+(u:Int))=(b:Int)∧IntKind.u64.wrap ((q:Int)*(Y:Int))=(c:Int)∧IntKind.u64.wrap ((b:Int)-(c:Int))=(R:Int):=by
 have g:=d
 rw[zR] at g
 obtain⟨a,h,m⟩:=ZdM ((U:Int)*4294967296)
 obtain⟨b,i,n⟩:=ZdM ((a:Int)+(u:Int))
 obtain⟨c,j,o⟩:=ZdM ((q:Int)*(Y:Int))
 obtain⟨p,k,r⟩:=ZdM ((b:Int)-(c:Int))
 refine⟨a,b,c,h,i,j,?_⟩
 rw[k]
 have e:((q*Y+R:Nat):Int)=((U*4294967296+u:Nat):Int):=by rw[f]
 rw[rE,tS,rE,tS] at e
 omega
theorem Zah {U v1:Nat}(b:0<v1)(c:U<W64) :
 ∃ a e d:Nat,(U:Int)/(v1:Int)=(a:Int)∧IntKind.u64.wrap (a:Int)=(a:Int)∧IntKind.u64.wrap ((a:Int)*(v1:Int))=(e:Int)∧IntKind.u64.wrap ((U:Int)-(e:Int))=(d:Int)∧a*v1+d=U∧d<v1:=by
 have g:=c
 rw[zR] at g
 have f:=vQ U v1
 have h:=uP U b
 have i:U/v1*v1≤U:=qG U v1
 rw[uF] at f
 refine⟨U/v1,U/v1*v1,U%v1,(vW _ _).symm,lW _ (by rw[zR];have:=vN U v1;omega),?_,?_,f,h⟩
 ·rw[←tS];exact lW _ (by rw[zR];omega)
 rw[show (U:Int)-((U/v1*v1:Nat):Int)=((U%v1:Nat):Int) by omega]
 exact lW _ (by rw[zR];omega)
theorem Zai {U v1 v0 u a ri:Nat}(b:0<v1)(e:u<H32)(h:a*v1+ri=U)(f:ri<v1):jV H32 U v1 v0 u a ri:=by
 refine⟨h,?_⟩
 have g:0<v1*H32:=tZ b (by rw[xS];omega)
 rw[←Nat.lt_succ_iff,vO qO]
 have c:U<(a+1)*v1:=by rw[vC];omega
 have d:(U+1)*H32≤(a+1)*v1*H32:=uE _ c
 rw[pI,uK,← uH]
 rw[vC U] at d
 omega
theorem Zaj {U v1 v0 u q r:Nat}(a:2147483648≤v1)(b:U<W64)(h:jV H32 U v1 v0 u q r):q≤8589934592:=by
 have c:=b
 rw[zR] at c
 have d:=h.1
 have e:q*2147483648≤q*v1:=uI q a
 omega
theorem jE {H U Y u q:Nat}(h:q=(U*H+u)/Y):q*Y+(U*H+u)%Y=U*H+u:=by
 subst h
 rw[uF]
 exact vQ _ _
theorem jF {U u Y q:Nat}(a:0<Y)(b:U<Y)(d:u<H32)(c:q=(U*H32+u)/Y):q<H32:=by
 subst c
 rw[vO a]
 have:(U+1)*H32≤Y*H32:=uE _ b
 rw[vC] at this
 rw[uF H32]
 omega
theorem gE {q:Nat}(a:0<q)(h:q<W64):IntKind.u64.wrap ((q:Int)-1)=((q-1:Nat):Int):=by
 rw[show (q:Int)-1=((q-1:Nat):Int) by omega]
 exact lW _ qO
theorem kX {a b:Nat}(h:a+b<W64):IntKind.u64.wrap ((a:Int)+(b:Int))=((a+b:Nat):Int):=by
 rw[←rE]
 exact lW _ h
theorem gW {a b:Nat}(h:a*b<W64):IntKind.u64.wrap ((a:Int)*(b:Int))=((a*b:Nat):Int):=by
 rw[←tS]
 exact lW _ h
theorem Zgf:H32*H32=W64:=by rw[xS,zR]
theorem fV {a q0:Nat}(d:a<H32)(e:q0<H32):∃ b c:Nat,IntKind.u64.wrap ((a:Int)*4294967296)=(b:Int)∧IntKind.u64.wrap ((b:Int)+(q0:Int))=(c:Int)∧c=a*H32+q0:=by
 have h:a*H32+q0<W64:=by
  rw[←Zgf]
  have:(a+1)*H32≤H32*H32:=uE _ d
  rw[vC] at this
  omega
 refine⟨a*H32,a*H32+q0,?_,kX h,rfl⟩
 rw[show (4294967296:Int)=((H32:Nat):Int) by rw[xS];rfl]
 exact gW qO
theorem ZcL {r u:Nat}(c:r<H32)(e:u<H32):∃ a b:Nat,IntKind.u64.wrap (4294967296*(r:Int))=(a:Int)∧IntKind.u64.wrap ((a:Int)+(u:Int))=(b:Int)∧b=H32*r+u:=by
 have d:H32*r+u<W64:=by
  rw[←Zgf]
  have:H32*(r+1)≤H32*H32:=uI _ c
  rw[uK] at this
  omega
 refine⟨H32*r,H32*r+u,?_,kX d,rfl⟩
 rw[show (4294967296:Int)=((H32:Nat):Int) by rw[xS];rfl]
 exact gW qO
theorem jG {q:Nat}(h:H32≤q):decide ((4294967296:Int)≤(q:Int))=true:=by rw[xS] at h;rw[sH];omega
theorem kP {q:Nat}(h:¬ H32≤q):decide ((4294967296:Int)≤(q:Int))=false:=by rw[xS] at h;rw[tW];omega
theorem fW {a b:Nat}(h:a<b):decide (a<b)=true:=by rw[sH];omega
theorem gO {a b:Nat}(h:¬ a<b):decide (a<b)=false:=by rw[tW];omega
theorem Zbj {q v:Nat}(b:¬ H32≤q)(c:v<H32):q*v<W64:=by
 rw[←Zgf]
 have d:q*v≤q*H32:=uI _ qO
 have a:(q+1)*H32≤H32*H32:=uE _ qO
 rw[vC] at a
 have:=xS
 omega
theorem ZiX (hi lo y s Y v1 v0 Hs Ls U T u1 u0 qf rf:Nat)(w:World)(d0:(U*H32+u1)/Y*H32+((U*H32+u1)%Y*H32+u0)/Y=qf)(e0:((U*H32+u1)%Y*H32+u0)%Y/2^s=rf)(h0:0<hi)(h1:hi<y)(hy:y<W64)(hs:64-(Lib.bitLen y:Int)=s)(i0:s≤63)(P:Prep hi lo y s Y v1 v0 Hs Ls U T u1 u0)(hU:U<v1*H32+v0)(c0:v1*H32+v0=Y)(b1:2147483648≤v1)(b2:v1<H32)(b3:v0<H32)(b4:u1<H32)(b5:u0<H32) :
 yA 174 #[.int .u64 (hi:Int),.int .u64 (lo:Int),.int .u64 (y:Int)] w fun e w'=>e=.returned (.tuple #[.int .u64 (qf:Int),.int .u64 (rf:Int)])∧w=w':=by
 have R:=zh d0
 have S:=zh e0
 clear d0 e0
 have he:=xS
 have HS:=zh hs
 have HY:=zh hy
 have e1:((hi:Int) == 0)=false:=by simp;omega
 have e2:((y:Int) == 0)=false:=by simp;omega
 have K:=zh hU
 have o:=zh c0
 have f0:U<18446744073709551616:=by rw[he] at hU b2 b3;omega
 have g0:Hid (U<W64):=by unfold Hid;rw[zR];exact f0
 have l:Hid (Y≤W64):=by unfold Hid;rw[zR];rw[he] at c0 b2 b3;omega
 obtain⟨p1,p2,p3,p4,p5,p6,p7,p8,p9⟩:=P
 have j0:((v1:Int) == 0)=false:=by simp;omega
 obtain⟨qi,mi,ri,f1,f2,f3,f4,f5,f6⟩:=Zah (U:=U) (v1:=v1) qO g0.out
 have HE:=zh (Zai (v0:=v0) (u:=u1) qO b4 f5 f6)
 clear hs hy hU c0 f5
 have B1:=zh b1
 have B2:=zh b2
 have B3:=zh b3
 have B4:=zh b4
 have V:=zh b5
 clear b1 b2 b3 b4 b5 he f0
 go_enter func174,ntmps174
 go_wp2_with (go_at_call 194;refine (cC _ _ HY.out).mono ?_;rintro e w' ⟨rfl,rfl⟩;rw[HS.out])
 clear p1 p2 p3 p4 p5 p6 p7 p8 p9 e1 e2
 go_loop [15,16] (fun qv rv=>∃ q r:Nat,qv=.int .u64 q∧rv=.int .u64 r∧Hid (r<H32)∧Hid (jV H32 U v1 v0 u1 q r)) (fun qv _=>(intOf qv).toNat)
 case atStart=>exact⟨_,_,rfl,rfl,by have:=B2.out;unfold Hid;omega,HE⟩
 case round =>
  obtain⟨q,r,rfl,rfl,hr,Q⟩:=hrel
  clear f1 f2 f3 f4 f6 HE
  have L:Hid (q<W64):=by
   have h1:=Zaj B1.out g0.out Q.out
   unfold Hid;rw[zR];omega
  have b0:Hid (r+v1<W64):=by
   have h1:=hr.out
   have h2:=B2.out
   unfold Hid;rw[zR];rw[xS] at h1 h2;omega
  have g2:=kX b0.out
  obtain⟨G,A⟩:=yE (r+v1)
  rw[A] at g2
  have M:=zh A
  clear A
  by_cases a:H32≤q
  ·have d:=zh (ZcJ K.out B4.out a Q.out)
   have t1:=jG a
   have g1:=gE (q:=q) (by have:=xS;omega) L.out
   obtain⟨p,h⟩:=yE (q-1)
   rw[h] at g1 d
   rw[M.out] at d
   have B:p<q:=by have:=xS;omega
   by_cases f:H32≤G
   ·have i:=zh (jO K.out B3.out f d.out)
    have t2:=jG f
    clear f a h B d Q
    rw[o.out] at i
    have b:Hid (0<Y):=by have:=o.out;have:=K.out;unfold Hid;omega
    obtain⟨H,F⟩:=yE ((U*H32+u1)%Y)
    have t:Hid (H<Y):=by rw[←F];exact uP _ b.out
    obtain⟨a1,a2,a3,x1,x2,x3,x4⟩:=un21 l.out (by rw[←xS];exact jE i.out) (uP _ b.out)
    rw[F] at x4
    have N:Hid (p<H32):=jF b.out (by have:=K.out;rw[o.out] at this;exact this) B4.out i.out
    have O:=i
    clear i
    have ERR:=zh F
    clear F
    have I:Hid (H<W64):=uQ t.out l.out
    have k:Hid (H<v1*H32+v0):=by rw[o.out];exact t.out
    obtain⟨qi,mi,ri,k1,k2,k3,k4,k5,k6⟩:=Zah (U:=H) (v1:=v1) (by have:=B1.out;omega) I.out
    have W:=zh (Zai (v0:=v0) (u:=u0) (by have:=B1.out;omega) V.out k5 k6)
    clear k5
    go_wp2
    go_loop [16,18] (fun rv qv=>∃ q r:Nat,qv=.int .u64 q∧rv=.int .u64 r∧Hid (r<H32)∧Hid (jV H32 H v1 v0 u0 q r)) (fun _ qv=>(intOf qv).toNat)
    case atStart=>exact⟨_,_,rfl,rfl,by have:=B2.out;unfold Hid;omega,W⟩
    case round =>
     obtain⟨q,r,rfl,rfl,hr,Q⟩:=hrel
     clear k1 k2 k3 k4 k6 W x1 x2 x3 x4
     have L:Hid (q<W64):=by
      have h1:=Zaj B1.out I.out Q.out
      unfold Hid;rw[zR];omega
     have b0:Hid (r+v1<W64):=by
      have h1:=hr.out
      have h2:=B2.out
      unfold Hid;rw[zR];rw[xS] at h1 h2;omega
     have g2:=kX b0.out
     obtain⟨G,A⟩:=yE (r+v1)
     rw[A] at g2
     have M:=zh A
     clear A
     by_cases a:H32≤q
     ·have d:=zh (ZcJ k.out V.out a Q.out)
      have t1:=jG a
      have g1:=gE (q:=q) (by have:=xS;omega) L.out
      obtain⟨p,h⟩:=yE (q-1)
      rw[h] at g1 d
      rw[M.out] at d
      have B:p<q:=by have:=xS;omega
      by_cases f:H32≤G
      ·have i:=zh (jO k.out B3.out f d.out)
       have t2:=jG f
       clear f a h B d Q
       rw[o.out] at i
       obtain⟨X,Z,a0,y1,y2,y3,y4⟩:=un21 l.out (by rw[←xS];exact jE i.out) (uP _ b.out)
       obtain⟨v,g⟩:=yE ((H*H32+u0)%Y)
       rw[g] at y4
       obtain⟨z1,z2,z4,z5,J⟩:=fV N.out (jF b.out t.out V.out i.out)
       have y5:(v:Int)/2^s=((v/2^s:Nat):Int):=by rw[vW,tA];rfl
       obtain⟨x,c⟩:=yE (v/2^s)
       rw[c] at y5
       have EZ:=zh J
       have ER:=zh c
       have z:=zh g
       clear g J c
       go_wp2
       go_ret2
       have fq:z2=qf:=by rw[EZ.out,← R.out,i.out,O.out,ERR.out]
       have fr:x=rf:=by rw[←ER.out,← z.out,← S.out,ERR.out]
       exact⟨by rw[←fq,← fr];rfl,rfl⟩
      have t2:=kP f
      have C:Hid (G<H32):=by unfold Hid;omega
      clear f a h
      go_wp2
      go_round
      case rel=>exact⟨p,G,rfl,rfl,C,d⟩
      case measure=>simp[intOf];omega
     have t1:=kP a
     have g5:=gW (Zbj a B3.out)
     obtain⟨m,D⟩:=yE (q*v0)
     rw[D] at g5
     obtain⟨m2,m3,g6,g7,n⟩:=ZcL hr.out V.out
     by_cases j:m3<m
     ·have t3:=fW j
      have d:=zh (aQ (by have:=k.out;omega) (by rw[D,← n];exact j) Q.out)
      have E:0<q:=by
       rcases uJ q with e|e
       ·subst e;simp at D;omega
       exact e
      have g1:=gE E L.out
      obtain⟨p,h⟩:=yE (q-1)
      rw[h] at g1 d
      rw[M.out] at d
      have B:p<q:=qO
      by_cases f:H32≤G
      ·have i:=zh (jO k.out B3.out f d.out)
       have t2:=jG f
       clear f a h B d Q j D n E
       rw[o.out] at i
       obtain⟨X,Z,a0,y1,y2,y3,y4⟩:=un21 l.out (by rw[←xS];exact jE i.out) (uP _ b.out)
       obtain⟨v,g⟩:=yE ((H*H32+u0)%Y)
       rw[g] at y4
       obtain⟨z1,z2,z4,z5,J⟩:=fV N.out (jF b.out t.out V.out i.out)
       have y5:(v:Int)/2^s=((v/2^s:Nat):Int):=by rw[vW,tA];rfl
       obtain⟨x,c⟩:=yE (v/2^s)
       rw[c] at y5
       have EZ:=zh J
       have ER:=zh c
       have z:=zh g
       clear g J c
       go_wp2
       go_ret2
       have fq:z2=qf:=by rw[EZ.out,← R.out,i.out,O.out,ERR.out]
       have fr:x=rf:=by rw[←ER.out,← z.out,← S.out,ERR.out]
       exact⟨by rw[←fq,← fr];rfl,rfl⟩
      have t2:=kP f
      have C:Hid (G<H32):=by unfold Hid;omega
      clear f a h j D n E
      go_wp2
      go_round
      case rel=>exact⟨p,G,rfl,rfl,C,d⟩
      case measure=>simp[intOf];omega
     have t3:=gO j
     have i:=zh (dY (by have:=k.out;omega) (by rw[D,← n];omega) Q.out)
     obtain⟨p,rfl⟩:∃ p,p=q:=⟨_,rfl⟩
     clear j D n a Q
     rw[o.out] at i
     obtain⟨X,Z,a0,y1,y2,y3,y4⟩:=un21 l.out (by rw[←xS];exact jE i.out) (uP _ b.out)
     obtain⟨v,g⟩:=yE ((H*H32+u0)%Y)
     rw[g] at y4
     obtain⟨z1,z2,z4,z5,J⟩:=fV N.out (jF b.out t.out V.out i.out)
     have y5:(v:Int)/2^s=((v/2^s:Nat):Int):=by rw[vW,tA];rfl
     obtain⟨x,c⟩:=yE (v/2^s)
     rw[c] at y5
     have EZ:=zh J
     have ER:=zh c
     have z:=zh g
     clear g J c
     go_wp2
     go_ret2
     have fq:z2=qf:=by rw[EZ.out,← R.out,i.out,O.out,ERR.out]
     have fr:x=rf:=by rw[←ER.out,← z.out,← S.out,ERR.out]
     exact⟨by rw[←fq,← fr];rfl,rfl⟩
   have t2:=kP f
   have C:Hid (G<H32):=by unfold Hid;omega
   clear f a h
   go_wp2
   go_round
   case rel=>exact⟨p,G,rfl,rfl,C,d⟩
   case measure=>simp[intOf];omega
  have t1:=kP a
  have g5:=gW (Zbj a B3.out)
  obtain⟨m,D⟩:=yE (q*v0)
  rw[D] at g5
  obtain⟨m2,m3,g6,g7,n⟩:=ZcL hr.out B4.out
  by_cases j:m3<m
  ·have t3:=fW j
   have d:=zh (aQ (by have:=K.out;omega) (by rw[D,← n];exact j) Q.out)
   have E:0<q:=by
    rcases uJ q with e|e
    ·subst e;simp at D;omega
    exact e
   have g1:=gE E L.out
   obtain⟨p,h⟩:=yE (q-1)
   rw[h] at g1 d
   rw[M.out] at d
   have B:p<q:=qO
   by_cases f:H32≤G
   ·have i:=zh (jO K.out B3.out f d.out)
    have t2:=jG f
    clear f a h B d Q j D n E
    rw[o.out] at i
    have b:Hid (0<Y):=by have:=o.out;have:=K.out;unfold Hid;omega
    obtain⟨H,F⟩:=yE ((U*H32+u1)%Y)
    have t:Hid (H<Y):=by rw[←F];exact uP _ b.out
    obtain⟨a1,a2,a3,x1,x2,x3,x4⟩:=un21 l.out (by rw[←xS];exact jE i.out) (uP _ b.out)
    rw[F] at x4
    have N:Hid (p<H32):=jF b.out (by have:=K.out;rw[o.out] at this;exact this) B4.out i.out
    have O:=i
    clear i
    have ERR:=zh F
    clear F
    have I:Hid (H<W64):=uQ t.out l.out
    have k:Hid (H<v1*H32+v0):=by rw[o.out];exact t.out
    obtain⟨qi,mi,ri,k1,k2,k3,k4,k5,k6⟩:=Zah (U:=H) (v1:=v1) (by have:=B1.out;omega) I.out
    have W:=zh (Zai (v0:=v0) (u:=u0) (by have:=B1.out;omega) V.out k5 k6)
    clear k5
    go_wp2
    go_loop [16,18] (fun rv qv=>∃ q r:Nat,qv=.int .u64 q∧rv=.int .u64 r∧Hid (r<H32)∧Hid (jV H32 H v1 v0 u0 q r)) (fun _ qv=>(intOf qv).toNat)
    case atStart=>exact⟨_,_,rfl,rfl,by have:=B2.out;unfold Hid;omega,W⟩
    case round =>
     obtain⟨q,r,rfl,rfl,hr,Q⟩:=hrel
     clear k1 k2 k3 k4 k6 W x1 x2 x3 x4
     have L:Hid (q<W64):=by
      have h1:=Zaj B1.out I.out Q.out
      unfold Hid;rw[zR];omega
     have b0:Hid (r+v1<W64):=by
      have h1:=hr.out
      have h2:=B2.out
      unfold Hid;rw[zR];rw[xS] at h1 h2;omega
     have g2:=kX b0.out
     obtain⟨G,A⟩:=yE (r+v1)
     rw[A] at g2
     have M:=zh A
     clear A
     by_cases a:H32≤q
     ·have d:=zh (ZcJ k.out V.out a Q.out)
      have t1:=jG a
      have g1:=gE (q:=q) (by have:=xS;omega) L.out
      obtain⟨p,h⟩:=yE (q-1)
      rw[h] at g1 d
      rw[M.out] at d
      have B:p<q:=by have:=xS;omega
      by_cases f:H32≤G
      ·have i:=zh (jO k.out B3.out f d.out)
       have t2:=jG f
       clear f a h B d Q
       rw[o.out] at i
       obtain⟨X,Z,a0,y1,y2,y3,y4⟩:=un21 l.out (by rw[←xS];exact jE i.out) (uP _ b.out)
       obtain⟨v,g⟩:=yE ((H*H32+u0)%Y)
       rw[g] at y4
       obtain⟨z1,z2,z4,z5,J⟩:=fV N.out (jF b.out t.out V.out i.out)
       have y5:(v:Int)/2^s=((v/2^s:Nat):Int):=by rw[vW,tA];rfl
       obtain⟨x,c⟩:=yE (v/2^s)
       rw[c] at y5
       have EZ:=zh J
       have ER:=zh c
       have z:=zh g
       clear g J c
       go_wp2
       go_ret2
       have fq:z2=qf:=by rw[EZ.out,← R.out,i.out,O.out,ERR.out]
       have fr:x=rf:=by rw[←ER.out,← z.out,← S.out,ERR.out]
       exact⟨by rw[←fq,← fr];rfl,rfl⟩
      have t2:=kP f
      have C:Hid (G<H32):=by unfold Hid;omega
      clear f a h
      go_wp2
      go_round
      case rel=>exact⟨p,G,rfl,rfl,C,d⟩
      case measure=>simp[intOf];omega
     have t1:=kP a
     have g5:=gW (Zbj a B3.out)
     obtain⟨m,D⟩:=yE (q*v0)
     rw[D] at g5
     obtain⟨m2,m3,g6,g7,n⟩:=ZcL hr.out V.out
     by_cases j:m3<m
     ·have t3:=fW j
      have d:=zh (aQ (by have:=k.out;omega) (by rw[D,← n];exact j) Q.out)
      have E:0<q:=by
       rcases uJ q with e|e
       ·subst e;simp at D;omega
       exact e
      have g1:=gE E L.out
      obtain⟨p,h⟩:=yE (q-1)
      rw[h] at g1 d
      rw[M.out] at d
      have B:p<q:=qO
      by_cases f:H32≤G
      ·have i:=zh (jO k.out B3.out f d.out)
       have t2:=jG f
       clear f a h B d Q j D n E
       rw[o.out] at i
       obtain⟨X,Z,a0,y1,y2,y3,y4⟩:=un21 l.out (by rw[←xS];exact jE i.out) (uP _ b.out)
       obtain⟨v,g⟩:=yE ((H*H32+u0)%Y)
       rw[g] at y4
       obtain⟨z1,z2,z4,z5,J⟩:=fV N.out (jF b.out t.out V.out i.out)
       have y5:(v:Int)/2^s=((v/2^s:Nat):Int):=by rw[vW,tA];rfl
       obtain⟨x,c⟩:=yE (v/2^s)
       rw[c] at y5
       have EZ:=zh J
       have ER:=zh c
       have z:=zh g
       clear g J c
       go_wp2
       go_ret2
       have fq:z2=qf:=by rw[EZ.out,← R.out,i.out,O.out,ERR.out]
       have fr:x=rf:=by rw[←ER.out,← z.out,← S.out,ERR.out]
       exact⟨by rw[←fq,← fr];rfl,rfl⟩
      have t2:=kP f
      have C:Hid (G<H32):=by unfold Hid;omega
      clear f a h j D n E
      go_wp2
      go_round
      case rel=>exact⟨p,G,rfl,rfl,C,d⟩
      case measure=>simp[intOf];omega
     have t3:=gO j
     have i:=zh (dY (by have:=k.out;omega) (by rw[D,← n];omega) Q.out)
     obtain⟨p,rfl⟩:∃ p,p=q:=⟨_,rfl⟩
     clear j D n a Q
     rw[o.out] at i
     obtain⟨X,Z,a0,y1,y2,y3,y4⟩:=un21 l.out (by rw[←xS];exact jE i.out) (uP _ b.out)
     obtain⟨v,g⟩:=yE ((H*H32+u0)%Y)
     rw[g] at y4
     obtain⟨z1,z2,z4,z5,J⟩:=fV N.out (jF b.out t.out V.out i.out)
     have y5:(v:Int)/2^s=((v/2^s:Nat):Int):=by rw[vW,tA];rfl
     obtain⟨x,c⟩:=yE (v/2^s)
     rw[c] at y5
     have EZ:=zh J
     have ER:=zh c
     have z:=zh g
     clear g J c
     go_wp2
     go_ret2
     have fq:z2=qf:=by rw[EZ.out,← R.out,i.out,O.out,ERR.out]
     have fr:x=rf:=by rw[←ER.out,← z.out,← S.out,ERR.out]
     exact⟨by rw[←fq,← fr];rfl,rfl⟩
   have t2:=kP f
   have C:Hid (G<H32):=by unfold Hid;omega
   clear f a h j D n E
   go_wp2
   go_round
   case rel=>exact⟨p,G,rfl,rfl,C,d⟩
   case measure=>simp[intOf];omega
  have t3:=gO j
  have i:=zh (dY (by have:=K.out;omega) (by rw[D,← n];omega) Q.out)
  obtain⟨p,rfl⟩:∃ p,p=q:=⟨_,rfl⟩
  clear j D n a Q
  rw[o.out] at i
  have b:Hid (0<Y):=by have:=o.out;have:=K.out;unfold Hid;omega
  obtain⟨H,F⟩:=yE ((U*H32+u1)%Y)
  have t:Hid (H<Y):=by rw[←F];exact uP _ b.out
  obtain⟨a1,a2,a3,x1,x2,x3,x4⟩:=un21 l.out (by rw[←xS];exact jE i.out) (uP _ b.out)
  rw[F] at x4
  have N:Hid (p<H32):=jF b.out (by have:=K.out;rw[o.out] at this;exact this) B4.out i.out
  have O:=i
  clear i
  have ERR:=zh F
  clear F
  have I:Hid (H<W64):=uQ t.out l.out
  have k:Hid (H<v1*H32+v0):=by rw[o.out];exact t.out
  obtain⟨qi,mi,ri,k1,k2,k3,k4,k5,k6⟩:=Zah (U:=H) (v1:=v1) (by have:=B1.out;omega) I.out
  have W:=zh (Zai (v0:=v0) (u:=u0) (by have:=B1.out;omega) V.out k5 k6)
  clear k5
  go_wp2
  go_loop [16,18] (fun rv qv=>∃ q r:Nat,qv=.int .u64 q∧rv=.int .u64 r∧Hid (r<H32)∧Hid (jV H32 H v1 v0 u0 q r)) (fun _ qv=>(intOf qv).toNat)
  case atStart=>exact⟨_,_,rfl,rfl,by have:=B2.out;unfold Hid;omega,W⟩
  case round =>
   obtain⟨q,r,rfl,rfl,hr,Q⟩:=hrel
   clear k1 k2 k3 k4 k6 W x1 x2 x3 x4
   have L:Hid (q<W64):=by
    have h1:=Zaj B1.out I.out Q.out
    unfold Hid;rw[zR];omega
   have b0:Hid (r+v1<W64):=by
    have h1:=hr.out
    have h2:=B2.out
    unfold Hid;rw[zR];rw[xS] at h1 h2;omega
   have g2:=kX b0.out
   obtain⟨G,A⟩:=yE (r+v1)
   rw[A] at g2
   have M:=zh A
   clear A
   by_cases a:H32≤q
   ·have d:=zh (ZcJ k.out V.out a Q.out)
    have t1:=jG a
    have g1:=gE (q:=q) (by have:=xS;omega) L.out
    obtain⟨p,h⟩:=yE (q-1)
    rw[h] at g1 d
    rw[M.out] at d
    have B:p<q:=by have:=xS;omega
    by_cases f:H32≤G
    ·have i:=zh (jO k.out B3.out f d.out)
     have t2:=jG f
     clear f a h B d Q
     rw[o.out] at i
     obtain⟨X,Z,a0,y1,y2,y3,y4⟩:=un21 l.out (by rw[←xS];exact jE i.out) (uP _ b.out)
     obtain⟨v,g⟩:=yE ((H*H32+u0)%Y)
     rw[g] at y4
     obtain⟨z1,z2,z4,z5,J⟩:=fV N.out (jF b.out t.out V.out i.out)
     have y5:(v:Int)/2^s=((v/2^s:Nat):Int):=by rw[vW,tA];rfl
     obtain⟨x,c⟩:=yE (v/2^s)
     rw[c] at y5
     have EZ:=zh J
     have ER:=zh c
     have z:=zh g
     clear g J c
     go_wp2
     go_ret2
     have fq:z2=qf:=by rw[EZ.out,← R.out,i.out,O.out,ERR.out]
     have fr:x=rf:=by rw[←ER.out,← z.out,← S.out,ERR.out]
     exact⟨by rw[←fq,← fr];rfl,rfl⟩
    have t2:=kP f
    have C:Hid (G<H32):=by unfold Hid;omega
    clear f a h
    go_wp2
    go_round
    case rel=>exact⟨p,G,rfl,rfl,C,d⟩
    case measure=>simp[intOf];omega
   have t1:=kP a
   have g5:=gW (Zbj a B3.out)
   obtain⟨m,D⟩:=yE (q*v0)
   rw[D] at g5
   obtain⟨m2,m3,g6,g7,n⟩:=ZcL hr.out V.out
   by_cases j:m3<m
   ·have t3:=fW j
    have d:=zh (aQ (by have:=k.out;omega) (by rw[D,← n];exact j) Q.out)
    have E:0<q:=by
     rcases uJ q with e|e
     ·subst e;simp at D;omega
     exact e
    have g1:=gE E L.out
    obtain⟨p,h⟩:=yE (q-1)
    rw[h] at g1 d
    rw[M.out] at d
    have B:p<q:=qO
    by_cases f:H32≤G
    ·have i:=zh (jO k.out B3.out f d.out)
     have t2:=jG f
     clear f a h B d Q j D n E
     rw[o.out] at i
     obtain⟨X,Z,a0,y1,y2,y3,y4⟩:=un21 l.out (by rw[←xS];exact jE i.out) (uP _ b.out)
     obtain⟨v,g⟩:=yE ((H*H32+u0)%Y)
     rw[g] at y4
     obtain⟨z1,z2,z4,z5,J⟩:=fV N.out (jF b.out t.out V.out i.out)
     have y5:(v:Int)/2^s=((v/2^s:Nat):Int):=by rw[vW,tA];rfl
     obtain⟨x,c⟩:=yE (v/2^s)
     rw[c] at y5
     have EZ:=zh J
     have ER:=zh c
     have z:=zh g
     clear g J c
     go_wp2
     go_ret2
     have fq:z2=qf:=by rw[EZ.out,← R.out,i.out,O.out,ERR.out]
     have fr:x=rf:=by rw[←ER.out,← z.out,← S.out,ERR.out]
     exact⟨by rw[←fq,← fr];rfl,rfl⟩
    have t2:=kP f
    have C:Hid (G<H32):=by unfold Hid;omega
    clear f a h j D n E
    go_wp2
    go_round
    case rel=>exact⟨p,G,rfl,rfl,C,d⟩
    case measure=>simp[intOf];omega
   have t3:=gO j
   have i:=zh (dY (by have:=k.out;omega) (by rw[D,← n];omega) Q.out)
   obtain⟨p,rfl⟩:∃ p,p=q:=⟨_,rfl⟩
   clear j D n a Q
   rw[o.out] at i
   obtain⟨X,Z,a0,y1,y2,y3,y4⟩:=un21 l.out (by rw[←xS];exact jE i.out) (uP _ b.out)
   obtain⟨v,g⟩:=yE ((H*H32+u0)%Y)
   rw[g] at y4
   obtain⟨z1,z2,z4,z5,J⟩:=fV N.out (jF b.out t.out V.out i.out)
   have y5:(v:Int)/2^s=((v/2^s:Nat):Int):=by rw[vW,tA];rfl
   obtain⟨x,c⟩:=yE (v/2^s)
   rw[c] at y5
   have EZ:=zh J
   have ER:=zh c
   have z:=zh g
   clear g J c
   go_wp2
   go_ret2
   have fq:z2=qf:=by rw[EZ.out,← R.out,i.out,O.out,ERR.out]
   have fr:x=rf:=by rw[←ER.out,← z.out,← S.out,ERR.out]
   exact⟨by rw[←fq,← fr];rfl,rfl⟩
theorem gT {y:Nat}(b:0<y)(a:y<W64):1≤Lib.bitLen y∧Lib.bitLen y≤64∧2^(Lib.bitLen y-1)≤y∧y<2^Lib.bitLen y:=by
 rw[zR] at a
 have h:=Lib.bitLenAux_bounds 64 y qO qO
 exact⟨h.1,Lib.bitLen_le y 64 qO qO,h.2.1,h.2.2⟩
noncomputable def divQ (hi lo y:Nat):Nat:=(hi*W64+lo)/y
noncomputable def divR (hi lo y:Nat):Nat:=(hi*W64+lo)%y
theorem Zbk (hi lo y:Nat):divQ hi lo y*y+divR hi lo y=hi*W64+lo:=by
 unfold divQ divR;rw[uF];exact vQ _ _
theorem ZaU (hi lo:Nat){y:Nat}(a:0<y):divR hi lo y<y:=uP _ a
theorem ZeB {hi lo y:Nat}(h:hi<y)(a:lo<W64):divQ hi lo y<W64:=by
 unfold divQ
 rw[vO qO]
 have:(hi+1)*W64≤y*W64:=uE _ h
 rw[vC] at this
 rw[uF W64]
 omega
theorem Zj4 (hi lo y:Nat)(w:World)(q:0<hi)(h:hi<y)(n:y<W64)(d:lo<W64) :
 yA 174 #[.int .u64 (hi:Int),.int .u64 (lo:Int),.int .u64 (y:Int)] w fun e w'=>e=.returned (.tuple #[.int .u64 (divQ hi lo y:Nat),.int .u64 (divR hi lo y:Nat)])∧w=w':=by
 obtain⟨z,A,r,t⟩:=gT (y:=y) qO n
 obtain⟨s,B⟩:=yE (64-Lib.bitLen y)
 have i:0<2^s:=vE qO
 have b:y*2^s<W64:=by
  have:y*2^s<2^Lib.bitLen y*2^s:=sI t i
  rw[←uT,show Lib.bitLen y+s=64 by omega] at this
  rw[zR];exact this
 have u:9223372036854775808≤y*2^s:=by
  have:2^(Lib.bitLen y-1)*2^s≤y*2^s:=uE _ r
  rw[←uT,show Lib.bitLen y-1+s=63 by omega] at this
  exact this
 have C:hi*2^s<y*2^s:=sI h i
 have j:lo/2^(64-s)<2^s:=by
  rw[vO (vE qO),← uT,show s+(64-s)=64 by omega]
  rw[zR] at d;exact d
 have k:hi*2^s ||| lo/2^(64-s)=hi*2^s+lo/2^(64-s):=by
  have:=sA j hi
  rw[sW] at this
  exact this.symm
 have f:hi*2^s+lo/2^(64-s)<y*2^s:=by
  have:(hi+1)*2^s≤y*2^s:=uE _ h
  rw[vC] at this
  omega
 have l:y*2^s<18446744073709551616:=by rw[zR] at b;exact b
 have v:lo*2^s%18446744073709551616<18446744073709551616:=uP _ qO
 have g:hi*2^s<18446744073709551616:=qO
 have a:((2:Int)^s)=((2^s:Nat):Int):=by rw[tA];rfl
 have c:((2:Int)^(64-s))=((2^(64-s):Nat):Int):=by rw[tA];rfl
 have x:=Zhr hi lo s qO
 have o:y*2^s/4294967296*H32+y*2^s%4294967296=y*2^s:=by rw[xS,uF];exact vQ _ _
 have p:=Ze4 (hi*18446744073709551616+lo) y (2^s) i
 have m:=Znb (H:=H32) (Y:=y*2^s) (U:=hi*2^s+lo/2^(64-s)) (u1:=lo*2^s%18446744073709551616/4294967296) (u0:=lo*2^s%18446744073709551616%4294967296) qO f (by rw[xS];omega) (by rw[xS];omega)
 rw[xS,← x,p.1] at m
 refine ZiX hi lo y s (y*2^s) (y*2^s/4294967296) (y*2^s%4294967296) (hi*2^s) (lo/2^(64-s)) (hi*2^s+lo/2^(64-s)) (lo*2^s%18446744073709551616) (lo*2^s%18446744073709551616/4294967296) (lo*2^s%18446744073709551616%4294967296) _ _ w ?_ ?_ q h n qO qO ⟨?_,?_,?_,?_,?_,?_,?_,?_,?_⟩ (by rw[o];exact f) o qO (by rw[xS];omega) (by rw[xS];omega) (by rw[xS];omega) (by rw[xS];omega)
 ·rw[xS,← m.2.2.2.1,divQ,zR]
 ·rw[xS,← m.2.2.2.2,divR,zR];exact p.2
 ·rw[a,← tS];exact lW _ b
 ·omega
 ·exact M64.maskN _ l
 ·rw[a,← tS];exact M64.wrapN _ g
 ·rw[c,vW]
 ·rw[bits_or_u64_nat _ _ g qO,k]
 ·rw[a,← tS];exact M64.wrapM _
 ·omega
 exact M64.maskN _ v
theorem Zht (lo y q r:Nat)(w:World)(f:0<y)(b:lo/y=q)(c:lo%y=r)(a:lo<W64) :
 yA 174 #[.int .u64 0,.int .u64 (lo:Int),.int .u64 (y:Int)] w fun e w'=>e=.returned (.tuple #[.int .u64 (q:Int),.int .u64 (r:Int)])∧∃ n,w'=w.drewN n:=by
 have g:((y:Int) == 0)=false:=by simp;omega
 have h:(lo:Int)/(y:Int)=(q:Int):=by rw[←vW,b]
 have p2:IntKind.u64.wrap (q:Int)=(q:Int):=lW _ (by have:=vN lo y;omega)
 have d:(lo:Int)%(y:Int)=(r:Int):=by rw[←pZ,c]
 clear b c a
 go_enter func174,ntmps174
 go_wp2
 go_quiet (fail)
 go_wp2
 go_ret2
 exact⟨by rw[←d];rfl,_,rfl⟩
theorem Zak (hi lo y:Nat)(w:World)(c:hi<y)(d:y<W64)(a:lo<W64) :
 yA 174 #[.int .u64 (hi:Int),.int .u64 (lo:Int),.int .u64 (y:Int)] w fun e w'=>e=.returned (.tuple #[.int .u64 (divQ hi lo y:Nat),.int .u64 (divR hi lo y:Nat)])∧∃ n,w'=w.drewN n:=by
 rcases uJ hi with b|b
 ·subst b
  refine (Zht lo y (divQ 0 lo y) (divR 0 lo y) w c (by simp[divQ]) (by simp[divR]) a).mono ?_
  rintro e w' ⟨rfl,f⟩
  exact⟨rfl,f⟩
 refine (Zj4 hi lo y w b c d a).mono ?_
 rintro e w' ⟨rfl,rfl⟩
 exact⟨rfl,0,rfl⟩
def dP (xs:List Nat) (u k r:Nat):Prop:=r<u∧∃ Q,val W64 (xs.drop k)=Q*u+r
theorem dP.start (xs:qN){u:Nat}(a:0<u):dP xs u xs.length 0:=⟨a,0,by rw[vG (uG _)];simp⟩
theorem dP.step {xs:qN}{u k r x:Nat}(h:dP xs u (k+1) r)(a:k<xs.length)(b:xs[k]?.getD 0=x):dP xs u k (divR r x u):=by
 obtain⟨d,Q,c⟩:=h
 refine⟨ZaU _ _ qO,divQ r x u+W64*Q,?_⟩
 rw[xO k a,b]
 exact Zdn W64 _ _ _ _ _ _ _ c (Zbk r x u).symm
theorem dP.done {xs:qN}{u r:Nat}(h:dP xs u 0 r):val W64 xs%u=r:=by
 obtain⟨b,Q,a⟩:=h
 rw[tX] at a
 rw[a,uF,rX,vL b]
theorem iZ (A:qA)(xs:qN)(n c u:Nat)(w:World)(z:xs.length=n)(p:zF .u64 w A xs)(J:xs.length≤1099511627776)(s:Dig W64 xs)(B:0<u)(d:u<W64) :
 yA 192 #[.slice A n c,.int .u64 (u:Int)] w fun e w'=>e=.returned (.int .u64 ((val W64 xs%u:Nat):Int))∧∃ n,w'=w.drewN n:=by
 subst z
 have C:=zh p
 have D:=zh s
 have E:=zh d
 obtain⟨F,a⟩:=yE (val W64 xs%u)
 rw[a]
 have f:=zh a
 clear p s d a
 go_enter func192,ntmps192
 go_wp2
 go_loopw [5,6] (fun G i wr=>∃ k r q:Nat,k≤xs.length∧i=.int .i64 ((k:Int)-1)∧G=.int .u64 (r:Int)∧Hid (dP xs u k r)∧Hid (wr=w.drewN q)) (fun _ i _=>(intOf i+1).toNat)
 case atStart=>exact⟨xs.length,0,0,uG _,rfl,rfl,dP.start xs B,rfl⟩
 case round =>
  obtain⟨k,r,q,K,rfl,rfl,h,t⟩:=hrel
  obtain rfl:=t.out
  clear t
  by_cases H:0<k
  ·obtain⟨j,rfl⟩:∃ j,k=j+1:=⟨k-1,qO⟩
   have v:(((j+1:Nat):Int)-1)=(j:Int):=qO
   rw[v]
   clear v
   obtain⟨b,I,rfl,_,l⟩:=C.out.at (i:=j) qO
   obtain⟨x,g⟩:=yE (xs[j]?.getD 0)
   rw[g] at l
   have m:=zh (h.out.step qO g)
   have o:Hid (x<W64):=g ▸ D.out.getD zI j
   clear g
   go_wp2_with (go_at_call 174;refine (Zak _ _ _ _ h.out.1 E.out o.out).mono ?_;rintro e w' ⟨rfl,L,rfl⟩)
   go_roundw
   case rel=>exact⟨j,_,_,qO,rfl,rfl,m,rfl⟩
   case measure=>simp[intOf]
  obtain rfl:k=0:=qO
  have y:=zh h.out.done
  rw[f.out] at y
  go_wp2
  go_ret
  exact⟨by rw[y.out];rfl,_,rfl⟩
def eC (xs:List Nat) (u k:Nat) (qs:List Nat) (r:Nat):Prop:=qs.length=xs.length∧Dig W64 qs∧r<u∧val W64 (xs.drop k)=val W64 (qs.drop k)*u+r
theorem eC.start (xs:qN){u:Nat}(a:0<u):eC xs u xs.length (List.replicate xs.length 0) 0:=by
 refine⟨qS,Dig.replicate zI _,a,?_⟩
 rw[vG (uG _),vG qS];simp
theorem eC.step {xs a:qN}{u k r x:Nat}(h:eC xs u (k+1) a r)(c:k<xs.length)(e:xs[k]?.getD 0=x)(b:x<W64):eC xs u k (a.set k (divQ r x u)) (divR r x u):=by
 obtain⟨d,f,g,i⟩:=h
 refine⟨by simpa using d,f.set k (ZeB g b),ZaU _ _ qO,?_⟩
 rw[xO k c,e,xO (xs:=a.set k _) k (by simp;omega),vZ qO]
 have:(a.set k (divQ r x u))[k]?.getD 0=divQ r x u:=by simp[d,c]
 rw[this]
 exact Zdn W64 _ _ _ _ _ _ _ i (Zbk r x u).symm
theorem eC.done {xs a:qN}{u r:Nat}(h:eC xs u 0 a r):val W64 a=val W64 xs/u∧r=val W64 xs%u:=by
 obtain⟨d,e,b,c⟩:=h
 rw[tX,tX] at c
 rw[c,uF,rF qO,rX,vL b,tJ b]
 exact⟨rfl,rfl⟩
def ZiY (w:World) (q r:Nat) (e:Ending) (w':World):Prop:=∃ v,e=.returned (.tuple #[v,.int .u64 (r:Int)])∧zD w' v q∧Ext w w'
theorem ZeC (A:qA)(xs:qN)(n c u:Nat)(w:World)(R:xs.length=n)(I:zF .u64 w A xs)(hl:xs.length≤4294967296)(J:Dig W64 xs)(S:0<u)(h:u<W64) :
 yA 242 #[.slice A n c,.int .u64 (u:Int)] w (ZiY w (val W64 xs/u) (val W64 xs%u)):=by
 subst R
 have T:=zh I
 have U:=zh J
 have V:=zh h
 clear I J h
 go_enter func242,ntmps242
 go_wp2_with (
  at_make
  refine kN rfl _ _ _ rfl _ _ _ underlying106 gS _ _ _ _ xs.length rfl rfl qO qO qO qO ?_
  intro b w1 K l _ m t
  have y:=zh l
  have B:=zh m
  have W:=zh K
  clear l m K t)
 go_loopw [7,8] (fun X i wr=>∃ (k r:Nat) (f:List Nat),k≤xs.length∧i=.int .i64 ((k:Int)-1)∧X=.int .u64 (r:Int)∧Hid (eC xs u k f r)∧Hid (Own .u64 141 wr b f)∧Hid (Ext w wr)) (fun _ i _=>(intOf i+1).toNat)
 case atStart=>exact⟨xs.length,0,_,uG _,rfl,rfl,eC.start xs S,y.out,B.out⟩
 case round =>
  obtain⟨k,r,f,hk,rfl,rfl,g,a,d⟩:=hrel
  by_cases Y:0<k
  ·obtain⟨j,rfl⟩:∃ j,k=j+1:=⟨k-1,qO⟩
   have L:(((j+1:Nat):Int)-1)=(j:Int):=qO
   rw[L]
   clear L
   obtain⟨b2,M,rfl,_,C⟩:=(T.out.ext d.out).at (i:=j) qO
   obtain⟨x,s⟩:=yE (xs[j]?.getD 0)
   rw[s] at C
   have o:Hid (x<W64):=s ▸ U.out.getD zI j
   have D:=zh (g.out.step qO s o.out)
   clear s
   have E:=g.out.1
   have q:j<f.length:=qO
   have F:=a.out.cell q
   have Z:=a.out.frozen j
   obtain⟨z,N⟩:=yE (f[j]?.getD 0)
   rw[N] at F
   have G:=zh (fun v=>a.out.set j v q)
   clear N E
   go_wp2_with (go_at_call 174;refine (Zak _ _ _ _ g.out.2.2.1 V.out o.out).mono ?_;rintro e w' ⟨rfl,n1,rfl⟩)
   go_roundw
   case rel=>exact⟨j,_,_,qO,rfl,rfl,D,G.out _,(d.out.setCell (p:=⟨b,j,none⟩) (Or.inr (by have:=W.out;show w.heap.size≤b;omega)) _).drewN _⟩
   case measure=>simp[intOf]
  obtain rfl:k=0:=qO
  have H:=g.out.done
  have O:=g.out.1
  have P:=zh (gM _ f xs.length xs.length wr O a.out.shows0 qO qO)
  have Q:=zh (zD.of_own (c:=xs.length) a.out g.out.2.1 qO)
  rw[H.1] at Q
  have Hr:=zh H.2
  clear O H
  go_wp2_with fail
  refine P.out.mono ?_
  rintro e w2 ⟨rfl,rfl⟩
  clear P
  go_wp2
  go_ret2
  exact⟨_,by rw[←Hr.out];rfl,Q.out,d.out⟩
theorem kD {t:Nat}(a:t≤63):2^(64-t)*2^t=W64:=by
 rw[←uT,show 64-t+t=64 by omega,zR]
theorem Zj5 {x t:Nat}(a:t≤63):x*2^t=x*2^t%W64+W64*(x/2^(64-t)):=by
 have h:=rD (x*2^t) W64
 have:x*2^t/W64=x/2^(64-t):=by
  rw[←kD a,qX _ _ (vE qO)]
 rw[this] at h
 exact h.symm
theorem Zj6 {h x t:Nat}(a:h<2^t)(b:t≤63):h ||| x*2^t%W64=h+x*2^t%W64:=by
 have e:x*2^t%W64=(x%2^(64-t)) <<< t:=by
  rw[sW,← kD b,rU]
 rw[e,Nat.or_comm,← sA a,tC]
theorem aS (x t:Nat):IntKind.u64.wrap ((x:Int)*2^t)=((x*2^t%W64:Nat):Int):=by
 have a:((2:Int)^t)=((2^t:Nat):Int):=by rw[tA];rfl
 rw[a,← tS,zR]
 exact M64.wrapM _
theorem ZaV (x t:Nat):(x:Int)/2^t=((x/2^t:Nat):Int):=by
 have a:((2:Int)^t)=((2^t:Nat):Int):=by rw[tA];rfl
 rw[a,vW]
theorem bH {a b:Nat}(ha:a<W64)(c:b<W64):bits .or .u64 (a:Int) (b:Int)=((a ||| b:Nat):Int):=by
 rw[zR] at ha c
 exact bits_or_u64_nat a b ha c
def fG (xs:List Nat) (skip t k:Nat) (zs:List Nat):Prop :=
 zs.length=xs.length+skip+1∧Dig W64 zs∧val W64 (zs.take (k+skip+1))=val W64 (xs.take k)*2^(64*skip+t)∧(zs[k+skip]?.getD 0)<2^t
theorem fG.start (xs:qN)(a t:Nat):fG xs a t 0 (List.replicate (xs.length+a+1) 0):=by
 refine⟨qS,Dig.replicate zI _,?_,?_⟩
 ·rw[List.take_replicate,iF];simp
 have:((List.replicate (xs.length+a+1) 0)[0+a]?.getD 0)=0:=by
  rw[List.getElem?_replicate];split<;>rfl
 rw[this];exact vE qO
theorem fG.step {xs zs:qN}{a t k h x:Nat}(j:fG xs a t k zs)(g:t≤63)(l:k<xs.length)(i:zs[k+a]?.getD 0=h)(m:xs[k]?.getD 0=x)(b:x<W64) :
 fG xs a t (k+1) ((zs.set (k+a) (h+x*2^t%W64)).set (k+a+1) (x/2^(64-t)))∧h+x*2^t%W64<W64:=by
 obtain⟨n,o,p,q⟩:=j
 rw[i] at q
 have c:h+x*2^t%W64<W64:=by
  rw[←kD g,rU]
  have:x%2^(64-t)<2^(64-t):=uP _ (vE qO)
  have r:(x%2^(64-t)+1)*2^t≤2^(64-t)*2^t:=uE _ this
  rw[vC] at r
  omega
 have f:x/2^(64-t)<2^t:=by
  rw[vO (vE qO),← uT,show t+(64-t)=64 by omega]
  rw[zR] at b;exact b
 have d:x/2^(64-t)<W64:=tF (vN _ _) b
 refine⟨⟨by simpa using n,(o.set _ c).set _ d,?_,?_⟩,c⟩
 ·rw[show k+1+a+1=(k+a+1)+1 by omega,wI _ _ _ _ (by simp;omega),wI _ _ _ _ qO,xA k l,m,vC,← p,xA (k+a) qO,i]
  have e:=Zj5 (x:=x) g
  have s:W64^k*x*2^(64*a+t)=W64^(k+a)*(x*2^t):=by
   rw[uT 2,← fU,uT]
   simp only[uH,tE]
  rw[s]
  have u:=vF (W64^(k+a) * ·) e
  simp only[uK] at u
  rw[uK,uN,uH]
  omega
 have:((zs.set (k+a) (h+x*2^t%W64)).set (k+a+1) (x/2^(64-t)))[k+1+a]?.getD 0=x/2^(64-t):=by
  rw[show k+1+a=k+a+1 by omega,sL (by simp;omega)]
  rfl
 rw[this];exact f
theorem fG.done {xs zs:qN}{a t:Nat}(h:fG xs a t xs.length zs):val W64 zs=val W64 xs*2^(64*a+t):=by
 obtain⟨c,d,b,e⟩:=h
 rw[uD qO,uD qO] at b
 exact b
theorem ZeD (A:qA)(xs:qN)(n c s f t:Nat)(w:World)(hn:xs.length=n)(W:zF .u64 w A xs)(X:xs.length≤c)(hl:xs.length≤4294967296)(Y:Dig W64 xs)(Z:Trim xs)(I:s=64*f+t)(ht:t≤63)(hk:f≤4294967296) :
 yA 236 #[.slice A n c,.int .u64 (s:Int)] w (wM w (val W64 xs*2^s)):=by
 subst hn
 have K:=zh W
 have L:=zh Y
 have Tx:=zh Z
 have HS:=zh I
 clear W Y Z
 by_cases h0:xs.length=0
 ·obtain rfl:xs=[]:=tN.1 h0
  clear I
  go_enter func236,ntmps236
  go_wp2
  go_ret
  exact⟨_,rfl,⟨A,[],c,rfl,X,K.out,L.out,Tx.out,qS⟩,Fr.refl _ _⟩
 have M:(((xs.length:Nat):Int) == 0)=false:=by simp;intro e;simp[e] at h0
 by_cases h1:s=0
 ·subst h1
  clear I
  go_enter func236,ntmps236
  go_wp2
  go_ret
  exact⟨_,rfl,⟨A,xs,c,rfl,X,K.out,L.out,Tx.out,qS⟩,Fr.refl _ _⟩
 have N:((s:Int) == 0)=false:=by simp;omega
 have p1:(s:Int)/64=(f:Int):=qO
 have p2:(s:Int)%64=(t:Int):=qO
 clear I h1
 go_enter func236,ntmps236
 go_wp2_with (
  at_make
  refine kN rfl _ _ _ rfl _ _ _ underlying106 gS _ _ _ _ (xs.length+f+1) rfl rfl qO qO qO qO ?_
  intro b w1 hb y _ z O
  have P:=zh y
  have Q:=zh z
  have Hb:=zh hb
  clear y z hb O)
 go_loopw [31] (fun i wr=>∃ (k:Nat) (q:List Nat),k≤xs.length∧i=.int .i64 (k:Int)∧Hid (fG xs f t k q)∧Hid (Own .u64 141 wr b q)∧Hid (Ext w wr)) (fun i _=>xs.length-(intOf i).toNat)
 case atStart=>exact⟨0,_,qO,rfl,fG.start xs f t,P.out,Q.out⟩
 case round =>
  obtain⟨k,q,b0,rfl,r,j,u⟩:=hrel
  clear p1 p2 M N
  by_cases B:k<xs.length
  ·obtain⟨b2,a0,rfl,_,R⟩:=(K.out.ext u.out).at B
   obtain⟨x,J⟩:=yE (xs[k]?.getD 0)
   obtain⟨h,C⟩:=yE (q[k+f]?.getD 0)
   rw[J] at R
   have S:Hid (x<W64):=J ▸ L.out.getD zI k
   obtain⟨D,E⟩:=r.out.step ht B C J S.out
   have l:=zh D
   have T:q.length=xs.length+f+1:=r.out.1
   have U:=j.out.cell (i:=k+f) qO
   have c0:=j.out.frozen (k+f)
   rw[C] at U
   have m:=j.out.set (k+f) (h+x*2^t%W64) qO
   have v:=m.cell (i:=k+f+1) (by simp;omega)
   have F:=m.frozen (k+f+1)
   obtain⟨g,eg⟩:=yE ((q.set (k+f) (h+x*2^t%W64))[k+f+1]?.getD 0)
   rw[eg] at v
   have o:=zh (m.set (k+f+1) (x/2^(64-t)) (by simp;omega))
   have q1:=aS x t
   have V:=bH (a:=h) (b:=x*2^t%W64) (C ▸ r.out.2.1.getD zI _) (uP _ zI)
   rw[Zj6 (C ▸ r.out.2.2.2) ht] at V
   have q3:=ZaV x (64-t)
   obtain⟨lo,G⟩:=yE (x*2^t%W64)
   obtain⟨hi,H⟩:=yE (x/2^(64-t))
   rw[G] at q1 V v F l o
   rw[H] at q3 l o
   obtain⟨d,ed⟩:=yE (h+lo)
   rw[ed] at V v F l o
   clear J C D E T m eg G H ed
   go_wp2
   go_roundw
   case rel=>exact⟨k+1,_,qO,by go_num,l,o.out,(u.out.setCell (p:=⟨b,k+f,none⟩) (Or.inr (by have:=Hb.out;show w.heap.size≤b;omega)) _).setCell (p:=⟨b,k+f+1,none⟩) (Or.inr (by have:=Hb.out;show w.heap.size≤b;omega)) _⟩
   case measure=>simp[intOf];omega
  obtain rfl:k=xs.length:=qO
  have hz:=r.out.1
  have HT:=zh (gM _ q (xs.length+f+1) (xs.length+f+1) wr hz j.out.shows0 qO qO)
  have HN:=zh (zD.of_own (c:=xs.length+f+1) j.out r.out.2.1 qO)
  rw[r.out.done,← HS.out] at HN
  clear hz
  go_wp2_with fail
  refine HT.out.mono ?_
  rintro e w2 ⟨rfl,rfl⟩
  clear HT
  go_wp2
  go_ret
  exact⟨_,rfl,HN.out,u.out⟩
theorem ZbZ (a:Value)(x s:Nat)(w:World)(f:zD w a x)(b:wl x≤4294967296)(j:s≤274877906944):yA 236 #[a,.int .u64 (s:Int)] w (wM w (x*2^s)):=by
 obtain⟨A,g,c,rfl,h,i,d,e,rfl⟩:=f
 rw[←xH d e] at b
 exact ZeD A g _ c s (s/64) (s%64) w rfl i h b d e qO qO qO
def fH (ys:List Nat) (t k:Nat) (zs:List Nat):Prop :=
 zs.length=ys.length∧Dig W64 zs∧2^t*val W64 (zs.take k)+(ys[0]?.getD 0)%2^t=val W64 (ys.take k)+W64^k*((ys[k]?.getD 0)%2^t)
theorem fH.start (ys:qN)(t:Nat):fH ys t 0 (List.replicate ys.length 0):=by
 refine⟨qS,Dig.replicate zI _,?_⟩
 simp
theorem Znf {y t:Nat}(a:t≤63):y*2^(64-t)%W64=y%2^t*2^(64-t):=by
 rw[←kD a,uF (2^(64-t)),rU]
theorem Zj7 {x y t:Nat}(b:t≤63)(c:x<W64):x/2^t ||| y*2^(64-t)%W64=x/2^t+y%2^t*2^(64-t):=by
 have a:x/2^t<2^(64-t):=by
  rw[vO (vE qO),kD b];exact c
 rw[Znf b,← sW,Nat.or_comm,← sA a,tC]
theorem fH.step {ys zs:qN}{t k x y:Nat}(h:fH ys t k zs)(a:t≤63)(i:k<ys.length)(f:ys[k]?.getD 0=x)(j:ys[k+1]?.getD 0=y)(b:x<W64) :
 fH ys t (k+1) (zs.set k (x/2^t+y%2^t*2^(64-t))):=by
 obtain⟨l,m,n⟩:=h
 have c:x/2^t+y%2^t*2^(64-t)<W64:=by
  have g:x/2^t<2^(64-t):=by
   rw[vO (vE qO),kD a];exact b
  have d:y%2^t<2^t:=uP _ (vE qO)
  have e:(y%2^t+1)*2^(64-t)≤2^t*2^(64-t):=uE _ d
  rw[uF (2^t),kD a,vC] at e
  omega
 refine⟨by simpa using l,m.set k c,?_⟩
 rw[wI _ _ _ _ qO,xA k i,f,j]
 rw[f] at n
 have g:=vQ x (2^t)
 have d:2^t*(y%2^t*2^(64-t))=W64*(y%2^t):=by
  rw[←kD a]
  simp only[uF,tE]
 have e:=vF (W64^k * ·) g
 simp only[uK] at e
 rw[uK,tE (2^t),uK (2^t),d,uK,uN,uH (W64^k) W64]
 omega
theorem fH.done {ys zs:qN}{t:Nat}(h:fH ys t ys.length zs):val W64 zs=val W64 ys/2^t:=by
 obtain⟨b,c,a⟩:=h
 rw[uD qO,uD qO,vI (uG _)] at a
 simp only[Option.getD_none,Nat.zero_mod,tD,tB] at a
 rw[←a,rF (vE qO),tJ (uP _ (vE qO)),tB]
theorem ZeE (xs:qN)(a t:Nat)(c:Dig W64 xs)(b:a≤xs.length):val W64 (xs.drop a)/2^t=val W64 xs/2^(64*a+t):=by
 rw[uT,← fU,← tO]
 congr 1
 rw[wA (xs:=xs) a,vA b,tC,rF (vE zI)]
 have h:=wL (c.take a)
 rw[uM,vA b] at h
 rw[tJ h,tB]
theorem Zdp {xs:qN}{s:Nat}(a:Dig W64 xs)(h:xs.length≤s/64):val W64 xs/2^s=0:=by
 refine tJ (uQ (wL a) ?_)
 rw[fU]
 exact uW qO qO
theorem ZdN (A:qA)(xs:qN)(n c s skip t:Nat)(w:World)(hn:xs.length=n)(hX:zF .u64 w A xs)(hl:xs.length≤4294967296)(hd:Dig W64 xs)(S:s=64*skip+t)(T:t≤63)(hk:skip≤4294967296) :
 yA 241 #[.slice A n c,.int .u64 (s:Int)] w (ZaT w none none (val W64 xs/2^s)):=by
 subst hn
 have U:=zh hX
 have V:=zh hd
 have HS:=zh S
 have p1:(s:Int)/64=(skip:Int):=qO
 have p2:(s:Int)%64=(t:Int):=qO
 clear hX hd
 by_cases h0:xs.length≤skip
 ·have HZ:=zh (Zdp (s:=s) V.out qO)
  clear S
  go_enter func241,ntmps241
  go_wp2
  go_ret
  exact⟨none,0,0,rfl,by rw[HZ.out];exact zD.zero _,Fr.refl _ _,fun a h=>by cases h⟩
 clear S
 go_enter func241,ntmps241
 go_wp2_with (
  at_make
  refine kN rfl _ _ _ rfl _ _ _ underlying106 gS _ _ _ _ (xs.length-skip) rfl rfl qO qO qO qO ?_
  intro b w1 hb H _ I W
  have X:=zh H
  have Y:=zh I
  have J:=zh hb
  clear H I hb W)
 have f:Hid ((xs.drop skip).length=xs.length-skip):=by unfold Hid;simp
 go_loopw [27] (fun i wr=>∃ (k:Nat) (r:List Nat),k≤xs.length-skip∧i=.int .i64 (k:Int)∧Hid (fH (xs.drop skip) t k r)∧Hid (Own .u64 141 wr b r)∧Hid (Ext w wr)) (fun i _=>xs.length-skip-(intOf i).toNat)
 case atStart=>exact⟨0,_,qO,rfl,fH.start _ t,by rw[f.out];exact X.out,Y.out⟩
 case round =>
  obtain⟨k,r,j0,rfl,G,g,m⟩:=hrel
  clear p1 p2
  by_cases u:k<xs.length-skip
  ·obtain⟨b2,K,rfl,_,L⟩:=(U.out.ext m.out).at (i:=k+skip) qO
   obtain⟨x,M⟩:=yE (xs[k+skip]?.getD 0)
   rw[M] at L
   have v:Hid (x<W64):=M ▸ V.out.getD zI _
   have z:(xs.drop skip)[k]?.getD 0=x:=by rw[vP,tC];exact M
   have N:r.length=xs.length-skip:=by rw[←f.out];exact G.out.1
   have j:k<r.length:=qO
   have O:=g.out.cell j
   have Z:=g.out.frozen k
   obtain⟨z0,C⟩:=yE (r[k]?.getD 0)
   rw[C] at O
   have q3:=ZaV x t
   by_cases D:k+skip+1<xs.length
   ·obtain⟨b3,g0,e3,_,E⟩:=(U.out.ext m.out).at (i:=k+skip+1) D
    injection e3 with e3
    injection e3 with e31 e32
    subst e31 e32
    obtain⟨y,ey⟩:=yE (xs[k+skip+1]?.getD 0)
    rw[ey] at E
    have o:(xs.drop skip)[k+1]?.getD 0=y:=by rw[vP,show skip+(k+1)=k+skip+1 by omega];exact ey
    have l:=zh (G.out.step T (by rw[f.out];exact u) z o v.out)
    have q1:=aS y (64-t)
    have Q:=bH (a:=x/2^t) (b:=y*2^(64-t)%W64) (tF (vN _ _) v.out) (uP _ zI)
    rw[Zj7 T v.out] at Q
    obtain⟨lo,q⟩:=yE (x/2^t)
    obtain⟨hi,P⟩:=yE (y*2^(64-t)%W64)
    obtain⟨d,ed⟩:=yE (x/2^t+y%2^t*2^(64-t))
    rw[ed] at Q l
    rw[q] at Q q3
    rw[P] at q1 Q
    have B:=g.out.set k lo j
    have k0:=B.frozen k
    have a0:=B.cell (i:=k) (by simpa using j)
    have e4:(r.set k lo)[k]?.getD 0=lo:=by rw[sL j];rfl
    rw[e4] at a0
    have b0:=zh (B.set k d (by simpa using j))
    have i0:(wr.setCell ⟨b,k,none⟩ (.int .u64 (lo:Int))).cell? ⟨b2,K+(k+skip+1),none⟩=some (.int .u64 (y:Int)):=by
     rw[World.cell?_setCell_other _ _ _ _ (by intro e;injection e with e;have:=J.out;obtain⟨b',o',R,l0,_⟩:=U.out (by intro e0;rw[e0] at u;simp at u);injection R with R;injection R with R;omega)]
     exact E
    clear M z ey o C q P ed N B e4
    have c0:=zh (m.out.setCell (p:=⟨b,k,none⟩) (Or.inr (by have:=J.out;show w.heap.size≤b;omega)) (.int .u64 (lo:Int)))
    go_wp2
    clear E L
    generalize d0:wr.setCell ⟨b,k,none⟩ (.int .u64 (lo:Int))=wq at *
    clear d0 O Z
    go_region
    all_goals
     go_wp2
     go_roundw
     case rel=>exact⟨k+1,_,qO,by go_num,l,by have:=b0.out;rw[List.set_set] at this;exact this.drewN _,(c0.out.setCell (p:=⟨b,k,none⟩) (Or.inr (by have:=J.out;show w.heap.size≤b;omega)) _).drewN _⟩
     case measure=>simp[intOf];omega
   have o:(xs.drop skip)[k+1]?.getD 0=0:=by rw[vP,vI qO];rfl
   have l:=zh (G.out.step T (by rw[f.out];exact u) z o v.out)
   rw[Nat.zero_mod,sM,tB] at l
   obtain⟨lo,q⟩:=yE (x/2^t)
   rw[q] at q3 l
   have f0:=zh (g.out.set k lo j)
   clear M z o C q N
   go_wp2
   go_roundw
   case rel=>exact⟨k+1,_,qO,by go_num,l,f0.out,m.out.setCell (p:=⟨b,k,none⟩) (Or.inr (by have:=J.out;show w.heap.size≤b;omega)) _⟩
   case measure=>simp[intOf];omega
  obtain rfl:k=xs.length-skip:=qO
  have hz:r.length=xs.length-skip:=by rw[←f.out];exact G.out.1
  have HT:=zh (gM _ r (xs.length-skip) (xs.length-skip) wr hz g.out.shows0 qO qO)
  have HN:=zh (zD.of_own (c:=xs.length-skip) g.out G.out.2.1 qO)
  have F:=G.out
  rw[←f.out] at F
  rw[F.done,ZeE xs skip t V.out qO,← HS.out] at HN
  clear hz F
  go_wp2_with fail
  refine HT.out.mono ?_
  rintro e w2 ⟨rfl,rfl⟩
  clear HT
  go_wp2
  go_ret
  exact⟨_,_,_,rfl,HN.out,m.out,fun a h=>Or.inl (by injection h with h;subst h;have:=J.out;show w.heap.size≤b;omega)⟩
theorem ZdO (a:Value)(x s:Nat)(w:World)(e:zD w a x)(b:wl x≤4294967296)(i:s≤274877906944):yA 241 #[a,.int .u64 (s:Int)] w (ZaT w none none (x/2^s)):=by
 obtain⟨A,f,c,rfl,j,g,d,h,rfl⟩:=e
 rw[←xH d h] at b
 exact ZdN A f _ c s (s/64) (s%64) w rfl g b d qO qO qO
theorem top2 {B:Nat}{a:qN}{n:Nat}(h:a.length=n+2):val B a=val B (a.take n)+B^n*((a[n]?.getD 0)+B*(a[n+1]?.getD 0)):=by
 rw[wA (xs:=a) n,xO n qO,xO (n+1) qO,vG (by omega:a.length≤n+1+1),vA qO]
 simp
theorem top3 {B:Nat}{a:qN}{n:Nat}(h:a.length=n+3):val B a=val B (a.take n)+B^n*((a[n]?.getD 0)+B*((a[n+1]?.getD 0)+B*(a[n+2]?.getD 0))):=by
 rw[wA (xs:=a) n,xO n qO,xO (n+1) qO,xO (n+2) qO,vG (by omega:a.length≤n+2+1),vA qO]
 simp
def cE (u v d:Nat):Prop:=d*v≤u+v∧u<(d+1)*v
theorem ZdR (a:Nat){b:Nat}(c:0<b):a<(a/b+1)*b:=by
 have d:=vQ a b
 have e:=uP a c
 rw[vC,uF (a/b)]
 omega
theorem Zkb {B:Nat}{c b:qN}{n a v1:Nat}(o:2≤B)(p:b.length=n+2)(q:c.length=n+3)(g:Dig B b)(h:c[n+2]?.getD 0=a)(i:b[n+1]?.getD 0=v1)(d:v1≤a)(e:B≤2*v1)(j:val B c<val B b*B) :
 cE (val B c) (val B b) (B-1):=by
 have k:val B b=val B (b.take (n+1))+B^(n+1)*v1:=by
  have:=xA (B:=B) (xs:=b) (n+1) qO
  rw[uD qO,i] at this
  exact this
 have r:val B c=val B (c.take (n+2))+B^(n+2)*a:=by
  have:=xA (B:=B) (xs:=c) (n+2) qO
  rw[uD qO,h] at this
  exact this
 have f:=wL (g.take (n+1))
 rw[uM,vA qO] at f
 obtain⟨C,rfl⟩:∃ C,B=C+2:=⟨B-2,qO⟩
 refine⟨?_,by rw[show C+2-1+1=C+2 by omega,uF];exact j⟩
 have l:val (C+2) b≤(C+2)^(n+1)*(v1+1):=by rw[k,uK];omega
 have s:C*val (C+2) b≤C*((C+2)^(n+1)*(v1+1)):=uI C l
 have t:C*((C+2)^(n+1)*(v1+1))=(C+2)^(n+1)*(C*(v1+1)):=tE _ _ _
 have m:C*(v1+1)≤(C+2)*v1:=by rw[uK,vC];omega
 have u:(C+2)^(n+1)*(C*(v1+1))≤(C+2)^(n+1)*((C+2)*v1):=uI _ m
 have v:(C+2)^(n+2)*v1=(C+2)^(n+1)*((C+2)*v1):=by rw[uN,uH]
 have w:(C+2)^(n+2)*v1≤(C+2)^(n+2)*a:=uI _ d
 rw[show C+2-1=C+1 by omega,vC,rK]
 omega
theorem Zkc {B:Nat}{c d:qN}{n a b c0 v1 v0:Nat}(k:0<B)(o:d.length=n+2)(p:c.length=n+3)(q:Dig B d)(g:Dig B c)(r:c[n+2]?.getD 0=a)(l:c[n+1]?.getD 0=b)(m:c[n]?.getD 0=c0)(s:d[n+1]?.getD 0=v1)(t:d[n]?.getD 0=v0)(h:a<v1) :
 cE (val B c) (val B d) (((a*B+b)*B+c0)/(v1*B+v0)):=by
 have y:b<B:=l ▸ g.getD k _
 have z:c0<B:=m ▸ g.getD k _
 have A:a*B+b<v1*B:=by
  have:(a+1)*B≤v1*B:=uE B h
  rw[vC] at this;omega
 have u:((a*B+b)*B+c0)/(v1*B+v0)<B:=by
  rw[vO qO]
  have:(a*B+b+1)*B≤(v1*B+v0)*B:=uE B qO
  rw[vC (a*B+b)] at this
  rw[uF B]
  omega
 have i:B≤v1*B+v0:=by
  have:1*B≤v1*B:=uE B qO
  omega
 have v:=qG ((a*B+b)*B+c0) (v1*B+v0)
 have j:(a*B+b)*B+c0<(((a*B+b)*B+c0)/(v1*B+v0)+1)*(v1*B+v0):=ZdR _ qO
 have e:=wL (q.take n)
 have f:=wL (g.take n)
 rw[uM,vA qO] at e f
 have w:val B d=(v1*B+v0)*B^n+val B (d.take n):=by
  rw[top2 o,s,t,tC,uF (B^n),uF B v1,tC v0]
 have x:val B c=((a*B+b)*B+c0)*B^n+val B (c.take n):=by
  rw[top3 p,r,l,m,tC,uF (B^n),tC c0,uF B,tC b,uF B a]
 rw[w,x]
 exact⟨Zoe _ _ _ _ _ _ B e u (uE _ i) v,Zj1 _ _ _ _ _ _ f j⟩
theorem Zkd {P:Program}{f:FuncId}{args:Array Value}{w:World}{a n:Nat}{v:Value}(h:Calls P f args (w.drewN (a+n)) fun e w'=>e=.returned v∧∃ m,w'=(w.drewN (a+n)).drewN m) :
 Calls P f args (w.drewN (a+n)) fun e b=>e=.returned v∧∃ m,b=w.drewN (a+m) :=
 h.mono fun _ _ ⟨c,m,d⟩=>⟨c,n+m,by rw[d,World.drewN_drewN,sE]⟩
theorem Zi2 {H U v1 v0 u a ri:Nat}(c:0<H)(b:0<v1)(f:u<H)(h:a*v1+ri=U)(g:ri<v1):jV H U v1 v0 u a ri:=by
 refine⟨h,?_⟩
 have i:0<v1*H:=tZ b c
 rw[←Nat.lt_succ_iff,vO qO]
 have d:U<(a+1)*v1:=by rw[vC];omega
 have e:(U+1)*H≤(a+1)*v1*H:=uE _ d
 rw[pI,uK,← uH]
 rw[vC U] at e
 omega
theorem ZlK {p q rest c0:Nat}(c:zT p q<W64)(d:c0<W64):(xV p q<rest∨xV p q=rest∧zT p q≤c0)↔p*q≤W64*rest+c0:=by
 have h:=fE p q
 constructor
 ·rintro (b|⟨b,a⟩)
  ·have:W64*(xV p q+1)≤W64*rest:=uI _ b
   rw[uK] at this
   omega
  rw[b] at h;omega
 intro b
 rcases qB (xV p q) rest with a|a|a
 ·exact Or.inl a
 ·exact Or.inr ⟨a,by rw[a] at h;omega⟩
 have:W64*(rest+1)≤W64*xV p q:=uI _ a
 rw[uK] at this
 omega
def Zni (u v:Nat) (w:World) (e:Ending) (w':World):Prop:=∃ d:Nat,e=.returned (.int .u64 (d:Int))∧d<W64∧cE u v d∧∃ n,w'=w.drewN n
theorem Zgi (A A2:qA)(J K:qN)(n m c c2 k:Nat)(w:World)(hn:J.length=n)(hm:K.length=m)(O:zF .u64 w A J)(hV:zF .u64 w A2 K)(hk:K.length=k+2)(L:J.length=k+3)(hl:k≤1099511627776)(dw:Dig W64 J)(dv:Dig W64 K)(j:W64≤2*(K[k+1]?.getD 0))(hu:val W64 J<val W64 K*W64) :
 yA 243 #[.slice A n c,.slice A2 m c2] w (Zni (val W64 J) (val W64 K) w):=by
 obtain⟨b1,o1,rfl,_,c0⟩:=O.at (i:=k+2) qO
 obtain⟨d0,f0,s,_,g0⟩:=O.at (i:=k+1) qO
 injection s with s;injection s with f1 f2;subst f1 f2
 obtain⟨d0,f0,s,_,h0⟩:=O.at (i:=k) qO
 injection s with s;injection s with f1 f2;subst f1 f2
 obtain⟨b2,o2,rfl,_,i0⟩:=hV.at (i:=k+1) qO
 obtain⟨q0,r0,T,_,j0⟩:=hV.at (i:=k) qO
 injection T with T;injection T with f1 f2;subst f1 f2
 obtain⟨a,ea⟩:=yE (J[k+2]?.getD 0)
 obtain⟨P,eb⟩:=yE (J[k+1]?.getD 0)
 obtain⟨C,ec⟩:=yE (J[k]?.getD 0)
 obtain⟨v1,e1⟩:=yE (K[k+1]?.getD 0)
 obtain⟨v0,e0⟩:=yE (K[k]?.getD 0)
 rw[ea] at c0
 rw[eb] at g0
 rw[ec] at h0
 rw[e1] at i0 j
 rw[e0] at j0
 have s0:Hid (a<W64):=ea ▸ dw.getD zI _
 have U:Hid (P<W64):=eb ▸ dw.getD zI _
 have R:Hid (C<W64):=ec ▸ dw.getD zI _
 have B:Hid (v1<W64):=e1 ▸ dv.getD zI _
 have D:Hid (v0<W64):=e0 ▸ dv.getD zI _
 obtain rfl:m=k+2:=qO
 obtain rfl:n=k+3:=qO
 by_cases k0:v1≤a
 ·have HD:=zh (Zkb ZhX hk L dv ea e1 k0 j hu)
  clear O hV dw dv j hu ea eb ec e1 e0 hn hm hk L
  go_enter func243,ntmps243
  go_wp2
  have g3:IntKind.i64.wrap ((k:Int)+2-1)=(k:Int)+1:=by rw[IntKind.wrap_i64];omega
  have g4:IntKind.i64.wrap ((k:Int)+2-2)=(k:Int):=by rw[IntKind.wrap_i64];omega
  have g5:(0:Int)≤(k:Int)+1:=qO
  have g6:((k:Int)+1).toNat=k+1:=qO
  have g7:(k:Int)+1<(k:Int)+2:=qO
  have g8:(k:Int)<(k:Int)+2:=qO
  go_quiet (fail)
  clear g3 g4 g5 g6 g7 g8
  go_wp2
  go_ret
  exact⟨W64-1,by rw[show (((W64-1:Nat):Int))=18446744073709551615 by rw[zR];rfl];rfl,by have:=zI;omega,HD.out,_,rfl⟩
 have HD:=zh (Zkc zI hk L dv dw ea eb ec e1 e0 qO)
 have V:a<v1:=qO
 have hU:Hid (a*W64+P<v1*W64+v0):=by
  have:(a+1)*W64≤v1*W64:=uE _ V
  rw[vC] at this
  have:=U.out
  unfold Hid;omega
 have S:Hid (0<v1*W64+v0):=by have:=hU.out;unfold Hid;omega
 have HE:=zh (Zi2 (v0:=v0) (u:=C) zI qO R.out (Zbk a P v1) (ZaU _ _ qO))
 have l0:Hid (divQ a P v1<W64):=ZeB V U.out
 have m0:Hid (divR a P v1<W64):=qJ (ZaU _ _ qO) B.out
 clear O hV dw dv j hu ea eb ec e1 e0 hn hm hk L
 go_enter func243,ntmps243
 go_wp2
 have g3:IntKind.i64.wrap ((k:Int)+2-1)=(k:Int)+1:=by rw[IntKind.wrap_i64];omega
 have g4:IntKind.i64.wrap ((k:Int)+2-2)=(k:Int):=by rw[IntKind.wrap_i64];omega
 have g5:(0:Int)≤(k:Int)+1:=qO
 have g6:((k:Int)+1).toNat=k+1:=qO
 have g7:(k:Int)+1<(k:Int)+2:=qO
 have g8:(k:Int)<(k:Int)+2:=qO
 go_quiet (fail)
 clear g3 g4 g5 g6 g7 g8
 go_wp2
 have g3:IntKind.i64.wrap ((k:Int)+2-1)=(k:Int)+1:=by rw[IntKind.wrap_i64];omega
 have g5:(0:Int)≤(k:Int)+1:=qO
 have g6:((k:Int)+1).toNat=k+1:=qO
 have g7:(k:Int)+1<(k:Int)+3:=qO
 have g8:(k:Int)+2<(k:Int)+3:=qO
 have g9:(0:Int)≤(k:Int)+2:=qO
 have n0:((k:Int)+2).toNat=k+2:=qO
 go_quiet ((go_at_call 174;exact Zkd (Zak _ _ _ _ V B.out U.out)))
 clear g3 g5 g6 g7 g8 g9 n0
 go_wp2
 go_loopw [8,9] (fun qv rv wr=>∃ q r m:Nat,qv=.int .u64 (q:Int)∧rv=.int .u64 (r:Int)∧Hid (q<W64)∧Hid (r<W64)∧Hid (jV W64 (a*W64+P) v1 v0 C q r)∧Hid (wr=w.drewN m)) (fun qv _ _=>(intOf qv).toNat)
 case atStart=>exact⟨_,_,_,rfl,rfl,l0,m0,HE,World.drewN_drewN _ _ _⟩
 case round =>
  obtain⟨q,r,m,rfl,rfl,t,M,Q,O⟩:=hrel
  obtain rfl:=O.out
  clear O
  have a0:∀ hh:W64*r+C<q*v0,Hid (jV W64 (a*W64+P) v1 v0 C (q-1) (r+v1)):=fun hh=>aQ S.out hh Q.out
  have b0:=zh a0
  clear a0
  have d:=zh (ZlK (p:=q) (q:=v0) (rest:=r) (ZlF _ _) R.out)
  have E:∀ hh:q*v0≤W64*r+C,q=((a*W64+P)*W64+C)/(v1*W64+v0):=fun hh=>dY S.out hh Q.out
  have F:=zh E
  clear E
  obtain⟨hi,W⟩:=yE (xV q v0)
  obtain⟨lo,X⟩:=yE (zT q v0)
  rw[W,X] at d
  have f:=zh (bF q v0 t.out D.out (w.drewN m))
  rw[W,X] at f
  clear W X
  by_cases t1:hi<r
  ·have Y:=zh (F.out (d.out.1 (Or.inl t1)))
   have o0:=fW t1
   go_wp2_with (go_at_call 161;refine f.out.mono ?_;rintro e w' ⟨rfl,rfl⟩)
   go_ret
   exact⟨q,rfl,t.out,by rw[Y.out];exact HD.out,_,rfl⟩
  have o0:=gO t1
  by_cases t2:hi=r
  ·subst t2
   by_cases t3:lo≤C
   ·have Y:=zh (F.out (d.out.1 (Or.inr ⟨rfl,t3⟩)))
    go_wp2_with (go_at_call 161;refine f.out.mono ?_;rintro e w' ⟨rfl,rfl⟩)
    go_ret
    exact⟨q,rfl,t.out,by rw[Y.out];exact HD.out,_,rfl⟩
   have v:W64*hi+C<q*v0:=by
    rcases vM (W64*hi+C) (q*v0) with h|h
    ·exact h
    rcases d.out.2 h with h|h<;>omega
   have x:=b0.out v
   have l:0<q:=by
    rcases uJ q with e|e
    ·rw[e,sM] at v;omega
    exact e
   clear v
   have g1:=gE l t.out
   obtain⟨N,G⟩:=yE (q-1)
   rw[G] at g1 x
   have p0:N<q:=qO
   have o:Hid (N<W64):=by have:=t.out;unfold Hid;omega
   have y:=zh x.out
   clear G x l
   by_cases z:hi+v1<W64
   ·have Z:=kX z
    obtain⟨H,g⟩:=yE (hi+v1)
    rw[g] at Z y
    have t5:=gO (a:=H) (b:=v1) qO
    have I:Hid (H<W64):=by unfold Hid;omega
    clear g z
    go_wp2_with (go_at_call 161;refine f.out.mono ?_;rintro e w' ⟨rfl,rfl⟩)
    go_roundw
    case rel=>exact⟨N,H,_,rfl,rfl,o,I,y,rfl⟩
    case measure=>simp[intOf];omega
   have Y:=zh (jO hU.out D.out qO y.out)
   have Z:IntKind.u64.wrap ((hi:Int)+(v1:Int))=((hi+v1-W64:Nat):Int):=by
    have h1:=M.out
    have h2:=B.out
    rw[zR] at *
    rw[IntKind.wrap_u64]
    omega
   obtain⟨H,g⟩:=yE (hi+v1-W64)
   rw[g] at Z
   have t5:=fW (a:=H) (b:=v1) (by have:=M.out;omega)
   clear g z
   go_wp2_with (go_at_call 161;refine f.out.mono ?_;rintro e w' ⟨rfl,rfl⟩)
   go_ret
   exact⟨N,rfl,o.out,by rw[Y.out];exact HD.out,_,rfl⟩
  have t0:((hi:Int) == (r:Int))=false:=by simp;omega
  have v:W64*r+C<q*v0:=by
   rcases vM (W64*r+C) (q*v0) with h|h
   ·exact h
   rcases d.out.2 h with h|h<;>omega
  have x:=b0.out v
  have l:0<q:=by
   rcases uJ q with e|e
   ·rw[e,sM] at v;omega
   exact e
  clear v
  have g1:=gE l t.out
  obtain⟨N,G⟩:=yE (q-1)
  rw[G] at g1 x
  have p0:N<q:=qO
  have o:Hid (N<W64):=by have:=t.out;unfold Hid;omega
  have y:=zh x.out
  clear G x l
  by_cases z:r+v1<W64
  ·have Z:=kX z
   obtain⟨H,g⟩:=yE (r+v1)
   rw[g] at Z y
   have t5:=gO (a:=H) (b:=v1) qO
   have I:Hid (H<W64):=by unfold Hid;omega
   clear g z
   go_wp2_with (go_at_call 161;refine f.out.mono ?_;rintro e w' ⟨rfl,rfl⟩)
   go_roundw
   case rel=>exact⟨N,H,_,rfl,rfl,o,I,y,rfl⟩
   case measure=>simp[intOf];omega
  have Y:=zh (jO hU.out D.out qO y.out)
  have Z:IntKind.u64.wrap ((r:Int)+(v1:Int))=((r+v1-W64:Nat):Int):=by
   have h1:=M.out
   have h2:=B.out
   rw[zR] at *
   rw[IntKind.wrap_u64]
   omega
  obtain⟨H,g⟩:=yE (r+v1-W64)
  rw[g] at Z
  have t5:=fW (a:=H) (b:=v1) (by have:=M.out;omega)
  clear g z
  go_wp2_with (go_at_call 161;refine f.out.mono ?_;rintro e w' ⟨rfl,rfl⟩)
  go_ret
  exact⟨N,rfl,o.out,by rw[Y.out];exact HD.out,_,rfl⟩
end Go.Proofs.YtenchljfmfgeoaaGreatDoor
namespace Go.Proofs.YtenchljfmfgeoaaGreatDoor
theorem ZlL {u v d:Nat}(h:cE u v d)(a:d*v≤u):d=u/v:=by
 have b:=h.2
 have c:u<(d+1)*v:=b
 have:=Nat.div_eq_of_lt_le (m:=u) (n:=v) (k:=d) qO (by simpa using c)
 exact this.symm
theorem Zi3 {u v d:Nat}(h:cE u v d)(a:u<d*v):0<d∧d-1=u/v:=by
 have b:=h.1
 have f:0<d:=by
  rcases uJ d with e|e
  ·subst e;simp at a
  exact e
 obtain⟨c,rfl⟩:∃ c,d=c+1:=⟨d-1,qO⟩
 refine⟨f,?_⟩
 have e:c+1-1=c:=qO
 rw[e]
 rw[vC] at b
 exact (Nat.div_eq_of_lt_le (m:=u) (n:=v) (k:=c) qO (by simpa using a)).symm
theorem Zi4 {P v u c b d a m:Nat}(n:v≤P)(j:u=c+P*b)(i:cE u v d)(o:m+v*d=c+P*a)(k:a≤b) :
 d=u/v∧m=u%v∧b=a:=by
 have e:u=d*v+(m+P*(b-a)):=by
  obtain⟨t,rfl⟩:∃ t,b=a+t:=⟨b-a,qO⟩
  rw[show a+t-a=t by omega,j,uK,uF d]
  omega
 have l:=ZlL i qO
 have f:m+P*(b-a)<v:=by
  have:=i.2
  rw[vC] at this
  omega
 have g:b-a=0:=by
  rcases uJ (b-a) with h|h
  ·exact h
  have:P*1≤P*(b-a):=uI P h
  omega
 refine⟨l,?_,qO⟩
 rw[g] at e f
 simp only[tD,tB] at e f
 rw[e,uF,rX,vL f]
theorem Zke {P v u b a d borrow m f c:Nat}(i:0<v)(z:v≤P)(A:u=b+P*a)(s:cE u v d)(t:m+v*d=b+P*borrow)(j:a<borrow)(w:m<P)(x:f+P*c=m+v)(p:f<P):0<d∧d-1=u/v∧f=u%v∧c+a=borrow:=by
 have k:u<d*v:=by
  have:P*(a+1)≤P*borrow:=uI P j
  rw[uK] at this
  rw[uF d]
  omega
 obtain⟨l,n⟩:=Zi3 s k
 obtain⟨q,rfl⟩:∃ q,d=q+1:=⟨d-1,qO⟩
 have e:q+1-1=q:=qO
 rw[e] at n ⊢
 refine⟨l,n,?_⟩
 have g:=vQ u v
 have y:=uP u i
 rw[←n,uF] at g
 rw[uK] at t
 -- f + P*(c + a)=u % v + P * borrow
 have o:f+P*(c+a)=u%v+P*borrow:=by
  rw[uK,uF q] at *
  omega
 have r:c+a=borrow:=by
  rcases qB (c+a) borrow with h|h|h
  ·have:P*(c+a+1)≤P*borrow:=uI P h
   rw[uK] at this
   omega
  ·exact h
  have:P*(borrow+1)≤P*(c+a):=uI P h
  rw[uK] at this
  omega
 rw[r] at o
 exact⟨qO,r⟩
def gU (X v n k:Nat) (rs qs:List Nat):Prop :=
 Dig W64 rs∧Dig W64 qs∧rs.length=qs.length+n∧val W64 rs+val W64 (qs.drop k)*W64^k*v=X∧val W64 (rs.drop k)<v
theorem gU.window {X v n k:Nat}{a c:qN}(h:gU X v n (k+1) a c)(g:v≤W64^n)(i:k+n<a.length) :
 val W64 (a.drop k)=val W64 ((a.drop k).take (n+1))∧val W64 (a.drop k)<v*W64∧val W64 (a.drop (k+n+1))=0:=by
 obtain⟨d,j,l,m,f⟩:=h
 have b:val W64 (a.drop (k+n+1))=0:=by
  have e:=wA (B:=W64) (xs:=a.drop (k+1)) n
  rw[vV,show k+1+n=k+n+1 by omega,vA (by simp;omega)] at e
  rcases uJ (val W64 (a.drop (k+n+1))) with h|h
  ·exact h
  have:W64^n*1≤W64^n*val W64 (a.drop (k+n+1)):=uI _ h
  omega
 refine⟨?_,?_,b⟩
 ·have e:=wA (B:=W64) (xs:=a.drop k) (n+1)
  rw[vV,show k+(n+1)=k+n+1 by omega,b] at e
  simpa using e
 rw[xO k qO]
 have o:=d.getD zI k
 have:W64*(val W64 (a.drop (k+1))+1)≤W64*v:=uI _ f
 rw[uK] at this
 rw[uF v]
 omega
theorem gU.step {X v n k q:Nat}{a c m:qN}(h:gU X v n (k+1) a c)(e:0<v)(s:v≤W64^n)(t:k+n<a.length)(u:m.length=n)(w:Dig W64 m)(l:q=val W64 (a.drop k)/v)(o:val W64 m=val W64 (a.drop k)%v) :
 gU X v n k (a.take k ++ m ++ (0 :: a.drop (k+n+1))) (c.set k q):=by
 obtain⟨E,x,y⟩:=h.window s t
 obtain⟨p,z,F,G,H⟩:=h
 have f:k<c.length:=qO
 have i:q<W64:=by rw[l,vO e,uF];exact x
 have g:(a.take k).length=k:=by simp;omega
 have b:val W64 (m ++ (0 :: a.drop (k+n+1)))=val W64 m:=by
  rw[kJ,iT,y];simp
 have d:(a.take k ++ m ++ (0 :: a.drop (k+n+1))).drop k=m ++ (0 :: a.drop (k+n+1)):=by
  rw[vS,List.drop_append,g,vG qO,sX];simp
 refine⟨((p.take k).append w).append (Dig.cons zI (p.drop _)),z.set k i,?_,?_,?_⟩
 ·simp[u];omega
 ·rw[vS,kJ,g,b,o]
  rw[xO (xs:=c.set k q) k (by simpa using f),vZ qO]
  have j:(c.set k q)[k]?.getD 0=q:=by rw[sL f];rfl
  rw[j]
  have A:=wA (B:=W64) (xs:=a) k
  rw[vA qO] at A
  have r:=vQ (val W64 (a.drop k)) v
  rw[←l] at r
  have C:=vF (W64^k * ·) r
  simp only[uK] at C
  rw[vC,vC]
  have e4:q*W64^k*v=W64^k*(v*q):=by rw[uF q,uH,uF q]
  have D:W64*val W64 (c.drop (k+1))*W64^k*v=val W64 (c.drop (k+1))*W64^(k+1)*v:=by
   rw[uN,uF W64 (val W64 _),uH (val W64 _) W64,uF W64 (W64^k)]
  rw[e4,D]
  omega
 rw[d,b,o];exact uP _ e
theorem gU.done {X v n:Nat}{c d:qN}(h:gU X v n 0 c d):val W64 d=X/v∧val W64 c=X%v:=by
 obtain⟨e,f,g,a,b⟩:=h
 rw[tX] at a b
 simp only[vT,tP] at a
 rw[←a,tC,uF,rF qO,rX,vL b,tJ b]
 exact⟨qO,rfl⟩
theorem gU.start {x y s L n:Nat}{a:qN}(c:Dig W64 a)(m:a.length=L+1)(b:val W64 a=x*2^s)(d:x<W64^L)(f:W64^(n-1)≤y)(o:1≤n)(g:n≤L) :
 gU (x*2^s) (y*2^s) n (L-n+1) a (List.replicate (L-n+1) 0):=by
 refine⟨c,Dig.replicate zI _,by simp;omega,?_,?_⟩
 ·rw[vG qS];simp[b]
 have e:=wA (B:=W64) (xs:=a) (L-n+1)
 rw[vA qO,b] at e
 have h:0<2^s:=vE qO
 have p:W64^(L-n+1)*val W64 (a.drop (L-n+1))≤x*2^s:=qO
 have i:x*2^s<W64^L*2^s:=sI d h
 have j:W64^L=W64^(L-n+1)*W64^(n-1):=by rw[←uT,show L-n+1+(n-1)=L by omega]
 rw[j,uH] at i
 have k:W64^(L-n+1)*val W64 (a.drop (L-n+1))<W64^(L-n+1)*(W64^(n-1)*2^s):=qO
 have l:=sN k
 exact uQ l (uE _ f)
theorem Zkf {ys a:qN}{n yt s:Nat}(w:ys.length=n+1)(l:Dig W64 ys)(m:ys[n]?.getD 0=yt)(e:0<yt)(x:64-Lib.bitLen yt=s)(o:Dig W64 a)(p:Trim a)(q:val W64 a=val W64 ys*2^s) :
 a.length=n+1∧W64≤2*(a[n]?.getD 0)∧W64^n≤val W64 ys∧s≤63:=by
 have f:yt<W64:=m ▸ l.getD zI _
 obtain⟨y,z,r,t⟩:=gT e f
 have A:val W64 ys=val W64 (ys.take n)+W64^n*yt:=by
  have:=xA (B:=W64) (xs:=ys) n qO
  rw[uD qO,m] at this
  exact this
 have g:=wL (l.take n)
 rw[uM,vA qO] at g
 have u:0<2^s:=vE qO
 have i:val W64 ys*2^s<W64^(n+1):=by
  have d:val W64 ys<W64^n*2^Lib.bitLen yt:=by
   have:W64^n*(yt+1)≤W64^n*2^Lib.bitLen yt:=uI _ t
   rw[uK] at this
   omega
  have b:=sI d u
  rw[uH,← uT,show Lib.bitLen yt+s=64 by omega] at b
  rw[uN,zR] at *
  exact b
 have v:W64^n*2^63≤val W64 ys*2^s:=by
  have d:W64^n*2^(Lib.bitLen yt-1)≤val W64 ys:=by
   have:W64^n*2^(Lib.bitLen yt-1)≤W64^n*yt:=uI _ r
   omega
  have b:=uE (2^s) d
  rw[uH,← uT,show Lib.bitLen yt-1+s=63 by omega] at b
  exact b
 have j:a.length≤n+1:=kW gC p (q ▸ i)
 have k:n+1≤a.length:=by
  rcases vM a.length (n+1) with h|h
  ·have d:=wL o
   have b:W64^a.length≤W64^n:=uW zI qO
   have C:W64^n*1≤W64^n*2^63:=uI _ qD
   omega
  exact h
 refine⟨qO,?_,?_,qO⟩
 ·have D:val W64 a=val W64 (a.take n)+W64^n*(a[n]?.getD 0):=by
   have:=xA (B:=W64) (xs:=a) n qO
   rw[uD qO] at this
   exact this
  have c:=wL (o.take n)
  rw[uM,vA qO] at c
  have d:W64^n*2^63<W64^n*((a[n]?.getD 0)+1):=by rw[uK];omega
  have b:=sN d
  rw[zR]
  omega
 have:W64^n*1≤W64^n*yt:=uI _ e
 omega
end Go.Proofs.YtenchljfmfgeoaaGreatDoor
namespace Go.Proofs.YtenchljfmfgeoaaGreatDoor
open Go.RowKit Tryz
def ZaW (w:World) (q r:Nat) (e:Ending) (w':World):Prop:=∃ u v,e=.returned (.tuple #[u,v])∧zD w' u q∧zD w' v r∧Ext w w'
def eZ (w:World) (A A2:Option Addr) (q r:Nat) (e:Ending) (w':World):Prop:=∃ D m d B l c,e=.returned (.tuple #[.slice D m d,.slice B l c])∧zD w' (.slice D m d) q∧zD w' (.slice B l c) r∧Ext w w'∧∀ a,B=some a→w.heap.size≤a.block∨B=A∨B=A2
theorem eZ.ret {w w':World}{A a:qA}{q r:Nat}{e:Ending}(h:eZ w A a q r e w'):ZaW w q r e w':=by
 obtain⟨D,m,d,B,l,c,rfl,b,f,g,_⟩:=h
 exact⟨_,_,rfl,b,f,g⟩
theorem fI {a b:Nat}:cmpI a b<0↔a<b:=by
 unfold cmpI
 split
 ·omega
 split<;>omega
theorem ZdS (A:qA)(l c:Nat)(k:Value)(x y:Nat)(w:World)(n:zD w (.slice A l c) x)(r:zD w k y)(s:wl x≤4294967296)(t:wl y≤4294967296)(b:x<y) :
 yA 217 #[.slice A l c,k] w (eZ w A A 0 x):=by
 have u:=zh n
 obtain⟨_,v,_,h,z,o,d,f,rfl⟩:=n
 injection h with e1 e2 e3
 subst e1 e2 e3
 obtain⟨B,C,D,rfl,g,p,i,j,rfl⟩:=r
 rw[←xH d f] at s
 rw[←xH i j] at t
 have q:=zh (gN A B v C _ _ c D w rfl rfl o p qO qO d i f j)
 rw[eW qO] at q
 clear o d f p i j b z g
 go_enter func217,ntmps217
 go_wp2_with (go_at_call 184;refine q.out.mono ?_;rintro e w' ⟨rfl,m,rfl⟩)
 go_ret2
 exact⟨none,0,0,_,_,_,rfl,zD.zero _,u.out.ext ((Fr.refl _ _).drewN _),(Fr.refl _ _).drewN _,fun a _=>Or.inr (Or.inl rfl)⟩
theorem Zdq (N O:Value)(x y:Nat)(w:World)(Y:zD w N x)(Z:zD w O y)(P:wl x≤4294967296)(B:wl y=1)(C:y≤x) :
 yA 217 #[N,O] w (eZ w none none (x/y) (x%y)):=by
 obtain⟨A,s,c,rfl,hc,E,t,F,rfl⟩:=Y
 obtain⟨A2,ys,G,rfl,H,I,u,z,rfl⟩:=Z
 rw[←xH t F] at P
 rw[←xH u z] at B
 obtain⟨y,rfl⟩:=List.length_eq_one_iff.1 B
 have Q:=zh (gN A A2 s [y] _ _ c G w rfl rfl E I qO qS t u F z)
 obtain⟨R,f⟩:=yE (cmpI (val W64 s) (val W64 [y]))
 have a0:0≤R:=by
  rcases Int.lt_or_le R 0 with h|h
  ·rw[←f] at h;have:=fI.1 h;omega
  exact h
 rw[f] at Q
 have k:val W64 [y]=y:=qS
 rw[k]
 have g:0<y:=by have:=z 0 qS;simp at this;omega
 have j:y<W64:=u.head
 obtain⟨b,o,rfl,_,l⟩:=I.at (i:=0) qS
 have S:w.cell? ⟨b,o,none⟩=some (.int .u64 (y:Int)):=by simpa using l
 have T:=fun w' (hf:Ext w w')=>zh (ZeC A s _ c y w' rfl (E.ext hf) P t g j)
 have J:=zh T
 have K:Hid (val W64 s%y<W64):=qJ (uP _ g) j
 clear E t F I u z hc H f C l T B k g j
 go_enter func217,ntmps217
 go_wp2_with (first
  | (go_at_call 184;refine Q.out.mono ?_;rintro e w' ⟨rfl,m,rfl⟩)
  | (go_at_call 242;refine (J.out _ ((Fr.refl _ _).drewN _)).out.mono ?_;rintro e w1 ⟨v,rfl,U,V⟩;have W:=zh U;have X:=zh V;clear U V)
  | (go_at_call 190;refine (ZbY _ _ K.out).mono ?_;rintro e w2 ⟨B2,l2,G,rfl,n,p,q⟩;have L:=zh n;have r:=zh p;have M:=zh q;clear n p q))
 go_ret2
 obtain⟨D,m,d,rfl⟩:∃ D m d,v=.slice D m d:=by obtain⟨D,b0,d,h,_⟩:=W.out;exact⟨D,_,d,h⟩
 exact⟨D,m,d,B2,l2,G,rfl,W.out.ext r.out,L.out,(((Fr.refl _ _).drewN _).ext X.out).ext r.out,fun a h=>(M.out a h).imp (uC (show Ext w _ from ((Fr.refl _ _).drewN _).ext X.out).size) id⟩
theorem ZhZ (a m:qN)(b:qN)(j n v:Nat)(c:a.length=j)(d:m.length=n)(e:j+n<b.length):(a ++ m ++ b.drop (j+n)).set (j+n) v=a ++ m ++ (v :: b.drop (j+n+1)):=by
 have f:(a ++ m).length=j+n:=by simp[c,d]
 rw[qW _ _ qO,f,sX,sB e]
 rfl
theorem Znj (a m:qN)(b:qN)(j n:Nat)(c:a.length=j)(d:m.length=n):(a ++ m ++ b.drop (j+n))[j+n]?.getD 0=b[j+n]?.getD 0:=by
 have e:(a ++ m).length=j+n:=by simp[c,d]
 rw[tV qO,e,sX,vP];rfl
theorem ZlM (a m l:qN)(t v j n:Nat)(b:a.length=j)(c:m.length=n):(a ++ m ++ (t :: l)).set (j+n) v=a ++ m ++ (v :: l):=by
 have d:(a ++ m).length=j+n:=by simp[b,c]
 rw[qW _ _ qO,d,sX]
 rfl
theorem ZlN (a m l:qN)(t j n:Nat)(b:a.length=j)(c:m.length=n):(a ++ m ++ (t :: l))[j+n]?.getD 0=t:=by
 have d:(a ++ m).length=j+n:=by simp[b,c]
 rw[tV qO,d,sX]
 rfl
theorem Zc3 (A A2:qA)(xs ys:qN)(c c2 f:Nat)(w:World)(hX:zF .u64 w A xs)(hY:zF .u64 w A2 ys)(hc:xs.length≤c)(Y0:ys.length≤c2)(hl:xs.length≤4294967296)(hk:ys.length=f+2)(dx:Dig W64 xs)(dy:Dig W64 ys)(tx:Trim xs)(ty:Trim ys)(Z0:val W64 ys≤val W64 xs) :
 yA 217 #[.slice A xs.length c,.slice A2 ys.length c2] w (eZ w none none (val W64 xs/val W64 ys) (val W64 xs%val W64 ys)):=by
 have a1:f+2≤xs.length:=by
  have:=wE Z0
  rw[←xH dx tx,← xH dy ty] at this
  omega
 have HC:=zh (gN A A2 xs ys _ _ c c2 w rfl rfl hX hY qO qO dx dy tx ty)
 obtain⟨cr,y0⟩:=yE (cmpI (val W64 xs) (val W64 ys))
 have T2:0≤cr:=by
  rcases Int.lt_or_le cr 0 with h|h
  ·rw[←y0] at h;have:=fI.1 h;omega
  exact h
 rw[y0] at HC
 clear y0
 obtain⟨bY,oY,rfl,_,C⟩:=hY.at (i:=f+1) qO
 obtain⟨yt,m0⟩:=yE (ys[f+1]?.getD 0)
 rw[m0] at C
 have U:0<yt:=by have:=ty (f+1) qO;omega
 have W:Hid (yt<W64):=m0 ▸ dy.getD zI _
 obtain⟨s,hs⟩:=yE (64-Lib.bitLen yt)
 have Z1:=gT U W.out
 have b1:Hid (64-(Lib.bitLen yt:Int)=(s:Int)):=by unfold Hid;omega
 have c1:s≤63:=qO
 have NX:Hid (zD w (.slice A xs.length c) (val W64 xs)):=⟨A,xs,c,rfl,hc,hX,dx,tx,rfl⟩
 have NY:Hid (zD w (.slice (some ⟨bY,oY,none⟩) ys.length c2) (val W64 ys)):=⟨_,ys,c2,rfl,Y0,hY,dy,ty,rfl⟩
 have e1:Hid (wl (val W64 xs)≤4294967296):=by unfold Hid;rw[←xH dx tx];omega
 have f1:Hid (wl (val W64 ys)≤4294967296):=by unfold Hid;rw[←xH dy ty];omega
 have i1:=zh dx
 have a2:=zh dy
 have HS:=zh hs
 have j1:=zh m0
 have HK:=zh hk
 clear hX hY hc Y0 dx dy tx ty Z0 Z1 hs m0
 obtain⟨n,hn⟩:=yE ys.length
 rw[hn] at HC NY
 rw[hn] at HK
 rw[hn]
 have HN:=zh hn
 have b2:n=f+2:=HK.out
 subst b2
 clear hn hk HK
 have l1:(((f:Int)+2) == 1)=false:=by simp;omega
 have R2:decide (cr<0)=false:=by rw[tW];omega
 go_enter func217,ntmps217
 go_wp2_with (first
  | (go_at_call 184;refine HC.out.mono ?_;rintro e w' ⟨rfl,m,rfl⟩)
  | (go_at_call 194;refine (cC _ _ W.out).mono ?_;rintro e w' ⟨rfl,rfl⟩;rw[b1.out]))
 refine (ZbZ _ _ s _ (NY.out.ext ((Fr.refl _ _).drewN _)) f1.out qO).mono ?_
 rintro e wD ⟨vD,rfl,d2,m1⟩
 obtain⟨AD,Y,cD,rfl,e2,o1,A0,p1,B0⟩:=d2
 obtain⟨n1,n2,n3,n4⟩:=Zkf (n:=f+1) HN.out a2.out j1.out U HS.out A0 p1 B0
 have r1:=zh o1
 have n0:=zh A0
 have C0:Hid (Ext w wD):=((Fr.refl _ _).drewN _).ext m1
 have N:=zh B0
 have x:=zh n1
 have f2:=zh n2
 have s1:=zh n3
 rw[n1]
 clear o1 A0 p1 B0 m1 n1 n2 n3 n4 e2 C HC U W b1 HS j1
 go_wp2_with (
  at_make
  refine kN rfl _ _ _ rfl _ _ _ underlying106 gS _ _ _ _ (xs.length+1) rfl rfl qO qO qO qO ?_
  intro R w1 I E _ F i2
  have u1:Hid (Own .u64 141 w1 R ([] ++ List.replicate (xs.length+1) 0 ++ [])):=by simpa [Hid] using E
  have D0:=zh F
  have HR:=zh I
  clear E F I i2)
 refine (ZbZ _ _ s _ (NX.out.ext (C0.out.ext D0.out)) e1.out qO).mono ?_
 rintro e w2 ⟨v2,rfl,j2,v1⟩
 obtain⟨A3,x2,c3,rfl,l2,x1,d3,t3,E0⟩:=j2
 have y1:=zh x1
 have F0:=zh v1
 have z1:=zh d3
 have A1:=zh E0
 have o0:Hid (x2.length≤xs.length+1):=by
  unfold Hid
  refine kW gC t3 ?_
  rw[E0,uN]
  have h1:=wL i1.out
  have h2:2^s≤W64:=by rw[zR];exact uC (uW qO c1) qD
  exact uQ (sI h1 (vE qO)) (uI _ h2)
 clear x1 v1 d3 t3 E0 l2 NX e1 NY f1
 go_wp2_with (first
  | (
   with_reducible refine bR rfl (.tmp 57) (.tmp 60) _ _ rfl _ _ underlying106 Zne _ _ _ _ _ _ rfl rfl R [] (List.replicate (xs.length+1) 0) [] x2 qS rfl (u1.out.ext F0.out) y1.out (fun _=>rfl) ?_
   intro w3 z B1 _ C1 o2
   have O:=zh B1
   have D1:=zh C1
   clear B1 C1 o2)
  | (
   at_make
   refine kN rfl _ _ _ rfl _ _ _ underlying106 gS _ _ _ _ (xs.length-(f+2)+1) rfl rfl qO qO qO qO ?_
   intro Z w4 hQ E1 _ F1 p2
   have G1:=zh E1
   have G0:=zh F1
   have HQ:=zh hQ
   clear E1 F1 hQ p2))
 have l:Hid (R<Z):=by
  have h1:=O.out.lt
  have h2:=HQ.out
  unfold Hid;omega
 have hV:Hid (val W64 Y≤W64^(f+2)):=by
  have:=wL n0.out
  rw[x.out] at this
  exact pS this
 have a0:Hid (0<val W64 Y):=by
  rw[N.out]
  have h1:=s1.out
  have h2:=vE (n:=f+1) zI
  exact tZ qO (vE qO)
 obtain⟨X,eX⟩:=yE (val W64 xs*2^s)
 have HX:=zh eX
 have H0:Hid (∃ g,Own .u64 141 w4 R g∧g.length=xs.length+1∧gU X (val W64 Y) (f+2) (xs.length-(f+2)+1) g (List.replicate (xs.length-(f+2)+1) 0)):=by
  refine⟨x2 ++ List.replicate (xs.length+1-x2.length) 0,?_,?_,?_⟩
  ·have h:=O.out
   rw[uD (by simp;exact o0.out),List.drop_replicate] at h
   have h':Own .u64 141 w3 R (x2 ++ List.replicate (xs.length+1-x2.length) 0):=by simpa using h
   exact h'.ext G0.out
  ·have:=o0.out
   simp;omega
  rw[←HX.out,N.out]
  refine gU.start (L:=xs.length) (z1.out.append (Dig.replicate zI _)) (by have:=o0.out;simp;omega) ?_ (wL i1.out) (by simpa using s1.out) qO a1
  rw[kJ,iF,A1.out];simp
 have H1:Hid (Ext wD w4):=by
  have h1:=HR.out
  exact ((D0.out.ext F0.out).next D1.out (fun i hi e=>qO)).ext G0.out
 clear O D1 y1 z1 A1 o0 D0 F0 G0 u1 l1 eX
 obtain⟨V,eV⟩:=yE (val W64 Y)
 have HV:=zh eV
 rw[eV] at hV a0 H0
 clear eV
 go_loopw [13] (fun i wr=>∃ (k:Nat) (g qs:List Nat),k≤xs.length-(f+2)+1∧i=.int .i64 ((k:Int)-1)∧Hid (gU X V (f+2) k g qs)∧Hid (g.length=xs.length+1)∧Hid (Own .u64 141 wr R g)∧Hid (Own .u64 141 wr Z qs)∧Hid (Ext wD wr)) (fun i _=>(intOf i+1).toNat)
 case atStart =>
  obtain⟨g,h1,h2,h3⟩:=H0.out
  exact⟨xs.length-(f+2)+1,g,_,uG _,by go_num,h3,h2,h1,G1.out,H1.out⟩
 case round =>
  clear H0 G1 H1
  obtain⟨k,g,qs,hk,rfl,I,B,E,I0,F⟩:=hrel
  by_cases U2:0<k
  ·obtain⟨j,rfl⟩:∃ j,k=j+1:=⟨k-1,qO⟩
   have ej:(((j+1:Nat):Int)-1)=(j:Int):=qO
   rw[ej]
   clear ej
   have V2:j+(f+2)<xs.length+1:=qO
   have o:=B.out
   obtain⟨q1,q2,q3⟩:=I.out.window hV.out qO
   have p0:((g.drop j).take (f+3)).length=f+3:=by simp;omega
   have J0:Hid (zF .u64 wr AD Y):=r1.out.ext F.out
   have b0:=zh (Zgi (some ⟨R,j,none⟩) AD ((g.drop j).take (f+3)) Y (j+(f+2)+1-j) (f+1+1) (xs.length+1-j) cD f wr qO x.out (E.out.shows j (f+3)) J0.out x.out p0 qO ((I.out.1.drop j).take _) n0.out f2.out (by rw[←q1,HV.out];exact q2))
   rw[←q1,HV.out] at b0
   have W2:=zh q2
   clear q1 q2 q3 p0 o
   go_wp2_with fail
   (with_reducible refine b0.out.mono ?_)
   rintro e w5 ⟨d,rfl,K0,t0,n5,rfl⟩
   clear b0
   have q0:Hid (∀ a,AD=some a→a.block≠R):=by
    intro a ha
    obtain⟨b',o',e',X2,_⟩:=r1.out.at (i:=0) (by rw[x.out];omega)
    rw[e'] at ha;injection ha with ha;subst ha
    have:=HR.out
    show b'≠R
    omega
   have o:=B.out
   have O:Hid (Own .u64 141 (wr.drewN n5) R (g.take j ++ (g.drop j).take (f+2) ++ g.drop (j+(f+2)))):=by rw[Zog];exact E.out.drewN _
   have I1:=zh (Zb2 R (xs.length+1-j) cD j (f+2) (f+1+1) d (g.take j) ((g.drop j).take (f+2)) (g.drop (j+(f+2))) Y AD (wr.drewN n5) (by simp;omega) (by simp;omega) x.out O.out (J0.out.drewN _) q0.out (by rw[x.out];simp;omega) (by simp;omega) ((I.out.1.drop j).take _) n0.out K0)
   have u0:=zh t0
   have r2:=zh K0
   clear O K0 t0 o
   go_wp2_with fail
   (with_reducible refine I1.out.mono ?_)
   rintro e P ⟨br,rfl,v0,c0,_,m,Q,L0,d0,M0⟩
   clear I1
   have o:=B.out
   have q:m.length=f+2:=by rw[L0];simp;omega
   have S:(g.take j).length=j:=by simp;omega
   have t:j+(f+2)<(g.take j ++ m ++ g.drop (j+(f+2))).length:=by simp;omega
   have C:=Q.cell t
   have J1:=Q.frozen (j+(f+2))
   rw[Znj _ _ _ _ _ S q] at C
   obtain⟨top,J⟩:=yE (g[j+(f+2)]?.getD 0)
   rw[J] at C
   have hu:val W64 (g.drop j)=val W64 ((g.drop j).take (f+2))+W64^(f+2)*top:=by
    obtain⟨q1,_,_⟩:=I.out.window hV.out qO
    rw[q1,xA (f+2) (by simp;omega),vP,J]
   have K:val W64 m+V*d=val W64 ((g.drop j).take (f+2))+W64^(f+2)*br:=by
    have h:=M0
    unfold Zge at h
    rw[HV.out] at h
    have e:((g.drop j).take (f+2)).length=f+2:=by simp;omega
    rw[e] at h
    exact h
   have N0:Hid (Own .u64 141 P Z qs):=(I0.out.drewN n5).fr c0 (by have:=l.out;omega)
   have O0:Hid (Ext wD P):=(F.out.drewN n5).next c0 (fun i hi e=>by have:=HR.out;omega)
   have w0:Hid (zF .u64 P AD Y):=(J0.out.drewN n5).fr c0 (fun a ha _=>q0.out a ha)
   have e0:qs.length=xs.length-(f+2)+1:=by have:=I.out.2.2.1;omega
   have P0:val W64 m<W64^(f+2):=by have:=wL d0;rw[q] at this;exact this
   have f0:j<qs.length:=qO
   by_cases Q0:br≤top
   ·obtain⟨k1,k2,k3⟩:=Zi4 hV.out hu u0.out K Q0
    have R0:=zh (I.out.step a0.out hV.out qO q d0 k1 k2)
    subst k3
    have g1:IntKind.u64.wrap ((top:Int)-(top:Int))=0:=by rw[Int.sub_self];rfl
    have t1:=gO (a:=top) (b:=top) qO
    have G:=Q.set (j+(f+2)) 0 t
    rw[ZhZ _ _ _ _ _ _ S q qO] at G
    have r:Fr (· = R) P (P.setCell ⟨R,j+(f+2),none⟩ (.int .u64 ((0:Nat):Int))):=(Fr.refl (· = R) P).setCell (p:=⟨R,j+(f+2),none⟩) (Or.inl rfl) _
    have r0:=N0.out.fr r (by have:=l.out;omega)
    have S0:=r0.cell f0
    have s2:=r0.frozen j
    obtain⟨z0,g0⟩:=yE (qs[j]?.getD 0)
    rw[g0] at S0
    have u2:=zh (r0.set j d f0)
    have K1:=zh (G.far (p:=⟨Z,j,none⟩) (by have:=l.out;show R≠Z;omega) (.int .u64 (d:Int)))
    have L1:Hid (Ext wD ((P.setCell ⟨R,j+(f+2),none⟩ (.int .u64 ((0:Nat):Int))).setCell ⟨Z,j,none⟩ (.int .u64 (d:Int)))):=(O0.out.next r (fun i hi e=>by have:=HR.out;omega)).setCell (Or.inr (by have:=HR.out;have:=l.out;show wD.heap.size≤Z;omega)) _
    have T0:Hid ((g.take j ++ m ++ (0 :: g.drop (j+(f+2)+1))).length=xs.length+1):=by unfold Hid;simp;omega
    clear v0 c0 Q L0 d0 M0 o q S t J hu K P0 k1 k2 G r r0 g0 Q0
    simp only[Int.ofNat_zero] at *
    go_wp2
    go_roundw
    case rel=>exact⟨j,_,_,qO,rfl,R0,T0,K1.out,u2.out,L1.out⟩
    case measure=>simp[intOf]
   have y2:0<d:=by
    rcases uJ d with e|e
    ·subst e
     have:W64^(f+2)*1≤W64^(f+2)*br:=uI _ qO
     omega
    exact e
   have g2:=gE y2 r2.out
   obtain⟨d1,U0⟩:=yE (d-1)
   rw[U0] at g2
   obtain⟨t2,g1,k1⟩:=ZdM ((top:Int)-(br:Int))
   have t1:=fW (a:=top) (b:=br) qO
   have G:=Q.set (j+(f+2)) t2 t
   rw[ZhZ _ _ _ _ _ _ S q qO] at G
   have r:Fr (· = R) P (P.setCell ⟨R,j+(f+2),none⟩ (.int .u64 (t2:Int))):=(Fr.refl (· = R) P).setCell (p:=⟨R,j+(f+2),none⟩) (Or.inl rfl) _
   have z2:=zh G
   have V0:=zh r
   have B2:=zh (N0.out.fr r (by have:=l.out;omega))
   have M1:Hid (zF .u64 (P.setCell ⟨R,j+(f+2),none⟩ (.int .u64 (t2:Int))) AD Y):=w0.out.fr r (fun a ha _=>q0.out a ha)
   have C2:Hid (Ext wD (P.setCell ⟨R,j+(f+2),none⟩ (.int .u64 (t2:Int)))):=O0.out.next r (fun i hi e=>by have:=HR.out;omega)
   have D2:=zh d0
   have h0:=zh q
   have s0:=zh S
   have Hu:=zh hu
   have E2:=zh K
   have F2:=zh P0
   have G2:=zh k1
   have H2:=zh U0
   have I2:=zh e0
   have N1:top<br:=qO
   clear v0 c0 Q L0 d0 M0 o q S t J hu K P0 k1 G r Q0 U0 e0 w0 O0 N0
   go_wp2
   generalize J2:P.setCell ⟨R,j+(f+2),none⟩ (.int .u64 (t2:Int))=w7 at *
   clear J2 C J1 g1 g2 t1
   obtain⟨wo,rfl⟩:∃ wo:World,wo=wr:=⟨_,rfl⟩
   go_loopw [17,115] (fun cv iv wr=>∃ (D cc:Nat) (m2:List Nat),D≤f+2∧iv=.int .i64 (D:Int)∧cc≤1∧cv=.int .u64 (cc:Int)∧Hid (fF m Y D m2 cc)∧Hid (Own .u64 141 wr R (g.take j ++ m2 ++ (t2 :: g.drop (j+(f+2)+1))))∧Hid (Fr (· = R) w7 wr)) (fun _ iv _=>f+2-(intOf iv).toNat)
   case atStart=>exact⟨0,0,m,qO,rfl,qO,rfl,fF.start _ _ D2.out,z2.out,Fr.refl _ _⟩
   case round =>
    obtain⟨D,cc,m2,Y2,rfl,O1,rfl,T,u,i0⟩:=hrel
    have v:m2.length=f+2:=by rw[T.out.1];exact h0.out
    by_cases S2:D<f+2
    ·obtain⟨b3,o3,rfl,_,K2⟩:=(M1.out.fr i0.out (fun a ha _=>q0.out a ha)).at (i:=D) (by rw[x.out];omega)
     obtain⟨y,ey⟩:=yE (Y[D]?.getD 0)
     obtain⟨z,ez⟩:=yE (m2[D]?.getD 0)
     have P1:D<m2.length:=qO
     have Q1:=u.out.mid (k:=D) P1
     have Z2:=u.out.frozen (j+D)
     rw[s0.out] at Q1
     rw[ey] at K2
     rw[ez] at Q1
     have L2:=zh (T.out.step (by rw[h0.out];omega) ez ey (by rw[x.out];omega))
     have R1:xD z y cc≤1:=Zbg (ez ▸ T.out.2.2.1.getD zI D) (ey ▸ n0.out.getD zI D) O1
     have x0:=zh (u.out.set_mid P1 (zX z y cc))
     rw[s0.out] at x0
     have ha:=iN z y cc O1
     clear ey ez v
     go_wp2
     go_roundw
     case rel=>exact⟨D+1,_,_,qO,by go_num,R1,rfl,L2,x0.out,i0.out.setCell (p:=⟨R,j+D,none⟩) (Or.inl rfl) _⟩
     case measure=>simp[intOf];omega
    obtain rfl:D=f+2:=qO
    have j0:=T.out.done (by rw[x.out];omega) (by rw[h0.out];omega) (Or.inr h0.out.symm)
    rw[h0.out,HV.out] at j0
    obtain⟨_,k2,k3,k4⟩:=Zke a0.out hV.out Hu.out u0.out E2.out N1 F2.out j0 (by have:=wL T.out.2.2.1;rw[v] at this;exact this)
    have g3:IntKind.u64.wrap ((t2:Int)+(cc:Int))=0:=by
     have h1:=G2.out
     rw[IntKind.wrap_u64]
     omega
    rw[H2.out] at k2
    have o:=B.out
    have S1:=I2.out
    have H:j+(f+2)<(g.take j ++ m2 ++ (t2 :: g.drop (j+(f+2)+1))).length:=by simp;omega
    have C:=u.out.cell H
    have J1:=u.out.frozen (j+(f+2))
    rw[ZlN _ _ _ _ _ _ s0.out v] at C
    have k0:=u.out.set (j+(f+2)) 0 H
    rw[ZlM _ _ _ _ _ _ _ s0.out v] at k0
    have l0:Fr (· = R) w7 (wr.setCell ⟨R,j+(f+2),none⟩ (.int .u64 ((0:Nat):Int))):=i0.out.setCell (p:=⟨R,j+(f+2),none⟩) (Or.inl rfl) _
    have M:=B2.out.fr l0 (by have:=l.out;omega)
    have f0:j<qs.length:=qO
    have S0:=M.cell f0
    have s2:=M.frozen j
    obtain⟨z0,g0⟩:=yE (qs[j]?.getD 0)
    rw[g0] at S0
    have R0:=zh (I.out.step a0.out hV.out qO v T.out.2.2.1 k2 k3)
    have T1:=zh (M.set j d1 f0)
    have U1:=zh (k0.far (p:=⟨Z,j,none⟩) (by have:=l.out;show R≠Z;omega) (.int .u64 (d1:Int)))
    have V1:Hid (Ext wD ((wr.setCell ⟨R,j+(f+2),none⟩ (.int .u64 ((0:Nat):Int))).setCell ⟨Z,j,none⟩ (.int .u64 (d1:Int)))):=(C2.out.next l0 (fun i hi e=>by have:=HR.out;omega)).setCell (Or.inr (by have:=HR.out;have:=l.out;show wD.heap.size≤Z;omega)) _
    have T0:Hid ((g.take j ++ m2 ++ (0 :: g.drop (j+(f+2)+1))).length=xs.length+1):=by unfold Hid;simp;omega
    clear j0 k2 k3 k4 o S1 H k0 l0 M g0 v
    simp only[Int.ofNat_zero] at *
    go_wp2
    go_roundw
    case rel=>exact⟨j,_,_,qO,rfl,R0,T0,U1.out,T1.out,V1.out⟩
    case measure=>simp[intOf]
  obtain rfl:k=0:=qO
  obtain⟨k1,k2⟩:=I.out.done
  have e0:qs.length=xs.length-(f+2)+1:=by have:=I.out.2.2.1;have:=B.out;omega
  have W0:=Ze4 (val W64 xs) (val W64 ys) (2^s) (vE qO)
  have NQ:=zD.of_own (c:=xs.length-(f+2)+1) I0.out I.out.2.1 qO
  have NR:=zD.of_own (c:=xs.length+1) E.out I.out.1 (by have:=B.out;omega)
  rw[k1,← HX.out,← HV.out,N.out,W0.1] at NQ
  rw[k2,← HX.out,← HV.out,N.out] at NR
  have M2:=zh NQ
  have N2:=zh NR
  have W1:=zh (gM _ qs (xs.length-(f+2)+1) (xs.length-(f+2)+1) wr e0 I0.out.shows0 qO qO)
  have X1:=zh (gM _ g (xs.length+1) (xs.length+1) wr B.out E.out.shows0 (by have:=B.out;omega) (by have:=B.out;omega))
  have O2:=zh W0.2
  have p0:Hid (wl (val W64 xs*2^s%(val W64 ys*2^s))≤4294967296):=by
   refine uC ((lR (k:=f+2)).2 ?_) qO
   have h1:=uP (val W64 xs*2^s) a0.out
   rw[←HV.out,N.out] at h1
   have h2:=hV.out
   rw[←HV.out,N.out] at h2
   exact uQ h1 h2
  clear k1 k2 e0 W0 NQ NR
  go_wp2_with fail
  (with_reducible refine W1.out.mono ?_)
  rintro e w7 ⟨rfl,rfl⟩
  clear W1
  go_wp2_with fail
  (with_reducible refine X1.out.mono ?_)
  rintro e w7 ⟨rfl,rfl⟩
  clear X1
  go_wp2_with fail
  (with_reducible refine (ZdO _ _ s _ N2.out p0.out qO).mono ?_)
  rintro e w7 ⟨B7,l7,c7,rfl,X0,r,Y1⟩
  rw[O2.out] at X0
  have P2:=zh Y1
  have Q2:=zh X0
  have V0:=zh r
  clear X0 r Y1
  go_wp2
  go_ret2
  exact⟨_,_,_,B7,l7,c7,rfl,M2.out.ext V0.out,Q2.out,(C0.out.ext F.out).ext V0.out,fun a h=>(P2.out a h).imp (uC (C0.out.ext F.out).size) id⟩
theorem Zc4 (A:qA)(l c:Nat)(g:Value)(x y:Nat)(w:World)(o:zD w (.slice A l c) x)(p:zD w g y)(i:wl x≤4294967296)(s:wl y≤4294967296)(E:0<y) :
 yA 217 #[.slice A l c,g] w (eZ w A A (x/y) (x%y)):=by
 have t:∀ e w',eZ w none none (x/y) (x%y) e w'→eZ w A A (x/y) (x%y) e w':=by
  rintro e w' ⟨D,m,d,B,l,c,j,k,n,F,G⟩
  exact⟨D,m,d,B,l,c,j,k,n,F,fun a u=>Or.inl ((G a u).elim id fun h=>by rcases h with h|h<;>rw[u] at h<;>cases h)⟩
 rcases vM x y with b|f
 ·rw[tJ b,vL b]
  exact ZdS A l c g x y w o p i s b
 have H:=Zb8 E
 by_cases j:wl y=1
 ·exact (Zdq _ g x y w o p i j f).mono t
 obtain⟨_,I,_,h,J,q,k,n,rfl⟩:=o
 injection h with e1 e2 e3
 subst e1 e2 e3
 obtain⟨K,v,L,rfl,r,M,z,C,rfl⟩:=p
 rw[←xH k n] at i
 rw[←xH z C] at s j H
 exact (Zc3 A K I v c L (v.length-2) w q M J r i qO k z n C f).mono t
theorem Zdr (b a:Value)(x y:Nat)(w:World)(d:zD w b x)(e:zD w a y)(f:wl x≤4294967296)(g:wl y≤4294967296)(i:0<y) :
 yA 217 #[b,a] w (ZaW w (x/y) (x%y)):=by
 obtain⟨A,_,c,rfl,_⟩:=id d
 exact (Zc4 _ _ _ a x y w d e f g i).mono fun _ _ h=>h.ret
theorem Zal (d f:Value)(x y:Nat)(w:World)(k:zD w d x)(l:zD w f y)(p:wl x≤4294967296)(q:wl y<80)(r:0<y) :
 yA 187 #[d,f] w (ZaW w (x/y) (x%y)):=by
 have s:=zh (Zdr d f x y w k l p qO r)
 obtain⟨A,E,c,rfl,t,g,z,B,rfl⟩:=k
 obtain⟨F,G,H,rfl,h,C,m,n,rfl⟩:=l
 rw[←xH m n] at q
 clear g z B C m n t h
 go_enter func187,ntmps187
 go_wp2_with (go_at_call 217;refine s.out.mono ?_;rintro e I ⟨u,v,rfl,a,b,o⟩;have i:=zh a;have j:=zh b;have D:=zh o;clear a b o)
 go_ret2
 exact⟨_,_,rfl,i.out,j.out,D.out⟩
noncomputable def W32:Nat:=Classical.choose (p:=fun n:Nat=>n=4294967296) ⟨_,rfl⟩
theorem jZ:W32=4294967296:=rT (p:=fun n:Nat=>n=4294967296) ⟨_,rfl⟩
theorem aE:0<W32:=by have:=jZ;omega
theorem Znp:1<W32:=by have:=jZ;omega
theorem Zd6:W32*W32=W64:=by rw[jZ,zR]
theorem Zks:(prog.info? 143).map (fun i=>(i.zero,i.size,i.bytes))=some (some (.int .u32 0),1,4):=qK
theorem Zbq (A:qA)(xs:qN)(n c:Nat)(w:World)(o:xs.length=n)(h:zF .u32 w A xs)(s:xs.length≤c)(t:xs.length≤70368744177664) :
 yA 94 #[.slice A n c] w fun e w'=>e=.returned (.slice A (xZ xs xs.length) c)∧w=w':=by
 subst o
 have H:=zh h
 clear h
 go_enter func94,ntmps94
 go_wp2
 go_loop [0] (fun v=>∃ k:Nat,k≤xs.length∧v=.slice A k c∧Hid (xZ xs xs.length=xZ xs k)) (fun v=>match v with | .slice _ k _=>k | _=>0)
 case atStart=>exact⟨xs.length,uG _,rfl,rfl⟩
 case round =>
  obtain⟨k,u,rfl,d⟩:=hrel
  by_cases p:0<k
  ·obtain⟨b,q,rfl,y,f⟩:=H.out.at (i:=k-1) qO
   obtain⟨x,g⟩:=yE (xs[k-1]?.getD 0)
   rw[g] at f
   have l:=zh g
   clear g
   by_cases j:x=0
   ·subst j
    go_wp2
    go_round
    case rel =>
     refine⟨k-1,qO,by go_num,?_⟩
     have e:=d.out
     obtain⟨m,rfl⟩:∃ m,k=m+1:=⟨k-1,qO⟩
     rw[xZ,uS (by simpa using l.out)] at e
     exact e
    case measure=>simp;omega
   have r:(((x:Nat):Int) == 0)=false:=by simpa using j
   go_wp2
   go_ret
   refine⟨?_,rfl⟩
   have e:=d.out
   obtain⟨m,rfl⟩:∃ m,k=m+1:=⟨k-1,qO⟩
   have a:=l.out
   simp only[tL] at a
   rw[xZ,uL (by rw[a];exact j)] at e
   rw[e];rfl
  obtain rfl:k=0:=qO
  go_wp2
  go_ret
  exact⟨by rw[d.out];rfl,rfl⟩
def ml (n:Nat):Nat:=if n=0 then 0 else n.log2/32+1
theorem Zh4 (k:Nat):W32^k=2^(32*k):=by rw[rZ,jZ]
theorem dD {n k:Nat}:ml n≤k↔n<W32^k:=by
 unfold ml
 rw[Zh4]
 split
 ·rename_i h;subst h;simp[vE]
 rename_i h
 rw[←Nat.log2_lt h];omega
theorem Zjc (n:Nat):n<W32^ml n:=dD.1 (uG _)
theorem Zh5:ml 0=0:=rfl
theorem Znq {a b:Nat}(h:a≤b):ml a≤ml b:=dD.2 (tF h (Zjc b))
theorem Zd7 {xs:qN}(a:Dig W32 xs)(b:Trim xs):xs.length=ml (val W32 xs):=by
 have c:=kW (n:=ml (val W32 xs)) Znp b (Zjc _)
 have d:ml (val W32 xs)≤xs.length:=dD.2 (wL a)
 omega
theorem Zgy {n:Nat}(h:0<n):0<ml n:=by
 unfold ml;rw[uL qO];omega
def wC (w:World) (v:Value) (n:Nat):Prop :=
 ∃ (A:Option Addr) (xs:List Nat) (c:Nat),v=.slice A xs.length c∧xs.length≤c∧zF .u32 w A xs∧Dig W32 xs∧Trim xs∧val W32 xs=n
theorem wC.ext {w w':World}{v:Value}{n:Nat}(h:wC w v n)(a:Ext w w'):wC w' v n:=by
 obtain⟨A,b,c,d,e,f,g⟩:=h
 exact⟨A,b,c,d,e,f.ext a,g⟩
theorem wC.zero (w:World):wC w (.slice none 0 0) 0:=⟨none,[],0,rfl,qS,zF.nil,Dig.nil,Trim.nil,rfl⟩
theorem wC.of_own {w:World}{b:Nat}{xs:qN}(h:Own .u32 143 w b xs)(a:Dig W32 xs){c:Nat}(d:xs.length≤c):wC w (.slice (some ⟨b,0,none⟩) (xZ xs xs.length) c) (val W32 xs):=by
 refine⟨_,wU xs,c,by rw[lH],by rw[lH];exact uC (fT _ _) d,h.shows0.take _,iV a,jW xs,lA _ _⟩
theorem ZcS (s:Nat):(s:Int)%4294967296=((s%W32:Nat):Int):=by rw[jZ];omega
theorem hi32 (s:Nat):(s:Int)/4294967296=((s/W32:Nat):Int):=by rw[jZ];omega
def Zbr (xs:List Nat) (d k:Nat) (zs:List Nat) (r:Nat):Prop :=
 zs.length=xs.length∧Dig W32 zs∧r<d∧val W32 (xs.drop k)=val W32 (zs.drop k)*d+r
theorem Zbr.start (xs:qN){d:Nat}(h:0<d):Zbr xs d xs.length (List.replicate xs.length 0) 0:=⟨qS,Dig.replicate aE _,h,qS⟩
theorem Zbr.step {xs zs:qN}{d k r x:Nat}(h:Zbr xs d (k+1) zs r)(c:k<xs.length)(a:xs[k]?.getD 0=x)(dx:Dig W32 xs) :
 Zbr xs d k (zs.set k ((r*W32+x)/d)) ((r*W32+x)%d)∧(r*W32+x)/d<W32:=by
 obtain⟨e,f,g,i⟩:=h
 have j:x<W32:=a ▸ dx.getD aE k
 have b:(r*W32+x)/d<W32:=by
  apply sJ
  have:(r+1)*W32≤d*W32:=uE _ g
  rw[vC,rK] at this
  omega
 refine⟨⟨by simpa using e,f.set k b,uP _ qO,?_⟩,b⟩
 rw[xO k c,xO (xs:=zs.set k _) k (by simp;omega),a,vZ qO,sL qO]
 exact Zdn _ _ _ _ _ _ _ _ i (by have:=vQ (r*W32+x) d;rw[uF d] at this;show _=(r*W32+x)/d*d+_;omega)
theorem ZoW (r:Nat)(h:r<W32):IntKind.u64.wrap ((r:Int)*4294967296)=((r*W32:Nat):Int):=by
 rw[jZ] at *;rw[IntKind.wrap_u64];omega
theorem or32 (r x:Nat)(a:x<W32):r*W32 ||| x=r*W32+x:=by
 rw[jZ] at *
 have:=sA (i:=32) (b:=x) qO r
 rw[sW] at this
 exact this.symm
def Zfh (w:World) (x d:Nat) (e:Ending) (w':World):Prop:=∃ l c,e=.returned (.tuple #[.slice (some ⟨w.heap.size,0,none⟩) l c,.int .u32 ((x%d:Nat):Int)])∧wC w' (.slice (some ⟨w.heap.size,0,none⟩) l c) (x/d)∧Ext w w'
theorem ZfN (A:qA)(xs:qN)(c d:Nat)(w:World)(W:zF .u32 w A xs)(hl:xs.length≤35184372088832)(X:Dig W32 xs)(hd:0<d)(y:d<W32) :
 yA 163 #[.slice A xs.length c,.int .u32 (d:Int)] w (Zfh w (val W32 xs) d):=by
 have HX:=zh W
 have Y:=zh X
 have Z:=zh hd
 have B:=zh y
 have g1:(((d:Nat):Int) == 0)=false:=by simp;omega
 have q0:=lW d (by have:=zR;have:=jZ;omega)
 clear W X y
 go_enter func163,ntmps163
 go_wp2_with (
  at_make
  refine kN rfl _ _ _ rfl _ _ _ underlying55 Zks _ _ _ _ xs.length rfl rfl qO qO qO qO ?_
  intro b w1 hb C M D N
  have O:=zh C
  have P:=zh D
  have Q:=zh hb
  clear C D hb N M)
 go_loopw [7,8] (fun rv i wr=>∃ (k r:Nat) (m:List Nat),k≤xs.length∧i=.int .i64 ((k:Int)-1)∧rv=.int .u64 r∧Hid (Zbr xs d k m r)∧Hid (Own .u32 143 wr b m)∧Hid (Ext w wr)) (fun _ i _=>(intOf i+1).toNat)
 case atStart=>exact⟨xs.length,0,_,qO,rfl,rfl,Zbr.start _ Z.out,O,P⟩
 case round =>
  obtain⟨k,r,m,hk,rfl,rfl,v,f,t⟩:=hrel
  have E:=v.out.1
  by_cases b0:0<k
  ·obtain⟨k,rfl⟩:∃ j,k=j+1:=⟨k-1,qO⟩
   have F:k<xs.length:=qO
   obtain⟨b2,a0,rfl,_,R⟩:=(HX.out.ext t.out).at F
   obtain⟨x,J⟩:=yE (xs[k]?.getD 0)
   rw[J] at R
   have o:=J ▸ Y.out.getD aE k
   have S:=f.out.cell (i:=k) qO
   have c0:=f.out.frozen k
   obtain⟨z,ez⟩:=yE (m[k]?.getD 0)
   rw[ez] at S
   have hi:((k+1:Nat):Int)-1=(k:Int):=qO
   rw[hi]
   obtain⟨G,K⟩:=v.out.step F J Y.out
   have g:=zh G
   have h:r<W32:=qJ v.out.2.2.1 B.out
   have q1:=ZoW r h
   have q2:=lW x (by have:=zR;have:=jZ;omega)
   have u:r*W32+x<W64:=by
    have:(r+1)*W32≤W32*W32:=uE _ h
    rw[vC,Zd6] at this;omega
   have T:=bH (a:=r*W32) (b:=x) qO qO
   rw[or32 r x o] at T
   obtain⟨rw1,e1⟩:=yE (r*W32)
   rw[e1] at q1 T g K u
   obtain⟨s,es⟩:=yE (rw1+x)
   rw[es] at T g K u
   have q4:(s:Int).tdiv (d:Int)=((s/d:Nat):Int):=by rw[sY qO];rfl
   have U:(s:Int)/(d:Int)=((s/d:Nat):Int):=rfl
   have q5:(s:Int).tmod (d:Int)=((s%d:Nat):Int):=by rw[sK qO];rfl
   have V:(s:Int)%(d:Int)=((s%d:Nat):Int):=rfl
   have H:=zh (f.out.set k (s/d) qO)
   have L:=ZcS (s/d)
   rw[vL K] at L
   have q7:IntKind.u64.wrap ((s/d:Nat):Int)=((s/d:Nat):Int):=lW _ (by have:=zR;have:=jZ;omega)
   obtain⟨q,eq⟩:=yE (s/d)
   obtain⟨r2,I⟩:=yE (s%d)
   rw[eq] at q4 U L q7 H g
   rw[I] at q5 V g
   clear J ez o G K h u e1 es eq I hi
   go_wp2
   refine⟨⟨k,_,_,qO,rfl,rfl,g,H,t.out.setCell (p:=⟨b,k,none⟩) (Or.inr (by have:=Q.out;show w.heap.size≤b;omega)) _⟩,?_⟩
   simp[intOf]
  obtain rfl:k=0:=qO
  have l:=v.out.2.2.2
  rw[tX,tX] at l
  have HT:=zh (Zbq _ m xs.length xs.length wr E f.out.shows0 qO qO)
  have HN:=zh (wC.of_own (c:=xs.length) f.out v.out.2.1 qO)
  have n:=v.out.2.2.1
  have ed:val W32 xs/d=val W32 m:=by
   rw[l,uF,rF Z.out,tJ n,tB]
  have I:val W32 xs%d=r:=by
   rw[l,uF,rX,vL n]
  rw[←ed] at HN
  have HE:=zh I
  have L:=ZcS r
  rw[vL (qJ n B.out)] at L
  clear l n ed I E
  go_wp2_with fail
  refine HT.out.mono ?_
  rintro e w2 ⟨rfl,rfl⟩
  clear HT
  go_wp2
  go_ret2
  exact⟨_,_,by rw[HE.out,Q.out];rfl,by rw[Q.out];exact HN.out,t.out⟩
theorem Zgz (v:Value)(x d:Nat)(w:World)(f:wC w v x)(a:ml x≤17592186044416)(g:0<d)(b:d<W32) :
 yA 163 #[v,.int .u32 (d:Int)] w (Zfh w x d):=by
 obtain⟨A,h,c,rfl,k,i,e,j,rfl⟩:=f
 rw[←Zd7 e j] at a
 exact ZfN A h c d w i qO e g b
end Go.Proofs.YtenchljfmfgeoaaGreatDoor
