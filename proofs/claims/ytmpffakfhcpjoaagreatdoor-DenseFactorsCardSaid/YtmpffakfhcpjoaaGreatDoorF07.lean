/-
 My texts.
-/
import Derived.Test.YtmpffakfhcpjoaaGreatDoorF03
import Derived.Test.YtmpffakfhcpjoaaGreatDoorF06
set_option maxRecDepth 100000
set_option maxHeartbeats 8000000
namespace Go.Proofs.YtmpffakfhcpjoaaGreatDoor
open Go.RowKit Tryz
theorem Zal (x:Nat)(w:World)(a:x<W64):Ζ 149 #[.int .u64 (x:Int)] w fun e w'=>e=.returned (.int .i64 (64-(Lib.bitLen x:Int)))∧w=w':=by
 rw[zN] at a
 refine (Tryz.bits_LeadingZeros64 x w qO qO).mono ?_
 rintro e w' ⟨rfl,rfl⟩
 exact⟨qS,rfl⟩
noncomputable def H32:Nat:=Classical.choose (p:=fun n:Nat=>n=4294967296) ⟨_,rfl⟩
theorem wJ:H32=4294967296:=oP (p:=fun n:Nat=>n=4294967296) ⟨_,rfl⟩
structure Prep (hi lo y s Y v1 v0 Hs Ls U T u1 u0:Nat):Prop where
 hY:IntKind.u64.wrap ((y:Int)*2^s)=(Y:Int)
 hv1:(Y:Int)/4294967296=(v1:Int)
 hv0:bits .and .u64 (Y:Int) 4294967295=(v0:Int)
 hH:IntKind.u64.wrap ((hi:Int)*2^s)=(Hs:Int)
 hL:(lo:Int)/2^(64-s)=(Ls:Int)
 hU:bits .or .u64 (Hs:Int) (Ls:Int)=(U:Int)
 hT:IntKind.u64.wrap ((lo:Int)*2^s)=(T:Int)
 hu1:(T:Int)/4294967296=(u1:Int)
 hu0:bits .and .u64 (T:Int) 4294967295=(u0:Int)
theorem Zgb (a:Int):∃ n:Nat,IntKind.u64.wrap a=(n:Int)∧(n:Int)=a%18446744073709551616:=by
 refine⟨(a%18446744073709551616).toNat,?_,?_⟩
 ·rw[IntKind.wrap_u64];omega
 omega
theorem un21 {U u Y q R:Nat}(d:Y≤W64)(f:q*Y+R=U*4294967296+u)(l:R<Y) :
 ∃ a b c:Nat,IntKind.u64.wrap ((U:Int)*4294967296)=(a:Int)∧IntKind.u64.wrap ((a:Int)+(u:Int))=(b:Int)∧IntKind.u64.wrap ((q:Int)*(Y:Int))=(c:Int)∧IntKind.u64.wrap ((b:Int)-(c:Int))=(R:Int):=by
 have g:=d
 rw[zN] at g
 obtain⟨a,h,m⟩:=Zgb ((U:Int)*4294967296)
 obtain⟨b,i,n⟩:=Zgb ((a:Int)+(u:Int))
 obtain⟨c,j,o⟩:=Zgb ((q:Int)*(Y:Int))
 obtain⟨p,k,r⟩:=Zgb ((b:Int)-(c:Int))
 refine⟨a,b,c,h,i,j,?_⟩
 rw[k]
 have e:((q*Y+R:Nat):Int)=((U*4294967296+u:Nat):Int):=by rw[f]
 rw[rX,tG,rX,tG] at e
 omega
theorem Zb0 {U v1:Nat}(b:0<v1)(c:U<W64) :
 ∃ a e d:Nat,(U:Int)/(v1:Int)=(a:Int)∧IntKind.u64.wrap (a:Int)=(a:Int)∧IntKind.u64.wrap ((a:Int)*(v1:Int))=(e:Int)∧IntKind.u64.wrap ((U:Int)-(e:Int))=(d:Int)∧a*v1+d=U∧d<v1:=by
 have g:=c
 rw[zN] at g
 have f:=vX U v1
 have h:=uP U b
 have i:U/v1*v1≤U:=pI U v1
 rw[uG] at f
 refine⟨U/v1,U/v1*v1,U%v1,(tR _ _).symm,wK _ (by rw[zN];have:=vJ U v1;omega),?_,?_,f,h⟩
 ·rw[←tG];exact wK _ (by rw[zN];omega)
 rw[show (U:Int)-((U/v1*v1:Nat):Int)=((U%v1:Nat):Int) by omega]
 exact wK _ (by rw[zN];omega)
theorem Zb1 {U v1 v0 u a ri:Nat}(b:0<v1)(e:u<H32)(h:a*v1+ri=U)(f:ri<v1):fB H32 U v1 v0 u a ri:=by
 refine⟨h,?_⟩
 have g:0<v1*H32:=sK b (by rw[wJ];omega)
 rw[←Nat.lt_succ_iff,vN qO]
 have c:U<(a+1)*v1:=by rw[uW];omega
 have d:(U+1)*H32≤(a+1)*v1*H32:=uE _ c
 rw[nE,uL,← uH]
 rw[uW U] at d
 omega
theorem Zb2 {U v1 v0 u q r:Nat}(a:2147483648≤v1)(b:U<W64)(h:fB H32 U v1 v0 u q r):q≤8589934592:=by
 have c:=b
 rw[zN] at c
 have d:=h.1
 have e:q*2147483648≤q*v1:=uK q a
 omega
theorem gE {H U Y u q:Nat}(h:q=(U*H+u)/Y):q*Y+(U*H+u)%Y=U*H+u:=by
 subst h
 rw[uG]
 exact vX _ _
theorem gF {U u Y q:Nat}(a:0<Y)(b:U<Y)(d:u<H32)(c:q=(U*H32+u)/Y):q<H32:=by
 subst c
 rw[vN a]
 have:(U+1)*H32≤Y*H32:=uE _ b
 rw[uW] at this
 rw[uG H32]
 omega
theorem iW {q:Nat}(a:0<q)(h:q<W64):IntKind.u64.wrap ((q:Int)-1)=((q-1:Nat):Int):=by
 rw[show (q:Int)-1=((q-1:Nat):Int) by omega]
 exact wK _ qO
theorem kY {a b:Nat}(h:a+b<W64):IntKind.u64.wrap ((a:Int)+(b:Int))=((a+b:Nat):Int):=by
 rw[←rX]
 exact wK _ h
theorem fK {a b:Nat}(h:a*b<W64):IntKind.u64.wrap ((a:Int)*(b:Int))=((a*b:Nat):Int):=by
 rw[←tG]
 exact wK _ h
theorem Zjj:H32*H32=W64:=by rw[wJ,zN]
theorem bJ {a q0:Nat}(d:a<H32)(e:q0<H32):∃ b c:Nat,IntKind.u64.wrap ((a:Int)*4294967296)=(b:Int)∧IntKind.u64.wrap ((b:Int)+(q0:Int))=(c:Int)∧c=a*H32+q0:=by
 have h:a*H32+q0<W64:=by
  rw[←Zjj]
  have:(a+1)*H32≤H32*H32:=uE _ d
  rw[uW] at this
  omega
 refine⟨a*H32,a*H32+q0,?_,kY h,rfl⟩
 rw[show (4294967296:Int)=((H32:Nat):Int) by rw[wJ];rfl]
 exact fK qO
theorem ZeX {r u:Nat}(c:r<H32)(e:u<H32):∃ a b:Nat,IntKind.u64.wrap (4294967296*(r:Int))=(a:Int)∧IntKind.u64.wrap ((a:Int)+(u:Int))=(b:Int)∧b=H32*r+u:=by
 have d:H32*r+u<W64:=by
  rw[←Zjj]
  have:H32*(r+1)≤H32*H32:=uK _ c
  rw[uL] at this
  omega
 refine⟨H32*r,H32*r+u,?_,kY d,rfl⟩
 rw[show (4294967296:Int)=((H32:Nat):Int) by rw[wJ];rfl]
 exact fK qO
theorem gG {q:Nat}(h:H32≤q):decide ((4294967296:Int)≤(q:Int))=true:=by rw[wJ] at h;rw[tE];omega
theorem iB {q:Nat}(h:¬ H32≤q):decide ((4294967296:Int)≤(q:Int))=false:=by rw[wJ] at h;rw[vH];omega
theorem dX {a b:Nat}(h:a<b):decide (a<b)=true:=by rw[tE];omega
theorem eA {a b:Nat}(h:¬ a<b):decide (a<b)=false:=by rw[vH];omega
theorem Zc7 {q v:Nat}(b:¬ H32≤q)(c:v<H32):q*v<W64:=by
 rw[←Zjj]
 have d:q*v≤q*H32:=uK _ qO
 have a:(q+1)*H32≤H32*H32:=uE _ qO
 rw[uW] at a
 have:=wJ
 omega
theorem ZmU (hi lo y s Y v1 v0 Hs Ls U T u1 u0 qf rf:Nat)(w:World)(d0:(U*H32+u1)/Y*H32+((U*H32+u1)%Y*H32+u0)/Y=qf)(e0:((U*H32+u1)%Y*H32+u0)%Y/2^s=rf)(h0:0<hi)(h1:hi<y)(hy:y<W64)(hs:64-(Lib.bitLen y:Int)=s)(i0:s≤63)(P:Prep hi lo y s Y v1 v0 Hs Ls U T u1 u0)(hU:U<v1*H32+v0)(c0:v1*H32+v0=Y)(b1:2147483648≤v1)(b2:v1<H32)(b3:v0<H32)(b4:u1<H32)(b5:u0<H32) :
 Ζ 128 #[.int .u64 (hi:Int),.int .u64 (lo:Int),.int .u64 (y:Int)] w fun e w'=>e=.returned (.tuple #[.int .u64 (qf:Int),.int .u64 (rf:Int)])∧w=w':=by
 have R:=zh d0
 have S:=zh e0
 clear d0 e0
 have he:=wJ
 have HS:=zh hs
 have HY:=zh hy
 have e1:((hi:Int) == 0)=false:=by simp;omega
 have e2:((y:Int) == 0)=false:=by simp;omega
 have K:=zh hU
 have o:=zh c0
 have f0:U<18446744073709551616:=by rw[he] at hU b2 b3;omega
 have g0:Hid (U<W64):=by unfold Hid;rw[zN];exact f0
 have l:Hid (Y≤W64):=by unfold Hid;rw[zN];rw[he] at c0 b2 b3;omega
 obtain⟨p1,p2,p3,p4,p5,p6,p7,p8,p9⟩:=P
 have j0:((v1:Int) == 0)=false:=by simp;omega
 obtain⟨qi,mi,ri,f1,f2,f3,f4,f5,f6⟩:=Zb0 (U:=U) (v1:=v1) qO g0.out
 have HE:=zh (Zb1 (v0:=v0) (u:=u1) qO b4 f5 f6)
 clear hs hy hU c0 f5
 have B1:=zh b1
 have B2:=zh b2
 have B3:=zh b3
 have B4:=zh b4
 have V:=zh b5
 clear b1 b2 b3 b4 b5 he f0
 go_enter func128,ntmps128
 go_wp2_with (go_at_call 149;refine (Zal _ _ HY.out).mono ?_;rintro e w' ⟨rfl,rfl⟩;rw[HS.out])
 clear p1 p2 p3 p4 p5 p6 p7 p8 p9 e1 e2
 go_loop [15,16] (fun qv rv=>∃ q r:Nat,qv=.int .u64 q∧rv=.int .u64 r∧Hid (r<H32)∧Hid (fB H32 U v1 v0 u1 q r)) (fun qv _=>(intOf qv).toNat)
 case atStart=>exact⟨_,_,rfl,rfl,by have:=B2.out;unfold Hid;omega,HE⟩
 case round =>
  obtain⟨q,r,rfl,rfl,hr,Q⟩:=hrel
  clear f1 f2 f3 f4 f6 HE
  have L:Hid (q<W64):=by
   have h1:=Zb2 B1.out g0.out Q.out
   unfold Hid;rw[zN];omega
  have b0:Hid (r+v1<W64):=by
   have h1:=hr.out
   have h2:=B2.out
   unfold Hid;rw[zN];rw[wJ] at h1 h2;omega
  have g2:=kY b0.out
  obtain⟨G,A⟩:=yE (r+v1)
  rw[A] at g2
  have M:=zh A
  clear A
  by_cases a:H32≤q
  ·have d:=zh (ZeV K.out B4.out a Q.out)
   have t1:=gG a
   have g1:=iW (q:=q) (by have:=wJ;omega) L.out
   obtain⟨p,h⟩:=yE (q-1)
   rw[h] at g1 d
   rw[M.out] at d
   have B:p<q:=by have:=wJ;omega
   by_cases f:H32≤G
   ·have i:=zh (gS K.out B3.out f d.out)
    have t2:=gG f
    clear f a h B d Q
    rw[o.out] at i
    have b:Hid (0<Y):=by have:=o.out;have:=K.out;unfold Hid;omega
    obtain⟨H,F⟩:=yE ((U*H32+u1)%Y)
    have t:Hid (H<Y):=by rw[←F];exact uP _ b.out
    obtain⟨a1,a2,a3,x1,x2,x3,x4⟩:=un21 l.out (by rw[←wJ];exact gE i.out) (uP _ b.out)
    rw[F] at x4
    have N:Hid (p<H32):=gF b.out (by have:=K.out;rw[o.out] at this;exact this) B4.out i.out
    have O:=i
    clear i
    have ERR:=zh F
    clear F
    have I:Hid (H<W64):=uT t.out l.out
    have k:Hid (H<v1*H32+v0):=by rw[o.out];exact t.out
    obtain⟨qi,mi,ri,k1,k2,k3,k4,k5,k6⟩:=Zb0 (U:=H) (v1:=v1) (by have:=B1.out;omega) I.out
    have W:=zh (Zb1 (v0:=v0) (u:=u0) (by have:=B1.out;omega) V.out k5 k6)
    clear k5
    go_wp2
    go_loop [16,18] (fun rv qv=>∃ q r:Nat,qv=.int .u64 q∧rv=.int .u64 r∧Hid (r<H32)∧Hid (fB H32 H v1 v0 u0 q r)) (fun _ qv=>(intOf qv).toNat)
    case atStart=>exact⟨_,_,rfl,rfl,by have:=B2.out;unfold Hid;omega,W⟩
    case round =>
     obtain⟨q,r,rfl,rfl,hr,Q⟩:=hrel
     clear k1 k2 k3 k4 k6 W x1 x2 x3 x4
     have L:Hid (q<W64):=by
      have h1:=Zb2 B1.out I.out Q.out
      unfold Hid;rw[zN];omega
     have b0:Hid (r+v1<W64):=by
      have h1:=hr.out
      have h2:=B2.out
      unfold Hid;rw[zN];rw[wJ] at h1 h2;omega
     have g2:=kY b0.out
     obtain⟨G,A⟩:=yE (r+v1)
     rw[A] at g2
     have M:=zh A
     clear A
     by_cases a:H32≤q
     ·have d:=zh (ZeV k.out V.out a Q.out)
      have t1:=gG a
      have g1:=iW (q:=q) (by have:=wJ;omega) L.out
      obtain⟨p,h⟩:=yE (q-1)
      rw[h] at g1 d
      rw[M.out] at d
      have B:p<q:=by have:=wJ;omega
      by_cases f:H32≤G
      ·have i:=zh (gS k.out B3.out f d.out)
       have t2:=gG f
       clear f a h B d Q
       rw[o.out] at i
       obtain⟨X,Z,a0,y1,y2,y3,y4⟩:=un21 l.out (by rw[←wJ];exact gE i.out) (uP _ b.out)
       obtain⟨v,g⟩:=yE ((H*H32+u0)%Y)
       rw[g] at y4
       obtain⟨z1,z2,z4,z5,J⟩:=bJ N.out (gF b.out t.out V.out i.out)
       have y5:(v:Int)/2^s=((v/2^s:Nat):Int):=by rw[tR,vY];rfl
       obtain⟨x,c⟩:=yE (v/2^s)
       rw[c] at y5
       have EZ:=zh J
       have ER:=zh c
       have z:=zh g
       clear g J c
       go_wp2
       go_ret2
       have fq:z2=qf:=by rw[EZ.out,← R.out,i.out,O.out,ERR.out]
       have fr:x=rf:=by rw[←ER.out,← z.out,← S.out,ERR.out]
       exact⟨by rw[←fq,← fr];rfl,rfl⟩
      have t2:=iB f
      have C:Hid (G<H32):=by unfold Hid;omega
      clear f a h
      go_wp2
      go_round
      case rel=>exact⟨p,G,rfl,rfl,C,d⟩
      case measure=>simp[intOf];omega
     have t1:=iB a
     have g5:=fK (Zc7 a B3.out)
     obtain⟨m,D⟩:=yE (q*v0)
     rw[D] at g5
     obtain⟨m2,m3,g6,g7,n⟩:=ZeX hr.out V.out
     by_cases j:m3<m
     ·have t3:=dX j
      have d:=zh (ZbC (by have:=k.out;omega) (by rw[D,← n];exact j) Q.out)
      have E:0<q:=by
       rcases uJ q with e|e
       ·subst e;simp at D;omega
       exact e
      have g1:=iW E L.out
      obtain⟨p,h⟩:=yE (q-1)
      rw[h] at g1 d
      rw[M.out] at d
      have B:p<q:=qO
      by_cases f:H32≤G
      ·have i:=zh (gS k.out B3.out f d.out)
       have t2:=gG f
       clear f a h B d Q j D n E
       rw[o.out] at i
       obtain⟨X,Z,a0,y1,y2,y3,y4⟩:=un21 l.out (by rw[←wJ];exact gE i.out) (uP _ b.out)
       obtain⟨v,g⟩:=yE ((H*H32+u0)%Y)
       rw[g] at y4
       obtain⟨z1,z2,z4,z5,J⟩:=bJ N.out (gF b.out t.out V.out i.out)
       have y5:(v:Int)/2^s=((v/2^s:Nat):Int):=by rw[tR,vY];rfl
       obtain⟨x,c⟩:=yE (v/2^s)
       rw[c] at y5
       have EZ:=zh J
       have ER:=zh c
       have z:=zh g
       clear g J c
       go_wp2
       go_ret2
       have fq:z2=qf:=by rw[EZ.out,← R.out,i.out,O.out,ERR.out]
       have fr:x=rf:=by rw[←ER.out,← z.out,← S.out,ERR.out]
       exact⟨by rw[←fq,← fr];rfl,rfl⟩
      have t2:=iB f
      have C:Hid (G<H32):=by unfold Hid;omega
      clear f a h j D n E
      go_wp2
      go_round
      case rel=>exact⟨p,G,rfl,rfl,C,d⟩
      case measure=>simp[intOf];omega
     have t3:=eA j
     have i:=zh (Zak (by have:=k.out;omega) (by rw[D,← n];omega) Q.out)
     obtain⟨p,rfl⟩:∃ p,p=q:=⟨_,rfl⟩
     clear j D n a Q
     rw[o.out] at i
     obtain⟨X,Z,a0,y1,y2,y3,y4⟩:=un21 l.out (by rw[←wJ];exact gE i.out) (uP _ b.out)
     obtain⟨v,g⟩:=yE ((H*H32+u0)%Y)
     rw[g] at y4
     obtain⟨z1,z2,z4,z5,J⟩:=bJ N.out (gF b.out t.out V.out i.out)
     have y5:(v:Int)/2^s=((v/2^s:Nat):Int):=by rw[tR,vY];rfl
     obtain⟨x,c⟩:=yE (v/2^s)
     rw[c] at y5
     have EZ:=zh J
     have ER:=zh c
     have z:=zh g
     clear g J c
     go_wp2
     go_ret2
     have fq:z2=qf:=by rw[EZ.out,← R.out,i.out,O.out,ERR.out]
     have fr:x=rf:=by rw[←ER.out,← z.out,← S.out,ERR.out]
     exact⟨by rw[←fq,← fr];rfl,rfl⟩
   have t2:=iB f
   have C:Hid (G<H32):=by unfold Hid;omega
   clear f a h
   go_wp2
   go_round
   case rel=>exact⟨p,G,rfl,rfl,C,d⟩
   case measure=>simp[intOf];omega
  have t1:=iB a
  have g5:=fK (Zc7 a B3.out)
  obtain⟨m,D⟩:=yE (q*v0)
  rw[D] at g5
  obtain⟨m2,m3,g6,g7,n⟩:=ZeX hr.out B4.out
  by_cases j:m3<m
  ·have t3:=dX j
   have d:=zh (ZbC (by have:=K.out;omega) (by rw[D,← n];exact j) Q.out)
   have E:0<q:=by
    rcases uJ q with e|e
    ·subst e;simp at D;omega
    exact e
   have g1:=iW E L.out
   obtain⟨p,h⟩:=yE (q-1)
   rw[h] at g1 d
   rw[M.out] at d
   have B:p<q:=qO
   by_cases f:H32≤G
   ·have i:=zh (gS K.out B3.out f d.out)
    have t2:=gG f
    clear f a h B d Q j D n E
    rw[o.out] at i
    have b:Hid (0<Y):=by have:=o.out;have:=K.out;unfold Hid;omega
    obtain⟨H,F⟩:=yE ((U*H32+u1)%Y)
    have t:Hid (H<Y):=by rw[←F];exact uP _ b.out
    obtain⟨a1,a2,a3,x1,x2,x3,x4⟩:=un21 l.out (by rw[←wJ];exact gE i.out) (uP _ b.out)
    rw[F] at x4
    have N:Hid (p<H32):=gF b.out (by have:=K.out;rw[o.out] at this;exact this) B4.out i.out
    have O:=i
    clear i
    have ERR:=zh F
    clear F
    have I:Hid (H<W64):=uT t.out l.out
    have k:Hid (H<v1*H32+v0):=by rw[o.out];exact t.out
    obtain⟨qi,mi,ri,k1,k2,k3,k4,k5,k6⟩:=Zb0 (U:=H) (v1:=v1) (by have:=B1.out;omega) I.out
    have W:=zh (Zb1 (v0:=v0) (u:=u0) (by have:=B1.out;omega) V.out k5 k6)
    clear k5
    go_wp2
    go_loop [16,18] (fun rv qv=>∃ q r:Nat,qv=.int .u64 q∧rv=.int .u64 r∧Hid (r<H32)∧Hid (fB H32 H v1 v0 u0 q r)) (fun _ qv=>(intOf qv).toNat)
    case atStart=>exact⟨_,_,rfl,rfl,by have:=B2.out;unfold Hid;omega,W⟩
    case round =>
     obtain⟨q,r,rfl,rfl,hr,Q⟩:=hrel
     clear k1 k2 k3 k4 k6 W x1 x2 x3 x4
     have L:Hid (q<W64):=by
      have h1:=Zb2 B1.out I.out Q.out
      unfold Hid;rw[zN];omega
     have b0:Hid (r+v1<W64):=by
      have h1:=hr.out
      have h2:=B2.out
      unfold Hid;rw[zN];rw[wJ] at h1 h2;omega
     have g2:=kY b0.out
     obtain⟨G,A⟩:=yE (r+v1)
     rw[A] at g2
     have M:=zh A
     clear A
     by_cases a:H32≤q
     ·have d:=zh (ZeV k.out V.out a Q.out)
      have t1:=gG a
      have g1:=iW (q:=q) (by have:=wJ;omega) L.out
      obtain⟨p,h⟩:=yE (q-1)
      rw[h] at g1 d
      rw[M.out] at d
      have B:p<q:=by have:=wJ;omega
      by_cases f:H32≤G
      ·have i:=zh (gS k.out B3.out f d.out)
       have t2:=gG f
       clear f a h B d Q
       rw[o.out] at i
       obtain⟨X,Z,a0,y1,y2,y3,y4⟩:=un21 l.out (by rw[←wJ];exact gE i.out) (uP _ b.out)
       obtain⟨v,g⟩:=yE ((H*H32+u0)%Y)
       rw[g] at y4
       obtain⟨z1,z2,z4,z5,J⟩:=bJ N.out (gF b.out t.out V.out i.out)
       have y5:(v:Int)/2^s=((v/2^s:Nat):Int):=by rw[tR,vY];rfl
       obtain⟨x,c⟩:=yE (v/2^s)
       rw[c] at y5
       have EZ:=zh J
       have ER:=zh c
       have z:=zh g
       clear g J c
       go_wp2
       go_ret2
       have fq:z2=qf:=by rw[EZ.out,← R.out,i.out,O.out,ERR.out]
       have fr:x=rf:=by rw[←ER.out,← z.out,← S.out,ERR.out]
       exact⟨by rw[←fq,← fr];rfl,rfl⟩
      have t2:=iB f
      have C:Hid (G<H32):=by unfold Hid;omega
      clear f a h
      go_wp2
      go_round
      case rel=>exact⟨p,G,rfl,rfl,C,d⟩
      case measure=>simp[intOf];omega
     have t1:=iB a
     have g5:=fK (Zc7 a B3.out)
     obtain⟨m,D⟩:=yE (q*v0)
     rw[D] at g5
     obtain⟨m2,m3,g6,g7,n⟩:=ZeX hr.out V.out
     by_cases j:m3<m
     ·have t3:=dX j
      have d:=zh (ZbC (by have:=k.out;omega) (by rw[D,← n];exact j) Q.out)
      have E:0<q:=by
       rcases uJ q with e|e
       ·subst e;simp at D;omega
       exact e
      have g1:=iW E L.out
      obtain⟨p,h⟩:=yE (q-1)
      rw[h] at g1 d
      rw[M.out] at d
      have B:p<q:=qO
      by_cases f:H32≤G
      ·have i:=zh (gS k.out B3.out f d.out)
       have t2:=gG f
       clear f a h B d Q j D n E
       rw[o.out] at i
       obtain⟨X,Z,a0,y1,y2,y3,y4⟩:=un21 l.out (by rw[←wJ];exact gE i.out) (uP _ b.out)
       obtain⟨v,g⟩:=yE ((H*H32+u0)%Y)
       rw[g] at y4
       obtain⟨z1,z2,z4,z5,J⟩:=bJ N.out (gF b.out t.out V.out i.out)
       have y5:(v:Int)/2^s=((v/2^s:Nat):Int):=by rw[tR,vY];rfl
       obtain⟨x,c⟩:=yE (v/2^s)
       rw[c] at y5
       have EZ:=zh J
       have ER:=zh c
       have z:=zh g
       clear g J c
       go_wp2
       go_ret2
       have fq:z2=qf:=by rw[EZ.out,← R.out,i.out,O.out,ERR.out]
       have fr:x=rf:=by rw[←ER.out,← z.out,← S.out,ERR.out]
       exact⟨by rw[←fq,← fr];rfl,rfl⟩
      have t2:=iB f
      have C:Hid (G<H32):=by unfold Hid;omega
      clear f a h j D n E
      go_wp2
      go_round
      case rel=>exact⟨p,G,rfl,rfl,C,d⟩
      case measure=>simp[intOf];omega
     have t3:=eA j
     have i:=zh (Zak (by have:=k.out;omega) (by rw[D,← n];omega) Q.out)
     obtain⟨p,rfl⟩:∃ p,p=q:=⟨_,rfl⟩
     clear j D n a Q
     rw[o.out] at i
     obtain⟨X,Z,a0,y1,y2,y3,y4⟩:=un21 l.out (by rw[←wJ];exact gE i.out) (uP _ b.out)
     obtain⟨v,g⟩:=yE ((H*H32+u0)%Y)
     rw[g] at y4
     obtain⟨z1,z2,z4,z5,J⟩:=bJ N.out (gF b.out t.out V.out i.out)
     have y5:(v:Int)/2^s=((v/2^s:Nat):Int):=by rw[tR,vY];rfl
     obtain⟨x,c⟩:=yE (v/2^s)
     rw[c] at y5
     have EZ:=zh J
     have ER:=zh c
     have z:=zh g
     clear g J c
     go_wp2
     go_ret2
     have fq:z2=qf:=by rw[EZ.out,← R.out,i.out,O.out,ERR.out]
     have fr:x=rf:=by rw[←ER.out,← z.out,← S.out,ERR.out]
     exact⟨by rw[←fq,← fr];rfl,rfl⟩
   have t2:=iB f
   have C:Hid (G<H32):=by unfold Hid;omega
   clear f a h j D n E
   go_wp2
   go_round
   case rel=>exact⟨p,G,rfl,rfl,C,d⟩
   case measure=>simp[intOf];omega
  have t3:=eA j
  have i:=zh (Zak (by have:=K.out;omega) (by rw[D,← n];omega) Q.out)
  obtain⟨p,rfl⟩:∃ p,p=q:=⟨_,rfl⟩
  clear j D n a Q
  rw[o.out] at i
  have b:Hid (0<Y):=by have:=o.out;have:=K.out;unfold Hid;omega
  obtain⟨H,F⟩:=yE ((U*H32+u1)%Y)
  have t:Hid (H<Y):=by rw[←F];exact uP _ b.out
  obtain⟨a1,a2,a3,x1,x2,x3,x4⟩:=un21 l.out (by rw[←wJ];exact gE i.out) (uP _ b.out)
  rw[F] at x4
  have N:Hid (p<H32):=gF b.out (by have:=K.out;rw[o.out] at this;exact this) B4.out i.out
  have O:=i
  clear i
  have ERR:=zh F
  clear F
  have I:Hid (H<W64):=uT t.out l.out
  have k:Hid (H<v1*H32+v0):=by rw[o.out];exact t.out
  obtain⟨qi,mi,ri,k1,k2,k3,k4,k5,k6⟩:=Zb0 (U:=H) (v1:=v1) (by have:=B1.out;omega) I.out
  have W:=zh (Zb1 (v0:=v0) (u:=u0) (by have:=B1.out;omega) V.out k5 k6)
  clear k5
  go_wp2
  go_loop [16,18] (fun rv qv=>∃ q r:Nat,qv=.int .u64 q∧rv=.int .u64 r∧Hid (r<H32)∧Hid (fB H32 H v1 v0 u0 q r)) (fun _ qv=>(intOf qv).toNat)
  case atStart=>exact⟨_,_,rfl,rfl,by have:=B2.out;unfold Hid;omega,W⟩
  case round =>
   obtain⟨q,r,rfl,rfl,hr,Q⟩:=hrel
   clear k1 k2 k3 k4 k6 W x1 x2 x3 x4
   have L:Hid (q<W64):=by
    have h1:=Zb2 B1.out I.out Q.out
    unfold Hid;rw[zN];omega
   have b0:Hid (r+v1<W64):=by
    have h1:=hr.out
    have h2:=B2.out
    unfold Hid;rw[zN];rw[wJ] at h1 h2;omega
   have g2:=kY b0.out
   obtain⟨G,A⟩:=yE (r+v1)
   rw[A] at g2
   have M:=zh A
   clear A
   by_cases a:H32≤q
   ·have d:=zh (ZeV k.out V.out a Q.out)
    have t1:=gG a
    have g1:=iW (q:=q) (by have:=wJ;omega) L.out
    obtain⟨p,h⟩:=yE (q-1)
    rw[h] at g1 d
    rw[M.out] at d
    have B:p<q:=by have:=wJ;omega
    by_cases f:H32≤G
    ·have i:=zh (gS k.out B3.out f d.out)
     have t2:=gG f
     clear f a h B d Q
     rw[o.out] at i
     obtain⟨X,Z,a0,y1,y2,y3,y4⟩:=un21 l.out (by rw[←wJ];exact gE i.out) (uP _ b.out)
     obtain⟨v,g⟩:=yE ((H*H32+u0)%Y)
     rw[g] at y4
     obtain⟨z1,z2,z4,z5,J⟩:=bJ N.out (gF b.out t.out V.out i.out)
     have y5:(v:Int)/2^s=((v/2^s:Nat):Int):=by rw[tR,vY];rfl
     obtain⟨x,c⟩:=yE (v/2^s)
     rw[c] at y5
     have EZ:=zh J
     have ER:=zh c
     have z:=zh g
     clear g J c
     go_wp2
     go_ret2
     have fq:z2=qf:=by rw[EZ.out,← R.out,i.out,O.out,ERR.out]
     have fr:x=rf:=by rw[←ER.out,← z.out,← S.out,ERR.out]
     exact⟨by rw[←fq,← fr];rfl,rfl⟩
    have t2:=iB f
    have C:Hid (G<H32):=by unfold Hid;omega
    clear f a h
    go_wp2
    go_round
    case rel=>exact⟨p,G,rfl,rfl,C,d⟩
    case measure=>simp[intOf];omega
   have t1:=iB a
   have g5:=fK (Zc7 a B3.out)
   obtain⟨m,D⟩:=yE (q*v0)
   rw[D] at g5
   obtain⟨m2,m3,g6,g7,n⟩:=ZeX hr.out V.out
   by_cases j:m3<m
   ·have t3:=dX j
    have d:=zh (ZbC (by have:=k.out;omega) (by rw[D,← n];exact j) Q.out)
    have E:0<q:=by
     rcases uJ q with e|e
     ·subst e;simp at D;omega
     exact e
    have g1:=iW E L.out
    obtain⟨p,h⟩:=yE (q-1)
    rw[h] at g1 d
    rw[M.out] at d
    have B:p<q:=qO
    by_cases f:H32≤G
    ·have i:=zh (gS k.out B3.out f d.out)
     have t2:=gG f
     clear f a h B d Q j D n E
     rw[o.out] at i
     obtain⟨X,Z,a0,y1,y2,y3,y4⟩:=un21 l.out (by rw[←wJ];exact gE i.out) (uP _ b.out)
     obtain⟨v,g⟩:=yE ((H*H32+u0)%Y)
     rw[g] at y4
     obtain⟨z1,z2,z4,z5,J⟩:=bJ N.out (gF b.out t.out V.out i.out)
     have y5:(v:Int)/2^s=((v/2^s:Nat):Int):=by rw[tR,vY];rfl
     obtain⟨x,c⟩:=yE (v/2^s)
     rw[c] at y5
     have EZ:=zh J
     have ER:=zh c
     have z:=zh g
     clear g J c
     go_wp2
     go_ret2
     have fq:z2=qf:=by rw[EZ.out,← R.out,i.out,O.out,ERR.out]
     have fr:x=rf:=by rw[←ER.out,← z.out,← S.out,ERR.out]
     exact⟨by rw[←fq,← fr];rfl,rfl⟩
    have t2:=iB f
    have C:Hid (G<H32):=by unfold Hid;omega
    clear f a h j D n E
    go_wp2
    go_round
    case rel=>exact⟨p,G,rfl,rfl,C,d⟩
    case measure=>simp[intOf];omega
   have t3:=eA j
   have i:=zh (Zak (by have:=k.out;omega) (by rw[D,← n];omega) Q.out)
   obtain⟨p,rfl⟩:∃ p,p=q:=⟨_,rfl⟩
   clear j D n a Q
   rw[o.out] at i
   obtain⟨X,Z,a0,y1,y2,y3,y4⟩:=un21 l.out (by rw[←wJ];exact gE i.out) (uP _ b.out)
   obtain⟨v,g⟩:=yE ((H*H32+u0)%Y)
   rw[g] at y4
   obtain⟨z1,z2,z4,z5,J⟩:=bJ N.out (gF b.out t.out V.out i.out)
   have y5:(v:Int)/2^s=((v/2^s:Nat):Int):=by rw[tR,vY];rfl
   obtain⟨x,c⟩:=yE (v/2^s)
   rw[c] at y5
   have EZ:=zh J
   have ER:=zh c
   have z:=zh g
   clear g J c
   go_wp2
   go_ret2
   have fq:z2=qf:=by rw[EZ.out,← R.out,i.out,O.out,ERR.out]
   have fr:x=rf:=by rw[←ER.out,← z.out,← S.out,ERR.out]
   exact⟨by rw[←fq,← fr];rfl,rfl⟩
theorem dS {y:Nat}(b:0<y)(a:y<W64):1≤Lib.bitLen y∧Lib.bitLen y≤64∧2^(Lib.bitLen y-1)≤y∧y<2^Lib.bitLen y:=by
 rw[zN] at a
 have h:=Lib.bitLenAux_bounds 64 y qO qO
 exact⟨h.1,Lib.bitLen_le y 64 qO qO,h.2.1,h.2.2⟩
noncomputable def divQ (hi lo y:Nat):Nat:=(hi*W64+lo)/y
noncomputable def divR (hi lo y:Nat):Nat:=(hi*W64+lo)%y
theorem Zc8 (hi lo y:Nat):divQ hi lo y*y+divR hi lo y=hi*W64+lo:=by
 unfold divQ divR;rw[uG];exact vX _ _
theorem ZcC (hi lo:Nat){y:Nat}(a:0<y):divR hi lo y<y:=uP _ a
theorem Zhq {hi lo y:Nat}(h:hi<y)(a:lo<W64):divQ hi lo y<W64:=by
 unfold divQ
 rw[vN qO]
 have:(hi+1)*W64≤y*W64:=uE _ h
 rw[uW] at this
 rw[uG W64]
 omega
theorem Zn4 (hi lo y:Nat)(w:World)(q:0<hi)(h:hi<y)(n:y<W64)(d:lo<W64) :
 Ζ 128 #[.int .u64 (hi:Int),.int .u64 (lo:Int),.int .u64 (y:Int)] w fun e w'=>e=.returned (.tuple #[.int .u64 (divQ hi lo y:Nat),.int .u64 (divR hi lo y:Nat)])∧w=w':=by
 obtain⟨z,A,r,t⟩:=dS (y:=y) qO n
 obtain⟨s,B⟩:=yE (64-Lib.bitLen y)
 have i:0<2^s:=uZ qO
 have b:y*2^s<W64:=by
  have:y*2^s<2^Lib.bitLen y*2^s:=tS t i
  rw[←uU,show Lib.bitLen y+s=64 by omega] at this
  rw[zN];exact this
 have u:9223372036854775808≤y*2^s:=by
  have:2^(Lib.bitLen y-1)*2^s≤y*2^s:=uE _ r
  rw[←uU,show Lib.bitLen y-1+s=63 by omega] at this
  exact this
 have C:hi*2^s<y*2^s:=tS h i
 have j:lo/2^(64-s)<2^s:=by
  rw[vN (uZ qO),← uU,show s+(64-s)=64 by omega]
  rw[zN] at d;exact d
 have k:hi*2^s ||| lo/2^(64-s)=hi*2^s+lo/2^(64-s):=by
  have:=sQ j hi
  rw[rL] at this
  exact this.symm
 have f:hi*2^s+lo/2^(64-s)<y*2^s:=by
  have:(hi+1)*2^s≤y*2^s:=uE _ h
  rw[uW] at this
  omega
 have l:y*2^s<18446744073709551616:=by rw[zN] at b;exact b
 have v:lo*2^s%18446744073709551616<18446744073709551616:=uP _ qO
 have g:hi*2^s<18446744073709551616:=qO
 have a:((2:Int)^s)=((2^s:Nat):Int):=by rw[vY];rfl
 have c:((2:Int)^(64-s))=((2^(64-s):Nat):Int):=by rw[vY];rfl
 have x:=ZkN hi lo s qO
 have o:y*2^s/4294967296*H32+y*2^s%4294967296=y*2^s:=by rw[wJ,uG];exact vX _ _
 have p:=Zd2 (hi*18446744073709551616+lo) y (2^s) i
 have m:=Zr6 (H:=H32) (Y:=y*2^s) (U:=hi*2^s+lo/2^(64-s)) (u1:=lo*2^s%18446744073709551616/4294967296) (u0:=lo*2^s%18446744073709551616%4294967296) qO f (by rw[wJ];omega) (by rw[wJ];omega)
 rw[wJ,← x,p.1] at m
 refine ZmU hi lo y s (y*2^s) (y*2^s/4294967296) (y*2^s%4294967296) (hi*2^s) (lo/2^(64-s)) (hi*2^s+lo/2^(64-s)) (lo*2^s%18446744073709551616) (lo*2^s%18446744073709551616/4294967296) (lo*2^s%18446744073709551616%4294967296) _ _ w ?_ ?_ q h n qO qO ⟨?_,?_,?_,?_,?_,?_,?_,?_,?_⟩ (by rw[o];exact f) o qO (by rw[wJ];omega) (by rw[wJ];omega) (by rw[wJ];omega) (by rw[wJ];omega)
 ·rw[wJ,← m.2.2.2.1,divQ,zN]
 ·rw[wJ,← m.2.2.2.2,divR,zN];exact p.2
 ·rw[a,← tG];exact wK _ b
 ·omega
 ·exact M64.maskN _ l
 ·rw[a,← tG];exact M64.wrapN _ g
 ·rw[c,tR]
 ·rw[bits_or_u64_nat _ _ g qO,k]
 ·rw[a,← tG];exact M64.wrapM _
 ·omega
 exact M64.maskN _ v
theorem ZkP (lo y q r:Nat)(w:World)(f:0<y)(b:lo/y=q)(c:lo%y=r)(a:lo<W64) :
 Ζ 128 #[.int .u64 0,.int .u64 (lo:Int),.int .u64 (y:Int)] w fun e w'=>e=.returned (.tuple #[.int .u64 (q:Int),.int .u64 (r:Int)])∧∃ n,w'=w.drewN n:=by
 have g:((y:Int) == 0)=false:=by simp;omega
 have h:(lo:Int)/(y:Int)=(q:Int):=by rw[←tR,b]
 have p2:IntKind.u64.wrap (q:Int)=(q:Int):=wK _ (by have:=vJ lo y;omega)
 have d:(lo:Int)%(y:Int)=(r:Int):=by rw[←mE,c]
 clear b c a
 go_enter func128,ntmps128
 go_wp2
 go_quiet (fail)
 go_wp2
 go_ret2
 exact⟨by rw[←d];rfl,_,rfl⟩
theorem Zb3 (hi lo y:Nat)(w:World)(c:hi<y)(d:y<W64)(a:lo<W64) :
 Ζ 128 #[.int .u64 (hi:Int),.int .u64 (lo:Int),.int .u64 (y:Int)] w fun e w'=>e=.returned (.tuple #[.int .u64 (divQ hi lo y:Nat),.int .u64 (divR hi lo y:Nat)])∧∃ n,w'=w.drewN n:=by
 rcases uJ hi with b|b
 ·subst b
  refine (ZkP lo y (divQ 0 lo y) (divR 0 lo y) w c (by simp[divQ]) (by simp[divR]) a).mono ?_
  rintro e w' ⟨rfl,f⟩
  exact⟨rfl,f⟩
 refine (Zn4 hi lo y w b c d a).mono ?_
 rintro e w' ⟨rfl,rfl⟩
 exact⟨rfl,0,rfl⟩
def aX (xs:List Nat) (u k r:Nat):Prop:=r<u∧∃ Q,val W64 (xs.drop k)=Q*u+r
theorem aX.start (xs:qN){u:Nat}(a:0<u):aX xs u xs.length 0:=⟨a,0,by rw[vF (uF _)];simp⟩
theorem aX.step {xs:qN}{u k r x:Nat}(h:aX xs u (k+1) r)(a:k<xs.length)(b:xs[k]?.getD 0=x):aX xs u k (divR r x u):=by
 obtain⟨d,Q,c⟩:=h
 refine⟨ZcC _ _ qO,divQ r x u+W64*Q,?_⟩
 rw[xY k a,b]
 exact ZfE W64 _ _ _ _ _ _ _ c (Zc8 r x u).symm
theorem aX.done {xs:qN}{u r:Nat}(h:aX xs u 0 r):val W64 xs%u=r:=by
 obtain⟨b,Q,a⟩:=h
 rw[sI] at a
 rw[a,uG,pG,vL b]
theorem eG (A:qA)(xs:qN)(n c u:Nat)(w:World)(y:xs.length=n)(o:zI .u64 w A xs)(I:xs.length≤1099511627776)(p:Dig W64 xs)(z:0<u)(d:u<W64) :
 Ζ 147 #[.slice A n c,.int .u64 (u:Int)] w fun e w'=>e=.returned (.int .u64 ((val W64 xs%u:Nat):Int))∧∃ n,w'=w.drewN n:=by
 subst y
 have B:=zh o
 have C:=zh p
 have D:=zh d
 obtain⟨E,a⟩:=yE (val W64 xs%u)
 rw[a]
 have f:=zh a
 clear o p d a
 go_enter func147,ntmps147
 go_wp2
 go_loopw [5,6] (fun F i wr=>∃ k r q:Nat,k≤xs.length∧i=.int .i64 ((k:Int)-1)∧F=.int .u64 (r:Int)∧Hid (aX xs u k r)∧Hid (wr=w.drewN q)) (fun _ i _=>(intOf i+1).toNat)
 case atStart=>exact⟨xs.length,0,0,uF _,rfl,rfl,aX.start xs z,rfl⟩
 case round =>
  obtain⟨k,r,q,J,rfl,rfl,g,s⟩:=hrel
  obtain rfl:=s.out
  clear s
  by_cases G:0<k
  ·obtain⟨j,rfl⟩:∃ j,k=j+1:=⟨k-1,qO⟩
   have t:(((j+1:Nat):Int)-1)=(j:Int):=qO
   rw[t]
   clear t
   obtain⟨b,H,rfl,_,h⟩:=B.out.at (i:=j) qO
   obtain⟨x,ex⟩:=yE (xs[j]?.getD 0)
   rw[ex] at h
   have l:=zh (g.out.step qO ex)
   have m:Hid (x<W64):=ex ▸ C.out.getD zK j
   clear ex
   go_wp2_with (go_at_call 128;refine (Zb3 _ _ _ _ g.out.1 D.out m.out).mono ?_;rintro e w' ⟨rfl,K,rfl⟩)
   go_roundw
   case rel=>exact⟨j,_,_,qO,rfl,rfl,l,rfl⟩
   case measure=>simp[intOf]
  obtain rfl:k=0:=qO
  have v:=zh g.out.done
  rw[f.out] at v
  go_wp2
  go_ret
  exact⟨by rw[v.out];rfl,_,rfl⟩
def bO (xs:List Nat) (u k:Nat) (qs:List Nat) (r:Nat):Prop:=qs.length=xs.length∧Dig W64 qs∧r<u∧val W64 (xs.drop k)=val W64 (qs.drop k)*u+r
theorem bO.start (xs:qN){u:Nat}(a:0<u):bO xs u xs.length (List.replicate xs.length 0) 0:=by
 refine⟨qS,Dig.replicate zK _,a,?_⟩
 rw[vF (uF _),vF qS];simp
theorem bO.step {xs a:qN}{u k r x:Nat}(h:bO xs u (k+1) a r)(c:k<xs.length)(e:xs[k]?.getD 0=x)(b:x<W64):bO xs u k (a.set k (divQ r x u)) (divR r x u):=by
 obtain⟨d,f,g,i⟩:=h
 refine⟨by simpa using d,f.set k (Zhq g b),ZcC _ _ qO,?_⟩
 rw[xY k c,e,xY (xs:=a.set k _) k (by simp;omega),tN qO]
 have:(a.set k (divQ r x u))[k]?.getD 0=divQ r x u:=by simp[d,c]
 rw[this]
 exact ZfE W64 _ _ _ _ _ _ _ i (Zc8 r x u).symm
theorem bO.done {xs a:qN}{u r:Nat}(h:bO xs u 0 a r):val W64 a=val W64 xs/u∧r=val W64 xs%u:=by
 obtain⟨d,e,b,c⟩:=h
 rw[sI,sI] at c
 rw[c,uG,rK qO,pG,vL b,tV b]
 exact⟨rfl,rfl⟩
def ZmV (w:World) (q r:Nat) (e:Ending) (w':World):Prop:=∃ v,e=.returned (.tuple #[v,.int .u64 (r:Int)])∧zF w' v q∧Ext w w'
theorem Zhr (A:qA)(xs:qN)(n c u:Nat)(w:World)(Q:xs.length=n)(H:zI .u64 w A xs)(hl:xs.length≤4294967296)(I:Dig W64 xs)(R:0<u)(h:u<W64) :
 Ζ 199 #[.slice A n c,.int .u64 (u:Int)] w (ZmV w (val W64 xs/u) (val W64 xs%u)):=by
 subst Q
 have S:=zh H
 have T:=zh I
 have U:=zh h
 clear H I h
 go_enter func199,ntmps199
 go_wp2_with (
  at_make
  refine lA rfl _ _ _ rfl _ _ _ underlying96 dR _ _ _ _ xs.length rfl rfl qO qO qO qO ?_
  intro b w1 J l _ m s
  have t:=zh l
  have y:=zh m
  have V:=zh J
  clear l m J s)
 go_loopw [7,8] (fun W i wr=>∃ (k r:Nat) (f:List Nat),k≤xs.length∧i=.int .i64 ((k:Int)-1)∧W=.int .u64 (r:Int)∧Hid (bO xs u k f r)∧Hid (Own .u64 84 wr b f)∧Hid (Ext w wr)) (fun _ i _=>(intOf i+1).toNat)
 case atStart=>exact⟨xs.length,0,_,uF _,rfl,rfl,bO.start xs R,t.out,y.out⟩
 case round =>
  obtain⟨k,r,f,hk,rfl,rfl,g,a,d⟩:=hrel
  by_cases X:0<k
  ·obtain⟨j,rfl⟩:∃ j,k=j+1:=⟨k-1,qO⟩
   have K:(((j+1:Nat):Int)-1)=(j:Int):=qO
   rw[K]
   clear K
   obtain⟨b2,L,rfl,_,B⟩:=(S.out.ext d.out).at (i:=j) qO
   obtain⟨x,ex⟩:=yE (xs[j]?.getD 0)
   rw[ex] at B
   have o:Hid (x<W64):=ex ▸ T.out.getD zK j
   have C:=zh (g.out.step qO ex o.out)
   clear ex
   have D:=g.out.1
   have q:j<f.length:=qO
   have E:=a.out.cell q
   have Y:=a.out.frozen j
   obtain⟨z,M⟩:=yE (f[j]?.getD 0)
   rw[M] at E
   have F:=zh (fun v=>a.out.set j v q)
   clear M D
   go_wp2_with (go_at_call 128;refine (Zb3 _ _ _ _ g.out.2.2.1 U.out o.out).mono ?_;rintro e w' ⟨rfl,n1,rfl⟩)
   go_roundw
   case rel=>exact⟨j,_,_,qO,rfl,rfl,C,F.out _,(d.out.setCell (p:=⟨b,j,none⟩) (Or.inr (by have:=V.out;show w.heap.size≤b;omega)) _).drewN _⟩
   case measure=>simp[intOf]
  obtain rfl:k=0:=qO
  have G:=g.out.done
  have N:=g.out.1
  have O:=zh (dG _ f xs.length xs.length wr N a.out.shows0 qO qO)
  have P:=zh (zF.of_own (c:=xs.length) a.out g.out.2.1 qO)
  rw[G.1] at P
  have Z:=zh G.2
  clear N G
  go_wp2_with fail
  refine O.out.mono ?_
  rintro e w2 ⟨rfl,rfl⟩
  clear O
  go_wp2
  go_ret2
  exact⟨_,by rw[←Z.out];rfl,P.out,d.out⟩
theorem jI {t:Nat}(a:t≤63):2^(64-t)*2^t=W64:=by
 rw[←uU,show 64-t+t=64 by omega,zN]
theorem Zn6 {x t:Nat}(a:t≤63):x*2^t=x*2^t%W64+W64*(x/2^(64-t)):=by
 have h:=sM (x*2^t) W64
 have:x*2^t/W64=x/2^(64-t):=by
  rw[←jI a,qR _ _ (uZ qO)]
 rw[this] at h
 exact h.symm
theorem Zn7 {h x t:Nat}(a:h<2^t)(b:t≤63):h ||| x*2^t%W64=h+x*2^t%W64:=by
 have e:x*2^t%W64=(x%2^(64-t)) <<< t:=by
  rw[rL,← jI b,rH]
 rw[e,Nat.or_comm,← sQ a,vW]
theorem Zam (x t:Nat):IntKind.u64.wrap ((x:Int)*2^t)=((x*2^t%W64:Nat):Int):=by
 have a:((2:Int)^t)=((2^t:Nat):Int):=by rw[vY];rfl
 rw[a,← tG,zN]
 exact M64.wrapM _
theorem ZcD (x t:Nat):(x:Int)/2^t=((x/2^t:Nat):Int):=by
 have a:((2:Int)^t)=((2^t:Nat):Int):=by rw[vY];rfl
 rw[a,tR]
theorem bP {a b:Nat}(ha:a<W64)(c:b<W64):bits .or .u64 (a:Int) (b:Int)=((a ||| b:Nat):Int):=by
 rw[zN] at ha c
 exact bits_or_u64_nat a b ha c
def cS (xs:List Nat) (skip t k:Nat) (zs:List Nat):Prop :=
 zs.length=xs.length+skip+1∧Dig W64 zs∧val W64 (zs.take (k+skip+1))=val W64 (xs.take k)*2^(64*skip+t)∧(zs[k+skip]?.getD 0)<2^t
theorem cS.start (xs:qN)(a t:Nat):cS xs a t 0 (List.replicate (xs.length+a+1) 0):=by
 refine⟨qS,Dig.replicate zK _,?_,?_⟩
 ·rw[List.take_replicate,kX];simp
 have:((List.replicate (xs.length+a+1) 0)[0+a]?.getD 0)=0:=by
  rw[pE];split<;>rfl
 rw[this];exact uZ qO
theorem cS.step {xs zs:qN}{a t k h x:Nat}(j:cS xs a t k zs)(g:t≤63)(l:k<xs.length)(i:zs[k+a]?.getD 0=h)(m:xs[k]?.getD 0=x)(b:x<W64) :
 cS xs a t (k+1) ((zs.set (k+a) (h+x*2^t%W64)).set (k+a+1) (x/2^(64-t)))∧h+x*2^t%W64<W64:=by
 obtain⟨n,o,p,q⟩:=j
 rw[i] at q
 have c:h+x*2^t%W64<W64:=by
  rw[←jI g,rH]
  have:x%2^(64-t)<2^(64-t):=uP _ (uZ qO)
  have r:(x%2^(64-t)+1)*2^t≤2^(64-t)*2^t:=uE _ this
  rw[uW] at r
  omega
 have f:x/2^(64-t)<2^t:=by
  rw[vN (uZ qO),← uU,show t+(64-t)=64 by omega]
  rw[zN] at b;exact b
 have d:x/2^(64-t)<W64:=vA (vJ _ _) b
 refine⟨⟨by simpa using n,(o.set _ c).set _ d,?_,?_⟩,c⟩
 ·rw[show k+1+a+1=(k+a+1)+1 by omega,xL _ _ _ _ (by simp;omega),xL _ _ _ _ qO,zV k l,m,uW,← p,zV (k+a) qO,i]
  have e:=Zn6 (x:=x) g
  have s:W64^k*x*2^(64*a+t)=W64^(k+a)*(x*2^t):=by
   rw[uU 2,← bI,uU]
   simp only[uH,tL]
  rw[s]
  have u:=vP (W64^(k+a) * ·) e
  simp only[uL] at u
  rw[uL,uO,uH]
  omega
 have:((zs.set (k+a) (h+x*2^t%W64)).set (k+a+1) (x/2^(64-t)))[k+1+a]?.getD 0=x/2^(64-t):=by
  rw[show k+1+a=k+a+1 by omega,sJ (by simp;omega)]
  rfl
 rw[this];exact f
theorem cS.done {xs zs:qN}{a t:Nat}(h:cS xs a t xs.length zs):val W64 zs=val W64 xs*2^(64*a+t):=by
 obtain⟨c,d,b,e⟩:=h
 rw[uB qO,uB qO] at b
 exact b
theorem Zhs (A:qA)(xs:qN)(n c s f t:Nat)(w:World)(hn:xs.length=n)(V:zI .u64 w A xs)(W:xs.length≤c)(hl:xs.length≤4294967296)(X:Dig W64 xs)(Y:Trim xs)(I:s=64*f+t)(Z:t≤63)(hk:f≤4294967296) :
 Ζ 193 #[.slice A n c,.int .u64 (s:Int)] w (lH w (val W64 xs*2^s)):=by
 subst hn
 have J:=zh V
 have K:=zh X
 have Tx:=zh Y
 have HS:=zh I
 clear V X Y
 by_cases h0:xs.length=0
 ·obtain rfl:xs=[]:=tI.1 h0
  clear I
  go_enter func193,ntmps193
  go_wp2
  go_ret
  exact⟨_,rfl,⟨A,[],c,rfl,W,J.out,K.out,Tx.out,qS⟩,Fr.refl _ _⟩
 have L:(((xs.length:Nat):Int) == 0)=false:=by simp;intro e;simp[e] at h0
 by_cases h1:s=0
 ·subst h1
  clear I
  go_enter func193,ntmps193
  go_wp2
  go_ret
  exact⟨_,rfl,⟨A,xs,c,rfl,W,J.out,K.out,Tx.out,qS⟩,Fr.refl _ _⟩
 have M:((s:Int) == 0)=false:=by simp;omega
 have p1:(s:Int)/64=(f:Int):=qO
 have p2:(s:Int)%64=(t:Int):=qO
 clear I h1
 go_enter func193,ntmps193
 go_wp2_with (
  at_make
  refine lA rfl _ _ _ rfl _ _ _ underlying96 dR _ _ _ _ (xs.length+f+1) rfl rfl qO qO qO qO ?_
  intro b w1 hb y _ z N
  have O:=zh y
  have P:=zh z
  have Hb:=zh hb
  clear y z hb N)
 go_loopw [31] (fun i wr=>∃ (k:Nat) (q:List Nat),k≤xs.length∧i=.int .i64 (k:Int)∧Hid (cS xs f t k q)∧Hid (Own .u64 84 wr b q)∧Hid (Ext w wr)) (fun i _=>xs.length-(intOf i).toNat)
 case atStart=>exact⟨0,_,qO,rfl,cS.start xs f t,O.out,P.out⟩
 case round =>
  obtain⟨k,q,b0,rfl,r,j,u⟩:=hrel
  clear p1 p2 L M
  by_cases B:k<xs.length
  ·obtain⟨b2,a0,rfl,_,Q⟩:=(J.out.ext u.out).at B
   obtain⟨x,ex⟩:=yE (xs[k]?.getD 0)
   obtain⟨h,C⟩:=yE (q[k+f]?.getD 0)
   rw[ex] at Q
   have R:Hid (x<W64):=ex ▸ K.out.getD zK k
   obtain⟨D,E⟩:=r.out.step Z B C ex R.out
   have l:=zh D
   have S:q.length=xs.length+f+1:=r.out.1
   have T:=j.out.cell (i:=k+f) qO
   have c0:=j.out.frozen (k+f)
   rw[C] at T
   have m:=j.out.set (k+f) (h+x*2^t%W64) qO
   have v:=m.cell (i:=k+f+1) (by simp;omega)
   have F:=m.frozen (k+f+1)
   obtain⟨g,eg⟩:=yE ((q.set (k+f) (h+x*2^t%W64))[k+f+1]?.getD 0)
   rw[eg] at v
   have o:=zh (m.set (k+f+1) (x/2^(64-t)) (by simp;omega))
   have q1:=Zam x t
   have U:=bP (a:=h) (b:=x*2^t%W64) (C ▸ r.out.2.1.getD zK _) (uP _ zK)
   rw[Zn7 (C ▸ r.out.2.2.2) Z] at U
   have q3:=ZcD x (64-t)
   obtain⟨lo,G⟩:=yE (x*2^t%W64)
   obtain⟨hi,H⟩:=yE (x/2^(64-t))
   rw[G] at q1 U v F l o
   rw[H] at q3 l o
   obtain⟨d,ed⟩:=yE (h+lo)
   rw[ed] at U v F l o
   clear ex C D E S m eg G H ed
   go_wp2
   go_roundw
   case rel=>exact⟨k+1,_,qO,by go_num,l,o.out,(u.out.setCell (p:=⟨b,k+f,none⟩) (Or.inr (by have:=Hb.out;show w.heap.size≤b;omega)) _).setCell (p:=⟨b,k+f+1,none⟩) (Or.inr (by have:=Hb.out;show w.heap.size≤b;omega)) _⟩
   case measure=>simp[intOf];omega
  obtain rfl:k=xs.length:=qO
  have hz:=r.out.1
  have HT:=zh (dG _ q (xs.length+f+1) (xs.length+f+1) wr hz j.out.shows0 qO qO)
  have HN:=zh (zF.of_own (c:=xs.length+f+1) j.out r.out.2.1 qO)
  rw[r.out.done,← HS.out] at HN
  clear hz
  go_wp2_with fail
  refine HT.out.mono ?_
  rintro e w2 ⟨rfl,rfl⟩
  clear HT
  go_wp2
  go_ret
  exact⟨_,rfl,HN.out,u.out⟩
theorem ZdO (a:Value)(x s:Nat)(w:World)(f:zF w a x)(b:wl x≤4294967296)(j:s≤274877906944):Ζ 193 #[a,.int .u64 (s:Int)] w (lH w (x*2^s)):=by
 obtain⟨A,g,c,rfl,h,i,d,e,rfl⟩:=f
 rw[←xT d e] at b
 exact Zhs A g _ c s (s/64) (s%64) w rfl i h b d e qO qO qO
def cU (ys:List Nat) (t k:Nat) (zs:List Nat):Prop :=
 zs.length=ys.length∧Dig W64 zs∧2^t*val W64 (zs.take k)+(ys[0]?.getD 0)%2^t=val W64 (ys.take k)+W64^k*((ys[k]?.getD 0)%2^t)
theorem cU.start (ys:qN)(t:Nat):cU ys t 0 (List.replicate ys.length 0):=by
 refine⟨qS,Dig.replicate zK _,?_⟩
 simp
theorem Zr9 {y t:Nat}(a:t≤63):y*2^(64-t)%W64=y%2^t*2^(64-t):=by
 rw[←jI a,uG (2^(64-t)),rH]
theorem Zn8 {x y t:Nat}(b:t≤63)(c:x<W64):x/2^t ||| y*2^(64-t)%W64=x/2^t+y%2^t*2^(64-t):=by
 have a:x/2^t<2^(64-t):=by
  rw[vN (uZ qO),jI b];exact c
 rw[Zr9 b,← rL,Nat.or_comm,← sQ a,vW]
theorem cU.step {ys zs:qN}{t k x y:Nat}(h:cU ys t k zs)(a:t≤63)(i:k<ys.length)(f:ys[k]?.getD 0=x)(j:ys[k+1]?.getD 0=y)(b:x<W64) :
 cU ys t (k+1) (zs.set k (x/2^t+y%2^t*2^(64-t))):=by
 obtain⟨l,m,n⟩:=h
 have c:x/2^t+y%2^t*2^(64-t)<W64:=by
  have g:x/2^t<2^(64-t):=by
   rw[vN (uZ qO),jI a];exact b
  have d:y%2^t<2^t:=uP _ (uZ qO)
  have e:(y%2^t+1)*2^(64-t)≤2^t*2^(64-t):=uE _ d
  rw[uG (2^t),jI a,uW] at e
  omega
 refine⟨by simpa using l,m.set k c,?_⟩
 rw[xL _ _ _ _ qO,zV k i,f,j]
 rw[f] at n
 have g:=vX x (2^t)
 have d:2^t*(y%2^t*2^(64-t))=W64*(y%2^t):=by
  rw[←jI a]
  simp only[uG,tL]
 have e:=vP (W64^k * ·) g
 simp only[uL] at e
 rw[uL,tL (2^t),uL (2^t),d,uL,uO,uH (W64^k) W64]
 omega
theorem cU.done {ys zs:qN}{t:Nat}(h:cU ys t ys.length zs):val W64 zs=val W64 ys/2^t:=by
 obtain⟨b,c,a⟩:=h
 rw[uB qO,uB qO,vU (uF _)] at a
 simp only[Option.getD_none,Nat.zero_mod,tX,tP] at a
 rw[←a,rK (uZ qO),tV (uP _ (uZ qO)),tP]
theorem Zht (xs:qN)(a t:Nat)(c:Dig W64 xs)(b:a≤xs.length):val W64 (xs.drop a)/2^t=val W64 xs/2^(64*a+t):=by
 rw[uU,← bI,← sV]
 congr 1
 rw[xX (xs:=xs) a,uY b,vW,rK (uZ zK)]
 have h:=wF (c.take a)
 rw[uN,uY b] at h
 rw[tV h,tP]
theorem ZfG {xs:qN}{s:Nat}(a:Dig W64 xs)(h:xs.length≤s/64):val W64 xs/2^s=0:=by
 refine tV (uT (wF a) ?_)
 rw[bI]
 exact vC qO qO
theorem Zgc (A:qA)(xs:qN)(n c s skip t:Nat)(w:World)(hn:xs.length=n)(hX:zI .u64 w A xs)(hl:xs.length≤4294967296)(hd:Dig W64 xs)(R:s=64*skip+t)(S:t≤63)(hk:skip≤4294967296) :
 Ζ 198 #[.slice A n c,.int .u64 (s:Int)] w (ZcB w none none (val W64 xs/2^s)):=by
 subst hn
 have T:=zh hX
 have U:=zh hd
 have HS:=zh R
 have p1:(s:Int)/64=(skip:Int):=qO
 have p2:(s:Int)%64=(t:Int):=qO
 clear hX hd
 by_cases h0:xs.length≤skip
 ·have HZ:=zh (ZfG (s:=s) U.out qO)
  clear R
  go_enter func198,ntmps198
  go_wp2
  go_ret
  exact⟨none,0,0,rfl,by rw[HZ.out];exact zF.zero _,Fr.refl _ _,fun a h=>by cases h⟩
 clear R
 go_enter func198,ntmps198
 go_wp2_with (
  at_make
  refine lA rfl _ _ _ rfl _ _ _ underlying96 dR _ _ _ _ (xs.length-skip) rfl rfl qO qO qO qO ?_
  intro b w1 hb H _ I V
  have W:=zh H
  have X:=zh I
  have J:=zh hb
  clear H I hb V)
 have f:Hid ((xs.drop skip).length=xs.length-skip):=by unfold Hid;simp
 go_loopw [27] (fun i wr=>∃ (k:Nat) (r:List Nat),k≤xs.length-skip∧i=.int .i64 (k:Int)∧Hid (cU (xs.drop skip) t k r)∧Hid (Own .u64 84 wr b r)∧Hid (Ext w wr)) (fun i _=>xs.length-skip-(intOf i).toNat)
 case atStart=>exact⟨0,_,qO,rfl,cU.start _ t,by rw[f.out];exact W.out,X.out⟩
 case round =>
  obtain⟨k,r,j0,rfl,G,g,m⟩:=hrel
  clear p1 p2
  by_cases u:k<xs.length-skip
  ·obtain⟨b2,K,rfl,_,L⟩:=(T.out.ext m.out).at (i:=k+skip) qO
   obtain⟨x,ex⟩:=yE (xs[k+skip]?.getD 0)
   rw[ex] at L
   have v:Hid (x<W64):=ex ▸ U.out.getD zK _
   have z:(xs.drop skip)[k]?.getD 0=x:=by rw[vR,vW];exact ex
   have M:r.length=xs.length-skip:=by rw[←f.out];exact G.out.1
   have j:k<r.length:=qO
   have N:=g.out.cell j
   have Y:=g.out.frozen k
   obtain⟨z0,C⟩:=yE (r[k]?.getD 0)
   rw[C] at N
   have q3:=ZcD x t
   by_cases D:k+skip+1<xs.length
   ·obtain⟨b3,g0,Z,_,E⟩:=(T.out.ext m.out).at (i:=k+skip+1) D
    injection Z with Z
    injection Z with e31 e32
    subst e31 e32
    obtain⟨y,ey⟩:=yE (xs[k+skip+1]?.getD 0)
    rw[ey] at E
    have o:(xs.drop skip)[k+1]?.getD 0=y:=by rw[vR,show skip+(k+1)=k+skip+1 by omega];exact ey
    have l:=zh (G.out.step S (by rw[f.out];exact u) z o v.out)
    have q1:=Zam y (64-t)
    have P:=bP (a:=x/2^t) (b:=y*2^(64-t)%W64) (vA (vJ _ _) v.out) (uP _ zK)
    rw[Zn8 S v.out] at P
    obtain⟨lo,q⟩:=yE (x/2^t)
    obtain⟨hi,O⟩:=yE (y*2^(64-t)%W64)
    obtain⟨d,ed⟩:=yE (x/2^t+y%2^t*2^(64-t))
    rw[ed] at P l
    rw[q] at P q3
    rw[O] at q1 P
    have B:=g.out.set k lo j
    have k0:=B.frozen k
    have a0:=B.cell (i:=k) (by simpa using j)
    have e4:(r.set k lo)[k]?.getD 0=lo:=by rw[sJ j];rfl
    rw[e4] at a0
    have b0:=zh (B.set k d (by simpa using j))
    have i0:(wr.setCell ⟨b,k,none⟩ (.int .u64 (lo:Int))).cell? ⟨b2,K+(k+skip+1),none⟩=some (.int .u64 (y:Int)):=by
     rw[World.cell?_setCell_other _ _ _ _ (by intro e;injection e with e;have:=J.out;obtain⟨b',o',Q,l0,_⟩:=T.out (by intro e0;rw[e0] at u;simp at u);injection Q with Q;injection Q with Q;omega)]
     exact E
    clear ex z ey o C q O ed M B e4
    have c0:=zh (m.out.setCell (p:=⟨b,k,none⟩) (Or.inr (by have:=J.out;show w.heap.size≤b;omega)) (.int .u64 (lo:Int)))
    go_wp2
    clear E L
    generalize d0:wr.setCell ⟨b,k,none⟩ (.int .u64 (lo:Int))=wq at *
    clear d0 N Y
    go_region
    all_goals
     go_wp2
     go_roundw
     case rel=>exact⟨k+1,_,qO,by go_num,l,by have:=b0.out;rw[List.set_set] at this;exact this.drewN _,(c0.out.setCell (p:=⟨b,k,none⟩) (Or.inr (by have:=J.out;show w.heap.size≤b;omega)) _).drewN _⟩
     case measure=>simp[intOf];omega
   have o:(xs.drop skip)[k+1]?.getD 0=0:=by rw[vR,vU qO];rfl
   have l:=zh (G.out.step S (by rw[f.out];exact u) z o v.out)
   rw[Nat.zero_mod,sD,tP] at l
   obtain⟨lo,q⟩:=yE (x/2^t)
   rw[q] at q3 l
   have f0:=zh (g.out.set k lo j)
   clear ex z o C q M
   go_wp2
   go_roundw
   case rel=>exact⟨k+1,_,qO,by go_num,l,f0.out,m.out.setCell (p:=⟨b,k,none⟩) (Or.inr (by have:=J.out;show w.heap.size≤b;omega)) _⟩
   case measure=>simp[intOf];omega
  obtain rfl:k=xs.length-skip:=qO
  have hz:r.length=xs.length-skip:=by rw[←f.out];exact G.out.1
  have HT:=zh (dG _ r (xs.length-skip) (xs.length-skip) wr hz g.out.shows0 qO qO)
  have HN:=zh (zF.of_own (c:=xs.length-skip) g.out G.out.2.1 qO)
  have F:=G.out
  rw[←f.out] at F
  rw[F.done,Zht xs skip t U.out qO,← HS.out] at HN
  clear hz F
  go_wp2_with fail
  refine HT.out.mono ?_
  rintro e w2 ⟨rfl,rfl⟩
  clear HT
  go_wp2
  go_ret
  exact⟨_,_,_,rfl,HN.out,m.out,fun a h=>Or.inl (by injection h with h;subst h;have:=J.out;show w.heap.size≤b;omega)⟩
theorem Zgd (a:Value)(x s:Nat)(w:World)(e:zF w a x)(b:wl x≤4294967296)(i:s≤274877906944):Ζ 198 #[a,.int .u64 (s:Int)] w (ZcB w none none (x/2^s)):=by
 obtain⟨A,f,c,rfl,j,g,d,h,rfl⟩:=e
 rw[←xT d h] at b
 exact Zgc A f _ c s (s/64) (s%64) w rfl g b d qO qO qO
theorem top2 {B:Nat}{a:qN}{n:Nat}(h:a.length=n+2):val B a=val B (a.take n)+B^n*((a[n]?.getD 0)+B*(a[n+1]?.getD 0)):=by
 rw[xX (xs:=a) n,xY n qO,xY (n+1) qO,vF (by omega:a.length≤n+1+1),uY qO]
 simp
theorem top3 {B:Nat}{a:qN}{n:Nat}(h:a.length=n+3):val B a=val B (a.take n)+B^n*((a[n]?.getD 0)+B*((a[n+1]?.getD 0)+B*(a[n+2]?.getD 0))):=by
 rw[xX (xs:=a) n,xY n qO,xY (n+1) qO,xY (n+2) qO,vF (by omega:a.length≤n+2+1),uY qO]
 simp
def eN (u v d:Nat):Prop:=d*v≤u+v∧u<(d+1)*v
theorem Zb4 (a:Nat){b:Nat}(c:0<b):a<(a/b+1)*b:=by
 have d:=vX a b
 have e:=uP a c
 rw[uW,uG (a/b)]
 omega
theorem Zoc {B:Nat}{c b:qN}{n a v1:Nat}(o:2≤B)(p:b.length=n+2)(q:c.length=n+3)(g:Dig B b)(h:c[n+2]?.getD 0=a)(i:b[n+1]?.getD 0=v1)(d:v1≤a)(e:B≤2*v1)(j:val B c<val B b*B) :
 eN (val B c) (val B b) (B-1):=by
 have k:val B b=val B (b.take (n+1))+B^(n+1)*v1:=by
  have:=zV (B:=B) (xs:=b) (n+1) qO
  rw[uB qO,i] at this
  exact this
 have r:val B c=val B (c.take (n+2))+B^(n+2)*a:=by
  have:=zV (B:=B) (xs:=c) (n+2) qO
  rw[uB qO,h] at this
  exact this
 have f:=wF (g.take (n+1))
 rw[uN,uY qO] at f
 obtain⟨C,rfl⟩:∃ C,B=C+2:=⟨B-2,qO⟩
 refine⟨?_,by rw[show C+2-1+1=C+2 by omega,uG];exact j⟩
 have l:val (C+2) b≤(C+2)^(n+1)*(v1+1):=by rw[k,uL];omega
 have s:C*val (C+2) b≤C*((C+2)^(n+1)*(v1+1)):=uK C l
 have t:C*((C+2)^(n+1)*(v1+1))=(C+2)^(n+1)*(C*(v1+1)):=tL _ _ _
 have m:C*(v1+1)≤(C+2)*v1:=by rw[uL,uW];omega
 have u:(C+2)^(n+1)*(C*(v1+1))≤(C+2)^(n+1)*((C+2)*v1):=uK _ m
 have v:(C+2)^(n+2)*v1=(C+2)^(n+1)*((C+2)*v1):=by rw[uO,uH]
 have w:(C+2)^(n+2)*v1≤(C+2)^(n+2)*a:=uK _ d
 rw[show C+2-1=C+1 by omega,uW,qH]
 omega
theorem Zod {B:Nat}{c d:qN}{n a b c0 v1 v0:Nat}(k:0<B)(o:d.length=n+2)(p:c.length=n+3)(q:Dig B d)(g:Dig B c)(r:c[n+2]?.getD 0=a)(l:c[n+1]?.getD 0=b)(m:c[n]?.getD 0=c0)(s:d[n+1]?.getD 0=v1)(t:d[n]?.getD 0=v0)(h:a<v1) :
 eN (val B c) (val B d) (((a*B+b)*B+c0)/(v1*B+v0)):=by
 have y:b<B:=l ▸ g.getD k _
 have z:c0<B:=m ▸ g.getD k _
 have A:a*B+b<v1*B:=by
  have:(a+1)*B≤v1*B:=uE B h
  rw[uW] at this;omega
 have u:((a*B+b)*B+c0)/(v1*B+v0)<B:=by
  rw[vN qO]
  have:(a*B+b+1)*B≤(v1*B+v0)*B:=uE B qO
  rw[uW (a*B+b)] at this
  rw[uG B]
  omega
 have i:B≤v1*B+v0:=by
  have:1*B≤v1*B:=uE B qO
  omega
 have v:=pI ((a*B+b)*B+c0) (v1*B+v0)
 have j:(a*B+b)*B+c0<(((a*B+b)*B+c0)/(v1*B+v0)+1)*(v1*B+v0):=Zb4 _ qO
 have e:=wF (q.take n)
 have f:=wF (g.take n)
 rw[uN,uY qO] at e f
 have w:val B d=(v1*B+v0)*B^n+val B (d.take n):=by
  rw[top2 o,s,t,vW,uG (B^n),uG B v1,vW v0]
 have x:val B c=((a*B+b)*B+c0)*B^n+val B (c.take n):=by
  rw[top3 p,r,l,m,vW,uG (B^n),vW c0,uG B,vW b,uG B a]
 rw[w,x]
 exact⟨Zn1 _ _ _ _ _ _ B e u (uE _ i) v,ZdZ _ _ _ _ _ _ f j⟩
theorem Zoe {P:Program}{f:FuncId}{args:Array Value}{w:World}{a n:Nat}{v:Value}(h:Calls P f args (w.drewN (a+n)) fun e w'=>e=.returned v∧∃ m,w'=(w.drewN (a+n)).drewN m) :
 Calls P f args (w.drewN (a+n)) fun e b=>e=.returned v∧∃ m,b=w.drewN (a+m) :=
 h.mono fun _ _ ⟨c,m,d⟩=>⟨c,n+m,by rw[d,World.drewN_drewN,sG]⟩
theorem ZmZ {H U v1 v0 u a ri:Nat}(c:0<H)(b:0<v1)(f:u<H)(h:a*v1+ri=U)(g:ri<v1):fB H U v1 v0 u a ri:=by
 refine⟨h,?_⟩
 have i:0<v1*H:=sK b c
 rw[←Nat.lt_succ_iff,vN qO]
 have d:U<(a+1)*v1:=by rw[uW];omega
 have e:(U+1)*H≤(a+1)*v1*H:=uE _ d
 rw[nE,uL,← uH]
 rw[uW U] at e
 omega
theorem Zqi {p q rest c0:Nat}(c:xF p q<W64)(d:c0<W64):(wW p q<rest∨wW p q=rest∧xF p q≤c0)↔p*q≤W64*rest+c0:=by
 have h:=cL p q
 constructor
 ·rintro (b|⟨b,a⟩)
  ·have:W64*(wW p q+1)≤W64*rest:=uK _ b
   rw[uL] at this
   omega
  rw[b] at h;omega
 intro b
 rcases pF (wW p q) rest with a|a|a
 ·exact Or.inl a
 ·exact Or.inr ⟨a,by rw[a] at h;omega⟩
 have:W64*(rest+1)≤W64*wW p q:=uK _ a
 rw[uL] at this
 omega
def Zsc (u v:Nat) (w:World) (e:Ending) (w':World):Prop:=∃ d:Nat,e=.returned (.int .u64 (d:Int))∧d<W64∧eN u v d∧∃ n,w'=w.drewN n
theorem Zjm (A A2:qA)(J K:qN)(n m c c2 k:Nat)(w:World)(hn:J.length=n)(hm:K.length=m)(O:zI .u64 w A J)(hV:zI .u64 w A2 K)(hk:K.length=k+2)(L:J.length=k+3)(hl:k≤1099511627776)(dw:Dig W64 J)(dv:Dig W64 K)(j:W64≤2*(K[k+1]?.getD 0))(hu:val W64 J<val W64 K*W64) :
 Ζ 200 #[.slice A n c,.slice A2 m c2] w (Zsc (val W64 J) (val W64 K) w):=by
 obtain⟨b1,o1,rfl,_,c0⟩:=O.at (i:=k+2) qO
 obtain⟨d0,f0,s,_,g0⟩:=O.at (i:=k+1) qO
 injection s with s;injection s with f1 f2;subst f1 f2
 obtain⟨d0,f0,s,_,h0⟩:=O.at (i:=k) qO
 injection s with s;injection s with f1 f2;subst f1 f2
 obtain⟨b2,o2,rfl,_,i0⟩:=hV.at (i:=k+1) qO
 obtain⟨q0,r0,T,_,j0⟩:=hV.at (i:=k) qO
 injection T with T;injection T with f1 f2;subst f1 f2
 obtain⟨a,ea⟩:=yE (J[k+2]?.getD 0)
 obtain⟨P,eb⟩:=yE (J[k+1]?.getD 0)
 obtain⟨C,ec⟩:=yE (J[k]?.getD 0)
 obtain⟨v1,e1⟩:=yE (K[k+1]?.getD 0)
 obtain⟨v0,e0⟩:=yE (K[k]?.getD 0)
 rw[ea] at c0
 rw[eb] at g0
 rw[ec] at h0
 rw[e1] at i0 j
 rw[e0] at j0
 have s0:Hid (a<W64):=ea ▸ dw.getD zK _
 have U:Hid (P<W64):=eb ▸ dw.getD zK _
 have R:Hid (C<W64):=ec ▸ dw.getD zK _
 have B:Hid (v1<W64):=e1 ▸ dv.getD zK _
 have D:Hid (v0<W64):=e0 ▸ dv.getD zK _
 obtain rfl:m=k+2:=qO
 obtain rfl:n=k+3:=qO
 by_cases k0:v1≤a
 ·have HD:=zh (Zoc ZlC hk L dv ea e1 k0 j hu)
  clear O hV dw dv j hu ea eb ec e1 e0 hn hm hk L
  go_enter func200,ntmps200
  go_wp2
  have g3:IntKind.i64.wrap ((k:Int)+2-1)=(k:Int)+1:=by rw[IntKind.wrap_i64];omega
  have g4:IntKind.i64.wrap ((k:Int)+2-2)=(k:Int):=by rw[IntKind.wrap_i64];omega
  have g5:(0:Int)≤(k:Int)+1:=qO
  have g6:((k:Int)+1).toNat=k+1:=qO
  have g7:(k:Int)+1<(k:Int)+2:=qO
  have g8:(k:Int)<(k:Int)+2:=qO
  go_quiet (fail)
  clear g3 g4 g5 g6 g7 g8
  go_wp2
  go_ret
  exact⟨W64-1,by rw[show (((W64-1:Nat):Int))=18446744073709551615 by rw[zN];rfl];rfl,by have:=zK;omega,HD.out,_,rfl⟩
 have HD:=zh (Zod zK hk L dv dw ea eb ec e1 e0 qO)
 have V:a<v1:=qO
 have hU:Hid (a*W64+P<v1*W64+v0):=by
  have:(a+1)*W64≤v1*W64:=uE _ V
  rw[uW] at this
  have:=U.out
  unfold Hid;omega
 have S:Hid (0<v1*W64+v0):=by have:=hU.out;unfold Hid;omega
 have HE:=zh (ZmZ (v0:=v0) (u:=C) zK qO R.out (Zc8 a P v1) (ZcC _ _ qO))
 have l0:Hid (divQ a P v1<W64):=Zhq V U.out
 have m0:Hid (divR a P v1<W64):=rY (ZcC _ _ qO) B.out
 clear O hV dw dv j hu ea eb ec e1 e0 hn hm hk L
 go_enter func200,ntmps200
 go_wp2
 have g3:IntKind.i64.wrap ((k:Int)+2-1)=(k:Int)+1:=by rw[IntKind.wrap_i64];omega
 have g4:IntKind.i64.wrap ((k:Int)+2-2)=(k:Int):=by rw[IntKind.wrap_i64];omega
 have g5:(0:Int)≤(k:Int)+1:=qO
 have g6:((k:Int)+1).toNat=k+1:=qO
 have g7:(k:Int)+1<(k:Int)+2:=qO
 have g8:(k:Int)<(k:Int)+2:=qO
 go_quiet (fail)
 clear g3 g4 g5 g6 g7 g8
 go_wp2
 have g3:IntKind.i64.wrap ((k:Int)+2-1)=(k:Int)+1:=by rw[IntKind.wrap_i64];omega
 have g5:(0:Int)≤(k:Int)+1:=qO
 have g6:((k:Int)+1).toNat=k+1:=qO
 have g7:(k:Int)+1<(k:Int)+3:=qO
 have g8:(k:Int)+2<(k:Int)+3:=qO
 have g9:(0:Int)≤(k:Int)+2:=qO
 have n0:((k:Int)+2).toNat=k+2:=qO
 go_quiet ((go_at_call 128;exact Zoe (Zb3 _ _ _ _ V B.out U.out)))
 clear g3 g5 g6 g7 g8 g9 n0
 go_wp2
 go_loopw [8,9] (fun qv rv wr=>∃ q r m:Nat,qv=.int .u64 (q:Int)∧rv=.int .u64 (r:Int)∧Hid (q<W64)∧Hid (r<W64)∧Hid (fB W64 (a*W64+P) v1 v0 C q r)∧Hid (wr=w.drewN m)) (fun qv _ _=>(intOf qv).toNat)
 case atStart=>exact⟨_,_,_,rfl,rfl,l0,m0,HE,World.drewN_drewN _ _ _⟩
 case round =>
  obtain⟨q,r,m,rfl,rfl,t,M,Q,O⟩:=hrel
  obtain rfl:=O.out
  clear O
  have a0:∀ hh:W64*r+C<q*v0,Hid (fB W64 (a*W64+P) v1 v0 C (q-1) (r+v1)):=fun hh=>ZbC S.out hh Q.out
  have b0:=zh a0
  clear a0
  have d:=zh (Zqi (p:=q) (q:=v0) (rest:=r) (Zqd _ _) R.out)
  have E:∀ hh:q*v0≤W64*r+C,q=((a*W64+P)*W64+C)/(v1*W64+v0):=fun hh=>Zak S.out hh Q.out
  have F:=zh E
  clear E
  obtain⟨hi,W⟩:=yE (wW q v0)
  obtain⟨lo,X⟩:=yE (xF q v0)
  rw[W,X] at d
  have f:=zh (ZaV q v0 t.out D.out (w.drewN m))
  rw[W,X] at f
  clear W X
  by_cases t1:hi<r
  ·have Y:=zh (F.out (d.out.1 (Or.inl t1)))
   have o0:=dX t1
   go_wp2_with (go_at_call 117;refine f.out.mono ?_;rintro e w' ⟨rfl,rfl⟩)
   go_ret
   exact⟨q,rfl,t.out,by rw[Y.out];exact HD.out,_,rfl⟩
  have o0:=eA t1
  by_cases t2:hi=r
  ·subst t2
   by_cases t3:lo≤C
   ·have Y:=zh (F.out (d.out.1 (Or.inr ⟨rfl,t3⟩)))
    go_wp2_with (go_at_call 117;refine f.out.mono ?_;rintro e w' ⟨rfl,rfl⟩)
    go_ret
    exact⟨q,rfl,t.out,by rw[Y.out];exact HD.out,_,rfl⟩
   have v:W64*hi+C<q*v0:=by
    rcases vO (W64*hi+C) (q*v0) with h|h
    ·exact h
    rcases d.out.2 h with h|h<;>omega
   have x:=b0.out v
   have l:0<q:=by
    rcases uJ q with e|e
    ·rw[e,sD] at v;omega
    exact e
   clear v
   have g1:=iW l t.out
   obtain⟨N,G⟩:=yE (q-1)
   rw[G] at g1 x
   have p0:N<q:=qO
   have o:Hid (N<W64):=by have:=t.out;unfold Hid;omega
   have y:=zh x.out
   clear G x l
   by_cases z:hi+v1<W64
   ·have Z:=kY z
    obtain⟨H,g⟩:=yE (hi+v1)
    rw[g] at Z y
    have t5:=eA (a:=H) (b:=v1) qO
    have I:Hid (H<W64):=by unfold Hid;omega
    clear g z
    go_wp2_with (go_at_call 117;refine f.out.mono ?_;rintro e w' ⟨rfl,rfl⟩)
    go_roundw
    case rel=>exact⟨N,H,_,rfl,rfl,o,I,y,rfl⟩
    case measure=>simp[intOf];omega
   have Y:=zh (gS hU.out D.out qO y.out)
   have Z:IntKind.u64.wrap ((hi:Int)+(v1:Int))=((hi+v1-W64:Nat):Int):=by
    have h1:=M.out
    have h2:=B.out
    rw[zN] at *
    rw[IntKind.wrap_u64]
    omega
   obtain⟨H,g⟩:=yE (hi+v1-W64)
   rw[g] at Z
   have t5:=dX (a:=H) (b:=v1) (by have:=M.out;omega)
   clear g z
   go_wp2_with (go_at_call 117;refine f.out.mono ?_;rintro e w' ⟨rfl,rfl⟩)
   go_ret
   exact⟨N,rfl,o.out,by rw[Y.out];exact HD.out,_,rfl⟩
  have t0:((hi:Int) == (r:Int))=false:=by simp;omega
  have v:W64*r+C<q*v0:=by
   rcases vO (W64*r+C) (q*v0) with h|h
   ·exact h
   rcases d.out.2 h with h|h<;>omega
  have x:=b0.out v
  have l:0<q:=by
   rcases uJ q with e|e
   ·rw[e,sD] at v;omega
   exact e
  clear v
  have g1:=iW l t.out
  obtain⟨N,G⟩:=yE (q-1)
  rw[G] at g1 x
  have p0:N<q:=qO
  have o:Hid (N<W64):=by have:=t.out;unfold Hid;omega
  have y:=zh x.out
  clear G x l
  by_cases z:r+v1<W64
  ·have Z:=kY z
   obtain⟨H,g⟩:=yE (r+v1)
   rw[g] at Z y
   have t5:=eA (a:=H) (b:=v1) qO
   have I:Hid (H<W64):=by unfold Hid;omega
   clear g z
   go_wp2_with (go_at_call 117;refine f.out.mono ?_;rintro e w' ⟨rfl,rfl⟩)
   go_roundw
   case rel=>exact⟨N,H,_,rfl,rfl,o,I,y,rfl⟩
   case measure=>simp[intOf];omega
  have Y:=zh (gS hU.out D.out qO y.out)
  have Z:IntKind.u64.wrap ((r:Int)+(v1:Int))=((r+v1-W64:Nat):Int):=by
   have h1:=M.out
   have h2:=B.out
   rw[zN] at *
   rw[IntKind.wrap_u64]
   omega
  obtain⟨H,g⟩:=yE (r+v1-W64)
  rw[g] at Z
  have t5:=dX (a:=H) (b:=v1) (by have:=M.out;omega)
  clear g z
  go_wp2_with (go_at_call 117;refine f.out.mono ?_;rintro e w' ⟨rfl,rfl⟩)
  go_ret
  exact⟨N,rfl,o.out,by rw[Y.out];exact HD.out,_,rfl⟩
end Go.Proofs.YtmpffakfhcpjoaaGreatDoor
namespace Go.Proofs.YtmpffakfhcpjoaaGreatDoor
theorem Zqj {u v d:Nat}(h:eN u v d)(a:d*v≤u):d=u/v:=by
 have b:=h.2
 have c:u<(d+1)*v:=b
 have:=Nat.div_eq_of_lt_le (m:=u) (n:=v) (k:=d) qO (by simpa using c)
 exact this.symm
theorem Zm0 {u v d:Nat}(h:eN u v d)(a:u<d*v):0<d∧d-1=u/v:=by
 have b:=h.1
 have f:0<d:=by
  rcases uJ d with e|e
  ·subst e;simp at a
  exact e
 obtain⟨c,rfl⟩:∃ c,d=c+1:=⟨d-1,qO⟩
 refine⟨f,?_⟩
 have e:c+1-1=c:=qO
 rw[e]
 rw[uW] at b
 exact (Nat.div_eq_of_lt_le (m:=u) (n:=v) (k:=c) qO (by simpa using a)).symm
theorem Zgg {P v u b top d a m:Nat}(l:v≤P)(i:u=b+P*top)(g:eN u v d)(n:m+v*d=b+P*a)(j:a≤top) :
 d=u/v∧m=u%v∧top=a:=by
 have c:u=d*v+(m+P*(top-a)):=by
  obtain⟨t,rfl⟩:∃ t,top=a+t:=⟨top-a,qO⟩
  rw[show a+t-a=t by omega,i,uL,uG d]
  omega
 have k:=Zqj g qO
 have e:m+P*(top-a)<v:=by
  have:=g.2
  rw[uW] at this
  omega
 have f:top-a=0:=by
  rcases uJ (top-a) with h|h
  ·exact h
  have:P*1≤P*(top-a):=uK P h
  omega
 refine⟨k,?_,qO⟩
 rw[f] at c e
 simp only[tX,tP] at c e
 rw[c,uG,pG,vL e]
theorem Zh9 {P v u a top d borrow m b c:Nat}(g:0<v)(y:v≤P)(z:u=a+P*top)(r:eN u v d)(s:m+v*d=a+P*borrow)(i:top<borrow)(t:m<P)(w:b+P*c=m+v)(o:b<P):0<d∧d-1=u/v∧b=u%v∧c+top=borrow:=by
 have j:u<d*v:=by
  have:P*(top+1)≤P*borrow:=uK P i
  rw[uL] at this
  rw[uG d]
  omega
 obtain⟨k,l⟩:=Zm0 r j
 obtain⟨q,rfl⟩:∃ q,d=q+1:=⟨d-1,qO⟩
 have e:q+1-1=q:=qO
 rw[e] at l ⊢
 refine⟨k,l,?_⟩
 have f:=vX u v
 have x:=uP u g
 rw[←l,uG] at f
 rw[uL] at s
 -- b + P*(c + top)=u % v + P * borrow
 have n:b+P*(c+top)=u%v+P*borrow:=by
  rw[uL,uG q] at *
  omega
 have p:c+top=borrow:=by
  rcases pF (c+top) borrow with h|h|h
  ·have:P*(c+top+1)≤P*borrow:=uK P h
   rw[uL] at this
   omega
  ·exact h
  have:P*(borrow+1)≤P*(c+top):=uK P h
  rw[uL] at this
  omega
 rw[p] at n
 exact⟨qO,p⟩
def dU (X v n k:Nat) (rs qs:List Nat):Prop :=
 Dig W64 rs∧Dig W64 qs∧rs.length=qs.length+n∧val W64 rs+val W64 (qs.drop k)*W64^k*v=X∧val W64 (rs.drop k)<v
theorem dU.window {X v n k:Nat}{a c:qN}(h:dU X v n (k+1) a c)(g:v≤W64^n)(i:k+n<a.length) :
 val W64 (a.drop k)=val W64 ((a.drop k).take (n+1))∧val W64 (a.drop k)<v*W64∧val W64 (a.drop (k+n+1))=0:=by
 obtain⟨d,j,l,m,f⟩:=h
 have b:val W64 (a.drop (k+n+1))=0:=by
  have e:=xX (B:=W64) (xs:=a.drop (k+1)) n
  rw[tA,show k+1+n=k+n+1 by omega,uY (by simp;omega)] at e
  rcases uJ (val W64 (a.drop (k+n+1))) with h|h
  ·exact h
  have:W64^n*1≤W64^n*val W64 (a.drop (k+n+1)):=uK _ h
  omega
 refine⟨?_,?_,b⟩
 ·have e:=xX (B:=W64) (xs:=a.drop k) (n+1)
  rw[tA,show k+(n+1)=k+n+1 by omega,b] at e
  simpa using e
 rw[xY k qO]
 have o:=d.getD zK k
 have:W64*(val W64 (a.drop (k+1))+1)≤W64*v:=uK _ f
 rw[uL] at this
 rw[uG v]
 omega
theorem dU.step {X v n k q:Nat}{a c m:qN}(h:dU X v n (k+1) a c)(e:0<v)(s:v≤W64^n)(t:k+n<a.length)(u:m.length=n)(w:Dig W64 m)(l:q=val W64 (a.drop k)/v)(o:val W64 m=val W64 (a.drop k)%v) :
 dU X v n k (a.take k ++ m ++ (0 :: a.drop (k+n+1))) (c.set k q):=by
 obtain⟨E,x,y⟩:=h.window s t
 obtain⟨p,z,F,G,H⟩:=h
 have f:k<c.length:=qO
 have i:q<W64:=by rw[l,vN e,uG];exact x
 have g:(a.take k).length=k:=by simp;omega
 have b:val W64 (m ++ (0 :: a.drop (k+n+1)))=val W64 m:=by
  rw[kO,gZ,y];simp
 have d:(a.take k ++ m ++ (0 :: a.drop (k+n+1))).drop k=m ++ (0 :: a.drop (k+n+1)):=by
  rw[tD,mF,g,vF qO,rZ];simp
 refine⟨((p.take k).append w).append (Dig.cons zK (p.drop _)),z.set k i,?_,?_,?_⟩
 ·simp[u];omega
 ·rw[tD,kO,g,b,o]
  rw[xY (xs:=c.set k q) k (by simpa using f),tN qO]
  have j:(c.set k q)[k]?.getD 0=q:=by rw[sJ f];rfl
  rw[j]
  have A:=xX (B:=W64) (xs:=a) k
  rw[uY qO] at A
  have r:=vX (val W64 (a.drop k)) v
  rw[←l] at r
  have C:=vP (W64^k * ·) r
  simp only[uL] at C
  rw[uW,uW]
  have e4:q*W64^k*v=W64^k*(v*q):=by rw[uG q,uH,uG q]
  have D:W64*val W64 (c.drop (k+1))*W64^k*v=val W64 (c.drop (k+1))*W64^(k+1)*v:=by
   rw[uO,uG W64 (val W64 _),uH (val W64 _) W64,uG W64 (W64^k)]
  rw[e4,D]
  omega
 rw[d,b,o];exact uP _ e
theorem dU.done {X v n:Nat}{c d:qN}(h:dU X v n 0 c d):val W64 d=X/v∧val W64 c=X%v:=by
 obtain⟨e,f,g,a,b⟩:=h
 rw[sI] at a b
 simp only[tH,sH] at a
 rw[←a,vW,uG,rK qO,pG,vL b,tV b]
 exact⟨qO,rfl⟩
theorem dU.start {x y s L n:Nat}{a:qN}(c:Dig W64 a)(m:a.length=L+1)(b:val W64 a=x*2^s)(d:x<W64^L)(f:W64^(n-1)≤y)(o:1≤n)(g:n≤L) :
 dU (x*2^s) (y*2^s) n (L-n+1) a (List.replicate (L-n+1) 0):=by
 refine⟨c,Dig.replicate zK _,by simp;omega,?_,?_⟩
 ·rw[vF qS];simp[b]
 have e:=xX (B:=W64) (xs:=a) (L-n+1)
 rw[uY qO,b] at e
 have h:0<2^s:=uZ qO
 have p:W64^(L-n+1)*val W64 (a.drop (L-n+1))≤x*2^s:=qO
 have i:x*2^s<W64^L*2^s:=tS d h
 have j:W64^L=W64^(L-n+1)*W64^(n-1):=by rw[←uU,show L-n+1+(n-1)=L by omega]
 rw[j,uH] at i
 have k:W64^(L-n+1)*val W64 (a.drop (L-n+1))<W64^(L-n+1)*(W64^(n-1)*2^s):=qO
 have l:=sR k
 exact uT l (uE _ f)
theorem Zof {ys a:qN}{n yt s:Nat}(v:ys.length=n+1)(dy:Dig W64 ys)(l:ys[n]?.getD 0=yt)(e:0<yt)(w:64-Lib.bitLen yt=s)(m:Dig W64 a)(o:Trim a)(p:val W64 a=val W64 ys*2^s) :
 a.length=n+1∧W64≤2*(a[n]?.getD 0)∧W64^n≤val W64 ys∧s≤63:=by
 have f:yt<W64:=l ▸ dy.getD zK _
 obtain⟨x,y,q,r⟩:=dS e f
 have z:val W64 ys=val W64 (ys.take n)+W64^n*yt:=by
  have:=zV (B:=W64) (xs:=ys) n qO
  rw[uB qO,l] at this
  exact this
 have g:=wF (dy.take n)
 rw[uN,uY qO] at g
 have t:0<2^s:=uZ qO
 have i:val W64 ys*2^s<W64^(n+1):=by
  have d:val W64 ys<W64^n*2^Lib.bitLen yt:=by
   have:W64^n*(yt+1)≤W64^n*2^Lib.bitLen yt:=uK _ r
   rw[uL] at this
   omega
  have b:=tS d t
  rw[uH,← uU,show Lib.bitLen yt+s=64 by omega] at b
  rw[uO,zN] at *
  exact b
 have u:W64^n*2^63≤val W64 ys*2^s:=by
  have d:W64^n*2^(Lib.bitLen yt-1)≤val W64 ys:=by
   have:W64^n*2^(Lib.bitLen yt-1)≤W64^n*yt:=uK _ q
   omega
  have b:=uE (2^s) d
  rw[uH,← uU,show Lib.bitLen yt-1+s=63 by omega] at b
  exact b
 have j:a.length≤n+1:=jK eJ o (p ▸ i)
 have k:n+1≤a.length:=by
  rcases vO a.length (n+1) with h|h
  ·have d:=wF m
   have b:W64^a.length≤W64^n:=vC zK qO
   have A:W64^n*1≤W64^n*2^63:=uK _ qD
   omega
  exact h
 refine⟨qO,?_,?_,qO⟩
 ·have C:val W64 a=val W64 (a.take n)+W64^n*(a[n]?.getD 0):=by
   have:=zV (B:=W64) (xs:=a) n qO
   rw[uB qO] at this
   exact this
  have c:=wF (m.take n)
  rw[uN,uY qO] at c
  have d:W64^n*2^63<W64^n*((a[n]?.getD 0)+1):=by rw[uL];omega
  have b:=sR d
  rw[zN]
  omega
 have:W64^n*1≤W64^n*yt:=uK _ e
 omega
end Go.Proofs.YtmpffakfhcpjoaaGreatDoor
namespace Go.Proofs.YtmpffakfhcpjoaaGreatDoor
open Go.RowKit Tryz
def ZcE (w:World) (q r:Nat) (e:Ending) (w':World):Prop:=∃ u v,e=.returned (.tuple #[u,v])∧zF w' u q∧zF w' v r∧Ext w w'
def aH (w:World) (A A2:Option Addr) (q r:Nat) (e:Ending) (w':World):Prop:=∃ D m d B l c,e=.returned (.tuple #[.slice D m d,.slice B l c])∧zF w' (.slice D m d) q∧zF w' (.slice B l c) r∧Ext w w'∧∀ a,B=some a→w.heap.size≤a.block∨B=A∨B=A2
theorem aH.ret {w w':World}{A a:qA}{q r:Nat}{e:Ending}(h:aH w A a q r e w'):ZcE w q r e w':=by
 obtain⟨D,m,d,B,l,c,rfl,b,f,g,_⟩:=h
 exact⟨_,_,rfl,b,f,g⟩
theorem eB {a b:Nat}:cmpI a b<0↔a<b:=by
 unfold cmpI
 split
 ·omega
 split<;>omega
theorem Zgh (A:qA)(l c:Nat)(k:Value)(x y:Nat)(w:World)(n:zF w (.slice A l c) x)(r:zF w k y)(s:wl x≤4294967296)(t:wl y≤4294967296)(b:x<y) :
 Ζ 173 #[.slice A l c,k] w (aH w A A 0 x):=by
 have u:=zh n
 obtain⟨_,v,_,h,z,o,d,f,rfl⟩:=n
 injection h with e1 e2 e3
 subst e1 e2 e3
 obtain⟨B,C,D,rfl,g,p,i,j,rfl⟩:=r
 rw[←xT d f] at s
 rw[←xT i j] at t
 have q:=zh (dH A B v C _ _ c D w rfl rfl o p qO qO d i f j)
 rw[iJ qO] at q
 clear o d f p i j b z g
 go_enter func173,ntmps173
 go_wp2_with (go_at_call 139;refine q.out.mono ?_;rintro e w' ⟨rfl,m,rfl⟩)
 go_ret2
 exact⟨none,0,0,_,_,_,rfl,zF.zero _,u.out.ext ((Fr.refl _ _).drewN _),(Fr.refl _ _).drewN _,fun a _=>Or.inr (Or.inl rfl)⟩
theorem ZfH (N O:Value)(x y:Nat)(w:World)(Y:zF w N x)(Z:zF w O y)(P:wl x≤4294967296)(B:wl y=1)(C:y≤x) :
 Ζ 173 #[N,O] w (aH w none none (x/y) (x%y)):=by
 obtain⟨A,s,c,rfl,hc,E,t,F,rfl⟩:=Y
 obtain⟨A2,ys,G,rfl,H,I,u,z,rfl⟩:=Z
 rw[←xT t F] at P
 rw[←xT u z] at B
 obtain⟨y,rfl⟩:=nV.1 B
 have Q:=zh (dH A A2 s [y] _ _ c G w rfl rfl E I qO qS t u F z)
 obtain⟨R,f⟩:=yE (cmpI (val W64 s) (val W64 [y]))
 have a0:0≤R:=by
  rcases oZ R 0 with h|h
  ·rw[←f] at h;have:=eB.1 h;omega
  exact h
 rw[f] at Q
 have k:val W64 [y]=y:=qS
 rw[k]
 have g:0<y:=by have:=z 0 qS;simp at this;omega
 have j:y<W64:=u.head
 obtain⟨b,o,rfl,_,l⟩:=I.at (i:=0) qS
 have S:w.cell? ⟨b,o,none⟩=some (.int .u64 (y:Int)):=by simpa using l
 have T:=fun w' (hf:Ext w w')=>zh (Zhr A s _ c y w' rfl (E.ext hf) P t g j)
 have J:=zh T
 have K:Hid (val W64 s%y<W64):=rY (uP _ g) j
 clear E t F I u z hc H f C l T B k g j
 go_enter func173,ntmps173
 go_wp2_with (first
  | (go_at_call 139;refine Q.out.mono ?_;rintro e w' ⟨rfl,m,rfl⟩)
  | (go_at_call 199;refine (J.out _ ((Fr.refl _ _).drewN _)).out.mono ?_;rintro e w1 ⟨v,rfl,U,V⟩;have W:=zh U;have X:=zh V;clear U V)
  | (go_at_call 145;refine (ZdN _ _ K.out).mono ?_;rintro e w2 ⟨B2,l2,G,rfl,n,p,q⟩;have L:=zh n;have r:=zh p;have M:=zh q;clear n p q))
 go_ret2
 obtain⟨D,m,d,rfl⟩:∃ D m d,v=.slice D m d:=by obtain⟨D,b0,d,h,_⟩:=W.out;exact⟨D,_,d,h⟩
 exact⟨D,m,d,B2,l2,G,rfl,W.out.ext r.out,L.out,(((Fr.refl _ _).drewN _).ext X.out).ext r.out,fun a h=>(M.out a h).imp (uA (show Ext w _ from ((Fr.refl _ _).drewN _).ext X.out).size) id⟩
theorem Zhv (a m:qN)(b:qN)(j n v:Nat)(c:a.length=j)(d:m.length=n)(e:j+n<b.length):(a ++ m ++ b.drop (j+n)).set (j+n) v=a ++ m ++ (v :: b.drop (j+n+1)):=by
 have f:(a ++ m).length=j+n:=by simp[c,d]
 rw[pP _ _ qO,f,rZ,tW e]
 rfl
theorem ZlF (a m:qN)(b:qN)(j n:Nat)(c:a.length=j)(d:m.length=n):(a ++ m ++ b.drop (j+n))[j+n]?.getD 0=b[j+n]?.getD 0:=by
 have e:(a ++ m).length=j+n:=by simp[c,d]
 rw[sN qO,e,rZ,vR];rfl
theorem Zjn (a m l:qN)(t v j n:Nat)(b:a.length=j)(c:m.length=n):(a ++ m ++ (t :: l)).set (j+n) v=a ++ m ++ (v :: l):=by
 have d:(a ++ m).length=j+n:=by simp[b,c]
 rw[pP _ _ qO,d,rZ]
 rfl
theorem Zjo (a m l:qN)(t j n:Nat)(b:a.length=j)(c:m.length=n):(a ++ m ++ (t :: l))[j+n]?.getD 0=t:=by
 have d:(a ++ m).length=j+n:=by simp[b,c]
 rw[sN qO,d,rZ]
 rfl
theorem Zfd (A A2:qA)(xs ys:qN)(c c2 f:Nat)(w:World)(hX:zI .u64 w A xs)(hY:zI .u64 w A2 ys)(hc:xs.length≤c)(Y0:ys.length≤c2)(hl:xs.length≤4294967296)(hk:ys.length=f+2)(dx:Dig W64 xs)(dy:Dig W64 ys)(tx:Trim xs)(ty:Trim ys)(Z0:val W64 ys≤val W64 xs) :
 Ζ 173 #[.slice A xs.length c,.slice A2 ys.length c2] w (aH w none none (val W64 xs/val W64 ys) (val W64 xs%val W64 ys)):=by
 have a1:f+2≤xs.length:=by
  have:=lC Z0
  rw[←xT dx tx,← xT dy ty] at this
  omega
 have HC:=zh (dH A A2 xs ys _ _ c c2 w rfl rfl hX hY qO qO dx dy tx ty)
 obtain⟨cr,y0⟩:=yE (cmpI (val W64 xs) (val W64 ys))
 have T2:0≤cr:=by
  rcases oZ cr 0 with h|h
  ·rw[←y0] at h;have:=eB.1 h;omega
  exact h
 rw[y0] at HC
 clear y0
 obtain⟨bY,oY,rfl,_,C⟩:=hY.at (i:=f+1) qO
 obtain⟨yt,m0⟩:=yE (ys[f+1]?.getD 0)
 rw[m0] at C
 have U:0<yt:=by have:=ty (f+1) qO;omega
 have W:Hid (yt<W64):=m0 ▸ dy.getD zK _
 obtain⟨s,hs⟩:=yE (64-Lib.bitLen yt)
 have Z1:=dS U W.out
 have b1:Hid (64-(Lib.bitLen yt:Int)=(s:Int)):=by unfold Hid;omega
 have c1:s≤63:=qO
 have NX:Hid (zF w (.slice A xs.length c) (val W64 xs)):=⟨A,xs,c,rfl,hc,hX,dx,tx,rfl⟩
 have NY:Hid (zF w (.slice (some ⟨bY,oY,none⟩) ys.length c2) (val W64 ys)):=⟨_,ys,c2,rfl,Y0,hY,dy,ty,rfl⟩
 have e1:Hid (wl (val W64 xs)≤4294967296):=by unfold Hid;rw[←xT dx tx];omega
 have f1:Hid (wl (val W64 ys)≤4294967296):=by unfold Hid;rw[←xT dy ty];omega
 have i1:=zh dx
 have a2:=zh dy
 have HS:=zh hs
 have j1:=zh m0
 have HK:=zh hk
 clear hX hY hc Y0 dx dy tx ty Z0 Z1 hs m0
 obtain⟨n,hn⟩:=yE ys.length
 rw[hn] at HC NY
 rw[hn] at HK
 rw[hn]
 have HN:=zh hn
 have b2:n=f+2:=HK.out
 subst b2
 clear hn hk HK
 have l1:(((f:Int)+2) == 1)=false:=by simp;omega
 have R2:decide (cr<0)=false:=by rw[vH];omega
 go_enter func173,ntmps173
 go_wp2_with (first
  | (go_at_call 139;refine HC.out.mono ?_;rintro e w' ⟨rfl,m,rfl⟩)
  | (go_at_call 149;refine (Zal _ _ W.out).mono ?_;rintro e w' ⟨rfl,rfl⟩;rw[b1.out]))
 refine (ZdO _ _ s _ (NY.out.ext ((Fr.refl _ _).drewN _)) f1.out qO).mono ?_
 rintro e wD ⟨vD,rfl,d2,m1⟩
 obtain⟨AD,Y,cD,rfl,e2,o1,A0,p1,B0⟩:=d2
 obtain⟨n1,n2,n3,n4⟩:=Zof (n:=f+1) HN.out a2.out j1.out U HS.out A0 p1 B0
 have r1:=zh o1
 have n0:=zh A0
 have C0:Hid (Ext w wD):=((Fr.refl _ _).drewN _).ext m1
 have N:=zh B0
 have x:=zh n1
 have f2:=zh n2
 have s1:=zh n3
 rw[n1]
 clear o1 A0 p1 B0 m1 n1 n2 n3 n4 e2 C HC U W b1 HS j1
 go_wp2_with (
  at_make
  refine lA rfl _ _ _ rfl _ _ _ underlying96 dR _ _ _ _ (xs.length+1) rfl rfl qO qO qO qO ?_
  intro R w1 I E _ F i2
  have u1:Hid (Own .u64 84 w1 R ([] ++ List.replicate (xs.length+1) 0 ++ [])):=by simpa [Hid] using E
  have D0:=zh F
  have HR:=zh I
  clear E F I i2)
 refine (ZdO _ _ s _ (NX.out.ext (C0.out.ext D0.out)) e1.out qO).mono ?_
 rintro e w2 ⟨v2,rfl,j2,v1⟩
 obtain⟨A3,x2,c3,rfl,l2,x1,d3,t3,E0⟩:=j2
 have y1:=zh x1
 have F0:=zh v1
 have z1:=zh d3
 have A1:=zh E0
 have o0:Hid (x2.length≤xs.length+1):=by
  unfold Hid
  refine jK eJ t3 ?_
  rw[E0,uO]
  have h1:=wF i1.out
  have h2:2^s≤W64:=by rw[zN];exact uA (vC qO c1) qD
  exact uT (tS h1 (uZ qO)) (uK _ h2)
 clear x1 v1 d3 t3 E0 l2 NX e1 NY f1
 go_wp2_with (first
  | (
   with_reducible refine Zba rfl (.tmp 57) (.tmp 60) _ _ rfl _ _ underlying96 Zr8 _ _ _ _ _ _ rfl rfl R [] (List.replicate (xs.length+1) 0) [] x2 qS rfl (u1.out.ext F0.out) y1.out (fun _=>rfl) ?_
   intro w3 z B1 _ C1 o2
   have O:=zh B1
   have D1:=zh C1
   clear B1 C1 o2)
  | (
   at_make
   refine lA rfl _ _ _ rfl _ _ _ underlying96 dR _ _ _ _ (xs.length-(f+2)+1) rfl rfl qO qO qO qO ?_
   intro Z w4 hQ E1 _ F1 p2
   have G1:=zh E1
   have G0:=zh F1
   have HQ:=zh hQ
   clear E1 F1 hQ p2))
 have l:Hid (R<Z):=by
  have h1:=O.out.lt
  have h2:=HQ.out
  unfold Hid;omega
 have hV:Hid (val W64 Y≤W64^(f+2)):=by
  have:=wF n0.out
  rw[x.out] at this
  exact pA this
 have a0:Hid (0<val W64 Y):=by
  rw[N.out]
  have h1:=s1.out
  have h2:=uZ (n:=f+1) zK
  exact sK qO (uZ qO)
 obtain⟨X,eX⟩:=yE (val W64 xs*2^s)
 have HX:=zh eX
 have H0:Hid (∃ g,Own .u64 84 w4 R g∧g.length=xs.length+1∧dU X (val W64 Y) (f+2) (xs.length-(f+2)+1) g (List.replicate (xs.length-(f+2)+1) 0)):=by
  refine⟨x2 ++ List.replicate (xs.length+1-x2.length) 0,?_,?_,?_⟩
  ·have h:=O.out
   rw[uB (by simp;exact o0.out),List.drop_replicate] at h
   have h':Own .u64 84 w3 R (x2 ++ List.replicate (xs.length+1-x2.length) 0):=by simpa using h
   exact h'.ext G0.out
  ·have:=o0.out
   simp;omega
  rw[←HX.out,N.out]
  refine dU.start (L:=xs.length) (z1.out.append (Dig.replicate zK _)) (by have:=o0.out;simp;omega) ?_ (wF i1.out) (by simpa using s1.out) qO a1
  rw[kO,kX,A1.out];simp
 have H1:Hid (Ext wD w4):=by
  have h1:=HR.out
  exact ((D0.out.ext F0.out).next D1.out (fun i hi e=>qO)).ext G0.out
 clear O D1 y1 z1 A1 o0 D0 F0 G0 u1 l1 eX
 obtain⟨V,eV⟩:=yE (val W64 Y)
 have HV:=zh eV
 rw[eV] at hV a0 H0
 clear eV
 go_loopw [13] (fun i wr=>∃ (k:Nat) (g qs:List Nat),k≤xs.length-(f+2)+1∧i=.int .i64 ((k:Int)-1)∧Hid (dU X V (f+2) k g qs)∧Hid (g.length=xs.length+1)∧Hid (Own .u64 84 wr R g)∧Hid (Own .u64 84 wr Z qs)∧Hid (Ext wD wr)) (fun i _=>(intOf i+1).toNat)
 case atStart =>
  obtain⟨g,h1,h2,h3⟩:=H0.out
  exact⟨xs.length-(f+2)+1,g,_,uF _,by go_num,h3,h2,h1,G1.out,H1.out⟩
 case round =>
  clear H0 G1 H1
  obtain⟨k,g,qs,hk,rfl,I,B,E,I0,F⟩:=hrel
  by_cases U2:0<k
  ·obtain⟨j,rfl⟩:∃ j,k=j+1:=⟨k-1,qO⟩
   have ej:(((j+1:Nat):Int)-1)=(j:Int):=qO
   rw[ej]
   clear ej
   have V2:j+(f+2)<xs.length+1:=qO
   have o:=B.out
   obtain⟨q1,q2,q3⟩:=I.out.window hV.out qO
   have p0:((g.drop j).take (f+3)).length=f+3:=by simp;omega
   have J0:Hid (zI .u64 wr AD Y):=r1.out.ext F.out
   have b0:=zh (Zjm (some ⟨R,j,none⟩) AD ((g.drop j).take (f+3)) Y (j+(f+2)+1-j) (f+1+1) (xs.length+1-j) cD f wr qO x.out (E.out.shows j (f+3)) J0.out x.out p0 qO ((I.out.1.drop j).take _) n0.out f2.out (by rw[←q1,HV.out];exact q2))
   rw[←q1,HV.out] at b0
   have W2:=zh q2
   clear q1 q2 q3 p0 o
   go_wp2_with fail
   (with_reducible refine b0.out.mono ?_)
   rintro e w5 ⟨d,rfl,K0,t0,n5,rfl⟩
   clear b0
   have q0:Hid (∀ a,AD=some a→a.block≠R):=by
    intro a ha
    obtain⟨b',o',e',X2,_⟩:=r1.out.at (i:=0) (by rw[x.out];omega)
    rw[e'] at ha;injection ha with ha;subst ha
    have:=HR.out
    show b'≠R
    omega
   have o:=B.out
   have O:Hid (Own .u64 84 (wr.drewN n5) R (g.take j ++ (g.drop j).take (f+2) ++ g.drop (j+(f+2)))):=by rw[Zn5];exact E.out.drewN _
   have I1:=zh (ZdV R (xs.length+1-j) cD j (f+2) (f+1+1) d (g.take j) ((g.drop j).take (f+2)) (g.drop (j+(f+2))) Y AD (wr.drewN n5) (by simp;omega) (by simp;omega) x.out O.out (J0.out.drewN _) q0.out (by rw[x.out];simp;omega) (by simp;omega) ((I.out.1.drop j).take _) n0.out K0)
   have u0:=zh t0
   have r2:=zh K0
   clear O K0 t0 o
   go_wp2_with fail
   (with_reducible refine I1.out.mono ?_)
   rintro e P ⟨br,rfl,v0,c0,_,m,Q,L0,d0,M0⟩
   clear I1
   have o:=B.out
   have q:m.length=f+2:=by rw[L0];simp;omega
   have S:(g.take j).length=j:=by simp;omega
   have t:j+(f+2)<(g.take j ++ m ++ g.drop (j+(f+2))).length:=by simp;omega
   have C:=Q.cell t
   have J1:=Q.frozen (j+(f+2))
   rw[ZlF _ _ _ _ _ S q] at C
   obtain⟨top,J⟩:=yE (g[j+(f+2)]?.getD 0)
   rw[J] at C
   have hu:val W64 (g.drop j)=val W64 ((g.drop j).take (f+2))+W64^(f+2)*top:=by
    obtain⟨q1,_,_⟩:=I.out.window hV.out qO
    rw[q1,zV (f+2) (by simp;omega),vR,J]
   have K:val W64 m+V*d=val W64 ((g.drop j).take (f+2))+W64^(f+2)*br:=by
    have h:=M0
    unfold Zji at h
    rw[HV.out] at h
    have e:((g.drop j).take (f+2)).length=f+2:=by simp;omega
    rw[e] at h
    exact h
   have N0:Hid (Own .u64 84 P Z qs):=(I0.out.drewN n5).fr c0 (by have:=l.out;omega)
   have O0:Hid (Ext wD P):=(F.out.drewN n5).next c0 (fun i hi e=>by have:=HR.out;omega)
   have w0:Hid (zI .u64 P AD Y):=(J0.out.drewN n5).fr c0 (fun a ha _=>q0.out a ha)
   have e0:qs.length=xs.length-(f+2)+1:=by have:=I.out.2.2.1;omega
   have P0:val W64 m<W64^(f+2):=by have:=wF d0;rw[q] at this;exact this
   have f0:j<qs.length:=qO
   by_cases Q0:br≤top
   ·obtain⟨k1,k2,k3⟩:=Zgg hV.out hu u0.out K Q0
    have R0:=zh (I.out.step a0.out hV.out qO q d0 k1 k2)
    subst k3
    have g1:IntKind.u64.wrap ((top:Int)-(top:Int))=0:=by rw[Int.sub_self];rfl
    have t1:=eA (a:=top) (b:=top) qO
    have G:=Q.set (j+(f+2)) 0 t
    rw[Zhv _ _ _ _ _ _ S q qO] at G
    have r:Fr (· = R) P (P.setCell ⟨R,j+(f+2),none⟩ (.int .u64 ((0:Nat):Int))):=(Fr.refl (· = R) P).setCell (p:=⟨R,j+(f+2),none⟩) (Or.inl rfl) _
    have r0:=N0.out.fr r (by have:=l.out;omega)
    have S0:=r0.cell f0
    have s2:=r0.frozen j
    obtain⟨z0,g0⟩:=yE (qs[j]?.getD 0)
    rw[g0] at S0
    have u2:=zh (r0.set j d f0)
    have K1:=zh (G.far (p:=⟨Z,j,none⟩) (by have:=l.out;show R≠Z;omega) (.int .u64 (d:Int)))
    have L1:Hid (Ext wD ((P.setCell ⟨R,j+(f+2),none⟩ (.int .u64 ((0:Nat):Int))).setCell ⟨Z,j,none⟩ (.int .u64 (d:Int)))):=(O0.out.next r (fun i hi e=>by have:=HR.out;omega)).setCell (Or.inr (by have:=HR.out;have:=l.out;show wD.heap.size≤Z;omega)) _
    have T0:Hid ((g.take j ++ m ++ (0 :: g.drop (j+(f+2)+1))).length=xs.length+1):=by unfold Hid;simp;omega
    clear v0 c0 Q L0 d0 M0 o q S t J hu K P0 k1 k2 G r r0 g0 Q0
    simp only[Int.ofNat_zero] at *
    go_wp2
    go_roundw
    case rel=>exact⟨j,_,_,qO,rfl,R0,T0,K1.out,u2.out,L1.out⟩
    case measure=>simp[intOf]
   have y2:0<d:=by
    rcases uJ d with e|e
    ·subst e
     have:W64^(f+2)*1≤W64^(f+2)*br:=uK _ qO
     omega
    exact e
   have g2:=iW y2 r2.out
   obtain⟨d1,U0⟩:=yE (d-1)
   rw[U0] at g2
   obtain⟨t2,g1,k1⟩:=Zgb ((top:Int)-(br:Int))
   have t1:=dX (a:=top) (b:=br) qO
   have G:=Q.set (j+(f+2)) t2 t
   rw[Zhv _ _ _ _ _ _ S q qO] at G
   have r:Fr (· = R) P (P.setCell ⟨R,j+(f+2),none⟩ (.int .u64 (t2:Int))):=(Fr.refl (· = R) P).setCell (p:=⟨R,j+(f+2),none⟩) (Or.inl rfl) _
   have z2:=zh G
   have V0:=zh r
   have B2:=zh (N0.out.fr r (by have:=l.out;omega))
   have M1:Hid (zI .u64 (P.setCell ⟨R,j+(f+2),none⟩ (.int .u64 (t2:Int))) AD Y):=w0.out.fr r (fun a ha _=>q0.out a ha)
   have C2:Hid (Ext wD (P.setCell ⟨R,j+(f+2),none⟩ (.int .u64 (t2:Int)))):=O0.out.next r (fun i hi e=>by have:=HR.out;omega)
   have D2:=zh d0
   have h0:=zh q
   have s0:=zh S
   have Hu:=zh hu
   have E2:=zh K
   have F2:=zh P0
   have G2:=zh k1
   have H2:=zh U0
   have I2:=zh e0
   have N1:top<br:=qO
   clear v0 c0 Q L0 d0 M0 o q S t J hu K P0 k1 G r Q0 U0 e0 w0 O0 N0
   go_wp2
   generalize J2:P.setCell ⟨R,j+(f+2),none⟩ (.int .u64 (t2:Int))=w7 at *
   clear J2 C J1 g1 g2 t1
   obtain⟨wo,rfl⟩:∃ wo:World,wo=wr:=⟨_,rfl⟩
   go_loopw [17,115] (fun cv iv wr=>∃ (D cc:Nat) (m2:List Nat),D≤f+2∧iv=.int .i64 (D:Int)∧cc≤1∧cv=.int .u64 (cc:Int)∧Hid (cO m Y D m2 cc)∧Hid (Own .u64 84 wr R (g.take j ++ m2 ++ (t2 :: g.drop (j+(f+2)+1))))∧Hid (Fr (· = R) w7 wr)) (fun _ iv _=>f+2-(intOf iv).toNat)
   case atStart=>exact⟨0,0,m,qO,rfl,qO,rfl,cO.start _ _ D2.out,z2.out,Fr.refl _ _⟩
   case round =>
    obtain⟨D,cc,m2,Y2,rfl,O1,rfl,T,u,i0⟩:=hrel
    have v:m2.length=f+2:=by rw[T.out.1];exact h0.out
    by_cases S2:D<f+2
    ·obtain⟨b3,o3,rfl,_,K2⟩:=(M1.out.fr i0.out (fun a ha _=>q0.out a ha)).at (i:=D) (by rw[x.out];omega)
     obtain⟨y,ey⟩:=yE (Y[D]?.getD 0)
     obtain⟨z,ez⟩:=yE (m2[D]?.getD 0)
     have P1:D<m2.length:=qO
     have Q1:=u.out.mid (k:=D) P1
     have Z2:=u.out.frozen (j+D)
     rw[s0.out] at Q1
     rw[ey] at K2
     rw[ez] at Q1
     have L2:=zh (T.out.step (by rw[h0.out];omega) ez ey (by rw[x.out];omega))
     have R1:xN z y cc≤1:=Zc4 (ez ▸ T.out.2.2.1.getD zK D) (ey ▸ n0.out.getD zK D) O1
     have x0:=zh (u.out.set_mid P1 (xJ z y cc))
     rw[s0.out] at x0
     have ha:=fQ z y cc O1
     clear ey ez v
     go_wp2
     go_roundw
     case rel=>exact⟨D+1,_,_,qO,by go_num,R1,rfl,L2,x0.out,i0.out.setCell (p:=⟨R,j+D,none⟩) (Or.inl rfl) _⟩
     case measure=>simp[intOf];omega
    obtain rfl:D=f+2:=qO
    have j0:=T.out.done (by rw[x.out];omega) (by rw[h0.out];omega) (Or.inr h0.out.symm)
    rw[h0.out,HV.out] at j0
    obtain⟨_,k2,k3,k4⟩:=Zh9 a0.out hV.out Hu.out u0.out E2.out N1 F2.out j0 (by have:=wF T.out.2.2.1;rw[v] at this;exact this)
    have g3:IntKind.u64.wrap ((t2:Int)+(cc:Int))=0:=by
     have h1:=G2.out
     rw[IntKind.wrap_u64]
     omega
    rw[H2.out] at k2
    have o:=B.out
    have S1:=I2.out
    have H:j+(f+2)<(g.take j ++ m2 ++ (t2 :: g.drop (j+(f+2)+1))).length:=by simp;omega
    have C:=u.out.cell H
    have J1:=u.out.frozen (j+(f+2))
    rw[Zjo _ _ _ _ _ _ s0.out v] at C
    have k0:=u.out.set (j+(f+2)) 0 H
    rw[Zjn _ _ _ _ _ _ _ s0.out v] at k0
    have l0:Fr (· = R) w7 (wr.setCell ⟨R,j+(f+2),none⟩ (.int .u64 ((0:Nat):Int))):=i0.out.setCell (p:=⟨R,j+(f+2),none⟩) (Or.inl rfl) _
    have M:=B2.out.fr l0 (by have:=l.out;omega)
    have f0:j<qs.length:=qO
    have S0:=M.cell f0
    have s2:=M.frozen j
    obtain⟨z0,g0⟩:=yE (qs[j]?.getD 0)
    rw[g0] at S0
    have R0:=zh (I.out.step a0.out hV.out qO v T.out.2.2.1 k2 k3)
    have T1:=zh (M.set j d1 f0)
    have U1:=zh (k0.far (p:=⟨Z,j,none⟩) (by have:=l.out;show R≠Z;omega) (.int .u64 (d1:Int)))
    have V1:Hid (Ext wD ((wr.setCell ⟨R,j+(f+2),none⟩ (.int .u64 ((0:Nat):Int))).setCell ⟨Z,j,none⟩ (.int .u64 (d1:Int)))):=(C2.out.next l0 (fun i hi e=>by have:=HR.out;omega)).setCell (Or.inr (by have:=HR.out;have:=l.out;show wD.heap.size≤Z;omega)) _
    have T0:Hid ((g.take j ++ m2 ++ (0 :: g.drop (j+(f+2)+1))).length=xs.length+1):=by unfold Hid;simp;omega
    clear j0 k2 k3 k4 o S1 H k0 l0 M g0 v
    simp only[Int.ofNat_zero] at *
    go_wp2
    go_roundw
    case rel=>exact⟨j,_,_,qO,rfl,R0,T0,U1.out,T1.out,V1.out⟩
    case measure=>simp[intOf]
  obtain rfl:k=0:=qO
  obtain⟨k1,k2⟩:=I.out.done
  have e0:qs.length=xs.length-(f+2)+1:=by have:=I.out.2.2.1;have:=B.out;omega
  have W0:=Zd2 (val W64 xs) (val W64 ys) (2^s) (uZ qO)
  have NQ:=zF.of_own (c:=xs.length-(f+2)+1) I0.out I.out.2.1 qO
  have NR:=zF.of_own (c:=xs.length+1) E.out I.out.1 (by have:=B.out;omega)
  rw[k1,← HX.out,← HV.out,N.out,W0.1] at NQ
  rw[k2,← HX.out,← HV.out,N.out] at NR
  have M2:=zh NQ
  have N2:=zh NR
  have W1:=zh (dG _ qs (xs.length-(f+2)+1) (xs.length-(f+2)+1) wr e0 I0.out.shows0 qO qO)
  have X1:=zh (dG _ g (xs.length+1) (xs.length+1) wr B.out E.out.shows0 (by have:=B.out;omega) (by have:=B.out;omega))
  have O2:=zh W0.2
  have p0:Hid (wl (val W64 xs*2^s%(val W64 ys*2^s))≤4294967296):=by
   refine uA ((kK (k:=f+2)).2 ?_) qO
   have h1:=uP (val W64 xs*2^s) a0.out
   rw[←HV.out,N.out] at h1
   have h2:=hV.out
   rw[←HV.out,N.out] at h2
   exact uT h1 h2
  clear k1 k2 e0 W0 NQ NR
  go_wp2_with fail
  (with_reducible refine W1.out.mono ?_)
  rintro e w7 ⟨rfl,rfl⟩
  clear W1
  go_wp2_with fail
  (with_reducible refine X1.out.mono ?_)
  rintro e w7 ⟨rfl,rfl⟩
  clear X1
  go_wp2_with fail
  (with_reducible refine (Zgd _ _ s _ N2.out p0.out qO).mono ?_)
  rintro e w7 ⟨B7,l7,c7,rfl,X0,r,Y1⟩
  rw[O2.out] at X0
  have P2:=zh Y1
  have Q2:=zh X0
  have V0:=zh r
  clear X0 r Y1
  go_wp2
  go_ret2
  exact⟨_,_,_,B7,l7,c7,rfl,M2.out.ext V0.out,Q2.out,(C0.out.ext F.out).ext V0.out,fun a h=>(P2.out a h).imp (uA (C0.out.ext F.out).size) id⟩
theorem Zfe (A:qA)(l c:Nat)(g:Value)(x y:Nat)(w:World)(o:zF w (.slice A l c) x)(p:zF w g y)(i:wl x≤4294967296)(s:wl y≤4294967296)(E:0<y) :
 Ζ 173 #[.slice A l c,g] w (aH w A A (x/y) (x%y)):=by
 have t:∀ e w',aH w none none (x/y) (x%y) e w'→aH w A A (x/y) (x%y) e w':=by
  rintro e w' ⟨D,m,d,B,l,c,j,k,n,F,G⟩
  exact⟨D,m,d,B,l,c,j,k,n,F,fun a u=>Or.inl ((G a u).elim id fun h=>by rcases h with h|h<;>rw[u] at h<;>cases h)⟩
 rcases vO x y with b|f
 ·rw[tV b,vL b]
  exact Zgh A l c g x y w o p i s b
 have H:=Zd4 E
 by_cases j:wl y=1
 ·exact (ZfH _ g x y w o p i j f).mono t
 obtain⟨_,I,_,h,J,q,k,n,rfl⟩:=o
 injection h with e1 e2 e3
 subst e1 e2 e3
 obtain⟨K,v,L,rfl,r,M,z,C,rfl⟩:=p
 rw[←xT k n] at i
 rw[←xT z C] at s j H
 exact (Zfd A K I v c L (v.length-2) w q M J r i qO k z n C f).mono t
theorem ZfI (b a:Value)(x y:Nat)(w:World)(d:zF w b x)(e:zF w a y)(f:wl x≤4294967296)(g:wl y≤4294967296)(i:0<y) :
 Ζ 173 #[b,a] w (ZcE w (x/y) (x%y)):=by
 obtain⟨A,_,c,rfl,_⟩:=id d
 exact (Zfe _ _ _ a x y w d e f g i).mono fun _ _ h=>h.ret
theorem Zb5 (d f:Value)(x y:Nat)(w:World)(k:zF w d x)(l:zF w f y)(p:wl x≤4294967296)(q:wl y<80)(r:0<y) :
 Ζ 142 #[d,f] w (ZcE w (x/y) (x%y)):=by
 have s:=zh (ZfI d f x y w k l p qO r)
 obtain⟨A,E,c,rfl,t,g,z,B,rfl⟩:=k
 obtain⟨F,G,H,rfl,h,C,m,n,rfl⟩:=l
 rw[←xT m n] at q
 clear g z B C m n t h
 go_enter func142,ntmps142
 go_wp2_with (go_at_call 173;refine s.out.mono ?_;rintro e I ⟨u,v,rfl,a,b,o⟩;have i:=zh a;have j:=zh b;have D:=zh o;clear a b o)
 go_ret2
 exact⟨_,_,rfl,i.out,j.out,D.out⟩
noncomputable def W32:Nat:=Classical.choose (p:=fun n:Nat=>n=4294967296) ⟨_,rfl⟩
theorem xD:W32=4294967296:=oP (p:=fun n:Nat=>n=4294967296) ⟨_,rfl⟩
theorem xA:0<W32:=by have:=xD;omega
theorem Zhz:1<W32:=by have:=xD;omega
theorem Zsi:2≤W32:=by have:=xD;omega
theorem bU:W32*W32=W64:=by rw[xD,zN]
theorem cY:(prog.info? 87).map (fun i=>(i.zero,i.size,i.bytes))=some (some (.int .u32 0),1,4):=qK
theorem kE (A:qA)(xs:qN)(n c:Nat)(w:World)(o:xs.length=n)(h:zI .u32 w A xs)(s:xs.length≤c)(t:xs.length≤70368744177664) :
 Ζ 42 #[.slice A n c] w fun e w'=>e=.returned (.slice A (wU xs xs.length) c)∧w=w':=by
 subst o
 have H:=zh h
 clear h
 go_enter func42,ntmps42
 go_wp2
 go_loop [0] (fun v=>∃ k:Nat,k≤xs.length∧v=.slice A k c∧Hid (wU xs xs.length=wU xs k)) (fun v=>match v with | .slice _ k _=>k | _=>0)
 case atStart=>exact⟨xs.length,uF _,rfl,rfl⟩
 case round =>
  obtain⟨k,u,rfl,d⟩:=hrel
  by_cases p:0<k
  ·obtain⟨b,q,rfl,y,f⟩:=H.out.at (i:=k-1) qO
   obtain⟨x,g⟩:=yE (xs[k-1]?.getD 0)
   rw[g] at f
   have l:=zh g
   clear g
   by_cases j:x=0
   ·subst j
    go_wp2
    go_round
    case rel =>
     refine⟨k-1,qO,by go_num,?_⟩
     have e:=d.out
     obtain⟨m,rfl⟩:∃ m,k=m+1:=⟨k-1,qO⟩
     rw[wU,uM (by simpa using l.out)] at e
     exact e
    case measure=>simp;omega
   have r:(((x:Nat):Int) == 0)=false:=by simpa using j
   go_wp2
   go_ret
   refine⟨?_,rfl⟩
   have e:=d.out
   obtain⟨m,rfl⟩:∃ m,k=m+1:=⟨k-1,qO⟩
   have a:=l.out
   simp only[tK] at a
   rw[wU,uI (by rw[a];exact j)] at e
   rw[e];rfl
  obtain rfl:k=0:=qO
  go_wp2
  go_ret
  exact⟨by rw[d.out];rfl,rfl⟩
def ml (n:Nat):Nat:=if n=0 then 0 else n.log2/32+1
theorem ZcQ (k:Nat):W32^k=2^(32*k):=by rw[qI,xD]
theorem jE {n k:Nat}:ml n≤k↔n<W32^k:=by
 unfold ml
 rw[ZcQ]
 split
 ·rename_i h;subst h;simp[uZ]
 rename_i h
 rw[←Nat.log2_lt h];omega
theorem Zgx (n:Nat):n<W32^ml n:=jE.1 (uF _)
theorem ZhA:ml 0=0:=rfl
theorem Zao {a b:Nat}(h:a≤b):ml a≤ml b:=jE.2 (vA h (Zgx b))
theorem ZtO (a b:Nat):ml (a*b)≤ml a+ml b:=jE.2 (by rw[uU];exact pY (Zgx a) (Zgx b))
theorem ZtP {a b k:Nat}(ha:ml a≤k)(c:ml b≤k):ml (a+b)≤k+1:=by
 rw[jE] at *
 have:W32^k*2≤W32^k*W32:=uK _ Zsi
 rw[uO]
 omega
theorem jA {xs:qN}(a:Dig W32 xs)(b:Trim xs):xs.length=ml (val W32 xs):=by
 have c:=jK (n:=ml (val W32 xs)) Zhz b (Zgx _)
 have d:ml (val W32 xs)≤xs.length:=jE.2 (wF a)
 omega
theorem Zgy {n:Nat}(h:0<n):0<ml n:=by
 unfold ml;rw[uI qO];omega
def zW (w:World) (v:Value) (n:Nat):Prop :=
 ∃ (A:Option Addr) (xs:List Nat) (c:Nat),v=.slice A xs.length c∧xs.length≤c∧zI .u32 w A xs∧Dig W32 xs∧Trim xs∧val W32 xs=n
theorem zW.ext {w w':World}{v:Value}{n:Nat}(h:zW w v n)(a:Ext w w'):zW w' v n:=by
 obtain⟨A,b,c,d,e,f,g⟩:=h
 exact⟨A,b,c,d,e,f.ext a,g⟩
theorem zW.zero (w:World):zW w (.slice none 0 0) 0:=⟨none,[],0,rfl,qS,zI.nil,Dig.nil,Trim.nil,rfl⟩
def bV (w:World) (n:Nat) (e:Ending) (w':World):Prop:=∃ v,e=.returned v∧zW w' v n∧Ext w w'
theorem zW.of_own {w:World}{b:Nat}{xs:qN}(h:Own .u32 87 w b xs)(a:Dig W32 xs){c:Nat}(d:xs.length≤c):zW w (.slice (some ⟨b,0,none⟩) (wU xs xs.length) c) (val W32 xs):=by
 refine⟨_,wL xs,c,by rw[wQ],by rw[wQ];exact uA (gN _ _) d,h.shows0.take _,iM a,iQ xs,lG _ _⟩
theorem jS (s:Nat):(s:Int)%4294967296=((s%W32:Nat):Int):=by rw[xD];omega
theorem hi32 (s:Nat):(s:Int)/4294967296=((s/W32:Nat):Int):=by rw[xD];omega
theorem addW {a b:Nat}(h:a+b<W64):IntKind.u64.wrap ((a:Int)+(b:Int))=((a+b:Nat):Int):=by rw[←rX];exact wK _ h
def iY (xs ys:List Nat) (k:Nat) (m:List Nat) (c:Nat):Prop :=
 m.length=xs.length+1∧Dig W32 m∧c≤1∧val W32 (m.take k)+W32^k*c=val W32 (xs.take k)+val W32 (ys.take k)
theorem iY.start (xs ys:qN):iY xs ys 0 (List.replicate (xs.length+1) 0) 0:=⟨qS,Dig.replicate xA _,qO,qS⟩
theorem ZbH {x y c:Nat}(a:x<W32)(b:y<W32)(d:c≤1):(c+x+y)/W32≤1:=by
 rw[xD] at *;omega
theorem iY.step {xs ys m:qN}{k c x y:Nat}(h:iY xs ys k m c)(e:k<xs.length)(b:xs[k]?.getD 0=x)(d:ys[k]?.getD 0=y)(a:k<ys.length)(dx:Dig W32 xs)(dy:Dig W32 ys) :
 iY xs ys (k+1) (m.set k ((c+x+y)%W32)) ((c+x+y)/W32):=by
 obtain⟨f,g,i,j⟩:=h
 refine⟨by simpa using f,g.set k (uP _ xA),ZbH (b ▸ dx.getD xA k) (d ▸ dy.getD xA k) i,?_⟩
 rw[xL _ _ _ _ qO,zV k e,zV k a,b,d,uO]
 exact Zbz _ _ _ _ _ _ _ _ _ _ j (by have:=sM (c+x+y) W32;omega)
theorem iY.step0 {xs ys m:qN}{k c x:Nat}(h:iY xs ys k m c)(d:k<xs.length)(a:xs[k]?.getD 0=x)(e:ys.length≤k)(dx:Dig W32 xs) :
 iY xs ys (k+1) (m.set k ((c+x)%W32)) ((c+x)/W32):=by
 obtain⟨f,g,i,b⟩:=h
 refine⟨by simpa using f,g.set k (uP _ xA),by simpa using ZbH (y:=0) (a ▸ dx.getD xA k) xA i,?_⟩
 rw[xL _ _ _ _ qO,zV k d,a,uO,uB (l:=ys) qO]
 rw[uB (l:=ys) qO] at b
 have:=Zbz _ _ _ _ _ _ 0 _ _ _ b (by have:=sM (c+x) W32;omega:(c+x)%W32+W32*((c+x)/W32)=x+0+c)
 simpa using this
theorem iY.last {xs ys m:qN}{c:Nat}(h:iY xs ys xs.length m c)(a:ys.length≤xs.length):(m.set xs.length c).length=xs.length+1∧Dig W32 (m.set xs.length c)∧val W32 (m.set xs.length c)=val W32 xs+val W32 ys:=by
 obtain⟨b,d,g,f⟩:=h
 refine⟨by simpa using b,d.set _ (by have:=xD;omega),?_⟩
 have e:m.set xs.length c=(m.set xs.length c).take (xs.length+1):=by rw[uB (by simp;omega)]
 rw[e,xL _ _ _ _ qO,f,uB (uF _),uB a]
theorem Zk1 (A A2:qA)(xs ys:qN)(c c2:Nat)(w:World)(hX:zI .u32 w A xs)(hY:zI .u32 w A2 ys)(hl:xs.length≤35184372088832)(K:ys.length≤xs.length)(hx:Dig W32 xs)(hy:Dig W32 ys) :
 Ζ 46 #[.slice A xs.length c,.slice A2 ys.length c2] w (bV w (val W32 xs+val W32 ys)):=by
 have HX:=zh hX
 have HY:=zh hY
 have L:=zh hx
 have Hy:=zh hy
 clear hX hY hx hy
 go_enter func46,ntmps46
 go_wp2_with (
  at_make
  refine lA rfl _ _ _ rfl _ _ _ underlying28 cY _ _ _ _ (xs.length+1) rfl rfl qO qO qO qO ?_
  intro b w1 hb D M E N
  have O:=zh D
  have P:=zh E
  have Q:=zh hb
  clear D E hb N M)
 go_loopw [6,7] (fun cv i wr=>∃ (k q:Nat) (m:List Nat),k≤xs.length∧i=.int .i64 k∧cv=.int .u64 q∧Hid (iY xs ys k m q)∧Hid (Own .u32 87 wr b m)∧Hid (Ext w wr)) (fun _ i _=>xs.length-(intOf i).toNat)
 case atStart=>exact⟨0,0,_,qO,rfl,rfl,iY.start _ _,O,P⟩
 case round =>
  obtain⟨k,q,m,hk,rfl,rfl,B,g,j⟩:=hrel
  have R:=B.out.1
  by_cases t:k<xs.length
  ·obtain⟨b2,a0,rfl,_,S⟩:=(HX.out.ext j.out).at t
   obtain⟨x,ex⟩:=yE (xs[k]?.getD 0)
   rw[ex] at S
   have s:=ex ▸ L.out.getD xA k
   have r:=B.out.2.2.1
   have u:=g.out.cell (i:=k) qO
   have T:=g.out.frozen k
   obtain⟨z,C⟩:=yE (m[k]?.getD 0)
   rw[C] at u
   have h:q+x<W64:=by have:=xD;have:=zN;omega
   have q0:=wK x (by have:=zN;have:=xD;omega)
   have q1:=addW (a:=q) (b:=x) h
   obtain⟨v,l⟩:=yE (q+x)
   rw[l] at q1
   by_cases F:k<ys.length
   ·obtain⟨b3,b0,rfl,_,U⟩:=(HY.out.ext j.out).at F
    obtain⟨y,J⟩:=yE (ys[k]?.getD 0)
    rw[J] at U
    have G:=J ▸ Hy.out.getD xA k
    have d:=zh (B.out.step t ex J F L.out Hy.out)
    rw[l] at d
    have d0:=wK y (by have:=zN;have:=xD;omega)
    have q2:=addW (a:=v) (b:=y) (by have:=xD;have:=zN;omega)
    obtain⟨H,I⟩:=yE (v+y)
    rw[I] at q2 d
    have f:=zh (g.out.set k (H%W32) qO)
    have V:=jS H
    have W:=hi32 H
    obtain⟨lo,n⟩:=yE (H%W32)
    obtain⟨hi,o⟩:=yE (H/W32)
    rw[n] at V d f
    rw[o] at W d
    clear ex J C n o l I s G r h
    go_wp2
    go_roundw
    case rel=>exact⟨k+1,_,_,qO,by go_num,rfl,d,f.out,j.out.setCell (p:=⟨b,k,none⟩) (Or.inr (by have:=Q.out;show w.heap.size≤b;omega)) _⟩
    case measure=>simp[intOf];omega
   have d:=zh (B.out.step0 t ex qO L.out)
   rw[l] at d
   have f:=zh (g.out.set k (v%W32) qO)
   have V:=jS v
   have W:=hi32 v
   obtain⟨lo,n⟩:=yE (v%W32)
   obtain⟨hi,o⟩:=yE (v/W32)
   rw[n] at V d f
   rw[o] at W d
   clear ex C n o l s r h
   go_wp2
   go_roundw
   case rel=>exact⟨k+1,_,_,qO,by go_num,rfl,d,f.out,j.out.setCell (p:=⟨b,k,none⟩) (Or.inr (by have:=Q.out;show w.heap.size≤b;omega)) _⟩
   case measure=>simp[intOf];omega
  obtain rfl:k=xs.length:=qO
  obtain⟨X,Y,Z⟩:=B.out.last K
  have u:=g.out.cell (i:=xs.length) qO
  have T:=g.out.frozen xs.length
  obtain⟨z,C⟩:=yE (m[xs.length]?.getD 0)
  rw[C] at u
  have r:=B.out.2.2.1
  have c0:(q:Int)%4294967296=(q:Int):=qO
  have f:=g.out.set xs.length q qO
  obtain⟨m',em⟩:=yE (m.set xs.length q)
  rw[em] at X Y Z f
  have HT:=zh (kE _ _ (xs.length+1) (xs.length+1) _ X f.shows0 qO qO)
  have HN:=zh (zW.of_own (c:=xs.length+1) f Y qO)
  rw[Z] at HN
  clear C X Y Z f r R em
  go_wp2_with fail
  refine HT.out.mono ?_
  rintro e w2 ⟨rfl,rfl⟩
  clear HT
  go_wp2
  go_ret
  exact⟨_,rfl,HN.out,j.out.setCell (p:=⟨b,xs.length,none⟩) (Or.inr (by have:=Q.out;show w.heap.size≤b;omega)) _⟩
theorem Zk2 (A A2:qA)(xs ys:qN)(c c2:Nat)(w:World)(hX:zI .u32 w A xs)(hY:zI .u32 w A2 ys)(hl:xs.length≤35184372088832)(r:ys.length<xs.length)(hx:Dig W32 xs)(hy:Dig W32 ys) :
 Ζ 46 #[.slice A2 ys.length c2,.slice A xs.length c] w (bV w (val W32 xs+val W32 ys)):=by
 have K:ys.length≤xs.length:=qO
 have HX:=zh hX
 have HY:=zh hY
 have L:=zh hx
 have Hy:=zh hy
 clear hX hY hx hy
 go_enter func46,ntmps46
 go_wp2_with (
  at_make
  refine lA rfl _ _ _ rfl _ _ _ underlying28 cY _ _ _ _ (xs.length+1) rfl rfl qO qO qO qO ?_
  intro b w1 hb D M E N
  have O:=zh D
  have P:=zh E
  have Q:=zh hb
  clear D E hb N M)
 go_loopw [6,7] (fun cv i wr=>∃ (k q:Nat) (m:List Nat),k≤xs.length∧i=.int .i64 k∧cv=.int .u64 q∧Hid (iY xs ys k m q)∧Hid (Own .u32 87 wr b m)∧Hid (Ext w wr)) (fun _ i _=>xs.length-(intOf i).toNat)
 case atStart=>exact⟨0,0,_,qO,rfl,rfl,iY.start _ _,O,P⟩
 case round =>
  obtain⟨k,q,m,hk,rfl,rfl,B,g,j⟩:=hrel
  have R:=B.out.1
  by_cases r:k<xs.length
  ·obtain⟨b2,a0,rfl,_,S⟩:=(HX.out.ext j.out).at r
   obtain⟨x,ex⟩:=yE (xs[k]?.getD 0)
   rw[ex] at S
   have t:=ex ▸ L.out.getD xA k
   have s:=B.out.2.2.1
   have u:=g.out.cell (i:=k) qO
   have T:=g.out.frozen k
   obtain⟨z,C⟩:=yE (m[k]?.getD 0)
   rw[C] at u
   have h:q+x<W64:=by have:=xD;have:=zN;omega
   have q0:=wK x (by have:=zN;have:=xD;omega)
   have q1:=addW (a:=q) (b:=x) h
   obtain⟨v,l⟩:=yE (q+x)
   rw[l] at q1
   by_cases F:k<ys.length
   ·obtain⟨b3,b0,rfl,_,U⟩:=(HY.out.ext j.out).at F
    obtain⟨y,J⟩:=yE (ys[k]?.getD 0)
    rw[J] at U
    have G:=J ▸ Hy.out.getD xA k
    have d:=zh (B.out.step r ex J F L.out Hy.out)
    rw[l] at d
    have d0:=wK y (by have:=zN;have:=xD;omega)
    have q2:=addW (a:=v) (b:=y) (by have:=xD;have:=zN;omega)
    obtain⟨H,I⟩:=yE (v+y)
    rw[I] at q2 d
    have f:=zh (g.out.set k (H%W32) qO)
    have V:=jS H
    have W:=hi32 H
    obtain⟨lo,n⟩:=yE (H%W32)
    obtain⟨hi,o⟩:=yE (H/W32)
    rw[n] at V d f
    rw[o] at W d
    clear ex J C n o l I t G s h
    go_wp2
    go_roundw
    case rel=>exact⟨k+1,_,_,qO,by go_num,rfl,d,f.out,j.out.setCell (p:=⟨b,k,none⟩) (Or.inr (by have:=Q.out;show w.heap.size≤b;omega)) _⟩
    case measure=>simp[intOf];omega
   have d:=zh (B.out.step0 r ex qO L.out)
   rw[l] at d
   have f:=zh (g.out.set k (v%W32) qO)
   have V:=jS v
   have W:=hi32 v
   obtain⟨lo,n⟩:=yE (v%W32)
   obtain⟨hi,o⟩:=yE (v/W32)
   rw[n] at V d f
   rw[o] at W d
   clear ex C n o l t s h
   go_wp2
   go_roundw
   case rel=>exact⟨k+1,_,_,qO,by go_num,rfl,d,f.out,j.out.setCell (p:=⟨b,k,none⟩) (Or.inr (by have:=Q.out;show w.heap.size≤b;omega)) _⟩
   case measure=>simp[intOf];omega
  obtain rfl:k=xs.length:=qO
  obtain⟨X,Y,Z⟩:=B.out.last K
  have u:=g.out.cell (i:=xs.length) qO
  have T:=g.out.frozen xs.length
  obtain⟨z,C⟩:=yE (m[xs.length]?.getD 0)
  rw[C] at u
  have s:=B.out.2.2.1
  have c0:(q:Int)%4294967296=(q:Int):=qO
  have f:=g.out.set xs.length q qO
  obtain⟨m',em⟩:=yE (m.set xs.length q)
  rw[em] at X Y Z f
  have HT:=zh (kE _ _ (xs.length+1) (xs.length+1) _ X f.shows0 qO qO)
  have HN:=zh (zW.of_own (c:=xs.length+1) f Y qO)
  rw[Z] at HN
  clear C X Y Z f s R em
  go_wp2_with fail
  refine HT.out.mono ?_
  rintro e w2 ⟨rfl,rfl⟩
  clear HT
  go_wp2
  go_ret
  exact⟨_,rfl,HN.out,j.out.setCell (p:=⟨b,xs.length,none⟩) (Or.inr (by have:=Q.out;show w.heap.size≤b;omega)) _⟩
theorem Zbc (v v2:Value)(x y:Nat)(w:World)(l:zW w v x)(m:zW w v2 y)(a:ml x≤17592186044416)(b:ml y≤17592186044416) :
 Ζ 46 #[v,v2] w (bV w (x+y)):=by
 obtain⟨A,d,c,rfl,q,g,e,n,rfl⟩:=l
 obtain⟨i,f,j,rfl,o,k,dy,p,rfl⟩:=m
 rw[←jA e n] at a
 rw[←jA dy p] at b
 by_cases h:f.length≤d.length
 ·exact Zk1 A i d f c j w g k qO h e dy
 rw[vW]
 exact Zk2 i A f d j c w k g qO qO dy e
def ZbI (xs ys:List Nat) (i:Nat) (zs:List Nat):Prop :=
 zs.length=xs.length+ys.length∧Dig W32 zs∧(∀ j,i+ys.length≤j→zs[j]?.getD 0=0)∧val W32 zs=val W32 (xs.take i)*val W32 ys
theorem ZbI.start (xs ys:qN):ZbI xs ys 0 (List.replicate (xs.length+ys.length) 0):=by
 refine⟨qS,Dig.replicate xA _,?_,by simp[kX]⟩
 intro j _
 rw[pE];split<;>rfl
def ZaH (zs:List Nat) (i x:Nat) (ys:List Nat) (k:Nat) (ms:List Nat) (c:Nat):Prop :=
 ms.length=zs.length∧Dig W32 ms∧c<W32∧ms.drop (i+k)=zs.drop (i+k)∧val W32 (ms.take (i+k))+W32^(i+k)*c=val W32 (zs.take (i+k))+W32^i*(x*val W32 (ys.take k))
theorem ZaH.start {zs ys:qN}{i x:Nat}(a:Dig W32 zs):ZaH zs i x ys 0 zs 0:=⟨rfl,a,xA,rfl,qS⟩
theorem ZaH.at {zs ys a:qN}{i x k c:Nat}(h:ZaH zs i x ys k a c):a[i+k]?.getD 0=zs[i+k]?.getD 0:=by
 have:=vP (fun l=>l[0]?.getD 0) h.2.2.2.1
 simpa [vR] using this
theorem sq32 {a b z c:Nat}(ha:a<W32)(d:b<W32)(e:z<W32)(f:c<W32):c+(a*b+z)<W32*W32:=by
 have g:a*b≤(W32-1)*(W32-1):=vK qO qO
 rw[xD] at *
 omega
theorem Zqr (a b B V Z Y x y z c d c':Nat)(g:V+a*b*c=Z+a*(x*Y))(e:d+B*c'=c+(x*y+z)):V+a*b*d+a*b*B*c'=Z+a*b*z+a*(x*(Y+b*y)):=by
 have f:=vP (a*b * ·) e
 simp only[uL] at f ⊢
 have h:a*b*(B*c')=a*b*B*c':=by rw[uH (a*b)]
 have i:a*(x*(b*y))=a*b*(x*y):=by rw[tL x,uH]
 omega
theorem ZaH.step {zs ys a:qN}{i x k c y z:Nat}(h:ZaH zs i x ys k a c)(m:i+k<zs.length)(n:x<W32)(d:ys[k]?.getD 0=y)(b:k<ys.length)(dy:Dig W32 ys)(e:a[i+k]?.getD 0=z) :
 ZaH zs i x ys (k+1) (a.set (i+k) ((c+(x*y+z))%W32)) ((c+(x*y+z))/W32):=by
 have o:zs[i+k]?.getD 0=z:=h.at.symm.trans e
 obtain⟨p,f,q,r,g⟩:=h
 have s:=sq32 n (d ▸ dy.getD xA k) (e ▸ f.getD xA (i+k)) q
 refine⟨by simpa using p,f.set _ (uP _ xA),sW s,?_,?_⟩
 ·rw[tN qO,← sG,← tA (i:=1) (j:=i+k) (l:=a),← tA (i:=1) (j:=i+k) (l:=zs),r]
 rw[←sG,xL _ _ _ _ qO,zV (i+k) m,zV k b,o,d,uO,uU]
 rw[uU] at g
 exact Zqr _ _ _ _ _ _ _ _ _ _ _ _ g (by have:=sM (c+(x*y+z)) W32;omega)
theorem ZdQ {B:Nat}{zs:qN}{n:Nat}(h:∀ j,n≤j→zs[j]?.getD 0=0):val B zs=val B (zs.take n):=by
 rw[xX (xs:=zs) n]
 have:val B (zs.drop n)=0:=by
  have e:zs.drop n=List.replicate (zs.drop n).length 0:=by
   apply List.ext_getElem qS
   intro i a b
   have:=h (n+i) qO
   rw[tB] at a
   rw[uR qO] at this
   simpa using this
  rw[e,kX]
 rw[this];simp
theorem ZbI.next {xs ys zs a:qN}{i x c:Nat}(h:ZbI xs ys i zs)(k:ZaH zs i x ys ys.length a c)(hi:i<xs.length)(e:xs[i]?.getD 0=x):ZbI xs ys (i+1) (a.set (i+ys.length) c):=by
 obtain⟨f,r,b,g⟩:=h
 obtain⟨m,n,o,p,q⟩:=k
 have d:∀ j,i+1+ys.length≤j→(a.set (i+ys.length) c)[j]?.getD 0=0:=by
  intro j s
  rw[List.getElem?_set_ne qO]
  have:=vP (fun l=>l[j-(i+ys.length)]?.getD 0) p
  simp only[vR] at this
  rw[show i+ys.length+(j-(i+ys.length))=j by omega] at this
  rw[this];exact b j qO
 refine⟨by simp[m,f],n.set _ o,d,?_⟩
 rw[ZdQ d,show i+1+ys.length=i+ys.length+1 by omega,xL _ _ _ _ qO,q,← ZdQ b,g,zV i hi,e,uW,uB (uF ys.length),uH]
theorem Zk3 (A A2:qA)(xs ys:qN)(c c2:Nat)(w:World)(hX:zI .u32 w A xs)(hY:zI .u32 w A2 ys)(hl:xs.length≤35184372088832)(e0:ys.length≤35184372088832)(Q:0<xs.length)(R:0<ys.length)(hx:Dig W32 xs)(hy:Dig W32 ys) :
 Ζ 49 #[.slice A xs.length c,.slice A2 ys.length c2] w (bV w (val W32 xs*val W32 ys)):=by
 have HX:=zh hX
 have HY:=zh hY
 have Hx:=zh hx
 have Hy:=zh hy
 have g1:(((xs.length:Nat):Int) == 0)=false:=by simp;intro e;simp[e] at Q
 have g2:(((ys.length:Nat):Int) == 0)=false:=by simp;intro e;simp[e] at R
 clear hX hY hx hy
 go_enter func49,ntmps49
 go_wp2_with (
  at_make
  refine lA rfl _ _ _ rfl _ _ _ underlying28 cY _ _ _ _ (xs.length+ys.length) rfl rfl qO qO qO qO ?_
  intro b w1 o E S F T
  have U:=zh E
  have V:=zh F
  have Hb:=zh o
  clear E F o T S)
 go_loopw [6,7,8] (fun i _ _ wr=>∃ (k:Nat) (m:List Nat),k≤xs.length∧i=.int .i64 k∧Hid (ZbI xs ys k m)∧Hid (Own .u32 87 wr b m)∧Hid (Ext w wr)) (fun i _ _ _=>xs.length-(intOf i).toNat)
 case atStart=>exact⟨0,_,qO,rfl,ZbI.start _ _,U,V⟩
 case round =>
  obtain⟨k,zs,hk,rfl,G,t,H⟩:=hrel
  have I:=G.out.1
  by_cases u:k<xs.length
  ·obtain⟨x,ex⟩:=yE (xs[k]?.getD 0)
   have J:=zh ex
   have g:Hid (x<W32):=ex ▸ Hx.out.getD xA k
   obtain⟨b2,b0,hA,_⟩:=HX.out.at u
   subst hA
   clear ex
   go_wp2
   obtain⟨wo,rfl⟩:∃ wo:World,wo=wr:=⟨_,rfl⟩
   go_loopw [7,8] (fun cv j wr=>∃ (n v:Nat) (m:List Nat),n≤ys.length∧j=.int .i64 n∧cv=.int .u64 v∧Hid (ZaH zs k x ys n m v)∧Hid (Own .u32 87 wr b m)∧Hid (Ext w wr)) (fun _ j _=>ys.length-(intOf j).toNat)
   case atStart=>exact⟨0,0,_,qO,rfl,rfl,ZaH.start G.out.2.1,t,H⟩
   case round =>
    obtain⟨n,v,m,hn,rfl,rfl,D,d,h⟩:=hrel
    have f0:=D.out.1
    by_cases q:n<ys.length
    ·obtain⟨b3,c0,rfl,_,W⟩:=(HY.out.ext h.out).at q
     obtain⟨b4,d0,e4,_,X⟩:=(HX.out.ext h.out).at u
     injection e4 with e4
     injection e4 with e4 e5
     subst e4 e5
     rw[J.out] at X
     obtain⟨y,P⟩:=yE (ys[n]?.getD 0)
     rw[P] at W
     obtain⟨z,B⟩:=yE (m[k+n]?.getD 0)
     have C:=d.out.cell (i:=k+n) qO
     have Y:=d.out.frozen (k+n)
     rw[B] at C
     have r:=P ▸ Hy.out.getD xA n
     have s:=B ▸ D.out.2.1.getD xA (k+n)
     have o:=sq32 g.out r s D.out.2.2.1
     rw[bU] at o
     have f:=zh (D.out.step qO g.out P q Hy.out B)
     have q0:=wK x (by have:=zN;have:=xD;have:=g.out;omega)
     have q1:=wK y (by have:=zN;have:=xD;omega)
     have q2:=wK z (by have:=zN;have:=xD;omega)
     have q3:IntKind.u64.wrap ((x:Int)*(y:Int))=((x*y:Nat):Int):=by rw[←tG];exact wK _ qO
     obtain⟨p,ep⟩:=yE (x*y)
     rw[ep] at q3 f o
     have q4:=addW (a:=p) (b:=z) qO
     obtain⟨s1,K⟩:=yE (p+z)
     rw[K] at q4 f o
     have q5:=addW (a:=v) (b:=s1) o
     obtain⟨L,M⟩:=yE (v+s1)
     rw[M] at q5 f
     have Z:=jS L
     have q7:=hi32 L
     have l:=zh (d.out.set (k+n) (L%W32) qO)
     obtain⟨lo,N⟩:=yE (L%W32)
     obtain⟨hi,O⟩:=yE (L/W32)
     rw[N] at Z f l
     rw[O] at q7 f
     clear P B r s o ep K M N O
     go_wp2
     go_region
     all_goals
      go_wp2
      go_roundw
      case rel=>exact⟨n+1,_,_,qO,by go_num,rfl,f,l.out.drewN _,(h.out.drewN _).setCell (p:=⟨b,k+n,none⟩) (Or.inr (by have:=Hb.out;show w.heap.size≤b;omega)) _⟩
      case measure=>simp[intOf];omega
    obtain rfl:n=ys.length:=qO
    have a0:=zh (G.out.next D.out u J.out)
    have C:=d.out.cell (i:=k+ys.length) qO
    have Y:=d.out.frozen (k+ys.length)
    obtain⟨z,B⟩:=yE (m[k+ys.length]?.getD 0)
    rw[B] at C
    have l:=zh (d.out.set (k+ys.length) v qO)
    have Z:=jS v
    rw[vL D.out.2.2.1] at Z
    clear B
    go_wp2
    go_roundw
    case rel=>exact⟨k+1,_,qO,by go_num,a0,l.out,h.out.setCell (p:=⟨b,k+ys.length,none⟩) (Or.inr (by have:=Hb.out;show w.heap.size≤b;omega)) _⟩
    case measure=>simp[intOf];omega
  obtain rfl:k=xs.length:=qO
  have HT:=zh (kE _ zs (xs.length+ys.length) (xs.length+ys.length) wr I t.out.shows0 qO qO)
  have HN:=zh (zW.of_own (c:=xs.length+ys.length) t.out G.out.2.1 qO)
  rw[G.out.2.2.2,uB (uF _)] at HN
  clear I
  go_wp2_with fail
  refine HT.out.mono ?_
  rintro e w2 ⟨rfl,rfl⟩
  clear HT
  go_wp2
  go_ret
  exact⟨_,rfl,HN.out,H.out⟩
theorem Zk4 (A b:qA)(n m c c2:Nat)(w:World)(h:n=0∨m=0)(d:n≤35184372088832)(e:m≤35184372088832) :
 Ζ 49 #[.slice A n c,.slice b m c2] w (bV w 0):=by
 by_cases a:n=0
 ·subst a
  go_enter func49,ntmps49
  go_wp2
  go_ret
  exact⟨_,rfl,zW.zero _,Fr.refl _ _⟩
 obtain rfl:m=0:=qO
 have f:(((n:Nat):Int) == 0)=false:=by simpa using a
 go_enter func49,ntmps49
 go_wp2
 go_ret
 exact⟨_,rfl,zW.zero _,Fr.refl _ _⟩
theorem bK (v v2:Value)(x y:Nat)(w:World)(k:zW w v x)(l:zW w v2 y)(a:ml x≤17592186044416)(b:ml y≤17592186044416) :
 Ζ 49 #[v,v2] w (bV w (x*y)):=by
 obtain⟨A,d,c,rfl,r,m,g,n,rfl⟩:=k
 obtain⟨i,f,j,rfl,o,p,dy,q,rfl⟩:=l
 rw[←jA g n] at a
 rw[←jA dy q] at b
 by_cases h:d.length=0∨f.length=0
 ·have e:val W32 d*val W32 f=0:=by
   rcases h with h|h
   ·rw[tI.1 h];simp
   rw[tI.1 h];simp
  rw[e]
  exact Zk4 A i _ _ c j w h qO qO
 exact Zk3 A i d f c j w m p qO qO qO qO g dy
def Zde (xs:List Nat) (d k:Nat) (zs:List Nat) (r:Nat):Prop :=
 zs.length=xs.length∧Dig W32 zs∧r<d∧val W32 (xs.drop k)=val W32 (zs.drop k)*d+r
theorem Zde.start (xs:qN){d:Nat}(h:0<d):Zde xs d xs.length (List.replicate xs.length 0) 0:=⟨qS,Dig.replicate xA _,h,qS⟩
theorem Zde.step {xs zs:qN}{d k r x:Nat}(h:Zde xs d (k+1) zs r)(c:k<xs.length)(a:xs[k]?.getD 0=x)(dx:Dig W32 xs) :
 Zde xs d k (zs.set k ((r*W32+x)/d)) ((r*W32+x)%d)∧(r*W32+x)/d<W32:=by
 obtain⟨e,f,g,i⟩:=h
 have j:x<W32:=a ▸ dx.getD xA k
 have b:(r*W32+x)/d<W32:=by
  apply sW
  have:(r+1)*W32≤d*W32:=uE _ g
  rw[uW,qH] at this
  omega
 refine⟨⟨by simpa using e,f.set k b,uP _ qO,?_⟩,b⟩
 rw[xY k c,xY (xs:=zs.set k _) k (by simp;omega),a,tN qO,sJ qO]
 exact ZfE _ _ _ _ _ _ _ _ i (by have:=vX (r*W32+x) d;rw[uG d] at this;show _=(r*W32+x)/d*d+_;omega)
theorem Zm8 (r:Nat)(h:r<W32):IntKind.u64.wrap ((r:Int)*4294967296)=((r*W32:Nat):Int):=by
 rw[xD] at *;rw[IntKind.wrap_u64];omega
theorem or32 (r x:Nat)(a:x<W32):r*W32 ||| x=r*W32+x:=by
 rw[xD] at *
 have:=sQ (i:=32) (b:=x) qO r
 rw[rL] at this
 exact this.symm
def Zik (w:World) (x d:Nat) (e:Ending) (w':World):Prop:=∃ l c,e=.returned (.tuple #[.slice (some ⟨w.heap.size,0,none⟩) l c,.int .u32 ((x%d:Nat):Int)])∧zW w' (.slice (some ⟨w.heap.size,0,none⟩) l c) (x/d)∧Ext w w'
theorem ZiW (A:qA)(xs:qN)(c d:Nat)(w:World)(V:zI .u32 w A xs)(hl:xs.length≤35184372088832)(W:Dig W32 xs)(hd:0<d)(y:d<W32) :
 Ζ 106 #[.slice A xs.length c,.int .u32 (d:Int)] w (Zik w (val W32 xs) d):=by
 have HX:=zh V
 have X:=zh W
 have Y:=zh hd
 have B:=zh y
 have g1:(((d:Nat):Int) == 0)=false:=by simp;omega
 have q0:=wK d (by have:=zN;have:=xD;omega)
 clear V W y
 go_enter func106,ntmps106
 go_wp2_with (
  at_make
  refine lA rfl _ _ _ rfl _ _ _ underlying28 cY _ _ _ _ xs.length rfl rfl qO qO qO qO ?_
  intro b w1 Z C L D M
  have N:=zh C
  have O:=zh D
  have P:=zh Z
  clear C D Z M L)
 go_loopw [7,8] (fun rv i wr=>∃ (k r:Nat) (m:List Nat),k≤xs.length∧i=.int .i64 ((k:Int)-1)∧rv=.int .u64 r∧Hid (Zde xs d k m r)∧Hid (Own .u32 87 wr b m)∧Hid (Ext w wr)) (fun _ i _=>(intOf i+1).toNat)
 case atStart=>exact⟨xs.length,0,_,qO,rfl,rfl,Zde.start _ Y.out,N,O⟩
 case round =>
  obtain⟨k,r,m,hk,rfl,rfl,v,f,t⟩:=hrel
  have E:=v.out.1
  by_cases b0:0<k
  ·obtain⟨k,rfl⟩:∃ j,k=j+1:=⟨k-1,qO⟩
   have F:k<xs.length:=qO
   obtain⟨b2,a0,rfl,_,Q⟩:=(HX.out.ext t.out).at F
   obtain⟨x,ex⟩:=yE (xs[k]?.getD 0)
   rw[ex] at Q
   have o:=ex ▸ X.out.getD xA k
   have R:=f.out.cell (i:=k) qO
   have c0:=f.out.frozen k
   obtain⟨z,ez⟩:=yE (m[k]?.getD 0)
   rw[ez] at R
   have hi:((k+1:Nat):Int)-1=(k:Int):=qO
   rw[hi]
   obtain⟨G,J⟩:=v.out.step F ex X.out
   have g:=zh G
   have h:r<W32:=rY v.out.2.2.1 B.out
   have q1:=Zm8 r h
   have q2:=wK x (by have:=zN;have:=xD;omega)
   have u:r*W32+x<W64:=by
    have:(r+1)*W32≤W32*W32:=uE _ h
    rw[uW,bU] at this;omega
   have S:=bP (a:=r*W32) (b:=x) qO qO
   rw[or32 r x o] at S
   obtain⟨rw1,e1⟩:=yE (r*W32)
   rw[e1] at q1 S g J u
   obtain⟨s,es⟩:=yE (rw1+x)
   rw[es] at S g J u
   have q4:(s:Int).tdiv (d:Int)=((s/d:Nat):Int):=by rw[rB qO];rfl
   have T:(s:Int)/(d:Int)=((s/d:Nat):Int):=rfl
   have q5:(s:Int).tmod (d:Int)=((s%d:Nat):Int):=by rw[sE qO];rfl
   have U:(s:Int)%(d:Int)=((s%d:Nat):Int):=rfl
   have H:=zh (f.out.set k (s/d) qO)
   have K:=jS (s/d)
   rw[vL J] at K
   have q7:IntKind.u64.wrap ((s/d:Nat):Int)=((s/d:Nat):Int):=wK _ (by have:=zN;have:=xD;omega)
   obtain⟨q,eq⟩:=yE (s/d)
   obtain⟨r2,I⟩:=yE (s%d)
   rw[eq] at q4 T K q7 H g
   rw[I] at q5 U g
   clear ex ez o G J h u e1 es eq I hi
   go_wp2
   refine⟨⟨k,_,_,qO,rfl,rfl,g,H,t.out.setCell (p:=⟨b,k,none⟩) (Or.inr (by have:=P.out;show w.heap.size≤b;omega)) _⟩,?_⟩
   simp[intOf]
  obtain rfl:k=0:=qO
  have l:=v.out.2.2.2
  rw[sI,sI] at l
  have HT:=zh (kE _ m xs.length xs.length wr E f.out.shows0 qO qO)
  have HN:=zh (zW.of_own (c:=xs.length) f.out v.out.2.1 qO)
  have n:=v.out.2.2.1
  have ed:val W32 xs/d=val W32 m:=by
   rw[l,uG,rK Y.out,tV n,tP]
  have I:val W32 xs%d=r:=by
   rw[l,uG,pG,vL n]
  rw[←ed] at HN
  have HE:=zh I
  have K:=jS r
  rw[vL (rY n B.out)] at K
  clear l n ed I E
  go_wp2_with fail
  refine HT.out.mono ?_
  rintro e w2 ⟨rfl,rfl⟩
  clear HT
  go_wp2
  go_ret2
  exact⟨_,_,by rw[HE.out,P.out];rfl,by rw[P.out];exact HN.out,t.out⟩
theorem Zef (v:Value)(x d:Nat)(w:World)(f:zW w v x)(a:ml x≤17592186044416)(g:0<d)(b:d<W32) :
 Ζ 106 #[v,.int .u32 (d:Int)] w (Zik w x d):=by
 obtain⟨A,h,c,rfl,k,i,e,j,rfl⟩:=f
 rw[←jA e j] at a
 exact ZiW A h c d w i qO e g b
def gH (xs ys:List Nat) (k:Nat) (m:List Nat) (c:Nat):Prop :=
 m.length=xs.length∧Dig W32 m∧c≤1∧val W32 (m.take k)+val W32 (ys.take k)=val W32 (xs.take k)+W32^k*c
theorem gH.start (xs ys:qN):gH xs ys 0 (List.replicate xs.length 0) 0:=⟨qS,Dig.replicate xA _,qO,qS⟩
noncomputable def d32 (x y c:Nat):Nat:=(x+W64-c-y)%W64
theorem ZfK {x y c:Nat}(a:x<W32)(b:y<W32)(d:c≤1):d32 x y c%W32+y+c=x+W32*(d32 x y c/W32%2):=by
 unfold d32
 rw[xD] at *
 rw[zN] at *
 omega
theorem gH.step {xs ys m:qN}{k c x y:Nat}(h:gH xs ys k m c)(e:k<xs.length)(b:xs[k]?.getD 0=x)(d:ys[k]?.getD 0=y)(a:k<ys.length)(dx:Dig W32 xs)(dy:Dig W32 ys) :
 gH xs ys (k+1) (m.set k (d32 x y c%W32)) (d32 x y c/W32%2):=by
 obtain⟨f,g,i,j⟩:=h
 refine⟨by simpa using f,g.set k (uP _ xA),qO,?_⟩
 rw[xL _ _ _ _ qO,zV k e,zV k a,b,d,uO]
 exact ZfD _ _ _ _ _ _ _ _ _ _ j (ZfK (b ▸ dx.getD xA k) (d ▸ dy.getD xA k) i)
theorem gH.step0 {xs ys m:qN}{k c x:Nat}(h:gH xs ys k m c)(d:k<xs.length)(a:xs[k]?.getD 0=x)(e:ys.length≤k)(dx:Dig W32 xs) :
 gH xs ys (k+1) (m.set k (d32 x 0 c%W32)) (d32 x 0 c/W32%2):=by
 obtain⟨f,g,i,b⟩:=h
 refine⟨by simpa using f,g.set k (uP _ xA),qO,?_⟩
 rw[xL _ _ _ _ qO,zV k d,a,uO,uB (l:=ys) qO]
 rw[uB (l:=ys) qO] at b
 have:=ZfD _ _ _ _ _ _ 0 _ _ _ b (ZfK (y:=0) (a ▸ dx.getD xA k) xA i)
 simpa using this
theorem gH.done {xs ys m:qN}{c:Nat}(h:gH xs ys xs.length m c)(e:ys.length≤xs.length)(f:val W32 ys≤val W32 xs):val W32 m=val W32 xs-val W32 ys:=by
 obtain⟨b,d,g,a⟩:=h
 rw[uB qO,uB qO,uB qO] at a
 have:=wF d
 rw[b] at this
 rcases (by omega:c=0∨c=1) with rfl|rfl
 ·simp at a;omega
 omega
theorem Zsj {x c:Nat}(a:x<W32)(b:c≤1):IntKind.u64.wrap ((x:Int)-(c:Int))=((d32 x 0 c:Nat):Int):=by
 unfold d32;rw[IntKind.wrap_u64,zN];rw[xD] at a;omega
theorem Zsk {x y c:Nat}(a:x<W32)(b:y<W32)(d:c≤1):IntKind.u64.wrap (((d32 x 0 c:Nat):Int)-(y:Int))=((d32 x y c:Nat):Int):=by
 unfold d32;rw[IntKind.wrap_u64,zN];rw[xD] at a b;omega
theorem ZjE (x y c:Nat):d32 x y c<W64:=uP _ zK
theorem ZhB (h:Nat)(a:h<W64):bits .and .u64 (h:Int) 1=((h%2:Nat):Int):=by
 rw[zN] at a
 have:=bits_and_u64_nat h 1 a qO
 rw[Nat.and_one_is_mod] at this
 exact this
theorem Zk5 (A U:qA)(xs ys:qN)(c c2:Nat)(w:World)(V:zI .u32 w A xs)(W:zI .u32 w U ys)(hl:xs.length≤35184372088832)(K:ys.length≤xs.length)(X:Dig W32 xs)(Y:Dig W32 ys)(Z:val W32 ys≤val W32 xs) :
 Ζ 48 #[.slice A xs.length c,.slice U ys.length c2] w (bV w (val W32 xs-val W32 ys)):=by
 have HX:=zh V
 have HY:=zh W
 have L:=zh X
 have Hy:=zh Y
 have HV:=zh Z
 clear V W X Y Z
 go_enter func48,ntmps48
 go_wp2_with (
  at_make
  refine lA rfl _ _ _ rfl _ _ _ underlying28 cY _ _ _ _ xs.length rfl rfl qO qO qO qO ?_
  intro b w1 hb B M C N
  have O:=zh B
  have P:=zh C
  have Hb:=zh hb
  clear B C hb N M)
 go_loopw [6,7,8] (fun cv i _ wr=>∃ (k f:Nat) (m:List Nat),k≤xs.length∧i=.int .i64 k∧cv=.int .u64 f∧Hid (gH xs ys k m f)∧Hid (Own .u32 87 wr b m)∧Hid (Ext w wr)) (fun _ i _ _=>xs.length-(intOf i).toNat)
 case atStart=>exact⟨0,0,_,qO,rfl,rfl,gH.start _ _,O,P⟩
 case round =>
  obtain⟨k,f,m,hk,rfl,rfl,v,h,j⟩:=hrel
  have D:=v.out.1
  by_cases t:k<xs.length
  ·obtain⟨b2,a0,rfl,_,Q⟩:=(HX.out.ext j.out).at t
   obtain⟨x,ex⟩:=yE (xs[k]?.getD 0)
   rw[ex] at Q
   have g:=ex ▸ L.out.getD xA k
   have r:=v.out.2.2.1
   have R:=h.out.cell (i:=k) qO
   have c0:=h.out.frozen k
   obtain⟨z,S⟩:=yE (m[k]?.getD 0)
   rw[S] at R
   have q0:=wK x (by have:=zN;have:=xD;omega)
   have q1:=Zsj g r
   by_cases E:k<ys.length
   ·obtain⟨b3,b0,rfl,_,T⟩:=(HY.out.ext j.out).at E
    obtain⟨y,J⟩:=yE (ys[k]?.getD 0)
    rw[J] at T
    have s:=J ▸ Hy.out.getD xA k
    have a:=zh (v.out.step t ex J E L.out Hy.out)
    have d0:=wK y (by have:=zN;have:=xD;omega)
    have q2:=Zsk g s r
    have F:=jS (d32 x y f)
    have G:=hi32 (d32 x y f)
    have u:=ZhB (d32 x y f/W32) (vA (vJ _ _) (ZjE _ _ _))
    have d:=zh (h.out.set k (d32 x y f%W32) qO)
    obtain⟨d1,H⟩:=yE (d32 x 0 f)
    obtain⟨I,l⟩:=yE (d32 x y f)
    rw[H] at q1 q2
    rw[l] at q2 F G u d a
    obtain⟨lo,n⟩:=yE (I%W32)
    obtain⟨hi,o⟩:=yE (I/W32)
    rw[n] at F a d
    rw[o] at G u a
    obtain⟨bw,q⟩:=yE (hi%2)
    rw[q] at u a
    clear ex J S n o H l q g s r
    go_wp2
    go_roundw
    case rel=>exact⟨k+1,_,_,qO,by go_num,rfl,a,d.out,j.out.setCell (p:=⟨b,k,none⟩) (Or.inr (by have:=Hb.out;show w.heap.size≤b;omega)) _⟩
    case measure=>simp[intOf];omega
   have a:=zh (v.out.step0 t ex qO L.out)
   have F:=jS (d32 x 0 f)
   have G:=hi32 (d32 x 0 f)
   have u:=ZhB (d32 x 0 f/W32) (vA (vJ _ _) (ZjE _ _ _))
   have d:=zh (h.out.set k (d32 x 0 f%W32) qO)
   obtain⟨I,l⟩:=yE (d32 x 0 f)
   rw[l] at q1 F G u d a
   obtain⟨lo,n⟩:=yE (I%W32)
   obtain⟨hi,o⟩:=yE (I/W32)
   rw[n] at F a d
   rw[o] at G u a
   obtain⟨bw,q⟩:=yE (hi%2)
   rw[q] at u a
   clear ex S n o l q g r
   go_wp2
   go_roundw
   case rel=>exact⟨k+1,_,_,qO,by go_num,rfl,a,d.out,j.out.setCell (p:=⟨b,k,none⟩) (Or.inr (by have:=Hb.out;show w.heap.size≤b;omega)) _⟩
   case measure=>simp[intOf];omega
  obtain rfl:k=xs.length:=qO
  have l3:=v.out.done K HV.out
  have HT:=zh (kE _ m xs.length xs.length wr D h.out.shows0 qO qO)
  have HN:=zh (zW.of_own (c:=xs.length) h.out v.out.2.1 qO)
  rw[l3] at HN
  clear l3 D
  go_wp2_with fail
  refine HT.out.mono ?_
  rintro e w2 ⟨rfl,rfl⟩
  clear HT
  go_wp2
  go_ret
  exact⟨_,rfl,HN.out,j.out⟩
theorem Zbd (v v2:Value)(x y:Nat)(w:World)(f:zW w v x)(g:zW w v2 y)(b:ml x≤17592186044416)(a:y≤x) :
 Ζ 48 #[v,v2] w (bV w (x-y)):=by
 have d:=Zao a
 obtain⟨A,h,c,rfl,q,i,e,j,rfl⟩:=f
 obtain⟨k,l,m,rfl,n,o,dy,p,rfl⟩:=g
 rw[←jA e j] at b d
 rw[←jA dy p] at d
 exact Zk5 A k h l c m w i o qO d e dy a
theorem Zot {xs ys:qN}(a:Dig W32 xs)(b:Dig W32 ys)(c:Trim xs)(d:Trim ys)(e:xs.length≠ys.length):cmpI xs.length ys.length=cmpI (val W32 xs) (val W32 ys):=by
 rcases pL e with h|h
 ·rw[iJ qO,iJ (by have:=fA xA a d h;omega)]
 rw[gY qO,gY (by have:=fA xA b c h;omega)]
theorem Zk6 {xs ys:qN}(d:Dig W32 xs)(e:Dig W32 ys)(b:xs.length=ys.length){k x y:Nat}(f:k<xs.length)(c:xs.drop (k+1)=ys.drop (k+1))(ex:xs[k]?.getD 0=x)(g:ys[k]?.getD 0=y)(a:x≠y) :
 cmpI x y=cmpI (val W32 xs) (val W32 ys):=by
 subst ex g
 rcases pL a with h|h
 ·rw[iJ qO,iJ (by have:=cE d b k f c h;omega)]
 rw[gY qO,gY (by have:=cE e b.symm k qO c.symm h;omega)]
theorem Zfq (A E:qA)(xs ys:qN)(n m c c2:Nat)(w:World)(L:xs.length=n)(M:ys.length=m)(s:zI .u32 w A xs)(t:zI .u32 w E ys)(X:xs.length≤70368744177664)(_:ys.length≤70368744177664)(o:Dig W32 xs)(p:Dig W32 ys)(u:Trim xs)(v:Trim ys) :
 Ζ 47 #[.slice A n c,.slice E m c2] w fun e w'=>e=.returned (.int .i64 (cmpI (val W32 xs) (val W32 ys)))∧∃ n,w'=w.drewN n:=by
 subst L M
 by_cases q:xs.length=ys.length
 ·have N:=zh s
  have O:=zh t
  have h:=zh q
  have P:=zh o
  have R:=zh p
  have z:(((xs.length:Nat):Int) != (ys.length:Nat))=false:=by simp[q]
  clear s t o p u v q
  go_enter func47,ntmps47
  go_wp2
  go_loopw [5] (fun i wr=>∃ k n:Nat,k≤xs.length∧i=.int .i64 ((k:Int)-1)∧Hid (xs.drop k=ys.drop k)∧Hid (wr=w.drewN n)) (fun i _=>(intOf i+1).toNat)
  case atStart=>exact⟨xs.length,0,uF _,rfl,by unfold Hid;rw[vF (uF _),vF (by rw[h.out];exact uF _)],rfl⟩
  case round =>
   obtain⟨k,n,Y,rfl,Q,F⟩:=hrel
   obtain rfl:=F.out
   clear F
   by_cases S:0<k
   ·obtain⟨j,rfl⟩:∃ j,k=j+1:=⟨k-1,qO⟩
    have G:(((j+1:Nat):Int)-1)=(j:Int):=qO
    rw[G]
    clear G
    obtain⟨b,T,rfl,_,B⟩:=N.out.at (i:=j) qO
    obtain⟨Z,H,rfl,_,C⟩:=O.out.at (i:=j) (by have:=h.out;omega)
    obtain⟨x,ex⟩:=yE (xs[j]?.getD 0)
    obtain⟨y,f⟩:=yE (ys[j]?.getD 0)
    rw[ex] at B
    rw[f] at C
    have U:(j:Int)<(ys.length:Nat):=by have:=h.out;omega
    have V:(j:Int)<(xs.length:Nat):=qO
    by_cases I:x=y
    ·subst I
     have r:Hid (xs.drop j=ys.drop j):=by
      unfold Hid
      have J:j<xs.length:=qO
      have K:j<ys.length:=by have:=h.out;omega
      rw[tW J,tW K,Q.out]
      rw[uR J] at ex
      rw[uR K] at f
      simp only[qW] at ex f
      rw[ex,f]
     clear ex f Q
     go_wp2
     go_quiet (fail)
     go_wp2
     go_roundw
     case rel=>exact⟨j,_,qO,rfl,r,rfl⟩
     case measure=>simp[intOf]
    have g:=zh (Zk6 P.out R.out h.out qO Q.out ex f I)
    have W:(((x:Nat):Int) != (y:Nat))=true:=by simp;omega
    clear ex f Q
    by_cases D:x<y
    ·have d:=zh (iJ (a:=x) (b:=y) qO)
     go_wp2
     go_quiet (fail)
     go_wp2
     go_quiet (fail)
     go_wp2
     go_ret
     exact⟨by rw[←g.out,d.out];rfl,by simp only[World.drewN_drewN];exact⟨_,rfl⟩⟩
    have d:=zh (gY (a:=x) (b:=y) qO)
    go_wp2
    go_quiet (fail)
    go_wp2
    go_quiet (fail)
    go_wp2
    go_ret
    exact⟨by rw[←g.out,d.out];rfl,by simp only[World.drewN_drewN];exact⟨_,rfl⟩⟩
   obtain rfl:k=0:=qO
   have r:xs=ys:=by simpa using Q.out
   have g:=zh (vP (fun l=>cmpI (val W32 xs) (val W32 l)) r)
   clear Q r
   go_wp2
   go_ret
   exact⟨by rw[←(show _=cmpI (val W32 xs) (val W32 ys) from g.out),ZbY];rfl,_,rfl⟩
 have z:(((xs.length:Nat):Int) != (ys.length:Nat))=true:=by simp;omega
 have g:=zh (Zot o p u v q)
 clear s t o p u v
 by_cases D:xs.length<ys.length
 ·have d:=zh (iJ (a:=xs.length) (b:=ys.length) qO)
  go_enter func47,ntmps47
  go_wp2
  go_ret
  exact⟨by rw[←g.out,d.out];rfl,0,rfl⟩
 have d:=zh (gY (a:=xs.length) (b:=ys.length) qO)
 go_enter func47,ntmps47
 go_wp2
 go_ret
 exact⟨by rw[←g.out,d.out];rfl,0,rfl⟩
theorem bL (u v:Value)(m n:Nat)(w:World)(g:zW w u m)(h:zW w v n)(i:ml m≤17592186044416)(j:ml n≤17592186044416) :
 Ζ 47 #[u,v] w fun e w'=>e=.returned (.int .i64 (cmpI m n))∧∃ n,w'=w.drewN n:=by
 obtain⟨A,k,c,rfl,t,l,a,b,rfl⟩:=g
 obtain⟨o,p,q,rfl,r,s,d,f,rfl⟩:=h
 rw[←jA a b] at i
 rw[←jA d f] at j
 exact Zfq A o k p _ _ c q w rfl rfl l s qO qO a d b f
end Go.Proofs.YtmpffakfhcpjoaaGreatDoor
namespace Go.Proofs.YtmpffakfhcpjoaaGreatDoor
def gI (X v n k:Nat) (rs qs:List Nat):Prop :=
 Dig W32 rs∧Dig W32 qs∧rs.length=qs.length+n∧val W32 rs+val W32 (qs.drop k)*W32^k*v=X∧val W32 (rs.drop k)<v
theorem gI.window {X v n k:Nat}{a c:qN}(h:gI X v n (k+1) a c)(g:v≤W32^n)(i:k+n<a.length) :
 val W32 (a.drop k)=val W32 ((a.drop k).take (n+1))∧val W32 (a.drop k)<v*W32∧val W32 (a.drop (k+n+1))=0:=by
 obtain⟨d,j,l,m,f⟩:=h
 have b:val W32 (a.drop (k+n+1))=0:=by
  have e:=xX (B:=W32) (xs:=a.drop (k+1)) n
  rw[tA,show k+1+n=k+n+1 by omega,uY (by simp;omega)] at e
  rcases uJ (val W32 (a.drop (k+n+1))) with h|h
  ·exact h
  have:W32^n*1≤W32^n*val W32 (a.drop (k+n+1)):=uK _ h
  omega
 refine⟨?_,?_,b⟩
 ·have e:=xX (B:=W32) (xs:=a.drop k) (n+1)
  rw[tA,show k+(n+1)=k+n+1 by omega,b] at e
  simpa using e
 rw[xY k qO]
 have o:=d.getD xA k
 have:W32*(val W32 (a.drop (k+1))+1)≤W32*v:=uK _ f
 rw[uL] at this
 rw[uG v]
 omega
theorem gI.step {X v n k q:Nat}{a c m:qN}(h:gI X v n (k+1) a c)(e:0<v)(s:v≤W32^n)(t:k+n<a.length)(u:m.length=n)(w:Dig W32 m)(l:q=val W32 (a.drop k)/v)(o:val W32 m=val W32 (a.drop k)%v) :
 gI X v n k (a.take k ++ m ++ (0 :: a.drop (k+n+1))) (c.set k q):=by
 obtain⟨E,x,y⟩:=h.window s t
 obtain⟨p,z,F,G,H⟩:=h
 have f:k<c.length:=qO
 have i:q<W32:=by rw[l,vN e,uG];exact x
 have g:(a.take k).length=k:=by simp;omega
 have b:val W32 (m ++ (0 :: a.drop (k+n+1)))=val W32 m:=by
  rw[kO,gZ,y];simp
 have d:(a.take k ++ m ++ (0 :: a.drop (k+n+1))).drop k=m ++ (0 :: a.drop (k+n+1)):=by
  rw[tD,mF,g,vF qO,rZ];simp
 refine⟨((p.take k).append w).append (Dig.cons xA (p.drop _)),z.set k i,?_,?_,?_⟩
 ·simp[u];omega
 ·rw[tD,kO,g,b,o]
  rw[xY (xs:=c.set k q) k (by simpa using f),tN qO]
  have j:(c.set k q)[k]?.getD 0=q:=by rw[sJ f];rfl
  rw[j]
  have A:=xX (B:=W32) (xs:=a) k
  rw[uY qO] at A
  have r:=vX (val W32 (a.drop k)) v
  rw[←l] at r
  have C:=vP (W32^k * ·) r
  simp only[uL] at C
  rw[uW,uW]
  have e4:q*W32^k*v=W32^k*(v*q):=by rw[uG q,uH,uG q]
  have D:W32*val W32 (c.drop (k+1))*W32^k*v=val W32 (c.drop (k+1))*W32^(k+1)*v:=by
   rw[uO,uG W32 (val W32 _),uH (val W32 _) W32,uG W32 (W32^k)]
  rw[e4,D]
  omega
 rw[d,b,o];exact uP _ e
theorem gI.done {X v n:Nat}{c d:qN}(h:gI X v n 0 c d):val W32 d=X/v∧val W32 c=X%v:=by
 obtain⟨e,f,g,a,b⟩:=h
 rw[sI] at a b
 simp only[tH,sH] at a
 rw[←a,vW,uG,rK qO,pG,vL b,tV b]
 exact⟨qO,rfl⟩
theorem gI.start {x y s L n:Nat}{a:qN}(c:Dig W32 a)(m:a.length=L+1)(b:val W32 a=x*2^s)(d:x<W32^L)(f:W32^(n-1)≤y)(o:1≤n)(g:n≤L) :
 gI (x*2^s) (y*2^s) n (L-n+1) a (List.replicate (L-n+1) 0):=by
 refine⟨c,Dig.replicate xA _,by simp;omega,?_,?_⟩
 ·rw[vF qS];simp[b]
 have e:=xX (B:=W32) (xs:=a) (L-n+1)
 rw[uY qO,b] at e
 have h:0<2^s:=uZ qO
 have p:W32^(L-n+1)*val W32 (a.drop (L-n+1))≤x*2^s:=qO
 have i:x*2^s<W32^L*2^s:=tS d h
 have j:W32^L=W32^(L-n+1)*W32^(n-1):=by rw[←uU,show L-n+1+(n-1)=L by omega]
 rw[j,uH] at i
 have k:W32^(L-n+1)*val W32 (a.drop (L-n+1))<W32^(L-n+1)*(W32^(n-1)*2^s):=qO
 have l:=sR k
 exact uT l (uE _ f)
theorem lZ {t:Nat}(a:t≤31):2^(32-t)*2^t=W32:=by
 rw[←uU,show 32-t+t=32 by omega,xD]
theorem Zk9 {x t:Nat}(a:t≤31):x*2^t=x*2^t%W32+W32*(x/2^(32-t)):=by
 have h:=sM (x*2^t) W32
 have:x*2^t/W32=x/2^(32-t):=by
  rw[←lZ a,qR _ _ (uZ qO)]
 rw[this] at h
 exact h.symm
theorem Zqx {h x t:Nat}(a:h<2^t)(b:t≤31):h ||| x*2^t%W32=h+x*2^t%W32:=by
 have e:x*2^t%W32=(x%2^(32-t)) <<< t:=by
  rw[rL,← lZ b,rH]
 rw[e,Nat.or_comm,← sQ a,vW]
def dL (xs:List Nat) (skip t k:Nat) (zs:List Nat):Prop :=
 zs.length=xs.length+skip+1∧Dig W32 zs∧val W32 (zs.take (k+skip+1))=val W32 (xs.take k)*2^(32*skip+t)∧(zs[k+skip]?.getD 0)<2^t
theorem dL.start (xs:qN)(a t:Nat):dL xs a t 0 (List.replicate (xs.length+a+1) 0):=by
 refine⟨qS,Dig.replicate xA _,?_,?_⟩
 ·rw[List.take_replicate,kX];simp
 have:((List.replicate (xs.length+a+1) 0)[0+a]?.getD 0)=0:=by
  rw[pE];split<;>rfl
 rw[this];exact uZ qO
theorem dL.step {xs zs:qN}{a t k h x:Nat}(j:dL xs a t k zs)(g:t≤31)(l:k<xs.length)(i:zs[k+a]?.getD 0=h)(m:xs[k]?.getD 0=x)(b:x<W32) :
 dL xs a t (k+1) ((zs.set (k+a) (h+x*2^t%W32)).set (k+a+1) (x/2^(32-t)))∧h+x*2^t%W32<W32:=by
 obtain⟨n,o,p,q⟩:=j
 rw[i] at q
 have c:h+x*2^t%W32<W32:=by
  rw[←lZ g,rH]
  have:x%2^(32-t)<2^(32-t):=uP _ (uZ qO)
  have r:(x%2^(32-t)+1)*2^t≤2^(32-t)*2^t:=uE _ this
  rw[uW] at r
  omega
 have f:x/2^(32-t)<2^t:=by
  rw[vN (uZ qO),← uU,show t+(32-t)=32 by omega]
  rw[xD] at b;exact b
 have d:x/2^(32-t)<W32:=vA (vJ _ _) b
 refine⟨⟨by simpa using n,(o.set _ c).set _ d,?_,?_⟩,c⟩
 ·rw[show k+1+a+1=(k+a+1)+1 by omega,xL _ _ _ _ (by simp;omega),xL _ _ _ _ qO,zV k l,m,uW,← p,zV (k+a) qO,i]
  have e:=Zk9 (x:=x) g
  have s:W32^k*x*2^(32*a+t)=W32^(k+a)*(x*2^t):=by
   rw[uU 2,← ZcQ,uU]
   simp only[uH,tL]
  rw[s]
  have u:=vP (W32^(k+a) * ·) e
  simp only[uL] at u
  rw[uL,uO,uH]
  omega
 have:((zs.set (k+a) (h+x*2^t%W32)).set (k+a+1) (x/2^(32-t)))[k+1+a]?.getD 0=x/2^(32-t):=by
  rw[show k+1+a=k+a+1 by omega,sJ (by simp;omega)]
  rfl
 rw[this];exact f
theorem dL.done {xs zs:qN}{a t:Nat}(h:dL xs a t xs.length zs):val W32 zs=val W32 xs*2^(32*a+t):=by
 obtain⟨c,d,b,e⟩:=h
 rw[uB qO,uB qO] at b
 exact b
def eC (ys:List Nat) (t k:Nat) (zs:List Nat):Prop :=
 zs.length=ys.length∧Dig W32 zs∧2^t*val W32 (zs.take k)+(ys[0]?.getD 0)%2^t=val W32 (ys.take k)+W32^k*((ys[k]?.getD 0)%2^t)
theorem eC.start (ys:qN)(t:Nat):eC ys t 0 (List.replicate ys.length 0):=by
 refine⟨qS,Dig.replicate xA _,?_⟩
 simp
theorem Zoy {y t:Nat}(a:t≤31):y*2^(32-t)%W32=y%2^t*2^(32-t):=by
 rw[←lZ a,uG (2^(32-t)),rH]
theorem Zqy {x y t:Nat}(b:t≤31)(c:x<W32):x/2^t ||| y*2^(32-t)%W32=x/2^t+y%2^t*2^(32-t):=by
 have a:x/2^t<2^(32-t):=by
  rw[vN (uZ qO),lZ b];exact c
 rw[Zoy b,← rL,Nat.or_comm,← sQ a,vW]
theorem eC.step {ys zs:qN}{t k x y:Nat}(h:eC ys t k zs)(a:t≤31)(i:k<ys.length)(f:ys[k]?.getD 0=x)(j:ys[k+1]?.getD 0=y)(b:x<W32) :
 eC ys t (k+1) (zs.set k (x/2^t+y%2^t*2^(32-t))):=by
 obtain⟨l,m,n⟩:=h
 have c:x/2^t+y%2^t*2^(32-t)<W32:=by
  have g:x/2^t<2^(32-t):=by
   rw[vN (uZ qO),lZ a];exact b
  have d:y%2^t<2^t:=uP _ (uZ qO)
  have e:(y%2^t+1)*2^(32-t)≤2^t*2^(32-t):=uE _ d
  rw[uG (2^t),lZ a,uW] at e
  omega
 refine⟨by simpa using l,m.set k c,?_⟩
 rw[xL _ _ _ _ qO,zV k i,f,j]
 rw[f] at n
 have g:=vX x (2^t)
 have d:2^t*(y%2^t*2^(32-t))=W32*(y%2^t):=by
  rw[←lZ a]
  simp only[uG,tL]
 have e:=vP (W32^k * ·) g
 simp only[uL] at e
 rw[uL,tL (2^t),uL (2^t),d,uL,uO,uH (W32^k) W32]
 omega
theorem eC.done {ys zs:qN}{t:Nat}(h:eC ys t ys.length zs):val W32 zs=val W32 ys/2^t:=by
 obtain⟨b,c,a⟩:=h
 rw[uB qO,uB qO,vU (uF _)] at a
 simp only[Option.getD_none,Nat.zero_mod,tX,tP] at a
 rw[←a,rK (uZ qO),tV (uP _ (uZ qO)),tP]
theorem Zla {ys a:qN}{n yt s:Nat}(y:ys.length=n+1)(dy:Dig W32 ys)(r:ys[n]?.getD 0=yt)(d:2147483648≤yt*2^s)(t:s≤31)(f:yt*2^s<W32)(p:Dig W32 a)(u:Trim a)(v:val W32 a=val W32 ys*2^s) :
 a.length=n+1∧W32≤2*(a[n]?.getD 0)∧W32^n≤val W32 ys:=by
 have w:0<2^s:=uZ qO
 have j:0<yt:=by
  rcases uJ yt with e|e
  ·rw[e,sD] at d;omega
  exact e
 have z:val W32 ys=val W32 (ys.take n)+W32^n*yt:=by
  have:=zV (B:=W32) (xs:=ys) n qO
  rw[uB qO,r] at this
  exact this
 have g:=wF (dy.take n)
 rw[uN,uY qO] at g
 have k:(yt+1)*2^s≤W32:=by
  rw[←lZ t] at f ⊢
  exact uE _ (qC f)
 have l:val W32 ys*2^s<W32^(n+1):=by
  have c:val W32 ys<W32^n*(yt+1):=by rw[uL];omega
  have i:=tS c w
  rw[uH] at i
  have q:W32^n*((yt+1)*2^s)≤W32^n*W32:=uK _ k
  rw[uO]
  omega
 have x:W32^n*2147483648≤val W32 ys*2^s:=by
  have c:W32^n*yt≤val W32 ys:=qO
  have i:=uE (2^s) c
  rw[uH] at i
  have q:W32^n*2147483648≤W32^n*(yt*2^s):=uK _ d
  omega
 have m:a.length≤n+1:=jK Zhz u (v ▸ l)
 have o:n+1≤a.length:=by
  rcases vO a.length (n+1) with h|h
  ·have c:=wF p
   have i:W32^a.length≤W32^n:=vC xA qO
   have q:W32^n*1≤W32^n*2147483648:=uK _ qO
   omega
  exact h
 refine⟨qO,?_,?_⟩
 ·have A:val W32 a=val W32 (a.take n)+W32^n*(a[n]?.getD 0):=by
   have:=zV (B:=W32) (xs:=a) n qO
   rw[uB qO] at this
   exact this
  have b:=wF (p.take n)
  rw[uN,uY qO] at b
  have c:W32^n*2147483648<W32^n*((a[n]?.getD 0)+1):=by rw[uL];omega
  have i:=sR c
  rw[xD]
  omega
 have:W32^n*1≤W32^n*yt:=uK _ j
 omega
def jW (U V top v1 h r:Nat):Prop:=top=h*v1+r∧U<(h+1)*V
def Lead (U V top u3 v1 v2:Nat):Prop :=
 ∃ R u' v',0<R∧u'<R∧v'<R∧U=(top*W32+u3)*R+u'∧V=(v1*W32+v2)*R+v'∧U<V*W32∧0<v1∧u3<W32∧v2<W32
theorem jW.start {U V top u3 v1 v2:Nat}(a:Lead U V top u3 v1 v2):jW U V top v1 (top/v1) (top%v1):=by
 obtain⟨R,i,j,k,b,l,c,d,e,f,m,n⟩:=a
 refine⟨by have:=vX top v1;rw[uG] at this;exact this.symm,?_⟩
 rw[c,d]
 refine ZdZ _ _ _ _ _ _ b ?_
 have g:=Zb4 top f
 have h:(top+1)*W32≤(top/v1+1)*v1*W32:=uE _ g
 rw[uW top] at h
 rw[uL (top/v1+1),← uH]
 omega
theorem jW.big {U V top u3 v1 v2 h r:Nat}(a:jW U V top v1 h r)(b:Lead U V top u3 v1 v2)(c:W32≤h):0<h∧jW U V top v1 (h-1) (r+v1):=by
 obtain⟨R,f,i,j,k,l,m,n,d,o,p,q⟩:=b
 obtain⟨e,s⟩:=a
 have t:=xA
 obtain⟨g,rfl⟩:∃ g,h=g+1:=⟨h-1,qO⟩
 refine⟨qO,?_,?_⟩
 ·rw[e,tK,uW];omega
 rw[tK]
 have:V*W32≤V*(g+1):=uK _ c
 rw[uG (g+1)]
 omega
theorem jW.more {U V top u3 v1 v2 h r:Nat}(b:jW U V top v1 h r)(c:Lead U V top u3 v1 v2)(d:r*W32+u3<h*v2):0<h∧jW U V top v1 (h-1) (r+v1):=by
 obtain⟨R,m,n,o,f,p,i,j,k,q,s,t⟩:=c
 obtain⟨a,u⟩:=b
 have l:0<h:=by
  rcases uJ h with e|e
  ·rw[e,sD] at d;omega
  exact e
 obtain⟨g,rfl⟩:∃ g,h=g+1:=⟨h-1,qO⟩
 refine⟨l,?_,?_⟩
 ·rw[a,tK,uW];omega
 rw[tK,i,j]
 refine ZdZ _ _ _ _ _ _ f ?_
 rw[a,uL (g+1),← uH,uW ((g+1)*v1)]
 omega
theorem Lead.top_lt {U V top u3 v1 v2:Nat}(b:Lead U V top u3 v1 v2):top<v1*W32+W32:=by
 obtain⟨R,h,c,i,j,k,d,e,a,l,m,n⟩:=b
 rw[d,e] at a
 have o:(top*W32)*R≤(top*W32+u3)*R:=uE _ qO
 have f:((v1*W32+v2)*R+c)*W32≤((v1*W32+v2)*R+R)*W32:=uE _ qO
 have g:((v1*W32+v2)*R+R)*W32=((v1*W32+v2+1)*W32)*R:=by
  rw[uW (v1*W32+v2) 1 W32,uW,qH,uW _ W32 R,uG R W32,uH,uG R W32,← uH]
 rw[g] at f
 have e4:top*W32*R<(v1*W32+v2+1)*W32*R:=qO
 have p:=qC (qC e4)
 omega
theorem jW.done {U V top u3 v1 v2 h r:Nat}(a:jW U V top v1 h r)(b:Lead U V top u3 v1 v2)(c:h<W32)(l:h*v2≤r*W32+u3):eN U V h:=by
 obtain⟨R,m,n,o,p,d,e,f,g,i,q,s⟩:=b
 obtain⟨j,k⟩:=a
 refine⟨?_,k⟩
 rw[e,f]
 refine Zn1 _ _ _ _ _ _ W32 d c (uE _ ?_) ?_
 ·have:1*W32≤v1*W32:=uE _ i
  omega
 rw[j,uL h,← uH,uW (h*v1)]
 omega
theorem jW.broke {U V top u3 v1 v2 h r:Nat}(b:jW U V top v1 h r)(a:Lead U V top u3 v1 v2)(e:W32≤r):h<W32∧eN U V h:=by
 have f:=a.top_lt
 have c:v2<W32:=by obtain⟨_,_,_,_,_,_,_,_,_,_,_,c⟩:=a;exact c
 have g:=b.1
 have d:h<W32:=by
  have:h*v1<v1*W32:=qO
  rw[uG v1] at this
  exact qC this
 refine⟨d,b.done a d ?_⟩
 have i:h*v2≤W32*W32:=vK qO qO
 have j:W32*W32≤r*W32:=uE _ e
 omega
theorem Zsv {a b:qN}{n u1 u2 u3 v1 v2:Nat}(i:b.length=n+2)(j:a.length=n+3)(c:Dig W32 b)(d:Dig W32 a)(k:a[n+2]?.getD 0=u1)(l:a[n+1]?.getD 0=u2)(e:a[n]?.getD 0=u3)(m:b[n+1]?.getD 0=v1)(f:b[n]?.getD 0=v2)(o:val W32 a<val W32 b*W32)(p:W32≤2*v1) :
 Lead (val W32 a) (val W32 b) (u1*W32+u2) u3 v1 v2:=by
 have g:=wF (d.take n)
 have h:=wF (c.take n)
 rw[uN,uY qO] at g h
 have q:=xA
 refine⟨W32^n,val W32 (a.take n),val W32 (b.take n),uZ xA,g,h,?_,?_,o,qO,e ▸ d.getD xA _,f ▸ c.getD xA _⟩
 ·rw[top3 j,k,l,e,vW]
  congr 1
  rw[uG]
  congr 1
  rw[vW,uG W32,uG W32,vW u2]
 rw[top2 i,m,f,vW]
 congr 1
 rw[uG]
 congr 1
 rw[vW,uG W32]
def Zca (w0 vs:List Nat) (h i:Nat) (m:List Nat) (c bw:Nat):Prop :=
 m.length=w0.length∧Dig W32 m∧c<W32∧bw≤1∧m.drop i=w0.drop i∧val W32 (m.take i)+val W32 (vs.take i)*h=val W32 (w0.take i)+W32^i*(c+bw)
theorem Zca.start {a b:qN}{h:Nat}(c:Dig W32 a):Zca a b h 0 a 0 0:=⟨rfl,c,xA,qO,rfl,qS⟩
theorem ZlR {xs ys:qN}{i:Nat}(h:xs.drop i=ys.drop i):xs[i]?.getD 0=ys[i]?.getD 0:=by
 have:=vP (fun l=>l[0]?.getD 0) h
 simpa [vR] using this
theorem Zin {xs ys:qN}{i v:Nat}(h:xs.drop i=ys.drop i):(xs.set i v).drop (i+1)=ys.drop (i+1):=by
 rw[tN qO,← tA (i:=1) (j:=i) (l:=xs),← tA (i:=1) (j:=i) (l:=ys),h]
theorem ZjL {h x c:Nat}(a:h<W32)(b:x<W32)(d:c<W32):h*x+c<W32*W32:=by
 have e:h*x≤(W32-1)*(W32-1):=vK qO qO
 rw[xD] at *
 omega
theorem Zca.step {b a m:qN}{h i c d z x:Nat}(k:Zca b a h i m c d)(hi:i<b.length)(e:i<a.length)(l:h<W32)(f:m[i]?.getD 0=z)(ex:a[i]?.getD 0=x)(n:Dig W32 a) :
 Zca b a h (i+1) (m.set i (d32 z ((h*x+c)%W32) d%W32)) ((h*x+c)/W32) (d32 z ((h*x+c)%W32) d/W32%2):=by
 obtain⟨o,g,p,q,j,r⟩:=k
 have s:x<W32:=ex ▸ n.getD xA i
 have t:z<W32:=f ▸ g.getD xA i
 have u:=ZfK (y:=(h*x+c)%W32) t (uP _ xA) q
 refine⟨by simpa using o,g.set _ (uP _ xA),sW (ZjL l s p),qO,Zin j,?_⟩
 rw[xL _ _ _ _ qO,zV i hi,zV i e,ex,← ZlR j,f,uO]
 refine Zh6 _ _ _ _ _ _ _ _ _ _ _ r ?_
 have v:=sM (h*x+c) W32
 rw[uG x h,uL W32]
 omega
def Zcb (w0 vs:List Nat) (i:Nat) (m:List Nat) (c:Nat):Prop :=
 m.length=w0.length∧Dig W32 m∧c≤1∧m.drop i=w0.drop i∧val W32 (m.take i)+W32^i*c=val W32 (w0.take i)+val W32 (vs.take i)
theorem Zcb.start {a b:qN}(c:Dig W32 a):Zcb a b 0 a 0:=⟨rfl,c,qO,rfl,qS⟩
theorem Zcb.step {b a m:qN}{i c z x:Nat}(h:Zcb b a i m c)(hi:i<b.length)(d:i<a.length)(e:m[i]?.getD 0=z)(ex:a[i]?.getD 0=x)(j:Dig W32 a) :
 Zcb b a (i+1) (m.set i ((c+(z+x))%W32)) ((c+(z+x))/W32):=by
 obtain⟨k,f,l,g,n⟩:=h
 have o:x<W32:=ex ▸ j.getD xA i
 have p:z<W32:=e ▸ f.getD xA i
 have q:(c+(z+x))/W32≤1:=by have:=ZbH p o l;rwa [sG] at this
 refine⟨by simpa using k,f.set _ (uP _ xA),q,Zin g,?_⟩
 rw[xL _ _ _ _ qO,zV i hi,zV i d,ex,← ZlR g,e,uO]
 exact Zbz _ _ _ _ _ _ _ _ _ _ n (by have:=sM (c+(z+x)) W32;omega)
theorem zI.cell0 {k:Go.IntKind}{w:Go.World}{b off:Nat}{xs:qN}(h:zI k w (some ⟨b,off,none⟩) xs){i:Nat}(hi:i<xs.length):w.cell? ⟨b,off+i,none⟩=some (.int k ((xs[i]?.getD 0:Nat):Int)):=by
 obtain⟨c,d,e,_,a⟩:=h.at hi
 injection e with e
 injection e with e1 e2
 subst e1 e2
 exact a
theorem ZtU (p:Nat)(h:p<W64):Go.bits .and .u64 (p:Int) 4294967295=((p%W32:Nat):Int):=by
 rw[zN] at h
 have:=Go.bits_and_u64_nat p 4294967295 h qO
 rw[show (4294967295:Nat)=2^32-1 from rfl,Nat.and_two_pow_sub_one_eq_mod] at this
 rw[xD]
 exact this
theorem ZlS {z l:Nat}(a:z<W32)(b:l<W32):Go.IntKind.u64.wrap ((z:Int)-(l:Int))=((d32 z l 0:Nat):Int):=by
 unfold d32;rw[Go.IntKind.wrap_u64,zN];rw[xD] at a b;omega
theorem ZlT {z l a:Nat}(b:z<W32)(c:l<W32)(d:a≤1):Go.IntKind.u64.wrap (((d32 z l 0:Nat):Int)-(a:Int))=((d32 z l a:Nat):Int):=by
 unfold d32;rw[Go.IntKind.wrap_u64,zN];rw[xD] at b c;omega
theorem Zsw {t c a:Nat}(b:t<W32)(d:c<W32)(e:a≤1):d32 t c a/9223372036854775808=(if t<c+a then 1 else 0):=by
 unfold d32
 rw[xD] at *
 rw[zN]
 split<;>omega
theorem Zqz {t c a:Nat}(h:t=c+a):d32 t c a%W32=0:=by
 unfold d32
 rw[xD,zN]
 omega
theorem Zsx {t c a b:Nat}(h:b+t=c+a)(_:c<W32)(_:a≤1)(d:b≤1)(e:t<c+a):(d32 t c a%W32+b)%W32=0:=by
 unfold d32
 rw[xD] at *
 rw[zN]
 omega
theorem Own.mid32 {d:Go.IntKind}{t:Go.TypeId}{w:Go.World}{b:Nat}{a mid c:qN}(h:Own d t w b (a ++ mid ++ c)){k:Nat}(e:k<mid.length):w.cell? ⟨b,a.length+k,none⟩=some (.int d ((mid[k]?.getD 0:Nat):Int)):=by
 rw[h.cell (by simp;omega),ZlD _ _ _ _ e]
theorem Own.set_mid32 {d:Go.IntKind}{t:Go.TypeId}{w:Go.World}{b:Nat}{a mid c:qN}(h:Own d t w b (a ++ mid ++ c)){k:Nat}(e:k<mid.length)(v:Nat):Own d t (w.setCell ⟨b,a.length+k,none⟩ (.int d (v:Int))) b (a ++ mid.set k v ++ c):=by
 have:=h.set (a.length+k) v (by simp;omega)
 rwa [Go.Proofs.YtmpffakfhcpjoaaGreatDoor.set_mid _ _ _ _ _ e] at this
theorem Zfr {zs ts rest:qN}{k v:Nat}(a:k<ts.length)(d:zs.length=ts.length):(zs.take k ++ ts.drop k ++ rest).set k v=(zs.set k v).take (k+1) ++ ts.drop (k+1) ++ rest:=by
 have b:(zs.take k).length=k:=by simp;omega
 rw[tD,pP _ _ qO,b,rZ,tW a,mG,List.set_cons_zero,tO (by simp;omega)]
 have c:(zs.set k v).take k=zs.take k:=by rw[rR qO]
 simp[c]
theorem Zfs {zs ts rest:qN}{k i:Nat}(b:k≤i)(hi:i<ts.length)(c:zs.length=ts.length):(zs.take k ++ ts.drop k ++ rest)[i]?.getD 0=ts[i]?.getD 0:=by
 have a:(zs.take k).length=k:=by simp;omega
 rw[tD,sN qO,a,rP (by simp;omega),vR,show k+(i-k)=i by omega]
end Go.Proofs.YtmpffakfhcpjoaaGreatDoor
namespace Go.Proofs.YtmpffakfhcpjoaaGreatDoor
open Go.RowKit Tryz
theorem Zoz {a b:Nat}(ha:a<W32)(c:b<W32):bits .or .u32 (a:Int) (b:Int)=((a ||| b:Nat):Int):=by
 rw[xD] at ha c
 have f:a ||| b<2^32:=Nat.or_lt_two_pow qO qO
 have d:(BitVec.ofInt 32 (a:Int)).toNat=a:=by
  rw[BitVec.ofInt_natCast,BitVec.toNat_ofNat];exact vL qO
 have e:(BitVec.ofInt 32 (b:Int)).toNat=b:=by
  rw[BitVec.ofInt_natCast,BitVec.toNat_ofNat];exact vL qO
 show IntKind.u32.wrap ((BitVec.ofInt 32 (a:Int) ||| BitVec.ofInt 32 (b:Int)).toNat:Int)=_
 rw[BitVec.toNat_or,d,e,IntKind.wrap_u32]
 omega
theorem Zio {x s:Nat}(a:x<W32)(b:s≤32):IntKind.u64.wrap ((x:Int)*2^s)=((x*2^s:Nat):Int):=by
 rw[Zam,vL]
 have c:2^s≤W32:=by rw[xD];exact uA (vC qO b) qD
 rw[←bU]
 exact uT (tS a (uZ qO)) (uK _ c)
theorem ZtV {x s:Nat}(a:s≤31):x*2^s/W32=x/2^(32-s):=by
 rw[←lZ a,qR _ _ (uZ qO)]
def ZqA (w:World) (l:Nat) (v:Nat) (e:Ending) (w':World):Prop :=
 ∃ us:List Nat,e=.returned (.slice (some ⟨w.heap.size,0,none⟩) l l)∧us.length=l∧Own .u32 87 w' w.heap.size us∧Dig W32 us∧val W32 us=v∧Ext w w'
theorem Zel (A:qA)(xs:qN)(n c s:Nat)(w:World)(hn:xs.length=n)(S:zI .u32 w A xs)(hl:xs.length≤35184372088832)(T:Dig W32 xs)(K:s≤31) :
 Ζ 43 #[.slice A n c,.int .u64 (s:Int)] w (ZqA w (n+1) (val W32 xs*2^s)):=by
 subst hn
 have HX:=zh S
 have Hd:=zh T
 clear S T
 go_enter func43,ntmps43
 go_wp2_with (
  at_make
  refine lA rfl _ _ _ rfl _ _ _ underlying28 cY _ _ _ _ (xs.length+1) rfl rfl qO qO qO qO ?_
  intro b w1 U z _ B L
  have M:=zh z
  have N:=zh B
  have J:=zh U
  clear z B U L)
 go_loopw [6,7] (fun i _ wr=>∃ (k:Nat) (o:List Nat),k≤xs.length∧i=.int .i64 (k:Int)∧Hid (dL xs 0 s k o)∧Hid (Own .u32 87 wr b o)∧Hid (Ext w wr)) (fun i _ _=>xs.length-(intOf i).toNat)
 case atStart=>exact⟨0,_,qO,rfl,dL.start xs 0 s,M.out,N.out⟩
 case round =>
  obtain⟨k,o,a0,rfl,q,f,r⟩:=hrel
  by_cases C:k<xs.length
  ·obtain⟨b2,V,rfl,_,O⟩:=(HX.out.ext r.out).at C
   obtain⟨x,ex⟩:=yE (xs[k]?.getD 0)
   obtain⟨h,y⟩:=yE (o[k+0]?.getD 0)
   rw[ex] at O
   have j:Hid (x<W32):=ex ▸ Hd.out.getD xA k
   obtain⟨D,E⟩:=q.out.step K C y ex j.out
   have e:=zh D
   have F:o.length=xs.length+0+1:=q.out.1
   simp only[tP] at y F e
   have P:=f.out.cell (i:=k) qO
   have b0:=f.out.frozen k
   rw[y] at P
   have l:=f.out.set k (h+x*2^s%W32) qO
   have t:=l.cell (i:=k+1) (by simp;omega)
   have G:=l.frozen (k+1)
   obtain⟨g,W⟩:=yE ((o.set k (h+x*2^s%W32))[k+1]?.getD 0)
   rw[W] at t
   have m:=zh (l.set (k+1) (x/2^(32-s)) (by simp;omega))
   have q0:=wK x (by have:=zN;have:=xD;have:=j.out;omega)
   have q1:=Zio j.out (by omega:s≤32)
   have X:=jS (x*2^s)
   have Q:=Zoz (a:=h) (b:=x*2^s%W32) (y ▸ q.out.2.1.getD xA _) (uP _ xA)
   have u:=q.out.2.2.2
   simp only[tP] at u
   rw[Zqx (y ▸ u) K] at Q
   have R:=hi32 (x*2^s)
   rw[ZtV K] at R
   have Y:=jS (x/2^(32-s))
   rw[vL (vA (vJ _ _) j.out)] at Y
   obtain⟨lo,H⟩:=yE (x*2^s%W32)
   obtain⟨v,Z⟩:=yE (x*2^s)
   obtain⟨hi,I⟩:=yE (x/2^(32-s))
   rw[H] at X Q t G e m
   rw[Z] at q1 X R
   rw[I] at R Y e m
   obtain⟨d,ed⟩:=yE (h+lo)
   rw[ed] at Q t G e m
   clear ex y D E F l W H I ed Z u
   go_wp2
   go_roundw
   case rel=>exact⟨k+1,_,qO,by go_num,e,m.out,(r.out.setCell (p:=⟨b,k,none⟩) (Or.inr (by have:=J.out;show w.heap.size≤b;omega)) _).setCell (p:=⟨b,k+1,none⟩) (Or.inr (by have:=J.out;show w.heap.size≤b;omega)) _⟩
   case measure=>simp[intOf];omega
  obtain rfl:k=xs.length:=qO
  have hz:=zh q.out.1
  have hv:=zh q.out.done
  go_wp2
  go_ret
  exact⟨o,by rw[J.out];rfl,by have:=hz.out;omega,by rw[J.out];exact f.out,q.out.2.1,by rw[hv.out];simp,r.out⟩
def Zdn (w:World) (q r:Nat) (e:Ending) (w':World):Prop:=∃ u v,e=.returned (.tuple #[u,v])∧zW w' u q∧zW w' v r∧Ext w w'
theorem Zip {a b:Nat}:cmpI a b<0↔a<b:=by
 unfold cmpI
 split
 ·omega
 split<;>omega
theorem ZoA (l j:Value)(x y:Nat)(w:World)(F:zW w l x)(o:zW w j y)(p:ml x≤17592186044416)(G:ml y≤17592186044416)(q:x<y) :
 Ζ 73 #[l,j] w (Zdn w 0 x):=by
 have r:=zh (bL l j x y w F o p G)
 rw[iJ qO] at r
 obtain⟨A,s,c,rfl,K,H,t,u,v⟩:=F
 obtain⟨z,I,c2,rfl⟩:∃ z I c2,j=.slice z I c2:=by obtain⟨z,Q,c2,h,_⟩:=o;exact⟨_,_,_,h⟩
 rw[←v,← jA t u] at p
 have L:=zh H
 have M:=zh t
 have N:=zh u
 have O:=zh v
 obtain⟨n,k⟩:=yE s.length
 rw[k] at p r
 rw[k]
 have J:=zh k
 clear H t u v q K o G k
 go_enter func73,ntmps73
 go_wp2_with (first
  | (go_at_call 47;refine r.out.mono ?_;rintro e w' ⟨rfl,m,rfl⟩)
  | (
   at_builtin
   refine lF rfl _ _ _ rfl _ .u32 4 underlying28 cY (some ⟨w.heap.size,0,none⟩) A 0 n 0 c rfl rfl [] s rfl J.out ?_ ((L.out.drewN _).alloc _) (by simp only[maxLen];omega) qO ?_
   ·exact Or.inr ⟨_,rfl,Own.new (w.drewN m) _ _ [] [],⟨#[],heap_alloc_new (w.drewN m) _,rfl⟩,uF _,by simp only[maxLen];omega⟩
   intro P b R d f B
   have g:=zh d
   have C:=zh f
   clear d f B))
 go_ret2
 refine⟨_,_,rfl,zW.zero _,⟨P,s,b,?_,?_,?_,M.out,N.out,O.out⟩,?_⟩
 ·rw[J.out];simp
 ·have:=g.out.len;simpa using this
 ·have:=g.out.shows;simpa using this
 refine (((Fr.refl (fun _=>False) w).drewN m).alloc _).next C.out (fun i hi D=>?_)
 obtain⟨a,E,D⟩:=D
 injection E with E
 subst E
 simp at D;omega
theorem zW.one {w:World}{b r:Nat}(h:Own .u32 87 w b [r])(a:r<W32):zW w (.slice (some ⟨b,0,none⟩) (wU [r] 1) 1) r:=by
 have:=zW.of_own (c:=1) h (Dig.cons a Dig.nil) qS
 simpa using this
theorem Znc (p q:Value)(x y:Nat)(w:World)(s:zW w p x)(D:zW w q y)(E:ml x≤17592186044416)(t:ml y=1)(g:y≤x) :
 Ζ 73 #[p,q] w (Zdn w (x/y) (x%y)):=by
 have F:=zh (bL p q x y w s D E qO)
 obtain⟨u,a⟩:=yE (cmpI x y)
 have O:0≤u:=by
  rcases oZ u 0 with h|h
  ·rw[←a] at h;have:=Zip.1 h;omega
  exact h
 rw[a] at F
 obtain⟨S,T,U,rfl,v,G,z,A,rfl⟩:=D
 rw[←jA z A] at t
 obtain⟨y,rfl⟩:=nV.1 t
 have j:val W32 [y]=y:=qS
 rw[j] at g ⊢
 have d:0<y:=by have:=A 0 qS;simp at this;omega
 have f:y<W32:=z.head
 obtain⟨b,o,rfl,_,k⟩:=G.at (i:=0) qS
 have H:w.cell? ⟨b,o,none⟩=some (.int .u32 (y:Int)):=by simpa using k
 have I:=fun w' (P:Ext w w')=>zh (Zef p x y w' (s.ext P) E d f)
 have B:=zh I
 have n:Hid (x%y<W32):=rY (uP _ d) f
 obtain⟨r,C⟩:=yE (x%y)
 have J:=zh C
 rw[C] at n
 have K:decide (u<0)=false:=by rw[vH];omega
 clear G z A v a g k I t j d f s C
 go_enter func73,ntmps73
 go_wp2_with (first
  | (go_at_call 47;refine F.out.mono ?_;rintro e w' ⟨rfl,m,rfl⟩)
  | (go_at_call 106;refine (B.out _ ((Fr.refl _ _).drewN _)).out.mono ?_;rintro e L ⟨l,c,rfl,M,N⟩;have Q:=zh M;have R:=zh N;clear M N;rw[J.out])
  | (go_at_call 42;refine (kE _ [r] 1 1 _ rfl (Own.new L _ _ [r] []).shows0 qS qS).mono ?_;rintro e V ⟨rfl,rfl⟩))
 go_ret2
 exact⟨_,_,rfl,Q.out.ext ((Fr.refl _ _).alloc _),by rw[J.out];exact zW.one (Own.new L _ _ [r] []) n.out,(((Fr.refl _ _).drewN _).ext R.out).alloc _⟩
theorem ZlU {x s:Nat}(h:x*2^s<W32):IntKind.u32.wrap ((x:Int)*2^s)=((x*2^s:Nat):Int):=by
 have a:((2:Int)^s)=((2^s:Nat):Int):=by rw[vY];rfl
 rw[a,← tG,IntKind.wrap_u32]
 rw[xD] at h
 omega
theorem ZqB {x s:Nat}(h:x*2^s<W32):((x:Int)*2^s)%4294967296=((x*2^s:Nat):Int):=by
 have:=ZlU h
 rw[IntKind.wrap_u32] at this
 exact this
theorem ZoB {y s:Nat}(b:0<y)(h:y*2^s<W32):s≤31:=by
 rcases vO s 32 with a|a
 ·omega
 have c:2^32≤2^s:=vC qO a
 have d:1*2^s≤y*2^s:=uE _ b
 rw[xD] at h
 omega
theorem Zlb (A A2:qA)(xs ys:qN)(c c2 kk:Nat)(w:World)(hX:zI .u32 w A xs)(hY:zI .u32 w A2 ys)(_:xs.length≤c)(x2:ys.length≤c2)(hl:xs.length≤17592186044416)(hk:ys.length=kk+2)(dx:Dig W32 xs)(dy:Dig W32 ys)(tx:Trim xs)(ty:Trim ys)(y2:val W32 ys≤val W32 xs) :
 Ζ 73 #[.slice A xs.length c,.slice A2 ys.length c2] w (Zdn w (val W32 xs/val W32 ys) (val W32 xs%val W32 ys)):=by
 have l3:kk+2≤xs.length:=by
  have:=Zao y2
  rw[←jA dx tx,← jA dy ty] at this
  omega
 have HC:=zh (Zfq A A2 xs ys _ _ c c2 w rfl rfl hX hY qO qO dx dy tx ty)
 obtain⟨cr,z2⟩:=yE (cmpI (val W32 xs) (val W32 ys))
 have z5:0≤cr:=by
  rcases oZ cr 0 with h|h
  ·rw[←z2] at h;have:=Zip.1 h;omega
  exact h
 rw[z2] at HC
 clear z2
 obtain⟨bY,oY,rfl,_,S⟩:=hY.at (i:=kk+1) qO
 obtain⟨yt,x1⟩:=yE (ys[kk+1]?.getD 0)
 rw[x1] at S
 have R1:Hid (0<yt):=by have:=ty (kk+1) qO;unfold Hid;omega
 have S1:Hid (yt<W32):=x1 ▸ dy.getD xA _
 have HX:=zh hX
 have HY:=zh hY
 have o3:=zh dx
 have p3:=zh dy
 have s3:=zh x1
 clear hX hY dx dy tx ty y2 x1
 obtain⟨n,hn⟩:=yE ys.length
 rw[hn] at HC hk x2
 rw[hn]
 have HN:=zh hn
 subst hk
 clear hn
 have t3:(((kk:Int)+2) == 1)=false:=by simp;omega
 have v3:decide (cr<0)=false:=by rw[vH];omega
 go_enter func73,ntmps73
 go_wp2_with (go_at_call 47;refine HC.out.mono ?_;rintro e w' ⟨rfl,m0,rfl⟩)
 go_loop [8] (fun sv=>∃ s:Nat,s≤31∧sv=.int .u64 (s:Int)∧Hid (yt*2^s<W32)) (fun sv=>32-(intOf sv).toNat)
 case atStart=>exact⟨0,qO,rfl,by have:=S1.out;unfold Hid;simpa using this⟩
 case round =>
  obtain⟨s,hs,rfl,y1⟩:=hrel
  have q1:=ZlU y1.out
  have I0:=ZqB y1.out
  obtain⟨p,ep⟩:=yE (yt*2^s)
  rw[ep] at q1 I0
  by_cases hp:p<2147483648
  ·have t1:decide ((p:Int)<2147483648)=true:=by rw[tE];omega
   have x3:decide (p<2147483648)=true:=by rw[tE];omega
   have y3:Hid (yt*2^(s+1)<W32):=by unfold Hid;rw[uO,← uH,ep,xD];omega
   have A5:=ZoB R1.out y3.out
   clear ep hp
   go_wp2
   go_round
   case rel=>exact⟨s+1,qO,by go_num,y3⟩
   case measure=>simp[intOf];omega
  have t1:decide ((p:Int)<2147483648)=false:=by rw[vH];omega
  have x3:decide (p<2147483648)=false:=by rw[vH];omega
  have HP:Hid (2147483648≤yt*2^s):=by unfold Hid;omega
  clear ep hp
  have z3:=zh (Zel _ ys (kk+2) c2 s (w.drewN m0) HN.out (HY.out.drewN _) (by have:=HN.out;omega) p3.out hs)
  clear HC
  go_wp2_with fail
  clear q1 I0 t1 x3 S
  refine z3.out.mono ?_
  rintro e wD ⟨G4,rfl,T1,B2,J0,A3,B3⟩
  have NV:=zW.of_own (c:=kk+2+1) B2 J0 qO
  obtain⟨AV,vs,cV,eV,H4,C3,C2,D3,z1⟩:=NV
  injection eV with eV1 eV2 eV3
  rw[A3] at z1
  obtain⟨n1,n2,n3⟩:=Zla (n:=kk+1) HN.out p3.out s3.out HP.out hs y1.out C2 D3 z1
  replace n1:vs.length=kk+2:=n1
  have HT:=zh (kE (some ⟨(w.drewN m0).heap.size,0,none⟩) G4 (kk+2+1) (kk+2+1) wD T1 B2.shows0 qO qO)
  rw[eV2,n1] at HT
  obtain⟨Vb,D2⟩:=yE ((w.drewN m0).heap.size)
  rw[D2] at HT eV1 ⊢
  have B5:=zh D2
  subst eV1
  have K0:=zh C3
  have T:=zh C2
  have E2:Hid (Ext w wD):=((Fr.refl _ _).drewN _).ext B3
  have L0:=zh z1
  have G:=zh n1
  have I4:=zh n2
  have E3:=zh n3
  clear z3 T1 B2 J0 A3 B3 H4 C3 C2 D3 z1 n1 n2 n3 eV2 eV3 D2 HP y1 S1 R1 s3
  go_wp2_with fail
  refine HT.out.mono ?_
  rintro e w' ⟨rfl,rfl⟩
  clear HT
  have K:=zh (Zel A xs xs.length c s wD rfl (HX.out.ext E2.out) qO o3.out hs)
  go_wp2_with fail
  refine K.out.mono ?_
  rintro e w2 ⟨us,rfl,F3,W,G3,M0,H3⟩
  obtain⟨R,eR⟩:=yE wD.heap.size
  rw[eR] at W ⊢
  have HR:=zh eR
  have F2:=zh W
  have I3:=zh H3
  have J3:=zh G3
  have K3:=zh M0
  have G2:=zh F3
  clear F3 W G3 M0 H3 eR K
  go_wp2_with (
   at_make
   refine lA rfl _ _ _ rfl _ _ _ underlying28 cY _ _ _ _ (xs.length-(kk+2)+1) rfl rfl qO qO qO qO ?_
   intro Qb w4 hQ L3 _ M3 J4
   have H:=zh L3
   have H2:=zh M3
   have HQ:=zh hQ
   clear L3 M3 hQ J4)
  have t:Hid (R<Qb):=by
   have E:=F2.out.lt
   have h2:=HQ.out
   unfold Hid;omega
  have hV:Hid (val W32 vs≤W32^(kk+2)):=by
   have:=wF T.out
   rw[G.out] at this
   exact pA this
  have A1:Hid (0<val W32 vs):=by
   rw[L0.out]
   have E:=E3.out
   have h2:=uZ (n:=kk+1) xA
   exact sK qO (uZ qO)
  obtain⟨X,eX⟩:=yE (val W32 xs*2^s)
  have B1:=zh eX
  have I2:Hid (gI X (val W32 vs) (kk+2) (xs.length-(kk+2)+1) us (List.replicate (xs.length-(kk+2)+1) 0)):=by
   unfold Hid
   rw[←B1.out,L0.out]
   exact gI.start (L:=xs.length) J3.out G2.out K3.out (wF o3.out) (by simpa using E3.out) qO l3
  have N3:Hid (Ext wD w4):=I3.out.ext H2.out
  have C1:Hid (Vb<R):=by
   have E:Vb<wD.heap.size:=by
    obtain⟨b',o',e',C5,_⟩:=K0.out.at (i:=0) (by rw[G.out];omega)
    injection e' with e'
    injection e' with e1 e2
    omega
   have h2:=HR.out
   unfold Hid;omega
  have U1:=zh (F2.out.ext H2.out)
  clear F2 I3 H2 J3 K3 eX t3 v3
  obtain⟨V,eV⟩:=yE (val W32 vs)
  have HV:=zh eV
  rw[eV] at hV A1 I2
  clear eV
  go_loopw [14] (fun i wr=>∃ (k:Nat) (rs qs:List Nat),k≤xs.length-(kk+2)+1∧i=.int .i64 ((k:Int)-1)∧Hid (gI X V (kk+2) k rs qs)∧Hid (rs.length=xs.length+1)∧Hid (Own .u32 87 wr R rs)∧Hid (Own .u32 87 wr Qb qs)∧Hid (Ext wD wr)) (fun i _=>(intOf i+1).toNat)
  case atStart=>exact⟨xs.length-(kk+2)+1,us,_,uF _,by go_num,I2,G2,U1.out,H.out,N3.out⟩
  case round =>
   clear I2 H N3 U1 G2
   obtain⟨k,rs,qs,hk,rfl,Y,x0,y0,W,k0⟩:=hrel
   by_cases K4:0<k
   ·obtain⟨j,rfl⟩:∃ j,k=j+1:=⟨k-1,qO⟩
    have ej:(((j+1:Nat):Int)-1)=(j:Int):=qO
    rw[ej]
    clear ej
    obtain⟨wo,rfl⟩:∃ wo:World,wo=wr:=⟨_,rfl⟩
    have D5:j+(kk+2)<xs.length+1:=qO
    have u:=x0.out
    obtain⟨q1,q2,q3⟩:=Y.out.window hV.out qO
    have O3:((rs.drop j).take (kk+3)).length=kk+3:=by simp;omega
    obtain⟨u1,D1⟩:=yE (rs[j+(kk+2)]?.getD 0)
    obtain⟨u2,E1⟩:=yE (rs[j+(kk+1)]?.getD 0)
    obtain⟨u3,F1⟩:=yE (rs[j+kk]?.getD 0)
    obtain⟨v1,N0⟩:=yE (vs[kk+1]?.getD 0)
    obtain⟨v2,G1⟩:=yE (vs[kk]?.getD 0)
    have J2:=I4.out
    rw[N0] at J2
    have HL:=Zsv (n:=kk) (u1:=u1) (u2:=u2) (u3:=u3) (v1:=v1) (v2:=v2) G.out O3 T.out ((Y.out.1.drop j).take _) (by rw[tU qO,vR];exact D1) (by rw[tU qO,vR];exact E1) (by rw[tU qO,vR];exact F1) N0 G1 (by rw[←q1,HV.out];exact q2) J2
    rw[←q1,HV.out] at HL
    have M:=zh HL
    have K2:Hid (u1<W32):=D1 ▸ Y.out.1.getD xA _
    have L2:Hid (u2<W32):=E1 ▸ Y.out.1.getD xA _
    have M2:Hid (u3<W32):=F1 ▸ Y.out.1.getD xA _
    have N2:Hid (v1<W32):=N0 ▸ T.out.getD xA _
    have M0:Hid (v2<W32):=G1 ▸ T.out.getD xA _
    have O0:Hid (0<v1):=by have:=xA;unfold Hid;omega
    have c1:=y0.out.cell (i:=j+(kk+2)) qO
    have P3:=y0.out.cell (i:=j+(kk+1)) qO
    have c3:=y0.out.cell (i:=j+kk) qO
    have d1:=((K0.out.ext k0.out).cell0 (i:=kk+1) (by rw[G.out];omega))
    have d2:=((K0.out.ext k0.out).cell0 (i:=kk) (by rw[G.out];omega))
    rw[D1] at c1
    rw[E1] at P3
    rw[F1] at c3
    rw[N0,vZ] at d1
    rw[G1,vZ] at d2
    have w1:=wK u1 (by have:=zN;have:=xD;have:=K2.out;omega)
    have w2:=wK u2 (by have:=zN;have:=xD;have:=L2.out;omega)
    have w3:=wK u3 (by have:=zN;have:=xD;have:=M2.out;omega)
    have w4:=wK v1 (by have:=zN;have:=xD;have:=N2.out;omega)
    have w5:=wK v2 (by have:=zN;have:=xD;have:=M0.out;omega)
    have s1:=Zm8 u1 K2.out
    have A0:u1*W32+u2<W64:=by
     have:(u1+1)*W32≤W32*W32:=uE _ K2.out
     rw[uW,bU] at this;have:=L2.out;omega
    have s2:=bP (a:=u1*W32) (b:=u2) qO qO
    rw[or32 u1 u2 L2.out] at s2
    obtain⟨a1,P0⟩:=yE (u1*W32)
    rw[P0] at s1 s2 M A0
    obtain⟨top,V1⟩:=yE (a1+u2)
    rw[V1] at s2 M A0
    have Q3:((v1:Int) == 0)=false:=by have:=O0.out;simp;omega
    have u5:=zh A0
    have i1:IntKind.i64.wrap ((j:Int)+((kk:Int)+2))=(j:Int)+((kk:Int)+2):=IntWalk.i64_in _ qO
    have i2:((j:Int)+((kk:Int)+2)).toNat=j+(kk+2):=qO
    have i3:IntKind.i64.wrap ((j:Int)+((kk:Int)+2)-1)=(j:Int)+((kk:Int)+1):=by rw[show (j:Int)+((kk:Int)+2)-1=(j:Int)+((kk:Int)+1) by omega];exact IntWalk.i64_in _ qO
    have i4:((j:Int)+((kk:Int)+1)).toNat=j+(kk+1):=qO
    have r1:(top:Int).tdiv (v1:Int)=((top/v1:Nat):Int):=by rw[rB qO];rfl
    have R3:(top:Int)/(v1:Int)=((top/v1:Nat):Int):=rfl
    have r2:(top:Int).tmod (v1:Int)=((top%v1:Nat):Int):=by rw[sE qO];rfl
    have S3:(top:Int)%(v1:Int)=((top%v1:Nat):Int):=rfl
    have r3:IntKind.u64.wrap ((top/v1:Nat):Int)=((top/v1:Nat):Int):=wK _ (vA (vJ _ _) A0)
    have B0:Hid (jW (val W32 (rs.drop j)) V top v1 (top/v1) (top%v1)):=jW.start M.out
    have H1:Hid (top/v1<W64):=vA (vJ _ _) A0
    have I1:Hid (top%v1<W32):=rY (uP _ O0.out) N2.out
    obtain⟨h0,T3⟩:=yE (top/v1)
    obtain⟨r0,U3⟩:=yE (top%v1)
    rw[T3] at r1 R3 r3 B0 H1
    rw[U3] at r2 S3 B0 I1
    have v5:0<v1:=O0.out
    clear q1 q2 q3 O3 u D1 E1 F1 N0 G1 J2 HL P0 V1 A0 T3 U3
    go_wp2
    go_quiet (fail)
    go_upto_block 4 with fail
    clear r1 R3 r2 S3 r3 i1 i2 i3 i4 s1 s2 c1 P3 w1 w2
    obtain⟨U,eU⟩:=yE (val W32 (rs.drop j))
    have HU:=zh eU
    rw[eU] at B0 M
    clear eU
    go_cut [16,17] from 115 to 150 (fun hv _ wx=>∃ (h n2:Nat),hv=.int .u64 (h:Int)∧Hid (h<W32)∧Hid (eN U V h)∧Hid (wx=wo.drewN n2))
    case first =>
     go_wp2_with fail
     go_loopw [16,17] (fun hv rv wx=>∃ (h r n2:Nat),hv=.int .u64 (h:Int)∧rv=.int .u64 (r:Int)∧Hid (jW U V top v1 h r)∧Hid (r<W32)∧Hid (h<W64)∧Hid (wx=wo.drewN n2)) (fun hv _ _=>(intOf hv).toNat)
     case atStart=>exact⟨h0,r0,_,rfl,rfl,B0,I1,H1,rfl⟩
     case round =>
      obtain⟨h,r,n2,rfl,rfl,hC,hr,C0,hw⟩:=hrel
      obtain rfl:=hw.out
      clear hw B0 H1 I1
      have a3:=kY (a:=r) (b:=v1) (by have:=hr.out;have:=N2.out;have:=xD;have:=zN;omega)
      obtain⟨r',D0⟩:=yE (r+v1)
      rw[D0] at a3
      by_cases Q0:W32≤h
      ·obtain⟨hp,Z⟩:=hC.out.big M.out Q0
       rw[D0] at Z
       have g1:decide ((4294967296:Int)≤(h:Int))=true:=by rw[tE];have:=xD;omega
       have L4:decide (4294967296≤h)=true:=by rw[tE];have:=xD;omega
       have a2:=iW hp C0.out
       obtain⟨E,N⟩:=yE (h-1)
       rw[N] at a2 Z
       have l0:=zh Z
       have V3:E<h:=qO
       have O2:Hid (E<W64):=by have:=C0.out;unfold Hid;omega
       clear Z Q0 D0 N hp hC hr C0
       by_cases n0:W32≤r'
       ·have g2:decide ((4294967296:Int)≤(r':Int))=true:=by rw[tE];have:=xD;omega
        have P2:decide (4294967296≤r')=true:=by rw[tE];have:=xD;omega
        have HB:=zh (l0.out.broke M.out n0)
        clear n0 l0
        go_wp2
        go_quiet (fail)
        go_wp2
        go_meet
        exact⟨E,_,rfl,HB.out.1,HB.out.2,rfl⟩
       have g2:decide ((4294967296:Int)≤(r':Int))=false:=by rw[vH];have:=xD;omega
       have P2:decide (4294967296≤r')=false:=by rw[vH];have:=xD;omega
       have Q2:Hid (r'<W32):=by unfold Hid;omega
       clear n0
       go_wp2
       go_quiet (fail)
       go_wp2
       go_roundw
       case rel=>exact⟨E,r',_,rfl,rfl,l0,Q2,O2,rfl⟩
       case measure=>simp[intOf];omega
      have g1:decide ((4294967296:Int)≤(h:Int))=false:=by rw[vH];have:=xD;omega
      have L4:decide (4294967296≤h)=false:=by rw[vH];have:=xD;omega
      have O:Hid (h<W32):=by unfold Hid;omega
      have W3:h*v2<W64:=by
       rw[←bU]
       exact pY O.out M0.out
      have m1:=fK (a:=h) (b:=v2) W3
      have m2:=Zm8 r hr.out
      have m3:r*W32+u3<W64:=by
       have:(r+1)*W32≤W32*W32:=uE _ hr.out
       rw[uW,bU] at this;have:=M2.out;omega
      have m4:=bP (a:=r*W32) (b:=u3) qO qO
      rw[or32 r u3 M2.out] at m4
      have i1:IntKind.i64.wrap ((kk:Int)+2-2)=(kk:Int):=by rw[show (kk:Int)+2-2=(kk:Int) by omega];exact IntWalk.i64_in _ qO
      have i3:IntKind.i64.wrap ((j:Int)+((kk:Int)+2))=(j:Int)+((kk:Int)+2):=IntWalk.i64_in _ qO
      have i4:IntKind.i64.wrap ((j:Int)+((kk:Int)+2)-2)=(j:Int)+(kk:Int):=by rw[show (j:Int)+((kk:Int)+2)-2=(j:Int)+(kk:Int) by omega];exact IntWalk.i64_in _ qO
      have i5:((j:Int)+(kk:Int)).toNat=j+kk:=qO
      have E5:(j:Int)+(kk:Int)<(xs.length:Int)+1:=qO
      have R2:=hC
      have X3:∀ a b:Nat,h*v2=a→r*W32+u3=b→Hid ((b<a→0<h∧jW U V top v1 (h-1) (r+v1))∧(¬ b<a→eN U V h)):=by
       intro a b ea eb
       refine⟨fun K4=>R2.out.more M.out qO,fun y2=>R2.out.done M.out O.out qO⟩
      obtain⟨p,ep⟩:=yE (h*v2)
      rw[ep] at m1
      obtain⟨a1,P0⟩:=yE (r*W32)
      rw[P0] at m2 m4
      obtain⟨q,eq⟩:=yE (a1+u3)
      rw[eq] at m4
      have HM:=X3 p q ep qO
      rw[D0] at HM
      clear X3 R2 hC ep P0 eq W3 m3 Q0
      by_cases C:q<p
      ·obtain⟨hp,Z⟩:=HM.out.1 C
       have t2:=dX C
       have a2:=iW hp C0.out
       obtain⟨E,N⟩:=yE (h-1)
       rw[N] at a2 Z
       have l0:=zh Z
       have V3:E<h:=qO
       have O2:Hid (E<W64):=by have:=C0.out;unfold Hid;omega
       clear Z D0 N hp hr C0 HM C
       by_cases n0:W32≤r'
       ·have g2:decide ((4294967296:Int)≤(r':Int))=true:=by rw[tE];have:=xD;omega
        have P2:decide (4294967296≤r')=true:=by rw[tE];have:=xD;omega
        have HB:=zh (l0.out.broke M.out n0)
        clear n0 l0
        go_wp2
        go_quiet (fail)
        go_wp2
        go_meet
        exact⟨E,_,rfl,HB.out.1,HB.out.2,rfl⟩
       have g2:decide ((4294967296:Int)≤(r':Int))=false:=by rw[vH];have:=xD;omega
       have P2:decide (4294967296≤r')=false:=by rw[vH];have:=xD;omega
       have Q2:Hid (r'<W32):=by unfold Hid;omega
       clear n0
       go_wp2
       go_quiet (fail)
       go_wp2
       go_roundw
       case rel=>exact⟨E,r',_,rfl,rfl,l0,Q2,O2,rfl⟩
       case measure=>simp[intOf];omega
      have HD:=zh (HM.out.2 C)
      have t2:=eA C
      clear HM C D0
      go_wp2
      go_quiet (fail)
      go_wp2
      go_meet
      exact⟨h,_,rfl,O,HD,World.drewN_drewN _ _ _⟩
    case rest =>
     obtain⟨h,n2,rfl,O,Y3,hw⟩:=hcut
     obtain rfl:=hw.out
     clear hw B0 H1 I1 c3 d1 d2 w3 w4 w5 Q3
     have u:=x0.out
     have o0:Hid ((rs.take j).length=j):=by unfold Hid;simp;omega
     have a0:Hid (((rs.drop j).take (kk+2)).length=kk+2):=by unfold Hid;simp;omega
     have S2:Hid (Own .u32 87 (wo.drewN n2) R (rs.take j ++ (rs.drop j).take (kk+2) ++ rs.drop (j+(kk+2)))):=by rw[Zn5];exact y0.out.drewN _
     have T2:Hid (Zca ((rs.drop j).take (kk+2)) vs h 0 ((rs.drop j).take (kk+2)) 0 0):=Zca.start ((Y.out.1.drop j).take _)
     obtain⟨w0,U2⟩:=yE ((rs.drop j).take (kk+2))
     have M4:=zh U2
     rw[U2] at a0 S2 T2
     clear u U2
     go_wp2_with fail
     go_loopw [18,19,20] (fun cv bv iv wx=>∃ (i cc bw:Nat) (m:List Nat),i≤kk+2∧iv=.int .i64 (i:Int)∧cv=.int .u64 (cc:Int)∧bv=.int .u64 (bw:Int)∧Hid (Zca w0 vs h i m cc bw)∧Hid (Own .u32 87 wx R (rs.take j ++ m ++ rs.drop (j+(kk+2))))∧Hid (Fr (· = R) wo wx)) (fun _ _ iv _=>kk+2-(intOf iv).toNat)
     case atStart=>exact⟨0,0,0,w0,qO,rfl,rfl,rfl,T2,S2,(Fr.refl _ _).drewN _⟩
     case round =>
      obtain⟨i,cc,bw,m,hi,rfl,rfl,rfl,hM,b0,c0⟩:=hrel
      clear T2 S2
      by_cases W1:i<kk+2
      ·have f:m.length=kk+2:=by rw[hM.out.1];exact a0.out
       obtain⟨x,ex⟩:=yE (vs[i]?.getD 0)
       obtain⟨z,ez⟩:=yE (m[i]?.getD 0)
       have g:x<W32:=ex ▸ T.out.getD xA _
       have d0:z<W32:=ez ▸ hM.out.2.1.getD xA _
       have I:=hM.out.2.2.1
       have f0:=hM.out.2.2.2.1
       have g0:zI .u32 wr (some ⟨Vb,0,none⟩) vs:=(K0.out.ext k0.out).fr c0.out (fun a ha _=>by injection ha with ha;subst ha;have:=C1.out;show Vb≠R;omega)
       have dx:=g0.cell0 (i:=i) (by rw[G.out];omega)
       rw[ex,vZ] at dx
       have V2:=b0.out.mid32 (k:=i) qO
       have N4:=b0.out.frozen (i+j)
       rw[o0.out,ez,vW j i] at V2
       have P:=zh (hM.out.step (by rw[a0.out];omega) (by rw[G.out];omega) O.out ez ex T.out)
       have E0:=ZjL O.out g I
       rw[bU] at E0
       have q0:=wK x (by have:=zN;have:=xD;omega)
       have O4:=wK z (by have:=zN;have:=xD;omega)
       have q1:=fK (a:=h) (b:=x) qO
       have q2:=kY (a:=h*x) (b:=cc) E0
       obtain⟨hx,Z3⟩:=yE (h*x)
       rw[Z3] at q1 q2 P E0
       obtain⟨p,ep⟩:=yE (hx+cc)
       rw[ep] at q2 P E0
       have q3:=hi32 p
       have q4:=ZtU p E0
       have J1:p%W32<W32:=uP _ xA
       obtain⟨pl,a4⟩:=yE (p%W32)
       obtain⟨ph,R0⟩:=yE (p/W32)
       rw[R0] at q3 P
       rw[a4] at q4 P J1
       have q5:=ZlS d0 J1
       have q6:=ZlT d0 J1 f0
       have q7:=jS (d32 z pl bw)
       have q8:=hi32 (d32 z pl bw)
       have q9:=ZhB (d32 z pl bw/W32) (vA (vJ _ _) (ZjE _ _ _))
       have H:=zh (b0.out.set_mid32 (k:=i) qO (d32 z pl bw%W32))
       rw[o0.out,vW j i] at H
       obtain⟨e1,p0⟩:=yE (d32 z pl 0)
       obtain⟨e2,i0⟩:=yE (d32 z pl bw)
       rw[p0] at q5 q6
       rw[i0] at q6 q7 q8 q9 H P
       obtain⟨lo,J⟩:=yE (e2%W32)
       obtain⟨P4,X1⟩:=yE (e2/W32)
       rw[J] at q7 P H
       rw[X1] at q8 q9 P
       obtain⟨Q4,Y1⟩:=yE (P4%2)
       rw[Y1] at q9 P
       have R4:(i:Int)+(j:Int)<(xs.length:Int)+1:=qO
       have x5:i+j<xs.length+1:=qO
       clear f ex ez g d0 I f0 g0 E0 Z3 ep J1 a4 R0 p0 i0 J X1 Y1
       go_wp2
       go_roundw
       case rel=>exact⟨i+1,ph,Q4,_,qO,by go_num,rfl,rfl,P,H.out,c0.out.setCell (p:=⟨R,i+j,none⟩) (Or.inl rfl) _⟩
       case measure=>simp[intOf];omega
      obtain rfl:i=kk+2:=qO
      have f:m.length=kk+2:=by rw[hM.out.1];exact a0.out
      have u:=x0.out
      have u0:=o0.out
      have S0:=a0.out
      have I:=hM.out.2.2.1
      have f0:=hM.out.2.2.2.1
      have F0:=hM.out.2.1
      have T0:=hM.out.2.2.2.2.2
      rw[uB qO,uB (by rw[G.out];omega),uB qO,HV.out] at T0
      have Q:j+(kk+2)<(rs.take j ++ m ++ rs.drop (j+(kk+2))).length:=by simp;omega
      have S:=b0.out.cell Q
      have b4:=b0.out.frozen (j+(kk+2))
      rw[ZlF _ _ _ _ _ u0 f] at S
      obtain⟨tw,U0⟩:=yE (rs[j+(kk+2)]?.getD 0)
      rw[U0] at S
      have V0:tw<W32:=U0 ▸ Y.out.1.getD xA _
      have hu:U=val W32 w0+W32^(kk+2)*tw:=by
       obtain⟨q1,_,_⟩:=Y.out.window hV.out qO
       rw[←HU.out,q1,zV (kk+2) (by simp;omega),vR,U0,M4.out]
      have W2:val W32 m<W32^(kk+2):=by have:=wF F0;rw[f] at this;exact this
      have G0:qs.length=xs.length-(kk+2)+1:=by have:=Y.out.2.2.1;omega
      have q0:=wK tw (by have:=zN;have:=xD;omega)
      have q5:=ZlS V0 I
      have q6:=ZlT V0 I f0
      have q7:=jS (d32 tw cc bw)
      have q8:=Zsw V0 I f0
      have q9:((d32 tw cc bw:Nat):Int)/9223372036854775808=((d32 tw cc bw/9223372036854775808:Nat):Int):=qO
      rw[q8] at q9
      have X2:h%W32=h:=vL O.out
      have c4:=jS h
      rw[X2] at c4
      have o:=b0.out.set (j+(kk+2)) (d32 tw cc bw%W32) Q
      rw[Zhv _ _ _ _ _ _ u0 f qO] at o
      have W0:j<qs.length:=qO
      obtain⟨e1,p0⟩:=yE (d32 tw cc 0)
      obtain⟨e2,i0⟩:=yE (d32 tw cc bw)
      by_cases Y2:cc+bw≤tw
      ·rw[uI qO] at q9
       obtain⟨k1,k2,k3⟩:=Zgg (v:=V) hV.out hu Y3.out T0 Y2
       have Z2:=zh (Y.out.step (q:=h) A1.out hV.out qO f F0 (by rw[HU.out];exact k1) (by rw[HU.out];exact k2))
       have k4:=Zqz k3
       rw[k4] at o q7
       rw[p0] at q5 q6
       rw[i0] at q6 q7 q9
       have F:Fr (· = R) wr (wr.setCell ⟨R,j+(kk+2),none⟩ (.int .u32 ((0:Nat):Int))):=(Fr.refl (· = R) wr).setCell (p:=⟨R,j+(kk+2),none⟩) (Or.inl rfl) _
       have K1:=(W.out.fr c0.out (by have:=t.out;omega)).fr F (by have:=t.out;omega)
       have b3:=K1.cell W0
       have S4:=K1.frozen j
       obtain⟨z0,X0⟩:=yE (qs[j]?.getD 0)
       rw[X0] at b3
       have T4:=zh (K1.set j h W0)
       have d4:=zh (o.far (p:=⟨Qb,j,none⟩) (by have:=t.out;show R≠Qb;omega) (.int .u32 (h:Int)))
       have e4:Hid (Ext wD ((wr.setCell ⟨R,j+(kk+2),none⟩ (.int .u32 ((0:Nat):Int))).setCell ⟨Qb,j,none⟩ (.int .u32 (h:Int)))):=((k0.out.next c0.out (fun i hi e=>by have:=HR.out;omega)).next F (fun i hi e=>by have:=HR.out;omega)).setCell (Or.inr (by have:=HR.out;have:=t.out;show wD.heap.size≤Qb;omega)) _
       have L1:Hid ((rs.take j ++ m ++ (0 :: rs.drop (j+(kk+2)+1))).length=xs.length+1):=by unfold Hid;simp;omega
       have U4:(j:Int)+((kk:Int)+2)<(xs.length:Int)+1:=qO
       clear f u u0 S0 I f0 F0 T0 Q U0 V0 hu W2 q8 X2 o K1 F X0 p0 i0 Y2 k1 k2 k3 k4 b0
       simp only[Int.ofNat_zero] at *
       go_wp2
       go_roundw
       case rel=>exact⟨j,_,_,qO,rfl,Z2,L1,d4.out,T4.out,e4.out⟩
       case measure=>simp[intOf]
      rw[uM qO] at q9
      have Z1:Hid (tw<cc+bw):=by unfold Hid;omega
      have J0:0<h:=by
       rcases uJ h with e|e
       ·subst e
        have:W32^(kk+2)*1≤W32^(kk+2)*(cc+bw):=uK _ qO
        omega
       exact e
      have g2:=iW J0 (by have:=O.out;have:=xD;have:=zN;omega)
      obtain⟨E,N⟩:=yE (h-1)
      rw[N] at g2
      have V4:=jS E
      rw[vL (by have:=O.out;omega)] at V4
      rw[p0] at q5 q6
      rw[i0] at q6 q7 q9 o
      have b2:Hid (∀ c',c'+tw=cc+bw→c'≤1→(e2%W32+c')%W32=0):=fun c' Y0 x2=>by rw[←i0];exact Zsx Y0 I f0 x2 Z1.out
      have f2:Hid (e2%W32<W32):=uP _ xA
      obtain⟨t2,f4⟩:=yE (e2%W32)
      rw[f4] at q7 o b2 f2
      have F:Fr (· = R) wr (wr.setCell ⟨R,j+(kk+2),none⟩ (.int .u32 (t2:Int))):=(Fr.refl (· = R) wr).setCell (p:=⟨R,j+(kk+2),none⟩) (Or.inl rfl) _
      have M1:=zh o
      have W4:=zh ((W.out.fr c0.out (by have:=t.out;omega)).fr F (by have:=t.out;omega))
      have X4:Hid (Ext wD (wr.setCell ⟨R,j+(kk+2),none⟩ (.int .u32 (t2:Int)))):=(k0.out.next c0.out (fun i hi e=>by have:=HR.out;omega)).next F (fun i hi e=>by have:=HR.out;omega)
      have g4:Hid (zI .u32 (wr.setCell ⟨R,j+(kk+2),none⟩ (.int .u32 (t2:Int))) (some ⟨Vb,0,none⟩) vs):=((K0.out.ext k0.out).fr c0.out (fun a ha _=>by injection ha with ha;subst ha;have:=C1.out;show Vb≠R;omega)).fr F (fun a ha _=>by injection ha with ha;subst ha;have:=C1.out;show Vb≠R;omega)
      have F5:Hid (Dig W32 m):=F0
      have N1:=zh f
      have Hu:=zh hu
      have Y4:=zh T0
      have Z4:=zh W2
      have a5:=zh N
      have d3:=zh G0
      have U4:(j:Int)+((kk:Int)+2)<(xs.length:Int)+1:=qO
      have h4:Hid (Zcb m vs 0 m 0):=Zcb.start F0
      clear f u u0 S0 I f0 F0 T0 Q U0 V0 hu W2 q8 X2 o F p0 i0 Y2 b0 J0 N f4 G0 hM c0 W1 hi
      simp only[Int.ofNat_one] at *
      go_wp2
      generalize b5:wr.setCell ⟨R,j+(kk+2),none⟩ (.int .u32 (t2:Int))=w7 at *
      clear b5 S b4 q0 q5 q6 q7 q9 c4 g2
      obtain⟨j4,rfl⟩:∃ j4:World,j4=wr:=⟨_,rfl⟩
      go_loopw [18,24] (fun cv iv wr=>∃ (i c':Nat) (m2:List Nat),i≤kk+2∧iv=.int .i64 (i:Int)∧cv=.int .u64 (c':Int)∧Hid (Zcb m vs i m2 c')∧Hid (Own .u32 87 wr R (rs.take j ++ m2 ++ (t2 :: rs.drop (j+(kk+2)+1))))∧Hid (Fr (· = R) w7 wr)) (fun _ iv _=>kk+2-(intOf iv).toNat)
      case atStart=>exact⟨0,0,m,qO,rfl,rfl,h4,M1,Fr.refl _ _⟩
      case round =>
       obtain⟨i,c',m2,hi,rfl,rfl,hA,H0,e3⟩:=hrel
       clear h4 M1
       by_cases y5:i<kk+2
       ·have f:m2.length=kk+2:=by rw[hA.out.1];exact N1.out
        obtain⟨x,ex⟩:=yE (vs[i]?.getD 0)
        obtain⟨z,ez⟩:=yE (m2[i]?.getD 0)
        have g:x<W32:=ex ▸ T.out.getD xA _
        have d0:z<W32:=ez ▸ hA.out.2.1.getD xA _
        have I:=hA.out.2.2.1
        have g0:zI .u32 wr (some ⟨Vb,0,none⟩) vs:=g4.out.fr e3.out (fun a ha _=>by injection ha with ha;subst ha;have:=C1.out;show Vb≠R;omega)
        have dx:=g0.cell0 (i:=i) (by rw[G.out];omega)
        rw[ex,vZ] at dx
        have V2:=H0.out.mid32 (k:=i) qO
        have N4:=H0.out.frozen (i+j)
        rw[o0.out,ez,vW j i] at V2
        have Z0:=zh (hA.out.step (by rw[N1.out];omega) (by rw[G.out];omega) ez ex T.out)
        have q0:=wK x (by have:=zN;have:=xD;omega)
        have O4:=wK z (by have:=zN;have:=xD;omega)
        have q1:=kY (a:=z) (b:=x) (by have:=zN;have:=xD;omega)
        have q2:=kY (a:=c') (b:=z+x) (by have:=zN;have:=xD;omega)
        obtain⟨zx,l4⟩:=yE (z+x)
        rw[l4] at q1 q2 Z0
        obtain⟨p,ep⟩:=yE (c'+zx)
        rw[ep] at q2 Z0
        have q3:=hi32 p
        have q4:=jS p
        have H:=zh (H0.out.set_mid32 (k:=i) qO (p%W32))
        rw[o0.out,vW j i] at H
        obtain⟨lo,J⟩:=yE (p%W32)
        obtain⟨ph,R0⟩:=yE (p/W32)
        rw[J] at q4 Z0 H
        rw[R0] at q3 Z0
        have R4:(i:Int)+(j:Int)<(xs.length:Int)+1:=qO
        have i1:IntKind.i64.wrap ((i:Int)+(j:Int))=(i:Int)+(j:Int):=IntWalk.i64_in _ qO
        have i2:((i:Int)+(j:Int)).toNat=i+j:=qO
        clear f ex ez g d0 I g0 l4 ep J R0
        go_wp2
        go_quiet (fail)
        clear i1 i2
        go_wp2
        go_roundw
        case rel=>exact⟨i+1,ph,_,qO,by go_num,rfl,Z0,H.out,(e3.out.drewN _).setCell (p:=⟨R,i+j,none⟩) (Or.inl rfl) _⟩
        case measure=>simp[intOf];omega
       obtain rfl:i=kk+2:=qO
       have f:m2.length=kk+2:=by rw[hA.out.1];exact N1.out
       have b1:=hA.out.2.2.2.2
       rw[uB qO,uB (by rw[N1.out];omega),uB (by rw[G.out];omega),HV.out] at b1
       obtain⟨_,k2,k3,k4⟩:=Zh9 A1.out hV.out Hu.out Y3.out Y4.out Z1.out Z4.out b1 (by have:=wF hA.out.2.1;rw[f] at this;exact this)
       have s0:=b2.out c' k4 hA.out.2.2.1
       have c5:=f2.out
       have Y0:=hA.out.2.2.1
       have g5:=jS c'
       rw[vL (by have:=Zhz;omega)] at g5
       have g3:IntKind.u32.wrap ((t2:Int)+(c':Int))=0:=by
        rw[IntKind.wrap_u32];rw[xD] at s0;omega
       have G5:((t2:Int)+(c':Int))%4294967296=0:=by rw[xD] at s0;omega
       rw[a5.out] at k2
       have u:=x0.out
       have n4:=d3.out
       have t0:j+(kk+2)<(rs.take j ++ m2 ++ (t2 :: rs.drop (j+(kk+2)+1))).length:=by simp;omega
       have S:=H0.out.cell t0
       have b4:=H0.out.frozen (j+(kk+2))
       rw[Zjo _ _ _ _ _ _ o0.out f] at S
       have f1:=H0.out.set (j+(kk+2)) 0 t0
       rw[Zjn _ _ _ _ _ _ _ o0.out f] at f1
       have j1:Fr (· = R) w7 (wr.setCell ⟨R,j+(kk+2),none⟩ (.int .u32 ((0:Nat):Int))):=e3.out.setCell (p:=⟨R,j+(kk+2),none⟩) (Or.inl rfl) _
       have v0:=W4.out.fr j1 (by have:=t.out;omega)
       have W0:j<qs.length:=qO
       have b3:=v0.cell W0
       have S4:=v0.frozen j
       obtain⟨z0,X0⟩:=yE (qs[j]?.getD 0)
       rw[X0] at b3
       have Z2:=zh (Y.out.step (q:=E) A1.out hV.out qO f hA.out.2.1 (by rw[HU.out];exact k2) (by rw[HU.out];exact k3))
       have o4:=zh (v0.set j E W0)
       have p4:=zh (f1.far (p:=⟨Qb,j,none⟩) (by have:=t.out;show R≠Qb;omega) (.int .u32 (E:Int)))
       have r4:Hid (Ext wD ((wr.setCell ⟨R,j+(kk+2),none⟩ (.int .u32 ((0:Nat):Int))).setCell ⟨Qb,j,none⟩ (.int .u32 (E:Int)))):=(X4.out.next j1 (fun i hi e=>by have:=HR.out;omega)).setCell (Or.inr (by have:=HR.out;have:=t.out;show wD.heap.size≤Qb;omega)) _
       have L1:Hid ((rs.take j ++ m2 ++ (0 :: rs.drop (j+(kk+2)+1))).length=xs.length+1):=by unfold Hid;simp;omega
       clear b1 k2 k3 k4 u n4 t0 f1 j1 v0 X0 f s0 c5 Y0
       simp only[Int.ofNat_zero] at *
       go_wp2
       go_roundw
       case rel=>exact⟨j,_,_,qO,rfl,Z2,L1,p4.out,o4.out,r4.out⟩
       case measure=>simp[intOf]
   obtain rfl:k=0:=qO
   obtain⟨k1,k2⟩:=Y.out.done
   have u:=x0.out
   have G0:qs.length=xs.length-(kk+2)+1:=by have:=Y.out.2.2.1;omega
   have O1:=Zd2 (val W32 xs) (val W32 ys) (2^s) (uZ qO)
   have NQ:=zW.of_own (c:=xs.length-(kk+2)+1) W.out Y.out.2.1 qO
   rw[k1,← B1.out,← HV.out,L0.out,O1.1] at NQ
   rw[←B1.out,← HV.out,L0.out] at k2
   have s4:val W32 rs<W32^(kk+2):=by
    have E:=Y.out.2.2.2.2
    rw[sI] at E
    have:=hV.out
    omega
   have t4:val W32 (rs.take (kk+2))=val W32 rs:=by
    have E:=xX (B:=W32) (xs:=rs) (kk+2)
    rw[uY qO] at E
    rcases uJ (val W32 (rs.drop (kk+2))) with h|h
    ·rw[h] at E;simp at E;omega
    have:W32^(kk+2)*1≤W32^(kk+2)*val W32 (rs.drop (kk+2)):=uK _ h
    omega
   have u4:(rs.take (kk+2)).length=kk+2:=by simp;omega
   have f3:val W32 (wL (rs.take (kk+2)))=val W32 xs*2^s%(val W32 ys*2^s):=by rw[lG,t4,k2]
   have l1:wL (rs.take (kk+2))=rs.take (wL (rs.take (kk+2))).length:=by
    have E:=wQ (rs.take (kk+2))
    have h2:=gN (rs.take (kk+2)) (rs.take (kk+2)).length
    rw[E]
    unfold wL
    rw[List.take_take,uY qO]
   have h3:Dig W32 (wL (rs.take (kk+2))):=iM (Y.out.1.take _)
   have j2:(wL (rs.take (kk+2))).length≤kk+2:=by rw[wQ];have:=gN (rs.take (kk+2)) (rs.take (kk+2)).length;omega
   have o1:=zh (kE (some ⟨R,0,none⟩) (rs.take (kk+2)) (kk+2) (xs.length+1) wr u4 (y0.out.shows0.take _) qO qO)
   rw[←wQ] at o1
   have d5:=zh (fun wz (hO:Own .u32 87 wz Qb qs)=>kE (some ⟨Qb,0,none⟩) qs (xs.length-(kk+2)+1) (xs.length-(kk+2)+1) wz G0 hO.shows0 qO qO)
   obtain⟨ts,v4⟩:=yE (wL (rs.take (kk+2)))
   rw[v4] at o1 f3 l1 h3 j2
   obtain⟨l,el⟩:=yE ts.length
   rw[el] at o1 l1 j2
   have x4:=zh el
   have H5:=zh l1
   have y4:=zh h3
   have e5:=zh f3
   have d3:=zh G0
   have f5:=zh O1.2
   have h5:Hid (Dig W32 qs):=Y.out.2.1
   have j5:Hid (val W32 qs=val W32 xs/val W32 ys):=by unfold Hid;rw[k1,← B1.out,← HV.out,L0.out,O1.1]
   have l2:Hid (Own .u32 87 wr R ((List.replicate ts.length 0).take 0 ++ ts.drop 0 ++ rs.drop l)):=by
    unfold Hid
    rw[List.take_zero,pQ,sI,l1,qQ]
    exact y0.out
   have L1:Hid (rs.length=xs.length+1):=x0
   have o2:Hid (eC ts s 0 (List.replicate ts.length 0)):=eC.start ts s
   have k5:Hid (wD.heap.size≤R):=by have:=HR.out;unfold Hid;omega
   clear k1 k2 u G0 O1 NQ s4 t4 u4 f3 l1 h3 v4 el
   go_wp2_with fail
   refine o1.out.mono ?_
   rintro e w' ⟨rfl,rfl⟩
   clear o1
   go_wp2_with fail
   obtain⟨wo,rfl⟩:∃ wo:World,wo=wr:=⟨_,rfl⟩
   go_loopw [26] (fun iv wr=>∃ (k:Nat) (zs:List Nat),k≤l∧iv=.int .i64 (k:Int)∧Hid (eC ts s k zs)∧Hid (Own .u32 87 wr R (zs.take k ++ ts.drop k ++ rs.drop l))∧Hid (Fr (· = R) wo wr)) (fun iv _=>l-(intOf iv).toNat)
   case atStart=>exact⟨0,_,qO,rfl,o2,l2,Fr.refl _ _⟩
   case round =>
    obtain⟨k,zs,I5,rfl,hS,p1,P1⟩:=hrel
    clear o2 l2
    have J5:=x4.out
    have Q1:zs.length=ts.length:=hS.out.1
    by_cases W1:k<l
    ·obtain⟨x,ex⟩:=yE (ts[k]?.getD 0)
     have g:x<W32:=ex ▸ y4.out.getD xA _
     have j0:k<(zs.take k ++ ts.drop k ++ rs.drop l).length:=by simp;omega
     have Y0:=p1.out.cell j0
     have K5:=p1.out.frozen k
     rw[Zfs (uF k) qO Q1,ex] at Y0
     have q3:=ZcD x s
     have F4:k<xs.length+1:=qO
     by_cases l5:k+1<l
     ·obtain⟨y,ey⟩:=yE (ts[k+1]?.getD 0)
      have p2:y<W32:=ey ▸ y4.out.getD xA _
      have K:=zh (hS.out.step hs qO ex ey g)
      have q1:=Zio p2 (by omega:32-s≤32)
      have I0:=jS (y*2^(32-s))
      have q2:=Zoz (a:=x/2^s) (b:=y*2^(32-s)%W32) (vA (vJ _ _) g) (uP _ xA)
      rw[Zqy hs g] at q2
      obtain⟨lo,J⟩:=yE (x/2^s)
      obtain⟨hi,z4⟩:=yE (y*2^(32-s)%W32)
      obtain⟨yy,A4⟩:=yE (y*2^(32-s))
      obtain⟨d,ed⟩:=yE (x/2^s+y%2^s*2^(32-s))
      rw[ed] at q2 K
      rw[J] at q2 q3
      rw[z4] at I0 q2
      rw[A4] at q1 I0
      have D:=p1.out.set k lo j0
      have L5:=D.frozen k
      have m5:=D.cell (i:=k) (by simpa using j0)
      rw[sJ j0,qW] at m5
      have n5:=D.cell (i:=k+1) (by simp;omega)
      rw[List.getElem?_set_ne qO,Zfs qO qO Q1,ey] at n5
      have o:=D.set k d (by simpa using j0)
      rw[List.set_set,Zfr qO Q1] at o
      have M1:=zh o
      have q0:=wK y (by have:=zN;have:=xD;omega)
      have i1:IntKind.u64.wrap ((32:Int)-(s:Int))=((32-s:Nat):Int):=by rw[IntKind.wrap_u64];omega
      obtain⟨r,er⟩:=yE (32-s)
      rw[er] at i1 q1
      have i4:min r 64=r:=qO
      have i2:IntKind.i64.wrap ((k:Int)+1)=(k:Int)+1:=IntWalk.i64_in _ qO
      have i3:((k:Int)+1).toNat=k+1:=qO
      have F:Hid (∀ n,Fr (· = R) wo (((wr.setCell ⟨R,k,none⟩ (.int .u32 (lo:Int))).drewN n).setCell ⟨R,k,none⟩ (.int .u32 (d:Int)))):=fun n=>((P1.out.setCell (p:=⟨R,k,none⟩) (Or.inl rfl) _).drewN _).setCell (p:=⟨R,k,none⟩) (Or.inl rfl) _
      clear ex g j0 ey p2 J z4 A4 ed D o er
      have B4:(k:Int)+1<(l:Int):=qO
      go_wp2
      go_region
      all_goals
       go_wp2
       go_roundw
       case rel=>exact⟨k+1,_,qO,by go_num,K,M1.out.drewN _,F.out _⟩
       case measure=>simp[intOf];omega
     have K:=zh (hS.out.step hs qO ex (show ts[k+1]?.getD 0=0 by rw[vU qO];rfl) g)
     have e0:x/2^s+0%2^s*2^(32-s)=x/2^s:=qS
     rw[e0] at K
     obtain⟨lo,J⟩:=yE (x/2^s)
     rw[J] at K q3
     have D:=p1.out.set k lo j0
     rw[Zfr qO Q1] at D
     have o5:=zh D
     have F:Hid (Fr (· = R) wo (wr.setCell ⟨R,k,none⟩ (.int .u32 (lo:Int)))):=P1.out.setCell (p:=⟨R,k,none⟩) (Or.inl rfl) _
     have B4:¬ ((k:Int)+1<(l:Int)):=qO
     have M5:decide ((k:Int)+1<(l:Int))=false:=by rw[vH];omega
     clear ex g j0 e0 J D
     go_wp2
     go_roundw
     case rel=>exact⟨k+1,_,qO,by go_num,K,o5.out,F.out⟩
     case measure=>simp[intOf];omega
    obtain rfl:k=l:=qO
    have j3:=hS.out
    rw[←x4.out] at j3
    have C4:=j3.done
    have D:=p1.out
    rw[uB qO,vF (by omega:ts.length≤k),qJ] at D
    have o:=D.front
    have NR:=zW.of_own (c:=xs.length+1) o hS.out.2.1 qO
    rw[C4,e5.out,f5.out,show zs.length=k by omega] at NR
    have p5:=zh NR
    have D4:=zh (W.out.fr P1.out (by have:=t.out;omega))
    have NQ:=zW.of_own (c:=xs.length-(kk+2)+1) D4.out h5.out (by have:=d3.out;omega)
    rw[j5.out] at NQ
    have r5:=zh NQ
    have s5:=zh (kE (some ⟨R,0,none⟩) zs k (xs.length+1) wr qO o.shows0 qO qO)
    have E4:=zh (d5.out wr D4.out)
    have t5:Hid (Ext w wr):=(E2.out.ext k0.out).next P1.out (fun i hi e=>by have:=E2.out.size;have:=HR.out;omega)
    have B4:¬ ((k:Int)<(k:Int)):=qO
    clear j3 C4 D o NR NQ
    go_wp2_with fail
    refine E4.out.mono ?_
    rintro e w' ⟨rfl,rfl⟩
    go_wp2_with fail
    refine s5.out.mono ?_
    rintro e w' ⟨rfl,rfl⟩
    go_wp2
    go_ret2
    exact⟨_,_,rfl,r5.out,p5.out,t5.out⟩
theorem ZgK (e f:Value)(x y:Nat)(w:World)(b:zW w e x)(d:zW w f y)(g:ml x≤17592186044416)(n:ml y≤17592186044416)(o:0<y) :
 Ζ 73 #[e,f] w (Zdn w (x/y) (x%y)):=by
 by_cases a:x<y
 ·rw[tV a,vL a]
  exact ZoA e f x y w b d g n a
 have p:=Zgy o
 by_cases i:ml y=1
 ·exact Znc e f x y w b d g i qO
 obtain⟨A,q,c,rfl,r,b,j,k,rfl⟩:=b
 obtain⟨s,l,t,rfl,h,d,dy,m,rfl⟩:=d
 rw[←jA j k] at g
 rw[←jA dy m] at i p
 exact Zlb A s q l c t (l.length-2) w b d r h g qO j dy k m qO
end Go.Proofs.YtmpffakfhcpjoaaGreatDoor
