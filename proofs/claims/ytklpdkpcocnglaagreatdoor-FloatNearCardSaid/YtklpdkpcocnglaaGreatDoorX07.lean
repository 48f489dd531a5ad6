/-
 My texts Div64, DivWord, Shift, Est, Knuth, DivS, Num1, Num2, Num3, DvM, Dv1, Dv2, Dv3 put together.
-/
import Derived.Test.YtklpdkpcocnglaaGreatDoorX02
import Derived.Test.YtklpdkpcocnglaaGreatDoorX03
import Derived.Test.YtklpdkpcocnglaaGreatDoorX00
import Derived.Test.YtklpdkpcocnglaaGreatDoorX06
import Derived.Lib.ItoaNum
import Derived.Deep.QuietTactic
import Derived.BigQuiet
import Derived.RegionTactic
import Derived.BigRegion
import Derived.Deep.CutBlock
import Derived.Deep.DeepCutAuto
set_option maxRecDepth 100000
set_option maxHeartbeats 8000000
namespace Go.Proofs.YtklpdkpcocnglaaGreatDoor
open Go.RowKit
theorem Zam (x:Nat)(w:World)(a:x<W64):yA 174 #[.int .u64 (x:Int)] w fun e w'=>e=.returned (.int .i64 (64-(Lib.bitLen x:Int)))∧w=w':=by
 rw[zO] at a
 refine (Tryz.bits_LeadingZeros64 x w (by omega) (by omega)).mono ?_
 rintro e w' ⟨rfl,rfl⟩
 exact⟨by simp,rfl⟩
noncomputable def H32:Nat:=Classical.choose (p:=fun n:Nat=>n=4294967296) ⟨_,rfl⟩
theorem wC:H32=4294967296:=qX (p:=fun n:Nat=>n=4294967296) ⟨_,rfl⟩
structure Prep (hi lo y s Y v1 v0 Hs Ls U T u1 u0:Nat):Prop where
 hY:IntKind.u64.wrap ((y:Int)*2^s)=(Y:Int)
 hv1:(Y:Int)/4294967296=(v1:Int)
 hv0:bits .and .u64 (Y:Int) 4294967295=(v0:Int)
 hH:IntKind.u64.wrap ((hi:Int)*2^s)=(Hs:Int)
 hL:(lo:Int)/2^(64-s)=(Ls:Int)
 hU:bits .or .u64 (Hs:Int) (Ls:Int)=(U:Int)
 hT:IntKind.u64.wrap ((lo:Int)*2^s)=(T:Int)
 hu1:(T:Int)/4294967296=(u1:Int)
 hu0:bits .and .u64 (T:Int) 4294967295=(u0:Int)
theorem Zf3 (a:Int):∃ n:Nat,IntKind.u64.wrap a=(n:Int)∧(n:Int)=a%18446744073709551616:=by
 refine⟨(a%18446744073709551616).toNat,?_,?_⟩
 ·rw[IntKind.wrap_u64];omega
 omega
theorem un21 {U u Y q R:Nat}(d:Y≤W64)(f:q*Y+R=U*4294967296+u)(l:R<Y) :
 ∃ a b c:Nat,IntKind.u64.wrap ((U:Int)*4294967296)=(a:Int)∧IntKind.u64.wrap ((a:Int)+(u:Int))=(b:Int)∧IntKind.u64.wrap ((q:Int)*(Y:Int))=(c:Int)∧IntKind.u64.wrap ((b:Int)-(c:Int))=(R:Int):=by
 have g:=d
 rw[zO] at g
 obtain⟨a,h,m⟩:=Zf3 ((U:Int)*4294967296)
 obtain⟨b,i,n⟩:=Zf3 ((a:Int)+(u:Int))
 obtain⟨c,j,o⟩:=Zf3 ((q:Int)*(Y:Int))
 obtain⟨p,k,r⟩:=Zf3 ((b:Int)-(c:Int))
 refine⟨a,b,c,h,i,j,?_⟩
 rw[k]
 have e:((q*Y+R:Nat):Int)=((U*4294967296+u:Nat):Int):=by rw[f]
 rw[sX,tB,sX,tB] at e
 omega
theorem Zb0 {U v1:Nat}(b:0<v1)(c:U<W64) :
 ∃ a e d:Nat,(U:Int)/(v1:Int)=(a:Int)∧IntKind.u64.wrap (a:Int)=(a:Int)∧IntKind.u64.wrap ((a:Int)*(v1:Int))=(e:Int)∧IntKind.u64.wrap ((U:Int)-(e:Int))=(d:Int)∧a*v1+d=U∧d<v1:=by
 have g:=c
 rw[zO] at g
 have f:=vO U v1
 have h:=uP U b
 have i:U/v1*v1≤U:=rZ U v1
 rw[uF] at f
 refine⟨U/v1,U/v1*v1,U%v1,(tD _ _).symm,wE _ (by rw[zO];have:=uZ U v1;omega),?_,?_,f,h⟩
 ·rw[←tB];exact wE _ (by rw[zO];omega)
 rw[show (U:Int)-((U/v1*v1:Nat):Int)=((U%v1:Nat):Int) by omega]
 exact wE _ (by rw[zO];omega)
theorem Zb1 {U v1 v0 u a ri:Nat}(b:0<v1)(e:u<H32)(h:a*v1+ri=U)(f:ri<v1):gQ H32 U v1 v0 u a ri:=by
 refine⟨h,?_⟩
 have g:0<v1*H32:=tV b (by rw[wC];omega)
 rw[←Nat.lt_succ_iff,vG (by omega)]
 have c:U<(a+1)*v1:=by rw[uU];omega
 have d:(U+1)*H32≤(a+1)*v1*H32:=uC _ c
 rw[pF,uN,← uG]
 rw[uU U] at d
 omega
theorem Zb2 {U v1 v0 u q r:Nat}(a:2147483648≤v1)(b:U<W64)(h:gQ H32 U v1 v0 u q r):q≤8589934592:=by
 have c:=b
 rw[zO] at c
 have d:=h.1
 have e:q*2147483648≤q*v1:=uK q a
 omega
theorem iU {H U Y u q:Nat}(h:q=(U*H+u)/Y):q*Y+(U*H+u)%Y=U*H+u:=by
 subst h
 rw[uF]
 exact vO _ _
theorem iV {U u Y q:Nat}(a:0<Y)(b:U<Y)(d:u<H32)(c:q=(U*H32+u)/Y):q<H32:=by
 subst c
 rw[vG a]
 have:(U+1)*H32≤Y*H32:=uC _ b
 rw[uU] at this
 rw[uF H32]
 omega
theorem iP {q:Nat}(a:0<q)(h:q<W64):IntKind.u64.wrap ((q:Int)-1)=((q-1:Nat):Int):=by
 rw[show (q:Int)-1=((q-1:Nat):Int) by omega]
 exact wE _ (by omega)
theorem kU {a b:Nat}(h:a+b<W64):IntKind.u64.wrap ((a:Int)+(b:Int))=((a+b:Nat):Int):=by
 rw[←sX]
 exact wE _ h
theorem fA {a b:Nat}(h:a*b<W64):IntKind.u64.wrap ((a:Int)*(b:Int))=((a*b:Nat):Int):=by
 rw[←tB]
 exact wE _ h
theorem Zjc:H32*H32=W64:=by rw[wC,zO]
theorem bE {a q0:Nat}(d:a<H32)(e:q0<H32):∃ b c:Nat,IntKind.u64.wrap ((a:Int)*4294967296)=(b:Int)∧IntKind.u64.wrap ((b:Int)+(q0:Int))=(c:Int)∧c=a*H32+q0:=by
 have h:a*H32+q0<W64:=by
  rw[←Zjc]
  have:(a+1)*H32≤H32*H32:=uC _ d
  rw[uU] at this
  omega
 refine⟨a*H32,a*H32+q0,?_,kU h,rfl⟩
 rw[show (4294967296:Int)=((H32:Nat):Int) by rw[wC];rfl]
 exact fA (by omega)
theorem ZeH {r u:Nat}(c:r<H32)(e:u<H32):∃ a b:Nat,IntKind.u64.wrap (4294967296*(r:Int))=(a:Int)∧IntKind.u64.wrap ((a:Int)+(u:Int))=(b:Int)∧b=H32*r+u:=by
 have d:H32*r+u<W64:=by
  rw[←Zjc]
  have:H32*(r+1)≤H32*H32:=uK _ c
  rw[uN] at this
  omega
 refine⟨H32*r,H32*r+u,?_,kU d,rfl⟩
 rw[show (4294967296:Int)=((H32:Nat):Int) by rw[wC];rfl]
 exact fA (by omega)
theorem iW {q:Nat}(h:H32≤q):decide ((4294967296:Int)≤(q:Int))=true:=by rw[wC] at h;rw[vN];omega
theorem jV {q:Nat}(h:¬ H32≤q):decide ((4294967296:Int)≤(q:Int))=false:=by rw[wC] at h;rw[vA];omega
theorem dI {a b:Nat}(h:a<b):decide (a<b)=true:=by rw[vN];omega
theorem fS {a b:Nat}(h:¬ a<b):decide (a<b)=false:=by rw[vA];omega
theorem Zc0 {q v:Nat}(b:¬ H32≤q)(c:v<H32):q*v<W64:=by
 rw[←Zjc]
 have d:q*v≤q*H32:=uK _ (by omega)
 have a:(q+1)*H32≤H32*H32:=uC _ (by omega)
 rw[uU] at a
 have:=wC
 omega
theorem Zma (hi lo y s Y v1 v0 Hs Ls U T u1 u0 qf rf:Nat)(w:World)(d0:(U*H32+u1)/Y*H32+((U*H32+u1)%Y*H32+u0)/Y=qf)(e0:((U*H32+u1)%Y*H32+u0)%Y/2^s=rf)(h0:0<hi)(h1:hi<y)(hy:y<W64)(hs:64-(Lib.bitLen y:Int)=s)(i0:s≤63)(P:Prep hi lo y s Y v1 v0 Hs Ls U T u1 u0)(hU:U<v1*H32+v0)(c0:v1*H32+v0=Y)(b1:2147483648≤v1)(b2:v1<H32)(b3:v0<H32)(b4:u1<H32)(b5:u0<H32) :
 yA 149 #[.int .u64 (hi:Int),.int .u64 (lo:Int),.int .u64 (y:Int)] w fun e w'=>e=.returned (.tuple #[.int .u64 (qf:Int),.int .u64 (rf:Int)])∧w=w':=by
 have R:=zh d0
 have S:=zh e0
 clear d0 e0
 have he:=wC
 have HS:=zh hs
 have HY:=zh hy
 have e1:((hi:Int) == 0)=false:=by simp;omega
 have e2:((y:Int) == 0)=false:=by simp;omega
 have K:=zh hU
 have o:=zh c0
 have f0:U<18446744073709551616:=by rw[he] at hU b2 b3;omega
 have g0:Hid (U<W64):=by unfold Hid;rw[zO];exact f0
 have l:Hid (Y≤W64):=by unfold Hid;rw[zO];rw[he] at c0 b2 b3;omega
 obtain⟨p1,p2,p3,p4,p5,p6,p7,p8,p9⟩:=P
 have j0:((v1:Int) == 0)=false:=by simp;omega
 obtain⟨qi,mi,ri,f1,f2,f3,f4,f5,f6⟩:=Zb0 (U:=U) (v1:=v1) (by omega) g0.out
 have HE:=zh (Zb1 (v0:=v0) (u:=u1) (by omega) b4 f5 f6)
 clear hs hy hU c0 f5
 have B1:=zh b1
 have B2:=zh b2
 have B3:=zh b3
 have B4:=zh b4
 have V:=zh b5
 clear b1 b2 b3 b4 b5 he f0
 go_enter Tryz.func149,Tryz.ntmps149
 go_wp2_with (go_at_call 174;refine (Zam _ _ HY.out).mono ?_;rintro e w' ⟨rfl,rfl⟩;rw[HS.out])
 clear p1 p2 p3 p4 p5 p6 p7 p8 p9 e1 e2
 go_loop [15,16] (fun qv rv=>∃ q r:Nat,qv=.int .u64 q∧rv=.int .u64 r∧Hid (r<H32)∧Hid (gQ H32 U v1 v0 u1 q r)) (fun qv _=>(intOf qv).toNat)
 case atStart=>exact⟨_,_,rfl,rfl,by have:=B2.out;unfold Hid;omega,HE⟩
 case round =>
  obtain⟨q,r,rfl,rfl,hr,Q⟩:=hrel
  clear f1 f2 f3 f4 f6 HE
  have L:Hid (q<W64):=by
   have h1:=Zb2 B1.out g0.out Q.out
   unfold Hid;rw[zO];omega
  have b0:Hid (r+v1<W64):=by
   have h1:=hr.out
   have h2:=B2.out
   unfold Hid;rw[zO];rw[wC] at h1 h2;omega
  have g2:=kU b0.out
  obtain⟨G,A⟩:=yE (r+v1)
  rw[A] at g2
  have M:=zh A
  clear A
  by_cases a:H32≤q
  ·have d:=zh (ZeF K.out B4.out a Q.out)
   have t1:=iW a
   have g1:=iP (q:=q) (by have:=wC;omega) L.out
   obtain⟨p,h⟩:=yE (q-1)
   rw[h] at g1 d
   rw[M.out] at d
   have B:p<q:=by have:=wC;omega
   by_cases f:H32≤G
   ·have i:=zh (gF K.out B3.out f d.out)
    have t2:=iW f
    clear f a h B d Q
    rw[o.out] at i
    have b:Hid (0<Y):=by have:=o.out;have:=K.out;unfold Hid;omega
    obtain⟨H,F⟩:=yE ((U*H32+u1)%Y)
    have t:Hid (H<Y):=by rw[←F];exact uP _ b.out
    obtain⟨a1,a2,a3,x1,x2,x3,x4⟩:=un21 l.out (by rw[←wC];exact iU i.out) (uP _ b.out)
    rw[F] at x4
    have N:Hid (p<H32):=iV b.out (by have:=K.out;rw[o.out] at this;exact this) B4.out i.out
    have O:=i
    clear i
    have ERR:=zh F
    clear F
    have I:Hid (H<W64):=uQ t.out l.out
    have k:Hid (H<v1*H32+v0):=by rw[o.out];exact t.out
    obtain⟨qi,mi,ri,k1,k2,k3,k4,k5,k6⟩:=Zb0 (U:=H) (v1:=v1) (by have:=B1.out;omega) I.out
    have W:=zh (Zb1 (v0:=v0) (u:=u0) (by have:=B1.out;omega) V.out k5 k6)
    clear k5
    go_wp2
    go_loop [16,18] (fun rv qv=>∃ q r:Nat,qv=.int .u64 q∧rv=.int .u64 r∧Hid (r<H32)∧Hid (gQ H32 H v1 v0 u0 q r)) (fun _ qv=>(intOf qv).toNat)
    case atStart=>exact⟨_,_,rfl,rfl,by have:=B2.out;unfold Hid;omega,W⟩
    case round =>
     obtain⟨q,r,rfl,rfl,hr,Q⟩:=hrel
     clear k1 k2 k3 k4 k6 W x1 x2 x3 x4
     have L:Hid (q<W64):=by
      have h1:=Zb2 B1.out I.out Q.out
      unfold Hid;rw[zO];omega
     have b0:Hid (r+v1<W64):=by
      have h1:=hr.out
      have h2:=B2.out
      unfold Hid;rw[zO];rw[wC] at h1 h2;omega
     have g2:=kU b0.out
     obtain⟨G,A⟩:=yE (r+v1)
     rw[A] at g2
     have M:=zh A
     clear A
     by_cases a:H32≤q
     ·have d:=zh (ZeF k.out V.out a Q.out)
      have t1:=iW a
      have g1:=iP (q:=q) (by have:=wC;omega) L.out
      obtain⟨p,h⟩:=yE (q-1)
      rw[h] at g1 d
      rw[M.out] at d
      have B:p<q:=by have:=wC;omega
      by_cases f:H32≤G
      ·have i:=zh (gF k.out B3.out f d.out)
       have t2:=iW f
       clear f a h B d Q
       rw[o.out] at i
       obtain⟨X,Z,a0,y1,y2,y3,y4⟩:=un21 l.out (by rw[←wC];exact iU i.out) (uP _ b.out)
       obtain⟨v,g⟩:=yE ((H*H32+u0)%Y)
       rw[g] at y4
       obtain⟨z1,z2,z4,z5,J⟩:=bE N.out (iV b.out t.out V.out i.out)
       have y5:(v:Int)/2^s=((v/2^s:Nat):Int):=by rw[tD,vI];rfl
       obtain⟨x,c⟩:=yE (v/2^s)
       rw[c] at y5
       have EZ:=zh J
       have ER:=zh c
       have z:=zh g
       clear g J c
       go_wp2
       go_ret2
       have fq:z2=qf:=by rw[EZ.out,← R.out,i.out,O.out,ERR.out]
       have fr:x=rf:=by rw[←ER.out,← z.out,← S.out,ERR.out]
       exact⟨by rw[←fq,← fr];rfl,rfl⟩
      have t2:=jV f
      have C:Hid (G<H32):=by unfold Hid;omega
      clear f a h
      go_wp2
      go_round
      case rel=>exact⟨p,G,rfl,rfl,C,d⟩
      case measure=>simp[intOf];omega
     have t1:=jV a
     have g5:=fA (Zc0 a B3.out)
     obtain⟨m,D⟩:=yE (q*v0)
     rw[D] at g5
     obtain⟨m2,m3,g6,g7,n⟩:=ZeH hr.out V.out
     by_cases j:m3<m
     ·have t3:=dI j
      have d:=zh (ZbA (by have:=k.out;omega) (by rw[D,← n];exact j) Q.out)
      have E:0<q:=by
       rcases uI q with e|e
       ·subst e;simp at D;omega
       exact e
      have g1:=iP E L.out
      obtain⟨p,h⟩:=yE (q-1)
      rw[h] at g1 d
      rw[M.out] at d
      have B:p<q:=by omega
      by_cases f:H32≤G
      ·have i:=zh (gF k.out B3.out f d.out)
       have t2:=iW f
       clear f a h B d Q j D n E
       rw[o.out] at i
       obtain⟨X,Z,a0,y1,y2,y3,y4⟩:=un21 l.out (by rw[←wC];exact iU i.out) (uP _ b.out)
       obtain⟨v,g⟩:=yE ((H*H32+u0)%Y)
       rw[g] at y4
       obtain⟨z1,z2,z4,z5,J⟩:=bE N.out (iV b.out t.out V.out i.out)
       have y5:(v:Int)/2^s=((v/2^s:Nat):Int):=by rw[tD,vI];rfl
       obtain⟨x,c⟩:=yE (v/2^s)
       rw[c] at y5
       have EZ:=zh J
       have ER:=zh c
       have z:=zh g
       clear g J c
       go_wp2
       go_ret2
       have fq:z2=qf:=by rw[EZ.out,← R.out,i.out,O.out,ERR.out]
       have fr:x=rf:=by rw[←ER.out,← z.out,← S.out,ERR.out]
       exact⟨by rw[←fq,← fr];rfl,rfl⟩
      have t2:=jV f
      have C:Hid (G<H32):=by unfold Hid;omega
      clear f a h j D n E
      go_wp2
      go_round
      case rel=>exact⟨p,G,rfl,rfl,C,d⟩
      case measure=>simp[intOf];omega
     have t3:=fS j
     have i:=zh (Zal (by have:=k.out;omega) (by rw[D,← n];omega) Q.out)
     obtain⟨p,rfl⟩:∃ p,p=q:=⟨_,rfl⟩
     clear j D n a Q
     rw[o.out] at i
     obtain⟨X,Z,a0,y1,y2,y3,y4⟩:=un21 l.out (by rw[←wC];exact iU i.out) (uP _ b.out)
     obtain⟨v,g⟩:=yE ((H*H32+u0)%Y)
     rw[g] at y4
     obtain⟨z1,z2,z4,z5,J⟩:=bE N.out (iV b.out t.out V.out i.out)
     have y5:(v:Int)/2^s=((v/2^s:Nat):Int):=by rw[tD,vI];rfl
     obtain⟨x,c⟩:=yE (v/2^s)
     rw[c] at y5
     have EZ:=zh J
     have ER:=zh c
     have z:=zh g
     clear g J c
     go_wp2
     go_ret2
     have fq:z2=qf:=by rw[EZ.out,← R.out,i.out,O.out,ERR.out]
     have fr:x=rf:=by rw[←ER.out,← z.out,← S.out,ERR.out]
     exact⟨by rw[←fq,← fr];rfl,rfl⟩
   have t2:=jV f
   have C:Hid (G<H32):=by unfold Hid;omega
   clear f a h
   go_wp2
   go_round
   case rel=>exact⟨p,G,rfl,rfl,C,d⟩
   case measure=>simp[intOf];omega
  have t1:=jV a
  have g5:=fA (Zc0 a B3.out)
  obtain⟨m,D⟩:=yE (q*v0)
  rw[D] at g5
  obtain⟨m2,m3,g6,g7,n⟩:=ZeH hr.out B4.out
  by_cases j:m3<m
  ·have t3:=dI j
   have d:=zh (ZbA (by have:=K.out;omega) (by rw[D,← n];exact j) Q.out)
   have E:0<q:=by
    rcases uI q with e|e
    ·subst e;simp at D;omega
    exact e
   have g1:=iP E L.out
   obtain⟨p,h⟩:=yE (q-1)
   rw[h] at g1 d
   rw[M.out] at d
   have B:p<q:=by omega
   by_cases f:H32≤G
   ·have i:=zh (gF K.out B3.out f d.out)
    have t2:=iW f
    clear f a h B d Q j D n E
    rw[o.out] at i
    have b:Hid (0<Y):=by have:=o.out;have:=K.out;unfold Hid;omega
    obtain⟨H,F⟩:=yE ((U*H32+u1)%Y)
    have t:Hid (H<Y):=by rw[←F];exact uP _ b.out
    obtain⟨a1,a2,a3,x1,x2,x3,x4⟩:=un21 l.out (by rw[←wC];exact iU i.out) (uP _ b.out)
    rw[F] at x4
    have N:Hid (p<H32):=iV b.out (by have:=K.out;rw[o.out] at this;exact this) B4.out i.out
    have O:=i
    clear i
    have ERR:=zh F
    clear F
    have I:Hid (H<W64):=uQ t.out l.out
    have k:Hid (H<v1*H32+v0):=by rw[o.out];exact t.out
    obtain⟨qi,mi,ri,k1,k2,k3,k4,k5,k6⟩:=Zb0 (U:=H) (v1:=v1) (by have:=B1.out;omega) I.out
    have W:=zh (Zb1 (v0:=v0) (u:=u0) (by have:=B1.out;omega) V.out k5 k6)
    clear k5
    go_wp2
    go_loop [16,18] (fun rv qv=>∃ q r:Nat,qv=.int .u64 q∧rv=.int .u64 r∧Hid (r<H32)∧Hid (gQ H32 H v1 v0 u0 q r)) (fun _ qv=>(intOf qv).toNat)
    case atStart=>exact⟨_,_,rfl,rfl,by have:=B2.out;unfold Hid;omega,W⟩
    case round =>
     obtain⟨q,r,rfl,rfl,hr,Q⟩:=hrel
     clear k1 k2 k3 k4 k6 W x1 x2 x3 x4
     have L:Hid (q<W64):=by
      have h1:=Zb2 B1.out I.out Q.out
      unfold Hid;rw[zO];omega
     have b0:Hid (r+v1<W64):=by
      have h1:=hr.out
      have h2:=B2.out
      unfold Hid;rw[zO];rw[wC] at h1 h2;omega
     have g2:=kU b0.out
     obtain⟨G,A⟩:=yE (r+v1)
     rw[A] at g2
     have M:=zh A
     clear A
     by_cases a:H32≤q
     ·have d:=zh (ZeF k.out V.out a Q.out)
      have t1:=iW a
      have g1:=iP (q:=q) (by have:=wC;omega) L.out
      obtain⟨p,h⟩:=yE (q-1)
      rw[h] at g1 d
      rw[M.out] at d
      have B:p<q:=by have:=wC;omega
      by_cases f:H32≤G
      ·have i:=zh (gF k.out B3.out f d.out)
       have t2:=iW f
       clear f a h B d Q
       rw[o.out] at i
       obtain⟨X,Z,a0,y1,y2,y3,y4⟩:=un21 l.out (by rw[←wC];exact iU i.out) (uP _ b.out)
       obtain⟨v,g⟩:=yE ((H*H32+u0)%Y)
       rw[g] at y4
       obtain⟨z1,z2,z4,z5,J⟩:=bE N.out (iV b.out t.out V.out i.out)
       have y5:(v:Int)/2^s=((v/2^s:Nat):Int):=by rw[tD,vI];rfl
       obtain⟨x,c⟩:=yE (v/2^s)
       rw[c] at y5
       have EZ:=zh J
       have ER:=zh c
       have z:=zh g
       clear g J c
       go_wp2
       go_ret2
       have fq:z2=qf:=by rw[EZ.out,← R.out,i.out,O.out,ERR.out]
       have fr:x=rf:=by rw[←ER.out,← z.out,← S.out,ERR.out]
       exact⟨by rw[←fq,← fr];rfl,rfl⟩
      have t2:=jV f
      have C:Hid (G<H32):=by unfold Hid;omega
      clear f a h
      go_wp2
      go_round
      case rel=>exact⟨p,G,rfl,rfl,C,d⟩
      case measure=>simp[intOf];omega
     have t1:=jV a
     have g5:=fA (Zc0 a B3.out)
     obtain⟨m,D⟩:=yE (q*v0)
     rw[D] at g5
     obtain⟨m2,m3,g6,g7,n⟩:=ZeH hr.out V.out
     by_cases j:m3<m
     ·have t3:=dI j
      have d:=zh (ZbA (by have:=k.out;omega) (by rw[D,← n];exact j) Q.out)
      have E:0<q:=by
       rcases uI q with e|e
       ·subst e;simp at D;omega
       exact e
      have g1:=iP E L.out
      obtain⟨p,h⟩:=yE (q-1)
      rw[h] at g1 d
      rw[M.out] at d
      have B:p<q:=by omega
      by_cases f:H32≤G
      ·have i:=zh (gF k.out B3.out f d.out)
       have t2:=iW f
       clear f a h B d Q j D n E
       rw[o.out] at i
       obtain⟨X,Z,a0,y1,y2,y3,y4⟩:=un21 l.out (by rw[←wC];exact iU i.out) (uP _ b.out)
       obtain⟨v,g⟩:=yE ((H*H32+u0)%Y)
       rw[g] at y4
       obtain⟨z1,z2,z4,z5,J⟩:=bE N.out (iV b.out t.out V.out i.out)
       have y5:(v:Int)/2^s=((v/2^s:Nat):Int):=by rw[tD,vI];rfl
       obtain⟨x,c⟩:=yE (v/2^s)
       rw[c] at y5
       have EZ:=zh J
       have ER:=zh c
       have z:=zh g
       clear g J c
       go_wp2
       go_ret2
       have fq:z2=qf:=by rw[EZ.out,← R.out,i.out,O.out,ERR.out]
       have fr:x=rf:=by rw[←ER.out,← z.out,← S.out,ERR.out]
       exact⟨by rw[←fq,← fr];rfl,rfl⟩
      have t2:=jV f
      have C:Hid (G<H32):=by unfold Hid;omega
      clear f a h j D n E
      go_wp2
      go_round
      case rel=>exact⟨p,G,rfl,rfl,C,d⟩
      case measure=>simp[intOf];omega
     have t3:=fS j
     have i:=zh (Zal (by have:=k.out;omega) (by rw[D,← n];omega) Q.out)
     obtain⟨p,rfl⟩:∃ p,p=q:=⟨_,rfl⟩
     clear j D n a Q
     rw[o.out] at i
     obtain⟨X,Z,a0,y1,y2,y3,y4⟩:=un21 l.out (by rw[←wC];exact iU i.out) (uP _ b.out)
     obtain⟨v,g⟩:=yE ((H*H32+u0)%Y)
     rw[g] at y4
     obtain⟨z1,z2,z4,z5,J⟩:=bE N.out (iV b.out t.out V.out i.out)
     have y5:(v:Int)/2^s=((v/2^s:Nat):Int):=by rw[tD,vI];rfl
     obtain⟨x,c⟩:=yE (v/2^s)
     rw[c] at y5
     have EZ:=zh J
     have ER:=zh c
     have z:=zh g
     clear g J c
     go_wp2
     go_ret2
     have fq:z2=qf:=by rw[EZ.out,← R.out,i.out,O.out,ERR.out]
     have fr:x=rf:=by rw[←ER.out,← z.out,← S.out,ERR.out]
     exact⟨by rw[←fq,← fr];rfl,rfl⟩
   have t2:=jV f
   have C:Hid (G<H32):=by unfold Hid;omega
   clear f a h j D n E
   go_wp2
   go_round
   case rel=>exact⟨p,G,rfl,rfl,C,d⟩
   case measure=>simp[intOf];omega
  have t3:=fS j
  have i:=zh (Zal (by have:=K.out;omega) (by rw[D,← n];omega) Q.out)
  obtain⟨p,rfl⟩:∃ p,p=q:=⟨_,rfl⟩
  clear j D n a Q
  rw[o.out] at i
  have b:Hid (0<Y):=by have:=o.out;have:=K.out;unfold Hid;omega
  obtain⟨H,F⟩:=yE ((U*H32+u1)%Y)
  have t:Hid (H<Y):=by rw[←F];exact uP _ b.out
  obtain⟨a1,a2,a3,x1,x2,x3,x4⟩:=un21 l.out (by rw[←wC];exact iU i.out) (uP _ b.out)
  rw[F] at x4
  have N:Hid (p<H32):=iV b.out (by have:=K.out;rw[o.out] at this;exact this) B4.out i.out
  have O:=i
  clear i
  have ERR:=zh F
  clear F
  have I:Hid (H<W64):=uQ t.out l.out
  have k:Hid (H<v1*H32+v0):=by rw[o.out];exact t.out
  obtain⟨qi,mi,ri,k1,k2,k3,k4,k5,k6⟩:=Zb0 (U:=H) (v1:=v1) (by have:=B1.out;omega) I.out
  have W:=zh (Zb1 (v0:=v0) (u:=u0) (by have:=B1.out;omega) V.out k5 k6)
  clear k5
  go_wp2
  go_loop [16,18] (fun rv qv=>∃ q r:Nat,qv=.int .u64 q∧rv=.int .u64 r∧Hid (r<H32)∧Hid (gQ H32 H v1 v0 u0 q r)) (fun _ qv=>(intOf qv).toNat)
  case atStart=>exact⟨_,_,rfl,rfl,by have:=B2.out;unfold Hid;omega,W⟩
  case round =>
   obtain⟨q,r,rfl,rfl,hr,Q⟩:=hrel
   clear k1 k2 k3 k4 k6 W x1 x2 x3 x4
   have L:Hid (q<W64):=by
    have h1:=Zb2 B1.out I.out Q.out
    unfold Hid;rw[zO];omega
   have b0:Hid (r+v1<W64):=by
    have h1:=hr.out
    have h2:=B2.out
    unfold Hid;rw[zO];rw[wC] at h1 h2;omega
   have g2:=kU b0.out
   obtain⟨G,A⟩:=yE (r+v1)
   rw[A] at g2
   have M:=zh A
   clear A
   by_cases a:H32≤q
   ·have d:=zh (ZeF k.out V.out a Q.out)
    have t1:=iW a
    have g1:=iP (q:=q) (by have:=wC;omega) L.out
    obtain⟨p,h⟩:=yE (q-1)
    rw[h] at g1 d
    rw[M.out] at d
    have B:p<q:=by have:=wC;omega
    by_cases f:H32≤G
    ·have i:=zh (gF k.out B3.out f d.out)
     have t2:=iW f
     clear f a h B d Q
     rw[o.out] at i
     obtain⟨X,Z,a0,y1,y2,y3,y4⟩:=un21 l.out (by rw[←wC];exact iU i.out) (uP _ b.out)
     obtain⟨v,g⟩:=yE ((H*H32+u0)%Y)
     rw[g] at y4
     obtain⟨z1,z2,z4,z5,J⟩:=bE N.out (iV b.out t.out V.out i.out)
     have y5:(v:Int)/2^s=((v/2^s:Nat):Int):=by rw[tD,vI];rfl
     obtain⟨x,c⟩:=yE (v/2^s)
     rw[c] at y5
     have EZ:=zh J
     have ER:=zh c
     have z:=zh g
     clear g J c
     go_wp2
     go_ret2
     have fq:z2=qf:=by rw[EZ.out,← R.out,i.out,O.out,ERR.out]
     have fr:x=rf:=by rw[←ER.out,← z.out,← S.out,ERR.out]
     exact⟨by rw[←fq,← fr];rfl,rfl⟩
    have t2:=jV f
    have C:Hid (G<H32):=by unfold Hid;omega
    clear f a h
    go_wp2
    go_round
    case rel=>exact⟨p,G,rfl,rfl,C,d⟩
    case measure=>simp[intOf];omega
   have t1:=jV a
   have g5:=fA (Zc0 a B3.out)
   obtain⟨m,D⟩:=yE (q*v0)
   rw[D] at g5
   obtain⟨m2,m3,g6,g7,n⟩:=ZeH hr.out V.out
   by_cases j:m3<m
   ·have t3:=dI j
    have d:=zh (ZbA (by have:=k.out;omega) (by rw[D,← n];exact j) Q.out)
    have E:0<q:=by
     rcases uI q with e|e
     ·subst e;simp at D;omega
     exact e
    have g1:=iP E L.out
    obtain⟨p,h⟩:=yE (q-1)
    rw[h] at g1 d
    rw[M.out] at d
    have B:p<q:=by omega
    by_cases f:H32≤G
    ·have i:=zh (gF k.out B3.out f d.out)
     have t2:=iW f
     clear f a h B d Q j D n E
     rw[o.out] at i
     obtain⟨X,Z,a0,y1,y2,y3,y4⟩:=un21 l.out (by rw[←wC];exact iU i.out) (uP _ b.out)
     obtain⟨v,g⟩:=yE ((H*H32+u0)%Y)
     rw[g] at y4
     obtain⟨z1,z2,z4,z5,J⟩:=bE N.out (iV b.out t.out V.out i.out)
     have y5:(v:Int)/2^s=((v/2^s:Nat):Int):=by rw[tD,vI];rfl
     obtain⟨x,c⟩:=yE (v/2^s)
     rw[c] at y5
     have EZ:=zh J
     have ER:=zh c
     have z:=zh g
     clear g J c
     go_wp2
     go_ret2
     have fq:z2=qf:=by rw[EZ.out,← R.out,i.out,O.out,ERR.out]
     have fr:x=rf:=by rw[←ER.out,← z.out,← S.out,ERR.out]
     exact⟨by rw[←fq,← fr];rfl,rfl⟩
    have t2:=jV f
    have C:Hid (G<H32):=by unfold Hid;omega
    clear f a h j D n E
    go_wp2
    go_round
    case rel=>exact⟨p,G,rfl,rfl,C,d⟩
    case measure=>simp[intOf];omega
   have t3:=fS j
   have i:=zh (Zal (by have:=k.out;omega) (by rw[D,← n];omega) Q.out)
   obtain⟨p,rfl⟩:∃ p,p=q:=⟨_,rfl⟩
   clear j D n a Q
   rw[o.out] at i
   obtain⟨X,Z,a0,y1,y2,y3,y4⟩:=un21 l.out (by rw[←wC];exact iU i.out) (uP _ b.out)
   obtain⟨v,g⟩:=yE ((H*H32+u0)%Y)
   rw[g] at y4
   obtain⟨z1,z2,z4,z5,J⟩:=bE N.out (iV b.out t.out V.out i.out)
   have y5:(v:Int)/2^s=((v/2^s:Nat):Int):=by rw[tD,vI];rfl
   obtain⟨x,c⟩:=yE (v/2^s)
   rw[c] at y5
   have EZ:=zh J
   have ER:=zh c
   have z:=zh g
   clear g J c
   go_wp2
   go_ret2
   have fq:z2=qf:=by rw[EZ.out,← R.out,i.out,O.out,ERR.out]
   have fr:x=rf:=by rw[←ER.out,← z.out,← S.out,ERR.out]
   exact⟨by rw[←fq,← fr];rfl,rfl⟩
theorem dC {y:Nat}(b:0<y)(a:y<W64):1≤Lib.bitLen y∧Lib.bitLen y≤64∧2^(Lib.bitLen y-1)≤y∧y<2^Lib.bitLen y:=by
 rw[zO] at a
 have h:=Lib.bitLenAux_bounds 64 y (by omega) (by omega)
 exact⟨h.1,Lib.bitLen_le y 64 (by omega) (by omega),h.2.1,h.2.2⟩
noncomputable def divQ (hi lo y:Nat):Nat:=(hi*W64+lo)/y
noncomputable def divR (hi lo y:Nat):Nat:=(hi*W64+lo)%y
theorem Zc1 (hi lo y:Nat):divQ hi lo y*y+divR hi lo y=hi*W64+lo:=by
 unfold divQ divR;rw[uF];exact vO _ _
theorem Zcw (hi lo:Nat){y:Nat}(a:0<y):divR hi lo y<y:=uP _ a
theorem Zg6 {hi lo y:Nat}(h:hi<y)(a:lo<W64):divQ hi lo y<W64:=by
 unfold divQ
 rw[vG (by omega)]
 have:(hi+1)*W64≤y*W64:=uC _ h
 rw[uU] at this
 rw[uF W64]
 omega
theorem Znb (hi lo y:Nat)(w:World)(q:0<hi)(h:hi<y)(n:y<W64)(d:lo<W64) :
 yA 149 #[.int .u64 (hi:Int),.int .u64 (lo:Int),.int .u64 (y:Int)] w fun e w'=>e=.returned (.tuple #[.int .u64 (divQ hi lo y:Nat),.int .u64 (divR hi lo y:Nat)])∧w=w':=by
 obtain⟨z,A,r,t⟩:=dC (y:=y) (by omega) n
 obtain⟨s,B⟩:=yE (64-Lib.bitLen y)
 have i:0<2^s:=uT (by omega)
 have b:y*2^s<W64:=by
  have:y*2^s<2^Lib.bitLen y*2^s:=tF t i
  rw[←uS,show Lib.bitLen y+s=64 by omega] at this
  rw[zO];exact this
 have u:9223372036854775808≤y*2^s:=by
  have:2^(Lib.bitLen y-1)*2^s≤y*2^s:=uC _ r
  rw[←uS,show Lib.bitLen y-1+s=63 by omega] at this
  exact this
 have C:hi*2^s<y*2^s:=tF h i
 have j:lo/2^(64-s)<2^s:=by
  rw[vG (uT (by omega)),← uS,show s+(64-s)=64 by omega]
  rw[zO] at d;exact d
 have k:hi*2^s ||| lo/2^(64-s)=hi*2^s+lo/2^(64-s):=by
  have:=tL j hi
  rw[sK] at this
  exact this.symm
 have f:hi*2^s+lo/2^(64-s)<y*2^s:=by
  have:(hi+1)*2^s≤y*2^s:=uC _ h
  rw[uU] at this
  omega
 have l:y*2^s<18446744073709551616:=by rw[zO] at b;exact b
 have v:lo*2^s%18446744073709551616<18446744073709551616:=uP _ (by omega)
 have g:hi*2^s<18446744073709551616:=by omega
 have a:((2:Int)^s)=((2^s:Nat):Int):=by rw[vI];rfl
 have c:((2:Int)^(64-s))=((2^(64-s):Nat):Int):=by rw[vI];rfl
 have x:=Zkx hi lo s (by omega)
 have o:y*2^s/4294967296*H32+y*2^s%4294967296=y*2^s:=by rw[wC,uF];exact vO _ _
 have p:=ZdR (hi*18446744073709551616+lo) y (2^s) i
 have m:=Zqb (H:=H32) (Y:=y*2^s) (U:=hi*2^s+lo/2^(64-s)) (u1:=lo*2^s%18446744073709551616/4294967296) (u0:=lo*2^s%18446744073709551616%4294967296) (by omega) f (by rw[wC];omega) (by rw[wC];omega)
 rw[wC,← x,p.1] at m
 refine Zma hi lo y s (y*2^s) (y*2^s/4294967296) (y*2^s%4294967296) (hi*2^s) (lo/2^(64-s)) (hi*2^s+lo/2^(64-s)) (lo*2^s%18446744073709551616) (lo*2^s%18446744073709551616/4294967296) (lo*2^s%18446744073709551616%4294967296) _ _ w ?_ ?_ q h n (by omega) (by omega) ⟨?_,?_,?_,?_,?_,?_,?_,?_,?_⟩ (by rw[o];exact f) o (by omega) (by rw[wC];omega) (by rw[wC];omega) (by rw[wC];omega) (by rw[wC];omega)
 ·rw[wC,← m.2.2.2.1,divQ,zO]
 ·rw[wC,← m.2.2.2.2,divR,zO];exact p.2
 ·rw[a,← tB];exact wE _ b
 ·omega
 ·exact M64.maskN _ l
 ·rw[a,← tB];exact M64.wrapN _ g
 ·rw[c,tD]
 ·rw[bits_or_u64_nat _ _ g (by omega),k]
 ·rw[a,← tB];exact M64.wrapM _
 ·omega
 exact M64.maskN _ v
theorem Zkz (lo y q r:Nat)(w:World)(f:0<y)(b:lo/y=q)(c:lo%y=r)(a:lo<W64) :
 yA 149 #[.int .u64 0,.int .u64 (lo:Int),.int .u64 (y:Int)] w fun e w'=>e=.returned (.tuple #[.int .u64 (q:Int),.int .u64 (r:Int)])∧∃ n,w'=w.drewN n:=by
 have g:((y:Int) == 0)=false:=by simp;omega
 have h:(lo:Int)/(y:Int)=(q:Int):=by rw[←tD,b]
 have p2:IntKind.u64.wrap (q:Int)=(q:Int):=wE _ (by have:=uZ lo y;omega)
 have d:(lo:Int)%(y:Int)=(r:Int):=by rw[←pW,c]
 clear b c a
 go_enter Tryz.func149,Tryz.ntmps149
 go_wp2
 go_quiet (fail)
 go_wp2
 go_ret2
 exact⟨by rw[←d];rfl,_,rfl⟩
theorem Zb3 (hi lo y:Nat)(w:World)(c:hi<y)(d:y<W64)(a:lo<W64) :
 yA 149 #[.int .u64 (hi:Int),.int .u64 (lo:Int),.int .u64 (y:Int)] w fun e w'=>e=.returned (.tuple #[.int .u64 (divQ hi lo y:Nat),.int .u64 (divR hi lo y:Nat)])∧∃ n,w'=w.drewN n:=by
 rcases uI hi with b|b
 ·subst b
  refine (Zkz lo y (divQ 0 lo y) (divR 0 lo y) w c (by simp[divQ]) (by simp[divR]) a).mono ?_
  rintro e w' ⟨rfl,f⟩
  exact⟨rfl,f⟩
 refine (Znb hi lo y w b c d a).mono ?_
 rintro e w' ⟨rfl,rfl⟩
 exact⟨rfl,0,rfl⟩
def aW (xs:List Nat) (u k r:Nat):Prop:=r<u∧∃ Q,val W64 (xs.drop k)=Q*u+r
theorem aW.start (xs:List Nat){u:Nat}(a:0<u):aW xs u xs.length 0:=⟨a,0,by rw[uX (uM _)];simp⟩
theorem aW.step {xs:List Nat}{u k r x:Nat}(h:aW xs u (k+1) r)(a:k<xs.length)(b:xs[k]?.getD 0=x):aW xs u k (divR r x u):=by
 obtain⟨d,Q,c⟩:=h
 refine⟨Zcw _ _ (by omega),divQ r x u+W64*Q,?_⟩
 rw[xV k a,b]
 exact Zft W64 _ _ _ _ _ _ _ c (Zc1 r x u).symm
theorem aW.done {xs:List Nat}{u r:Nat}(h:aW xs u 0 r):val W64 xs%u=r:=by
 obtain⟨b,Q,a⟩:=h
 rw[tS] at a
 rw[a,uF,rX,vC b]
theorem fX (A:Option Addr)(xs:List Nat)(n c u:Nat)(w:World)(y:xs.length=n)(o:zF .u64 w A xs)(I:xs.length≤1099511627776)(p:Dig W64 xs)(z:0<u)(d:u<W64) :
 yA 172 #[.slice A n c,.int .u64 (u:Int)] w fun e w'=>e=.returned (.int .u64 ((val W64 xs%u:Nat):Int))∧∃ n,w'=w.drewN n:=by
 subst y
 have B:=zh o
 have C:=zh p
 have D:=zh d
 obtain⟨E,a⟩:=yE (val W64 xs%u)
 rw[a]
 have f:=zh a
 clear o p d a
 go_enter Tryz.func172,Tryz.ntmps172
 go_wp2
 go_loopw [5,6] (fun F i wr=>∃ k r q:Nat,k≤xs.length∧i=.int .i64 ((k:Int)-1)∧F=.int .u64 (r:Int)∧Hid (aW xs u k r)∧Hid (wr=w.drewN q)) (fun _ i _=>(intOf i+1).toNat)
 case atStart=>exact⟨xs.length,0,0,uM _,rfl,rfl,aW.start xs z,rfl⟩
 case round =>
  obtain⟨k,r,q,J,rfl,rfl,g,s⟩:=hrel
  obtain rfl:=s.out
  clear s
  by_cases G:0<k
  ·obtain⟨j,rfl⟩:∃ j,k=j+1:=⟨k-1,by omega⟩
   have t:(((j+1:Nat):Int)-1)=(j:Int):=by omega
   rw[t]
   clear t
   obtain⟨b,H,rfl,_,h⟩:=B.out.at (i:=j) (by omega)
   obtain⟨x,ex⟩:=yE (xs[j]?.getD 0)
   rw[ex] at h
   have l:=zh (g.out.step (by omega) ex)
   have m:Hid (x<W64):=ex ▸ C.out.getD zM j
   clear ex
   go_wp2_with (go_at_call 149;refine (Zb3 _ _ _ _ g.out.1 D.out m.out).mono ?_;rintro e w' ⟨rfl,K,rfl⟩)
   go_roundw
   case rel=>exact⟨j,_,_,by omega,rfl,rfl,l,rfl⟩
   case measure=>simp[intOf]
  obtain rfl:k=0:=by omega
  have v:=zh g.out.done
  rw[f.out] at v
  go_wp2
  go_ret
  exact⟨by rw[v.out];rfl,_,rfl⟩
def bM (xs:List Nat) (u k:Nat) (qs:List Nat) (r:Nat):Prop:=qs.length=xs.length∧Dig W64 qs∧r<u∧val W64 (xs.drop k)=val W64 (qs.drop k)*u+r
theorem bM.start (xs:List Nat){u:Nat}(a:0<u):bM xs u xs.length (List.replicate xs.length 0) 0:=by
 refine⟨by simp,Dig.replicate zM _,a,?_⟩
 rw[uX (uM _),uX (by simp)];simp
theorem bM.step {xs a:List Nat}{u k r x:Nat}(h:bM xs u (k+1) a r)(c:k<xs.length)(e:xs[k]?.getD 0=x)(b:x<W64):bM xs u k (a.set k (divQ r x u)) (divR r x u):=by
 obtain⟨d,f,g,i⟩:=h
 refine⟨by simpa using d,f.set k (Zg6 g b),Zcw _ _ (by omega),?_⟩
 rw[xV k c,e,xV (xs:=a.set k _) k (by simp;omega),vX (by omega)]
 have:(a.set k (divQ r x u))[k]?.getD 0=divQ r x u:=by simp[d,c]
 rw[this]
 exact Zft W64 _ _ _ _ _ _ _ i (Zc1 r x u).symm
theorem bM.done {xs a:List Nat}{u r:Nat}(h:bM xs u 0 a r):val W64 a=val W64 xs/u∧r=val W64 xs%u:=by
 obtain⟨d,e,b,c⟩:=h
 rw[tS,tS] at c
 rw[c,uF,sP (by omega),rX,vC b,tG b]
 exact⟨rfl,rfl⟩
def Zmb (w:World) (q r:Nat) (e:Ending) (w':World):Prop:=∃ v,e=.returned (.tuple #[v,.int .u64 (r:Int)])∧zK w' v q∧Ext w w'
theorem Zg7 (A:Option Addr)(xs:List Nat)(n c u:Nat)(w:World)(Q:xs.length=n)(H:zF .u64 w A xs)(hl:xs.length≤4294967296)(I:Dig W64 xs)(R:0<u)(h:u<W64) :
 yA 221 #[.slice A n c,.int .u64 (u:Int)] w (Zmb w (val W64 xs/u) (val W64 xs%u)):=by
 subst Q
 have S:=zh H
 have T:=zh I
 have U:=zh h
 clear H I h
 go_enter Tryz.func221,Tryz.ntmps221
 go_wp2_with (
  at_make
  refine wO rfl _ _ _ rfl _ _ _ Tryz.underlying76 dB _ _ _ _ xs.length rfl rfl (by omega) (by omega) (by omega) (by omega) ?_
  intro b w1 J l _ m s
  have t:=zh l
  have y:=zh m
  have V:=zh J
  clear l m J s)
 go_loopw [7,8] (fun W i wr=>∃ (k r:Nat) (f:List Nat),k≤xs.length∧i=.int .i64 ((k:Int)-1)∧W=.int .u64 (r:Int)∧Hid (bM xs u k f r)∧Hid (Own .u64 94 wr b f)∧Hid (Ext w wr)) (fun _ i _=>(intOf i+1).toNat)
 case atStart=>exact⟨xs.length,0,_,uM _,rfl,rfl,bM.start xs R,t.out,y.out⟩
 case round =>
  obtain⟨k,r,f,hk,rfl,rfl,g,a,d⟩:=hrel
  by_cases X:0<k
  ·obtain⟨j,rfl⟩:∃ j,k=j+1:=⟨k-1,by omega⟩
   have K:(((j+1:Nat):Int)-1)=(j:Int):=by omega
   rw[K]
   clear K
   obtain⟨b2,L,rfl,_,B⟩:=(S.out.ext d.out).at (i:=j) (by omega)
   obtain⟨x,ex⟩:=yE (xs[j]?.getD 0)
   rw[ex] at B
   have o:Hid (x<W64):=ex ▸ T.out.getD zM j
   have C:=zh (g.out.step (by omega) ex o.out)
   clear ex
   have D:=g.out.1
   have q:j<f.length:=by omega
   have E:=a.out.cell q
   have Y:=a.out.frozen j
   obtain⟨z,M⟩:=yE (f[j]?.getD 0)
   rw[M] at E
   have F:=zh (fun v=>a.out.set j v q)
   clear M D
   go_wp2_with (go_at_call 149;refine (Zb3 _ _ _ _ g.out.2.2.1 U.out o.out).mono ?_;rintro e w' ⟨rfl,n1,rfl⟩)
   go_roundw
   case rel=>exact⟨j,_,_,by omega,rfl,rfl,C,F.out _,(d.out.setCell (p:=⟨b,j,none⟩) (Or.inr (by have:=V.out;show w.heap.size≤b;omega)) _).drewN _⟩
   case measure=>simp[intOf]
  obtain rfl:k=0:=by omega
  have G:=g.out.done
  have N:=g.out.1
  have O:=zh (eO _ f xs.length xs.length wr N a.out.shows0 (by omega) (by omega))
  have P:=zh (zK.of_own (c:=xs.length) a.out g.out.2.1 (by omega))
  rw[G.1] at P
  have Z:=zh G.2
  clear N G
  go_wp2_with fail
  refine O.out.mono ?_
  rintro e w2 ⟨rfl,rfl⟩
  clear O
  go_wp2
  go_ret2
  exact⟨_,by rw[←Z.out];rfl,P.out,d.out⟩
theorem jE {t:Nat}(a:t≤63):2^(64-t)*2^t=W64:=by
 rw[←uS,show 64-t+t=64 by omega,zO]
theorem Znd {x t:Nat}(a:t≤63):x*2^t=x*2^t%W64+W64*(x/2^(64-t)):=by
 have h:=tR (x*2^t) W64
 have:x*2^t/W64=x/2^(64-t):=by
  rw[←jE a,rL _ _ (uT (by omega))]
 rw[this] at h
 exact h.symm
theorem Zne {h x t:Nat}(a:h<2^t)(b:t≤63):h ||| x*2^t%W64=h+x*2^t%W64:=by
 have e:x*2^t%W64=(x%2^(64-t)) <<< t:=by
  rw[sK,← jE b,sM]
 rw[e,Nat.or_comm,← tL a,vL]
theorem Zan (x t:Nat):IntKind.u64.wrap ((x:Int)*2^t)=((x*2^t%W64:Nat):Int):=by
 have a:((2:Int)^t)=((2^t:Nat):Int):=by rw[vI];rfl
 rw[a,← tB,zO]
 exact M64.wrapM _
theorem ZbC (x t:Nat):(x:Int)/2^t=((x/2^t:Nat):Int):=by
 have a:((2:Int)^t)=((2^t:Nat):Int):=by rw[vI];rfl
 rw[a,tD]
theorem bN {a b:Nat}(ha:a<W64)(c:b<W64):bits .or .u64 (a:Int) (b:Int)=((a ||| b:Nat):Int):=by
 rw[zO] at ha c
 exact bits_or_u64_nat a b ha c
def cE (xs:List Nat) (skip t k:Nat) (zs:List Nat):Prop :=
 zs.length=xs.length+skip+1∧Dig W64 zs∧val W64 (zs.take (k+skip+1))=val W64 (xs.take k)*2^(64*skip+t)∧(zs[k+skip]?.getD 0)<2^t
theorem cE.start (xs:List Nat)(a t:Nat):cE xs a t 0 (List.replicate (xs.length+a+1) 0):=by
 refine⟨by simp,Dig.replicate zM _,?_,?_⟩
 ·rw[List.take_replicate,kS];simp
 have:((List.replicate (xs.length+a+1) 0)[0+a]?.getD 0)=0:=by
  rw[List.getElem?_replicate];split<;>rfl
 rw[this];exact uT (by omega)
theorem cE.step {xs f:List Nat}{a t k h x:Nat}(l:cE xs a t k f)(i:t≤63)(m:k<xs.length)(j:f[k+a]?.getD 0=h)(n:xs[k]?.getD 0=x)(b:x<W64) :
 cE xs a t (k+1) ((f.set (k+a) (h+x*2^t%W64)).set (k+a+1) (x/2^(64-t)))∧h+x*2^t%W64<W64:=by
 obtain⟨o,p,q,r⟩:=l
 rw[j] at r
 have c:h+x*2^t%W64<W64:=by
  rw[←jE i,sM]
  have:x%2^(64-t)<2^(64-t):=uP _ (uT (by omega))
  have s:(x%2^(64-t)+1)*2^t≤2^(64-t)*2^t:=uC _ this
  rw[uU] at s
  omega
 have g:x/2^(64-t)<2^t:=by
  rw[vG (uT (by omega)),← uS,show t+(64-t)=64 by omega]
  rw[zO] at b;exact b
 have d:x/2^(64-t)<W64:=vE (uZ _ _) b
 refine⟨⟨by simpa using o,(p.set _ c).set _ d,?_,?_⟩,c⟩
 ·rw[show k+1+a+1=(k+a+1)+1 by omega,xL _ _ _ _ (by simp;omega),xL _ _ _ _ (by omega),zR k m,n,uU,← q,zR (k+a) (by omega),j]
  have e:=Znd (x:=x) i
  have u:W64^k*x*2^(64*a+t)=W64^(k+a)*(x*2^t):=by
   rw[uS 2,← bD,uS]
   simp only[uG,vU]
  rw[u]
  have v:=vP (W64^(k+a) * ·) e
  simp only[uN] at v
  rw[uN,uO,uG]
  omega
 have:((f.set (k+a) (h+x*2^t%W64)).set (k+a+1) (x/2^(64-t)))[k+1+a]?.getD 0=x/2^(64-t):=by
  rw[show k+1+a=k+a+1 by omega,List.getElem?_set_self (by simp;omega)]
  rfl
 rw[this];exact g
theorem cE.done {xs b:List Nat}{a t:Nat}(h:cE xs a t xs.length b):val W64 b=val W64 xs*2^(64*a+t):=by
 obtain⟨d,e,c,f⟩:=h
 rw[uA (by omega),uA (by omega)] at c
 exact c
theorem Zg8 (A:Option Addr)(xs:List Nat)(n c s f t:Nat)(w:World)(hn:xs.length=n)(V:zF .u64 w A xs)(W:xs.length≤c)(hl:xs.length≤4294967296)(X:Dig W64 xs)(Y:Trim xs)(I:s=64*f+t)(Z:t≤63)(hk:f≤4294967296) :
 yA 215 #[.slice A n c,.int .u64 (s:Int)] w (wW w (val W64 xs*2^s)):=by
 subst hn
 have J:=zh V
 have K:=zh X
 have Tx:=zh Y
 have HS:=zh I
 clear V X Y
 by_cases h0:xs.length=0
 ·obtain rfl:xs=[]:=tI.1 h0
  clear I
  go_enter Tryz.func215,Tryz.ntmps215
  go_wp2
  go_ret
  exact⟨_,rfl,⟨A,[],c,rfl,W,J.out,K.out,Tx.out,by simp⟩,Fr.refl _ _⟩
 have L:(((xs.length:Nat):Int) == 0)=false:=by simp;intro e;simp[e] at h0
 by_cases h1:s=0
 ·subst h1
  clear I
  go_enter Tryz.func215,Tryz.ntmps215
  go_wp2
  go_ret
  exact⟨_,rfl,⟨A,xs,c,rfl,W,J.out,K.out,Tx.out,by simp⟩,Fr.refl _ _⟩
 have M:((s:Int) == 0)=false:=by simp;omega
 have p1:(s:Int)/64=(f:Int):=by omega
 have p2:(s:Int)%64=(t:Int):=by omega
 clear I h1
 go_enter Tryz.func215,Tryz.ntmps215
 go_wp2_with (
  at_make
  refine wO rfl _ _ _ rfl _ _ _ Tryz.underlying76 dB _ _ _ _ (xs.length+f+1) rfl rfl (by omega) (by omega) (by omega) (by omega) ?_
  intro b w1 hb y _ z N
  have O:=zh y
  have P:=zh z
  have Hb:=zh hb
  clear y z hb N)
 go_loopw [31] (fun i wr=>∃ (k:Nat) (q:List Nat),k≤xs.length∧i=.int .i64 (k:Int)∧Hid (cE xs f t k q)∧Hid (Own .u64 94 wr b q)∧Hid (Ext w wr)) (fun i _=>xs.length-(intOf i).toNat)
 case atStart=>exact⟨0,_,by omega,rfl,cE.start xs f t,O.out,P.out⟩
 case round =>
  obtain⟨k,q,b0,rfl,r,j,u⟩:=hrel
  clear p1 p2 L M
  by_cases B:k<xs.length
  ·obtain⟨b2,a0,rfl,_,Q⟩:=(J.out.ext u.out).at B
   obtain⟨x,ex⟩:=yE (xs[k]?.getD 0)
   obtain⟨h,C⟩:=yE (q[k+f]?.getD 0)
   rw[ex] at Q
   have R:Hid (x<W64):=ex ▸ K.out.getD zM k
   obtain⟨D,E⟩:=r.out.step Z B C ex R.out
   have l:=zh D
   have S:q.length=xs.length+f+1:=r.out.1
   have T:=j.out.cell (i:=k+f) (by omega)
   have c0:=j.out.frozen (k+f)
   rw[C] at T
   have m:=j.out.set (k+f) (h+x*2^t%W64) (by omega)
   have v:=m.cell (i:=k+f+1) (by simp;omega)
   have F:=m.frozen (k+f+1)
   obtain⟨g,eg⟩:=yE ((q.set (k+f) (h+x*2^t%W64))[k+f+1]?.getD 0)
   rw[eg] at v
   have o:=zh (m.set (k+f+1) (x/2^(64-t)) (by simp;omega))
   have q1:=Zan x t
   have U:=bN (a:=h) (b:=x*2^t%W64) (C ▸ r.out.2.1.getD zM _) (uP _ zM)
   rw[Zne (C ▸ r.out.2.2.2) Z] at U
   have q3:=ZbC x (64-t)
   obtain⟨lo,G⟩:=yE (x*2^t%W64)
   obtain⟨hi,H⟩:=yE (x/2^(64-t))
   rw[G] at q1 U v F l o
   rw[H] at q3 l o
   obtain⟨d,ed⟩:=yE (h+lo)
   rw[ed] at U v F l o
   clear ex C D E S m eg G H ed
   go_wp2
   go_roundw
   case rel=>exact⟨k+1,_,by omega,by go_num,l,o.out,(u.out.setCell (p:=⟨b,k+f,none⟩) (Or.inr (by have:=Hb.out;show w.heap.size≤b;omega)) _).setCell (p:=⟨b,k+f+1,none⟩) (Or.inr (by have:=Hb.out;show w.heap.size≤b;omega)) _⟩
   case measure=>simp[intOf];omega
  obtain rfl:k=xs.length:=by omega
  have hz:=r.out.1
  have HT:=zh (eO _ q (xs.length+f+1) (xs.length+f+1) wr hz j.out.shows0 (by omega) (by omega))
  have HN:=zh (zK.of_own (c:=xs.length+f+1) j.out r.out.2.1 (by omega))
  rw[r.out.done,← HS.out] at HN
  clear hz
  go_wp2_with fail
  refine HT.out.mono ?_
  rintro e w2 ⟨rfl,rfl⟩
  clear HT
  go_wp2
  go_ret
  exact⟨_,rfl,HN.out,u.out⟩
theorem ZdC (a:Value)(x s:Nat)(w:World)(f:zK w a x)(b:wl x≤4294967296)(j:s≤274877906944):yA 215 #[a,.int .u64 (s:Int)] w (wW w (x*2^s)):=by
 obtain⟨A,g,c,rfl,h,i,d,e,rfl⟩:=f
 rw[←xR d e] at b
 exact Zg8 A g _ c s (s/64) (s%64) w rfl i h b d e (by omega) (by omega) (by omega)
def cF (ys:List Nat) (t k:Nat) (zs:List Nat):Prop :=
 zs.length=ys.length∧Dig W64 zs∧2^t*val W64 (zs.take k)+(ys[0]?.getD 0)%2^t=val W64 (ys.take k)+W64^k*((ys[k]?.getD 0)%2^t)
theorem cF.start (ys:List Nat)(t:Nat):cF ys t 0 (List.replicate ys.length 0):=by
 refine⟨by simp,Dig.replicate zM _,?_⟩
 simp
theorem Zqe {y t:Nat}(a:t≤63):y*2^(64-t)%W64=y%2^t*2^(64-t):=by
 rw[←jE a,uF (2^(64-t)),sM]
theorem Znf {x y t:Nat}(b:t≤63)(c:x<W64):x/2^t ||| y*2^(64-t)%W64=x/2^t+y%2^t*2^(64-t):=by
 have a:x/2^t<2^(64-t):=by
  rw[vG (uT (by omega)),jE b];exact c
 rw[Zqe b,← sK,Nat.or_comm,← tL a,vL]
theorem cF.step {ys f:List Nat}{t k x y:Nat}(h:cF ys t k f)(a:t≤63)(j:k<ys.length)(g:ys[k]?.getD 0=x)(l:ys[k+1]?.getD 0=y)(b:x<W64) :
 cF ys t (k+1) (f.set k (x/2^t+y%2^t*2^(64-t))):=by
 obtain⟨m,n,o⟩:=h
 have c:x/2^t+y%2^t*2^(64-t)<W64:=by
  have i:x/2^t<2^(64-t):=by
   rw[vG (uT (by omega)),jE a];exact b
  have d:y%2^t<2^t:=uP _ (uT (by omega))
  have e:(y%2^t+1)*2^(64-t)≤2^t*2^(64-t):=uC _ d
  rw[uF (2^t),jE a,uU] at e
  omega
 refine⟨by simpa using m,n.set k c,?_⟩
 rw[xL _ _ _ _ (by omega),zR k j,g,l]
 rw[g] at o
 have i:=vO x (2^t)
 have d:2^t*(y%2^t*2^(64-t))=W64*(y%2^t):=by
  rw[←jE a]
  simp only[uF,vU]
 have e:=vP (W64^k * ·) i
 simp only[uN] at e
 rw[uN,vU (2^t),uN (2^t),d,uN,uO,uG (W64^k) W64]
 omega
theorem cF.done {ys b:List Nat}{t:Nat}(h:cF ys t ys.length b):val W64 b=val W64 ys/2^t:=by
 obtain⟨c,d,a⟩:=h
 rw[uA (by omega),uA (by omega),List.getElem?_eq_none (uM _)] at a
 simp only[Option.getD_none,Nat.zero_mod,tK,tA] at a
 rw[←a,sP (uT (by omega)),tG (uP _ (uT (by omega))),tA]
theorem Zg9 (xs:List Nat)(a t:Nat)(c:Dig W64 xs)(b:a≤xs.length):val W64 (xs.drop a)/2^t=val W64 xs/2^(64*a+t):=by
 rw[uS,← bD,← sA]
 congr 1
 rw[xU (xs:=xs) a,uV b,vL,sP (uT zM)]
 have h:=xZ (c.take a)
 rw[uY,uV b] at h
 rw[tG h,tA]
theorem Zfv {xs:List Nat}{s:Nat}(a:Dig W64 xs)(h:xs.length≤s/64):val W64 xs/2^s=0:=by
 refine tG (uQ (xZ a) ?_)
 rw[bD]
 exact uR (by omega) (by omega)
theorem Zf4 (A:Option Addr)(xs:List Nat)(n c s skip t:Nat)(w:World)(hn:xs.length=n)(hX:zF .u64 w A xs)(hl:xs.length≤4294967296)(hd:Dig W64 xs)(R:s=64*skip+t)(S:t≤63)(hk:skip≤4294967296) :
 yA 220 #[.slice A n c,.int .u64 (s:Int)] w (wW w (val W64 xs/2^s)):=by
 subst hn
 have T:=zh hX
 have U:=zh hd
 have HS:=zh R
 have p1:(s:Int)/64=(skip:Int):=by omega
 have p2:(s:Int)%64=(t:Int):=by omega
 clear hX hd
 by_cases h0:xs.length≤skip
 ·have HZ:=zh (Zfv (s:=s) U.out (by omega))
  clear R
  go_enter Tryz.func220,Tryz.ntmps220
  go_wp2
  go_ret
  exact⟨_,rfl,by rw[HZ.out];exact zK.zero _,Fr.refl _ _⟩
 clear R
 go_enter Tryz.func220,Tryz.ntmps220
 go_wp2_with (
  at_make
  refine wO rfl _ _ _ rfl _ _ _ Tryz.underlying76 dB _ _ _ _ (xs.length-skip) rfl rfl (by omega) (by omega) (by omega) (by omega) ?_
  intro b w1 hb H _ I V
  have W:=zh H
  have X:=zh I
  have O:=zh hb
  clear H I hb V)
 have f:Hid ((xs.drop skip).length=xs.length-skip):=by unfold Hid;simp
 go_loopw [27] (fun i wr=>∃ (k:Nat) (q:List Nat),k≤xs.length-skip∧i=.int .i64 (k:Int)∧Hid (cF (xs.drop skip) t k q)∧Hid (Own .u64 94 wr b q)∧Hid (Ext w wr)) (fun i _=>xs.length-skip-(intOf i).toNat)
 case atStart=>exact⟨0,_,by omega,rfl,cF.start _ t,by rw[f.out];exact W.out,X.out⟩
 case round =>
  obtain⟨k,q,j0,rfl,G,g,l⟩:=hrel
  clear p1 p2
  by_cases r:k<xs.length-skip
  ·obtain⟨b2,J,rfl,_,K⟩:=(T.out.ext l.out).at (i:=k+skip) (by omega)
   obtain⟨x,ex⟩:=yE (xs[k+skip]?.getD 0)
   rw[ex] at K
   have u:Hid (x<W64):=ex ▸ U.out.getD zM _
   have v:(xs.drop skip)[k]?.getD 0=x:=by rw[List.getElem?_drop,vL];exact ex
   have L:q.length=xs.length-skip:=by rw[←f.out];exact G.out.1
   have h:k<q.length:=by omega
   have M:=g.out.cell h
   have Y:=g.out.frozen k
   obtain⟨z0,C⟩:=yE (q[k]?.getD 0)
   rw[C] at M
   have q3:=ZbC x t
   by_cases D:k+skip+1<xs.length
   ·obtain⟨b3,g0,Z,_,E⟩:=(T.out.ext l.out).at (i:=k+skip+1) D
    injection Z with Z
    injection Z with e31 e32
    subst e31 e32
    obtain⟨y,ey⟩:=yE (xs[k+skip+1]?.getD 0)
    rw[ey] at E
    have m:(xs.drop skip)[k+1]?.getD 0=y:=by rw[List.getElem?_drop,show skip+(k+1)=k+skip+1 by omega];exact ey
    have j:=zh (G.out.step S (by rw[f.out];exact r) v m u.out)
    have q1:=Zan y (64-t)
    have P:=bN (a:=x/2^t) (b:=y*2^(64-t)%W64) (vE (uZ _ _) u.out) (uP _ zM)
    rw[Znf S u.out] at P
    obtain⟨B,o⟩:=yE (x/2^t)
    obtain⟨hi,N⟩:=yE (y*2^(64-t)%W64)
    obtain⟨d,ed⟩:=yE (x/2^t+y%2^t*2^(64-t))
    rw[ed] at P j
    rw[o] at P q3
    rw[N] at q1 P
    have z:=g.out.set k B h
    have k0:=z.frozen k
    have a0:=z.cell (i:=k) (by simpa using h)
    have e4:(q.set k B)[k]?.getD 0=B:=by rw[List.getElem?_set_self h];rfl
    rw[e4] at a0
    have b0:=zh (z.set k d (by simpa using h))
    have i0:(wr.setCell ⟨b,k,none⟩ (.int .u64 (B:Int))).cell? ⟨b2,J+(k+skip+1),none⟩=some (.int .u64 (y:Int)):=by
     rw[World.cell?_setCell_other _ _ _ _ (by intro e;injection e with e;have:=O.out;obtain⟨b',o',Q,l0,_⟩:=T.out (by intro e0;rw[e0] at r;simp at r);injection Q with Q;injection Q with Q;omega)]
     exact E
    clear ex v ey m C o N ed L z e4
    have c0:=zh (l.out.setCell (p:=⟨b,k,none⟩) (Or.inr (by have:=O.out;show w.heap.size≤b;omega)) (.int .u64 (B:Int)))
    go_wp2
    clear E K
    generalize d0:wr.setCell ⟨b,k,none⟩ (.int .u64 (B:Int))=wq at *
    clear d0 M Y
    go_region
    all_goals
     go_wp2
     go_roundw
     case rel=>exact⟨k+1,_,by omega,by go_num,j,by have:=b0.out;rw[List.set_set] at this;exact this.drewN _,(c0.out.setCell (p:=⟨b,k,none⟩) (Or.inr (by have:=O.out;show w.heap.size≤b;omega)) _).drewN _⟩
     case measure=>simp[intOf];omega
   have m:(xs.drop skip)[k+1]?.getD 0=0:=by rw[List.getElem?_drop,List.getElem?_eq_none (by omega)];rfl
   have j:=zh (G.out.step S (by rw[f.out];exact r) v m u.out)
   rw[Nat.zero_mod,sI,tA] at j
   obtain⟨B,o⟩:=yE (x/2^t)
   rw[o] at q3 j
   have f0:=zh (g.out.set k B h)
   clear ex v m C o L
   go_wp2
   go_roundw
   case rel=>exact⟨k+1,_,by omega,by go_num,j,f0.out,l.out.setCell (p:=⟨b,k,none⟩) (Or.inr (by have:=O.out;show w.heap.size≤b;omega)) _⟩
   case measure=>simp[intOf];omega
  obtain rfl:k=xs.length-skip:=by omega
  have hz:q.length=xs.length-skip:=by rw[←f.out];exact G.out.1
  have HT:=zh (eO _ q (xs.length-skip) (xs.length-skip) wr hz g.out.shows0 (by omega) (by omega))
  have HN:=zh (zK.of_own (c:=xs.length-skip) g.out G.out.2.1 (by omega))
  have F:=G.out
  rw[←f.out] at F
  rw[F.done,Zg9 xs skip t U.out (by omega),← HS.out] at HN
  clear hz F
  go_wp2_with fail
  refine HT.out.mono ?_
  rintro e w2 ⟨rfl,rfl⟩
  clear HT
  go_wp2
  go_ret
  exact⟨_,rfl,HN.out,l.out⟩
theorem Zha (a:Value)(x s:Nat)(w:World)(e:zK w a x)(b:wl x≤4294967296)(i:s≤274877906944):yA 220 #[a,.int .u64 (s:Int)] w (wW w (x/2^s)):=by
 obtain⟨A,f,c,rfl,j,g,d,h,rfl⟩:=e
 rw[←xR d h] at b
 exact Zf4 A f _ c s (s/64) (s%64) w rfl g b d (by omega) (by omega) (by omega)
theorem top2 {B:Nat}{a:List Nat}{n:Nat}(h:a.length=n+2):val B a=val B (a.take n)+B^n*((a[n]?.getD 0)+B*(a[n+1]?.getD 0)):=by
 rw[xU (xs:=a) n,xV n (by omega),xV (n+1) (by omega),uX (by omega:a.length≤n+1+1),uV (by omega)]
 simp
theorem top3 {B:Nat}{a:List Nat}{n:Nat}(h:a.length=n+3):val B a=val B (a.take n)+B^n*((a[n]?.getD 0)+B*((a[n+1]?.getD 0)+B*(a[n+2]?.getD 0))):=by
 rw[xU (xs:=a) n,xV n (by omega),xV (n+1) (by omega),xV (n+2) (by omega),uX (by omega:a.length≤n+2+1),uV (by omega)]
 simp
def eC (u v d:Nat):Prop:=d*v≤u+v∧u<(d+1)*v
theorem Zb5 (a:Nat){b:Nat}(c:0<b):a<(a/b+1)*b:=by
 have d:=vO a b
 have e:=uP a c
 rw[uU,uF (a/b)]
 omega
theorem Zni {B:Nat}{c b:List Nat}{n a v1:Nat}(o:2≤B)(p:b.length=n+2)(q:c.length=n+3)(g:Dig B b)(h:c[n+2]?.getD 0=a)(i:b[n+1]?.getD 0=v1)(d:v1≤a)(e:B≤2*v1)(j:val B c<val B b*B) :
 eC (val B c) (val B b) (B-1):=by
 have k:val B b=val B (b.take (n+1))+B^(n+1)*v1:=by
  have:=zR (B:=B) (xs:=b) (n+1) (by omega)
  rw[uA (by omega),i] at this
  exact this
 have r:val B c=val B (c.take (n+2))+B^(n+2)*a:=by
  have:=zR (B:=B) (xs:=c) (n+2) (by omega)
  rw[uA (by omega),h] at this
  exact this
 have f:=xZ (g.take (n+1))
 rw[uY,uV (by omega)] at f
 obtain⟨C,rfl⟩:∃ C,B=C+2:=⟨B-2,by omega⟩
 refine⟨?_,by rw[show C+2-1+1=C+2 by omega,uF];exact j⟩
 have l:val (C+2) b≤(C+2)^(n+1)*(v1+1):=by rw[k,uN];omega
 have s:C*val (C+2) b≤C*((C+2)^(n+1)*(v1+1)):=uK C l
 have t:C*((C+2)^(n+1)*(v1+1))=(C+2)^(n+1)*(C*(v1+1)):=vU _ _ _
 have m:C*(v1+1)≤(C+2)*v1:=by rw[uN,uU];omega
 have u:(C+2)^(n+1)*(C*(v1+1))≤(C+2)^(n+1)*((C+2)*v1):=uK _ m
 have v:(C+2)^(n+2)*v1=(C+2)^(n+1)*((C+2)*v1):=by rw[uO,uG]
 have w:(C+2)^(n+2)*v1≤(C+2)^(n+2)*a:=uK _ d
 rw[show C+2-1=C+1 by omega,uU,sV]
 omega
theorem Znj {B:Nat}{c d:List Nat}{n a b c0 v1 v0:Nat}(k:0<B)(o:d.length=n+2)(p:c.length=n+3)(q:Dig B d)(g:Dig B c)(r:c[n+2]?.getD 0=a)(l:c[n+1]?.getD 0=b)(m:c[n]?.getD 0=c0)(s:d[n+1]?.getD 0=v1)(t:d[n]?.getD 0=v0)(h:a<v1) :
 eC (val B c) (val B d) (((a*B+b)*B+c0)/(v1*B+v0)):=by
 have y:b<B:=l ▸ g.getD k _
 have z:c0<B:=m ▸ g.getD k _
 have A:a*B+b<v1*B:=by
  have:(a+1)*B≤v1*B:=uC B h
  rw[uU] at this;omega
 have u:((a*B+b)*B+c0)/(v1*B+v0)<B:=by
  rw[vG (by omega)]
  have:(a*B+b+1)*B≤(v1*B+v0)*B:=uC B (by omega)
  rw[uU (a*B+b)] at this
  rw[uF B]
  omega
 have i:B≤v1*B+v0:=by
  have:1*B≤v1*B:=uC B (by omega)
  omega
 have v:=rZ ((a*B+b)*B+c0) (v1*B+v0)
 have j:(a*B+b)*B+c0<(((a*B+b)*B+c0)/(v1*B+v0)+1)*(v1*B+v0):=Zb5 _ (by omega)
 have e:=xZ (q.take n)
 have f:=xZ (g.take n)
 rw[uY,uV (by omega)] at e f
 have w:val B d=(v1*B+v0)*B^n+val B (d.take n):=by
  rw[top2 o,s,t,vL,uF (B^n),uF B v1,vL v0]
 have x:val B c=((a*B+b)*B+c0)*B^n+val B (c.take n):=by
  rw[top3 p,r,l,m,vL,uF (B^n),vL c0,uF B,vL b,uF B a]
 rw[w,x]
 exact⟨Zm8 _ _ _ _ _ _ B e u (uC _ i) v,ZdP _ _ _ _ _ _ f j⟩
theorem Znk {P:Program}{f:FuncId}{args:Array Value}{w:World}{a n:Nat}{v:Value}(h:Calls P f args (w.drewN (a+n)) fun e w'=>e=.returned v∧∃ m,w'=(w.drewN (a+n)).drewN m) :
 Calls P f args (w.drewN (a+n)) fun e b=>e=.returned v∧∃ m,b=w.drewN (a+m) :=
 h.mono fun _ _ ⟨c,m,d⟩=>⟨c,n+m,by rw[d,World.drewN_drewN,tO]⟩
theorem Zmf {H U v1 v0 u a ri:Nat}(c:0<H)(b:0<v1)(f:u<H)(h:a*v1+ri=U)(g:ri<v1):gQ H U v1 v0 u a ri:=by
 refine⟨h,?_⟩
 have i:0<v1*H:=tV b c
 rw[←Nat.lt_succ_iff,vG (by omega)]
 have d:U<(a+1)*v1:=by rw[uU];omega
 have e:(U+1)*H≤(a+1)*v1*H:=uC _ d
 rw[pF,uN,← uG]
 rw[uU U] at e
 omega
theorem ZoV {p q rest c0:Nat}(c:xE p q<W64)(d:c0<W64):(wI p q<rest∨wI p q=rest∧xE p q≤c0)↔p*q≤W64*rest+c0:=by
 have h:=dY p q
 constructor
 ·rintro (b|⟨b,a⟩)
  ·have:W64*(wI p q+1)≤W64*rest:=uK _ b
   rw[uN] at this
   omega
  rw[b] at h;omega
 intro b
 rcases rW (wI p q) rest with a|a|a
 ·exact Or.inl a
 ·exact Or.inr ⟨a,by rw[a] at h;omega⟩
 have:W64*(rest+1)≤W64*wI p q:=uK _ a
 rw[uN] at this
 omega
def Zqh (u v:Nat) (w:World) (e:Ending) (w':World):Prop:=∃ d:Nat,e=.returned (.int .u64 (d:Int))∧d<W64∧eC u v d∧∃ n,w'=w.drewN n
theorem Zjf (A A2:Option Addr)(K L:List Nat)(n m c c2 k:Nat)(w:World)(hn:K.length=n)(hm:L.length=m)(P:zF .u64 w A K)(hV:zF .u64 w A2 L)(hk:L.length=k+2)(M:K.length=k+3)(hl:k≤1099511627776)(dw:Dig W64 K)(dv:Dig W64 L)(j:W64≤2*(L[k+1]?.getD 0))(hu:val W64 K<val W64 L*W64) :
 yA 222 #[.slice A n c,.slice A2 m c2] w (Zqh (val W64 K) (val W64 L) w):=by
 obtain⟨b1,o1,rfl,_,c0⟩:=P.at (i:=k+2) (by omega)
 obtain⟨d0,f0,s,_,g0⟩:=P.at (i:=k+1) (by omega)
 injection s with s;injection s with f1 f2;subst f1 f2
 obtain⟨d0,f0,s,_,h0⟩:=P.at (i:=k) (by omega)
 injection s with s;injection s with f1 f2;subst f1 f2
 obtain⟨b2,o2,rfl,_,i0⟩:=hV.at (i:=k+1) (by omega)
 obtain⟨q0,r0,U,_,j0⟩:=hV.at (i:=k) (by omega)
 injection U with U;injection U with f1 f2;subst f1 f2
 obtain⟨a,ea⟩:=yE (K[k+2]?.getD 0)
 obtain⟨R,eb⟩:=yE (K[k+1]?.getD 0)
 obtain⟨C,ec⟩:=yE (K[k]?.getD 0)
 obtain⟨v1,e1⟩:=yE (L[k+1]?.getD 0)
 obtain⟨v0,e0⟩:=yE (L[k]?.getD 0)
 rw[ea] at c0
 rw[eb] at g0
 rw[ec] at h0
 rw[e1] at i0 j
 rw[e0] at j0
 have s0:Hid (a<W64):=ea ▸ dw.getD zM _
 have V:Hid (R<W64):=eb ▸ dw.getD zM _
 have S:Hid (C<W64):=ec ▸ dw.getD zM _
 have B:Hid (v1<W64):=e1 ▸ dv.getD zM _
 have D:Hid (v0<W64):=e0 ▸ dv.getD zM _
 obtain rfl:m=k+2:=by omega
 obtain rfl:n=k+3:=by omega
 by_cases k0:v1≤a
 ·have HD:=zh (Zni Zlj hk M dv ea e1 k0 j hu)
  clear P hV dw dv j hu ea eb ec e1 e0 hn hm hk M
  go_enter Tryz.func222,Tryz.ntmps222
  go_wp2
  have g3:IntKind.i64.wrap ((k:Int)+2-1)=(k:Int)+1:=by rw[IntKind.wrap_i64];omega
  have g4:IntKind.i64.wrap ((k:Int)+2-2)=(k:Int):=by rw[IntKind.wrap_i64];omega
  have g5:(0:Int)≤(k:Int)+1:=by omega
  have g6:((k:Int)+1).toNat=k+1:=by omega
  have g7:(k:Int)+1<(k:Int)+2:=by omega
  have g8:(k:Int)<(k:Int)+2:=by omega
  go_quiet (fail)
  clear g3 g4 g5 g6 g7 g8
  go_wp2
  go_ret
  exact⟨W64-1,by rw[show (((W64-1:Nat):Int))=18446744073709551615 by rw[zO];rfl];rfl,by have:=zM;omega,HD.out,_,rfl⟩
 have HD:=zh (Znj zM hk M dv dw ea eb ec e1 e0 (by omega))
 have W:a<v1:=by omega
 have hU:Hid (a*W64+R<v1*W64+v0):=by
  have:(a+1)*W64≤v1*W64:=uC _ W
  rw[uU] at this
  have:=V.out
  unfold Hid;omega
 have T:Hid (0<v1*W64+v0):=by have:=hU.out;unfold Hid;omega
 have HE:=zh (Zmf (v0:=v0) (u:=C) zM (by omega) S.out (Zc1 a R v1) (Zcw _ _ (by omega)))
 have l0:Hid (divQ a R v1<W64):=Zg6 W V.out
 have m0:Hid (divR a R v1<W64):=qF (Zcw _ _ (by omega)) B.out
 clear P hV dw dv j hu ea eb ec e1 e0 hn hm hk M
 go_enter Tryz.func222,Tryz.ntmps222
 go_wp2
 have g3:IntKind.i64.wrap ((k:Int)+2-1)=(k:Int)+1:=by rw[IntKind.wrap_i64];omega
 have g4:IntKind.i64.wrap ((k:Int)+2-2)=(k:Int):=by rw[IntKind.wrap_i64];omega
 have g5:(0:Int)≤(k:Int)+1:=by omega
 have g6:((k:Int)+1).toNat=k+1:=by omega
 have g7:(k:Int)+1<(k:Int)+2:=by omega
 have g8:(k:Int)<(k:Int)+2:=by omega
 go_quiet (fail)
 clear g3 g4 g5 g6 g7 g8
 go_wp2
 have g3:IntKind.i64.wrap ((k:Int)+2-1)=(k:Int)+1:=by rw[IntKind.wrap_i64];omega
 have g5:(0:Int)≤(k:Int)+1:=by omega
 have g6:((k:Int)+1).toNat=k+1:=by omega
 have g7:(k:Int)+1<(k:Int)+3:=by omega
 have g8:(k:Int)+2<(k:Int)+3:=by omega
 have g9:(0:Int)≤(k:Int)+2:=by omega
 have n0:((k:Int)+2).toNat=k+2:=by omega
 go_quiet ((go_at_call 149;exact Znk (Zb3 _ _ _ _ W B.out V.out)))
 clear g3 g5 g6 g7 g8 g9 n0
 go_wp2
 go_loopw [8,9] (fun qv rv wr=>∃ q r m:Nat,qv=.int .u64 (q:Int)∧rv=.int .u64 (r:Int)∧Hid (q<W64)∧Hid (r<W64)∧Hid (gQ W64 (a*W64+R) v1 v0 C q r)∧Hid (wr=w.drewN m)) (fun qv _ _=>(intOf qv).toNat)
 case atStart=>exact⟨_,_,_,rfl,rfl,l0,m0,HE,World.drewN_drewN _ _ _⟩
 case round =>
  obtain⟨q,r,m,rfl,rfl,t,N,Q,P⟩:=hrel
  obtain rfl:=P.out
  clear P
  have a0:∀ hh:W64*r+C<q*v0,Hid (gQ W64 (a*W64+R) v1 v0 C (q-1) (r+v1)):=fun hh=>ZbA T.out hh Q.out
  have b0:=zh a0
  clear a0
  have d:=zh (ZoV (p:=q) (q:=v0) (rest:=r) (ZoQ _ _) S.out)
  have E:∀ hh:q*v0≤W64*r+C,q=((a*W64+R)*W64+C)/(v1*W64+v0):=fun hh=>Zal T.out hh Q.out
  have F:=zh E
  clear E
  obtain⟨J,X⟩:=yE (wI q v0)
  obtain⟨lo,Y⟩:=yE (xE q v0)
  rw[X,Y] at d
  have f:=zh (ZaO q v0 t.out D.out (w.drewN m))
  rw[X,Y] at f
  clear X Y
  by_cases t1:J<r
  ·have Z:=zh (F.out (d.out.1 (Or.inl t1)))
   have o0:=dI t1
   go_wp2_with (go_at_call 145;refine f.out.mono ?_;rintro e w' ⟨rfl,rfl⟩)
   go_ret
   exact⟨q,rfl,t.out,by rw[Z.out];exact HD.out,_,rfl⟩
  have o0:=fS t1
  by_cases t2:J=r
  ·subst t2
   by_cases t3:lo≤C
   ·have Z:=zh (F.out (d.out.1 (Or.inr ⟨rfl,t3⟩)))
    go_wp2_with (go_at_call 145;refine f.out.mono ?_;rintro e w' ⟨rfl,rfl⟩)
    go_ret
    exact⟨q,rfl,t.out,by rw[Z.out];exact HD.out,_,rfl⟩
   have v:W64*J+C<q*v0:=by
    rcases vJ (W64*J+C) (q*v0) with h|h
    ·exact h
    rcases d.out.2 h with h|h<;>omega
   have x:=b0.out v
   have l:0<q:=by
    rcases uI q with e|e
    ·rw[e,sI] at v;omega
    exact e
   clear v
   have g1:=iP l t.out
   obtain⟨O,G⟩:=yE (q-1)
   rw[G] at g1 x
   have p0:O<q:=by omega
   have o:Hid (O<W64):=by have:=t.out;unfold Hid;omega
   have y:=zh x.out
   clear G x l
   by_cases z:J+v1<W64
   ·have g2:=kU z
    obtain⟨H,g⟩:=yE (J+v1)
    rw[g] at g2 y
    have t5:=fS (a:=H) (b:=v1) (by omega)
    have I:Hid (H<W64):=by unfold Hid;omega
    clear g z
    go_wp2_with (go_at_call 145;refine f.out.mono ?_;rintro e w' ⟨rfl,rfl⟩)
    go_roundw
    case rel=>exact⟨O,H,_,rfl,rfl,o,I,y,rfl⟩
    case measure=>simp[intOf];omega
   have Z:=zh (gF hU.out D.out (by omega) y.out)
   have g2:IntKind.u64.wrap ((J:Int)+(v1:Int))=((J+v1-W64:Nat):Int):=by
    have h1:=N.out
    have h2:=B.out
    rw[zO] at *
    rw[IntKind.wrap_u64]
    omega
   obtain⟨H,g⟩:=yE (J+v1-W64)
   rw[g] at g2
   have t5:=dI (a:=H) (b:=v1) (by have:=N.out;omega)
   clear g z
   go_wp2_with (go_at_call 145;refine f.out.mono ?_;rintro e w' ⟨rfl,rfl⟩)
   go_ret
   exact⟨O,rfl,o.out,by rw[Z.out];exact HD.out,_,rfl⟩
  have t0:((J:Int) == (r:Int))=false:=by simp;omega
  have v:W64*r+C<q*v0:=by
   rcases vJ (W64*r+C) (q*v0) with h|h
   ·exact h
   rcases d.out.2 h with h|h<;>omega
  have x:=b0.out v
  have l:0<q:=by
   rcases uI q with e|e
   ·rw[e,sI] at v;omega
   exact e
  clear v
  have g1:=iP l t.out
  obtain⟨O,G⟩:=yE (q-1)
  rw[G] at g1 x
  have p0:O<q:=by omega
  have o:Hid (O<W64):=by have:=t.out;unfold Hid;omega
  have y:=zh x.out
  clear G x l
  by_cases z:r+v1<W64
  ·have g2:=kU z
   obtain⟨H,g⟩:=yE (r+v1)
   rw[g] at g2 y
   have t5:=fS (a:=H) (b:=v1) (by omega)
   have I:Hid (H<W64):=by unfold Hid;omega
   clear g z
   go_wp2_with (go_at_call 145;refine f.out.mono ?_;rintro e w' ⟨rfl,rfl⟩)
   go_roundw
   case rel=>exact⟨O,H,_,rfl,rfl,o,I,y,rfl⟩
   case measure=>simp[intOf];omega
  have Z:=zh (gF hU.out D.out (by omega) y.out)
  have g2:IntKind.u64.wrap ((r:Int)+(v1:Int))=((r+v1-W64:Nat):Int):=by
   have h1:=N.out
   have h2:=B.out
   rw[zO] at *
   rw[IntKind.wrap_u64]
   omega
  obtain⟨H,g⟩:=yE (r+v1-W64)
  rw[g] at g2
  have t5:=dI (a:=H) (b:=v1) (by have:=N.out;omega)
  clear g z
  go_wp2_with (go_at_call 145;refine f.out.mono ?_;rintro e w' ⟨rfl,rfl⟩)
  go_ret
  exact⟨O,rfl,o.out,by rw[Z.out];exact HD.out,_,rfl⟩
end Go.Proofs.YtklpdkpcocnglaaGreatDoor
namespace Go.Proofs.YtklpdkpcocnglaaGreatDoor
theorem ZoW {u v d:Nat}(h:eC u v d)(a:d*v≤u):d=u/v:=by
 have b:=h.2
 have c:u<(d+1)*v:=b
 have:=Nat.div_eq_of_lt_le (m:=u) (n:=v) (k:=d) (by omega) (by simpa using c)
 exact this.symm
theorem Zmg {u v d:Nat}(h:eC u v d)(a:u<d*v):0<d∧d-1=u/v:=by
 have b:=h.1
 have f:0<d:=by
  rcases uI d with e|e
  ·subst e;simp at a
  exact e
 obtain⟨c,rfl⟩:∃ c,d=c+1:=⟨d-1,by omega⟩
 refine⟨f,?_⟩
 have e:c+1-1=c:=by omega
 rw[e]
 rw[uU] at b
 exact (Nat.div_eq_of_lt_le (m:=u) (n:=v) (k:=c) (by omega) (by simpa using a)).symm
theorem Zf6 {P v u low b d a m:Nat}(l:v≤P)(i:u=low+P*b)(g:eC u v d)(n:m+v*d=low+P*a)(j:a≤b) :
 d=u/v∧m=u%v∧b=a:=by
 have c:u=d*v+(m+P*(b-a)):=by
  obtain⟨t,rfl⟩:∃ t,b=a+t:=⟨b-a,by omega⟩
  rw[show a+t-a=t by omega,i,uN,uF d]
  omega
 have k:=ZoW g (by omega)
 have e:m+P*(b-a)<v:=by
  have:=g.2
  rw[uU] at this
  omega
 have f:b-a=0:=by
  rcases uI (b-a) with h|h
  ·exact h
  have:P*1≤P*(b-a):=uK P h
  omega
 refine⟨k,?_,by omega⟩
 rw[f] at c e
 simp only[tK,tA] at c e
 rw[c,uF,rX,vC e]
theorem ZhT {P v u low a d borrow m b c:Nat}(g:0<v)(y:v≤P)(z:u=low+P*a)(r:eC u v d)(s:m+v*d=low+P*borrow)(i:a<borrow)(t:m<P)(w:b+P*c=m+v)(o:b<P):0<d∧d-1=u/v∧b=u%v∧c+a=borrow:=by
 have j:u<d*v:=by
  have:P*(a+1)≤P*borrow:=uK P i
  rw[uN] at this
  rw[uF d]
  omega
 obtain⟨k,l⟩:=Zmg r j
 obtain⟨q,rfl⟩:∃ q,d=q+1:=⟨d-1,by omega⟩
 have e:q+1-1=q:=by omega
 rw[e] at l ⊢
 refine⟨k,l,?_⟩
 have f:=vO u v
 have x:=uP u g
 rw[←l,uF] at f
 rw[uN] at s
 -- b + P*(c + a)=u % v + P * borrow
 have n:b+P*(c+a)=u%v+P*borrow:=by
  rw[uN,uF q] at *
  omega
 have p:c+a=borrow:=by
  rcases rW (c+a) borrow with h|h|h
  ·have:P*(c+a+1)≤P*borrow:=uK P h
   rw[uN] at this
   omega
  ·exact h
  have:P*(borrow+1)≤P*(c+a):=uK P h
  rw[uN] at this
  omega
 rw[p] at n
 exact⟨by omega,p⟩
def dD (X v n k:Nat) (rs qs:List Nat):Prop :=
 Dig W64 rs∧Dig W64 qs∧rs.length=qs.length+n∧val W64 rs+val W64 (qs.drop k)*W64^k*v=X∧val W64 (rs.drop k)<v
theorem dD.window {X v n k:Nat}{a c:List Nat}(h:dD X v n (k+1) a c)(g:v≤W64^n)(i:k+n<a.length) :
 val W64 (a.drop k)=val W64 ((a.drop k).take (n+1))∧val W64 (a.drop k)<v*W64∧val W64 (a.drop (k+n+1))=0:=by
 obtain⟨d,j,l,m,f⟩:=h
 have b:val W64 (a.drop (k+n+1))=0:=by
  have e:=xU (B:=W64) (xs:=a.drop (k+1)) n
  rw[vM,show k+1+n=k+n+1 by omega,uV (by simp;omega)] at e
  rcases uI (val W64 (a.drop (k+n+1))) with h|h
  ·exact h
  have:W64^n*1≤W64^n*val W64 (a.drop (k+n+1)):=uK _ h
  omega
 refine⟨?_,?_,b⟩
 ·have e:=xU (B:=W64) (xs:=a.drop k) (n+1)
  rw[vM,show k+(n+1)=k+n+1 by omega,b] at e
  simpa using e
 rw[xV k (by omega)]
 have o:=d.getD zM k
 have:W64*(val W64 (a.drop (k+1))+1)≤W64*v:=uK _ f
 rw[uN] at this
 rw[uF v]
 omega
theorem dD.step {X v n k q:Nat}{a c m:List Nat}(h:dD X v n (k+1) a c)(e:0<v)(s:v≤W64^n)(t:k+n<a.length)(u:m.length=n)(w:Dig W64 m)(l:q=val W64 (a.drop k)/v)(o:val W64 m=val W64 (a.drop k)%v) :
 dD X v n k (a.take k ++ m ++ (0 :: a.drop (k+n+1))) (c.set k q):=by
 obtain⟨E,x,y⟩:=h.window s t
 obtain⟨p,z,F,G,H⟩:=h
 have f:k<c.length:=by omega
 have i:q<W64:=by rw[l,vG e,uF];exact x
 have g:(a.take k).length=k:=by simp;omega
 have b:val W64 (m ++ (0 :: a.drop (k+n+1)))=val W64 m:=by
  rw[kH,gO,y];simp
 have d:(a.take k ++ m ++ (0 :: a.drop (k+n+1))).drop k=m ++ (0 :: a.drop (k+n+1)):=by
  rw[tC,List.drop_append,g,uX (by omega),qQ];simp
 refine⟨((p.take k).append w).append (Dig.cons zM (p.drop _)),z.set k i,?_,?_,?_⟩
 ·simp[u];omega
 ·rw[tC,kH,g,b,o]
  rw[xV (xs:=c.set k q) k (by simpa using f),vX (by omega)]
  have j:(c.set k q)[k]?.getD 0=q:=by rw[List.getElem?_set_self f];rfl
  rw[j]
  have A:=xU (B:=W64) (xs:=a) k
  rw[uV (by omega)] at A
  have r:=vO (val W64 (a.drop k)) v
  rw[←l] at r
  have C:=vP (W64^k * ·) r
  simp only[uN] at C
  rw[uU,uU]
  have e4:q*W64^k*v=W64^k*(v*q):=by rw[uF q,uG,uF q]
  have D:W64*val W64 (c.drop (k+1))*W64^k*v=val W64 (c.drop (k+1))*W64^(k+1)*v:=by
   rw[uO,uF W64 (val W64 _),uG (val W64 _) W64,uF W64 (W64^k)]
  rw[e4,D]
  omega
 rw[d,b,o];exact uP _ e
theorem dD.done {X v n:Nat}{c d:List Nat}(h:dD X v n 0 c d):val W64 d=X/v∧val W64 c=X%v:=by
 obtain⟨e,f,g,a,b⟩:=h
 rw[tS] at a b
 simp only[vT,sB] at a
 rw[←a,vL,uF,sP (by omega),rX,vC b,tG b]
 exact⟨by omega,rfl⟩
theorem dD.start {x y s L n:Nat}{a:List Nat}(c:Dig W64 a)(m:a.length=L+1)(b:val W64 a=x*2^s)(d:x<W64^L)(f:W64^(n-1)≤y)(o:1≤n)(g:n≤L) :
 dD (x*2^s) (y*2^s) n (L-n+1) a (List.replicate (L-n+1) 0):=by
 refine⟨c,Dig.replicate zM _,by simp;omega,?_,?_⟩
 ·rw[uX (by simp)];simp[b]
 have e:=xU (B:=W64) (xs:=a) (L-n+1)
 rw[uV (by omega),b] at e
 have h:0<2^s:=uT (by omega)
 have p:W64^(L-n+1)*val W64 (a.drop (L-n+1))≤x*2^s:=by omega
 have i:x*2^s<W64^L*2^s:=tF d h
 have j:W64^L=W64^(L-n+1)*W64^(n-1):=by rw[←uS,show L-n+1+(n-1)=L by omega]
 rw[j,uG] at i
 have k:W64^(L-n+1)*val W64 (a.drop (L-n+1))<W64^(L-n+1)*(W64^(n-1)*2^s):=by omega
 have l:=tW k
 exact uQ l (uC _ f)
theorem Znl {ys a:List Nat}{n yt s:Nat}(w:ys.length=n+1)(l:Dig W64 ys)(m:ys[n]?.getD 0=yt)(e:0<yt)(x:64-Lib.bitLen yt=s)(o:Dig W64 a)(p:Trim a)(q:val W64 a=val W64 ys*2^s) :
 a.length=n+1∧W64≤2*(a[n]?.getD 0)∧W64^n≤val W64 ys∧s≤63:=by
 have f:yt<W64:=m ▸ l.getD zM _
 obtain⟨y,z,r,t⟩:=dC e f
 have A:val W64 ys=val W64 (ys.take n)+W64^n*yt:=by
  have:=zR (B:=W64) (xs:=ys) n (by omega)
  rw[uA (by omega),m] at this
  exact this
 have g:=xZ (l.take n)
 rw[uY,uV (by omega)] at g
 have u:0<2^s:=uT (by omega)
 have i:val W64 ys*2^s<W64^(n+1):=by
  have d:val W64 ys<W64^n*2^Lib.bitLen yt:=by
   have:W64^n*(yt+1)≤W64^n*2^Lib.bitLen yt:=uK _ t
   rw[uN] at this
   omega
  have b:=tF d u
  rw[uG,← uS,show Lib.bitLen yt+s=64 by omega] at b
  rw[uO,zO] at *
  exact b
 have v:W64^n*2^63≤val W64 ys*2^s:=by
  have d:W64^n*2^(Lib.bitLen yt-1)≤val W64 ys:=by
   have:W64^n*2^(Lib.bitLen yt-1)≤W64^n*yt:=uK _ r
   omega
  have b:=uC (2^s) d
  rw[uG,← uS,show Lib.bitLen yt-1+s=63 by omega] at b
  exact b
 have j:a.length≤n+1:=jF eA p (q ▸ i)
 have k:n+1≤a.length:=by
  rcases vJ a.length (n+1) with h|h
  ·have d:=xZ o
   have b:W64^a.length≤W64^n:=uR zM (by omega)
   have C:W64^n*1≤W64^n*2^63:=uK _ (by decide)
   omega
  exact h
 refine⟨by omega,?_,?_,by omega⟩
 ·have D:val W64 a=val W64 (a.take n)+W64^n*(a[n]?.getD 0):=by
   have:=zR (B:=W64) (xs:=a) n (by omega)
   rw[uA (by omega)] at this
   exact this
  have c:=xZ (o.take n)
  rw[uY,uV (by omega)] at c
  have d:W64^n*2^63<W64^n*((a[n]?.getD 0)+1):=by rw[uN];omega
  have b:=tW d
  rw[zO]
  omega
 have:W64^n*1≤W64^n*yt:=uK _ e
 omega
end Go.Proofs.YtklpdkpcocnglaaGreatDoor
namespace Go.Proofs.YtklpdkpcocnglaaGreatDoor
open Go.RowKit
def ZaR (w:World) (q r:Nat) (e:Ending) (w':World):Prop:=∃ u v,e=.returned (.tuple #[u,v])∧zK w' u q∧zK w' v r∧Ext w w'
theorem fT {a b:Nat}:cmpI a b<0↔a<b:=by
 unfold cmpI
 split
 ·omega
 split<;>omega
theorem Zf7 (i j:Value)(x y:Nat)(w:World)(k:zK w i x)(p:zK w j y)(q:wl x≤4294967296)(r:wl y≤4294967296)(a:x<y) :
 yA 196 #[i,j] w (ZaR w 0 x):=by
 have s:=zh k
 obtain⟨A,t,c,rfl,u,l,b,d,rfl⟩:=k
 obtain⟨v,z,B,rfl,f,n,g,h,rfl⟩:=p
 rw[←xR b d] at q
 rw[←xR g h] at r
 have o:=zh (eP A v t z _ _ c B w rfl rfl l n (by omega) (by omega) b g d h)
 rw[jS (by omega)] at o
 clear l b d n g h a u f
 go_enter Tryz.func196,Tryz.ntmps196
 go_wp2_with (go_at_call 164;refine o.out.mono ?_;rintro e w' ⟨rfl,m,rfl⟩)
 go_ret2
 exact⟨_,_,rfl,zK.zero _,s.out.ext ((Fr.refl _ _).drewN _),(Fr.refl _ _).drewN _⟩
theorem Zfw (H I:Value)(x y:Nat)(w:World)(Q:zK w H x)(R:zK w I y)(J:wl x≤4294967296)(t:wl y=1)(u:y≤x) :
 yA 196 #[H,I] w (ZaR w (x/y) (x%y)):=by
 obtain⟨A,p,c,rfl,S,z,q,B,rfl⟩:=Q
 obtain⟨T,Z,U,rfl,C,D,r,s,rfl⟩:=R
 rw[←xR q B] at J
 rw[←xR r s] at t
 obtain⟨y,rfl⟩:=pQ.1 t
 have K:=zh (eP A T p [y] _ _ c U w rfl rfl z D (by omega) (by simp) q r B s)
 obtain⟨L,a⟩:=yE (cmpI (val W64 p) (val W64 [y]))
 have V:0≤L:=by
  rcases pR L 0 with h|h
  ·rw[←a] at h;have:=fT.1 h;omega
  exact h
 rw[a] at K
 have g:val W64 [y]=y:=by simp
 rw[g]
 have d:0<y:=by have:=s 0 (by simp);simp at this;omega
 have f:y<W64:=r.head
 obtain⟨b,o,rfl,_,j⟩:=D.at (i:=0) (by simp)
 have M:w.cell? ⟨b,o,none⟩=some (.int .u64 (y:Int)):=by simpa using j
 have N:=fun w' (W:Ext w w')=>zh (Zg7 A p _ c y w' rfl (z.ext W) J q d f)
 have E:=zh N
 have F:Hid (val W64 p%y<W64):=qF (uP _ d) f
 clear z q B D r s S C a u j N t g d f
 go_enter Tryz.func196,Tryz.ntmps196
 go_wp2_with (first
  | (go_at_call 164;refine K.out.mono ?_;rintro e w' ⟨rfl,m,rfl⟩)
  | (go_at_call 221;refine (E.out _ ((Fr.refl _ _).drewN _)).out.mono ?_;rintro e w1 ⟨v,rfl,O,P⟩;have X:=zh O;have Y:=zh P;clear O P)
  | (go_at_call 170;refine (cC _ _ F.out).mono ?_;rintro e w2 ⟨v2,rfl,k,l⟩;have G:=zh k;have n:=zh l;clear k l))
 go_ret2
 exact⟨_,_,rfl,X.out.ext n.out,G.out,(((Fr.refl _ _).drewN _).ext Y.out).ext n.out⟩
theorem Zhc (a m:List Nat)(b:List Nat)(j n v:Nat)(c:a.length=j)(d:m.length=n)(e:j+n<b.length):(a ++ m ++ b.drop (j+n)).set (j+n) v=a ++ m ++ (v :: b.drop (j+n+1)):=by
 have f:(a ++ m).length=j+n:=by simp[c,d]
 rw[qY _ _ (by omega),f,qQ,tJ e]
 rfl
theorem Zlm (a m:List Nat)(b:List Nat)(j n:Nat)(c:a.length=j)(d:m.length=n):(a ++ m ++ b.drop (j+n))[j+n]?.getD 0=b[j+n]?.getD 0:=by
 have e:(a ++ m).length=j+n:=by simp[c,d]
 rw[List.getElem?_append_right (by omega),e,qQ,List.getElem?_drop];rfl
theorem Zjg (a m l:List Nat)(t v j n:Nat)(b:a.length=j)(c:m.length=n):(a ++ m ++ (t :: l)).set (j+n) v=a ++ m ++ (v :: l):=by
 have d:(a ++ m).length=j+n:=by simp[b,c]
 rw[qY _ _ (by omega),d,qQ]
 rfl
theorem Zjh (a m l:List Nat)(t j n:Nat)(b:a.length=j)(c:m.length=n):(a ++ m ++ (t :: l))[j+n]?.getD 0=t:=by
 have d:(a ++ m).length=j+n:=by simp[b,c]
 rw[List.getElem?_append_right (by omega),d,qQ]
 rfl
theorem ZeY (A A2:Option Addr)(xs ys:List Nat)(c c2 f:Nat)(w:World)(hX:zF .u64 w A xs)(hY:zF .u64 w A2 ys)(hc:xs.length≤c)(X0:ys.length≤c2)(hl:xs.length≤4294967296)(hk:ys.length=f+2)(dx:Dig W64 xs)(dy:Dig W64 ys)(tx:Trim xs)(ty:Trim ys)(Y0:val W64 ys≤val W64 xs) :
 yA 196 #[.slice A xs.length c,.slice A2 ys.length c2] w (ZaR w (val W64 xs/val W64 ys) (val W64 xs%val W64 ys)):=by
 have Z0:f+2≤xs.length:=by
  have:=wR Y0
  rw[←xR dx tx,← xR dy ty] at this
  omega
 have HC:=zh (eP A A2 xs ys _ _ c c2 w rfl rfl hX hY (by omega) (by omega) dx dy tx ty)
 obtain⟨cr,y0⟩:=yE (cmpI (val W64 xs) (val W64 ys))
 have R2:0≤cr:=by
  rcases pR cr 0 with h|h
  ·rw[←y0] at h;have:=fT.1 h;omega
  exact h
 rw[y0] at HC
 clear y0
 obtain⟨bY,oY,rfl,_,C⟩:=hY.at (i:=f+1) (by omega)
 obtain⟨yt,m0⟩:=yE (ys[f+1]?.getD 0)
 rw[m0] at C
 have U:0<yt:=by have:=ty (f+1) (by omega);omega
 have W:Hid (yt<W64):=m0 ▸ dy.getD zM _
 obtain⟨s,hs⟩:=yE (64-Lib.bitLen yt)
 have Y1:=dC U W.out
 have a1:Hid (64-(Lib.bitLen yt:Int)=(s:Int)):=by unfold Hid;omega
 have b1:s≤63:=by omega
 have NX:Hid (zK w (.slice A xs.length c) (val W64 xs)):=⟨A,xs,c,rfl,hc,hX,dx,tx,rfl⟩
 have NY:Hid (zK w (.slice (some ⟨bY,oY,none⟩) ys.length c2) (val W64 ys)):=⟨_,ys,c2,rfl,X0,hY,dy,ty,rfl⟩
 have c1:Hid (wl (val W64 xs)≤4294967296):=by unfold Hid;rw[←xR dx tx];omega
 have e1:Hid (wl (val W64 ys)≤4294967296):=by unfold Hid;rw[←xR dy ty];omega
 have f1:=zh dx
 have Z1:=zh dy
 have HS:=zh hs
 have i1:=zh m0
 have HK:=zh hk
 clear hX hY hc X0 dx dy tx ty Y0 Y1 hs m0
 obtain⟨n,hn⟩:=yE ys.length
 rw[hn] at HC NY
 rw[hn] at HK
 rw[hn]
 have HN:=zh hn
 have a2:n=f+2:=HK.out
 subst a2
 clear hn hk HK
 have j1:(((f:Int)+2) == 1)=false:=by simp;omega
 have P2:decide (cr<0)=false:=by rw[vA];omega
 go_enter Tryz.func196,Tryz.ntmps196
 go_wp2_with (first
  | (go_at_call 164;refine HC.out.mono ?_;rintro e w' ⟨rfl,m,rfl⟩)
  | (go_at_call 174;refine (Zam _ _ W.out).mono ?_;rintro e w' ⟨rfl,rfl⟩;rw[a1.out]))
 refine (ZdC _ _ s _ (NY.out.ext ((Fr.refl _ _).drewN _)) e1.out (by omega)).mono ?_
 rintro e wD ⟨vD,rfl,b2,l1⟩
 obtain⟨AD,Y,cD,rfl,d2,m1,A0,o1,B0⟩:=b2
 obtain⟨n1,n2,n3,n4⟩:=Znl (n:=f+1) HN.out Z1.out i1.out U HS.out A0 o1 B0
 have p1:=zh m1
 have n0:=zh A0
 have r1:Hid (Ext w wD):=((Fr.refl _ _).drewN _).ext l1
 have M:=zh B0
 have x:=zh n1
 have e2:=zh n2
 have s1:=zh n3
 rw[n1]
 clear m1 A0 o1 B0 l1 n1 n2 n3 n4 d2 C HC U W a1 HS i1
 go_wp2_with (
  at_make
  refine wO rfl _ _ _ rfl _ _ _ Tryz.underlying76 dB _ _ _ _ (xs.length+1) rfl rfl (by omega) (by omega) (by omega) (by omega) ?_
  intro R w1 H E _ N f2
  have u1:Hid (Own .u64 94 w1 R ([] ++ List.replicate (xs.length+1) 0 ++ [])):=by simpa [Hid] using E
  have C0:=zh N
  have HR:=zh H
  clear E N H f2)
 refine (ZdC _ _ s _ (NX.out.ext (r1.out.ext C0.out)) c1.out (by omega)).mono ?_
 rintro e w2 ⟨v2,rfl,i2,v1⟩
 obtain⟨A3,x2,c3,rfl,j2,x1,d3,t3,D0⟩:=i2
 have y1:=zh x1
 have E0:=zh v1
 have z1:=zh d3
 have A1:=zh D0
 have o0:Hid (x2.length≤xs.length+1):=by
  unfold Hid
  refine jF eA t3 ?_
  rw[D0,uO]
  have h1:=xZ f1.out
  have h2:2^s≤W64:=by rw[zO];exact uE (uR (by omega) b1) (by decide)
  exact uQ (tF h1 (uT (by omega))) (uK _ h2)
 clear x1 v1 d3 t3 D0 j2 NX c1 NY e1
 go_wp2_with (first
  | (
   with_reducible refine Za7 rfl (.tmp 57) (.tmp 60) _ _ rfl _ _ Tryz.underlying76 Zqd _ _ _ _ _ _ rfl rfl R [] (List.replicate (xs.length+1) 0) [] x2 (by simp) rfl (u1.out.ext E0.out) y1.out (fun _=>rfl) ?_
   intro w3 z B1 _ C1 l2
   have O:=zh B1
   have D1:=zh C1
   clear B1 C1 l2)
  | (
   at_make
   refine wO rfl _ _ _ rfl _ _ _ Tryz.underlying76 dB _ _ _ _ (xs.length-(f+2)+1) rfl rfl (by omega) (by omega) (by omega) (by omega) ?_
   intro Z w4 hQ E1 _ F1 o2
   have G1:=zh E1
   have F0:=zh F1
   have HQ:=zh hQ
   clear E1 F1 hQ o2))
 have l:Hid (R<Z):=by
  have h1:=O.out.lt
  have h2:=HQ.out
  unfold Hid;omega
 have hV:Hid (val W64 Y≤W64^(f+2)):=by
  have:=xZ n0.out
  rw[x.out] at this
  exact rT this
 have a0:Hid (0<val W64 Y):=by
  rw[M.out]
  have h1:=s1.out
  have h2:=uT (n:=f+1) zM
  exact tV (by omega) (uT (by omega))
 obtain⟨X,eX⟩:=yE (val W64 xs*2^s)
 have HX:=zh eX
 have G0:Hid (∃ g,Own .u64 94 w4 R g∧g.length=xs.length+1∧dD X (val W64 Y) (f+2) (xs.length-(f+2)+1) g (List.replicate (xs.length-(f+2)+1) 0)):=by
  refine⟨x2 ++ List.replicate (xs.length+1-x2.length) 0,?_,?_,?_⟩
  ·have h:=O.out
   rw[uA (by simp;exact o0.out),List.drop_replicate] at h
   have h':Own .u64 94 w3 R (x2 ++ List.replicate (xs.length+1-x2.length) 0):=by simpa using h
   exact h'.ext F0.out
  ·have:=o0.out
   simp;omega
  rw[←HX.out,M.out]
  refine dD.start (L:=xs.length) (z1.out.append (Dig.replicate zM _)) (by have:=o0.out;simp;omega) ?_ (xZ f1.out) (by simpa using s1.out) (by omega) Z0
  rw[kH,kS,A1.out];simp
 have H1:Hid (Ext wD w4):=by
  have h1:=HR.out
  exact ((C0.out.ext E0.out).next D1.out (fun i hi e=>by omega)).ext F0.out
 clear O D1 y1 z1 A1 o0 C0 E0 F0 u1 j1 eX
 obtain⟨V,eV⟩:=yE (val W64 Y)
 have HV:=zh eV
 rw[eV] at hV a0 G0
 clear eV
 go_loopw [13] (fun i wr=>∃ (k:Nat) (g qs:List Nat),k≤xs.length-(f+2)+1∧i=.int .i64 ((k:Int)-1)∧Hid (dD X V (f+2) k g qs)∧Hid (g.length=xs.length+1)∧Hid (Own .u64 94 wr R g)∧Hid (Own .u64 94 wr Z qs)∧Hid (Ext wD wr)) (fun i _=>(intOf i+1).toNat)
 case atStart =>
  obtain⟨g,h1,h2,h3⟩:=G0.out
  exact⟨xs.length-(f+2)+1,g,_,uM _,by go_num,h3,h2,h1,G1.out,H1.out⟩
 case round =>
  clear G0 G1 H1
  obtain⟨k,g,qs,hk,rfl,H,B,E,H0,N⟩:=hrel
  by_cases S2:0<k
  ·obtain⟨j,rfl⟩:∃ j,k=j+1:=⟨k-1,by omega⟩
   have ej:(((j+1:Nat):Int)-1)=(j:Int):=by omega
   rw[ej]
   clear ej
   have T2:j+(f+2)<xs.length+1:=by omega
   have o:=B.out
   obtain⟨q1,q2,q3⟩:=H.out.window hV.out (by omega)
   have p0:((g.drop j).take (f+3)).length=f+3:=by simp;omega
   have I0:Hid (zF .u64 wr AD Y):=p1.out.ext N.out
   have b0:=zh (Zjf (some ⟨R,j,none⟩) AD ((g.drop j).take (f+3)) Y (j+(f+2)+1-j) (f+1+1) (xs.length+1-j) cD f wr (by omega) x.out (E.out.shows j (f+3)) I0.out x.out p0 (by omega) ((H.out.1.drop j).take _) n0.out e2.out (by rw[←q1,HV.out];exact q2))
   rw[←q1,HV.out] at b0
   have U2:=zh q2
   clear q1 q2 q3 p0 o
   go_wp2_with fail
   (with_reducible refine b0.out.mono ?_)
   rintro e w5 ⟨d,rfl,J0,t0,n5,rfl⟩
   clear b0
   have q0:Hid (∀ a,AD=some a→a.block≠R):=by
    intro a ha
    obtain⟨b',o',e',V2,_⟩:=p1.out.at (i:=0) (by rw[x.out];omega)
    rw[e'] at ha;injection ha with ha;subst ha
    have:=HR.out
    show b'≠R
    omega
   have o:=B.out
   have O:Hid (Own .u64 94 (wr.drewN n5) R (g.take j ++ (g.drop j).take (f+2) ++ g.drop (j+(f+2)))):=by rw[Znc];exact E.out.drewN _
   have I1:=zh (ZdJ R (xs.length+1-j) cD j (f+2) (f+1+1) d (g.take j) ((g.drop j).take (f+2)) (g.drop (j+(f+2))) Y AD (wr.drewN n5) (by simp;omega) (by simp;omega) x.out O.out (I0.out.drewN _) q0.out (by rw[x.out];simp;omega) (by simp;omega) ((H.out.1.drop j).take _) n0.out J0)
   have u0:=zh t0
   have p2:=zh J0
   clear O J0 t0 o
   go_wp2_with fail
   (with_reducible refine I1.out.mono ?_)
   rintro e P ⟨br,rfl,v0,c0,_,m,Q,K0,d0,L0⟩
   clear I1
   have o:=B.out
   have q:m.length=f+2:=by rw[K0];simp;omega
   have S:(g.take j).length=j:=by simp;omega
   have t:j+(f+2)<(g.take j ++ m ++ g.drop (j+(f+2))).length:=by simp;omega
   have C:=Q.cell t
   have J1:=Q.frozen (j+(f+2))
   rw[Zlm _ _ _ _ _ S q] at C
   obtain⟨top,I⟩:=yE (g[j+(f+2)]?.getD 0)
   rw[I] at C
   have hu:val W64 (g.drop j)=val W64 ((g.drop j).take (f+2))+W64^(f+2)*top:=by
    obtain⟨q1,_,_⟩:=H.out.window hV.out (by omega)
    rw[q1,zR (f+2) (by simp;omega),List.getElem?_drop,I]
   have J:val W64 m+V*d=val W64 ((g.drop j).take (f+2))+W64^(f+2)*br:=by
    have h:=L0
    unfold Zjb at h
    rw[HV.out] at h
    have e:((g.drop j).take (f+2)).length=f+2:=by simp;omega
    rw[e] at h
    exact h
   have M0:Hid (Own .u64 94 P Z qs):=(H0.out.drewN n5).fr c0 (by have:=l.out;omega)
   have N0:Hid (Ext wD P):=(N.out.drewN n5).next c0 (fun i hi e=>by have:=HR.out;omega)
   have w0:Hid (zF .u64 P AD Y):=(I0.out.drewN n5).fr c0 (fun a ha _=>q0.out a ha)
   have e0:qs.length=xs.length-(f+2)+1:=by have:=H.out.2.2.1;omega
   have O0:val W64 m<W64^(f+2):=by have:=xZ d0;rw[q] at this;exact this
   have f0:j<qs.length:=by omega
   by_cases P0:br≤top
   ·obtain⟨k1,k2,k3⟩:=Zf6 hV.out hu u0.out J P0
    have Q0:=zh (H.out.step a0.out hV.out (by omega) q d0 k1 k2)
    subst k3
    have g1:IntKind.u64.wrap ((top:Int)-(top:Int))=0:=by rw[Int.sub_self];rfl
    have t1:=fS (a:=top) (b:=top) (by omega)
    have F:=Q.set (j+(f+2)) 0 t
    rw[Zhc _ _ _ _ _ _ S q (by omega)] at F
    have r:Fr (· = R) P (P.setCell ⟨R,j+(f+2),none⟩ (.int .u64 ((0:Nat):Int))):=(Fr.refl (· = R) P).setCell (p:=⟨R,j+(f+2),none⟩) (Or.inl rfl) _
    have r0:=M0.out.fr r (by have:=l.out;omega)
    have R0:=r0.cell f0
    have r2:=r0.frozen j
    obtain⟨z0,g0⟩:=yE (qs[j]?.getD 0)
    rw[g0] at R0
    have s2:=zh (r0.set j d f0)
    have K1:=zh (F.far (p:=⟨Z,j,none⟩) (by have:=l.out;show R≠Z;omega) (.int .u64 (d:Int)))
    have L1:Hid (Ext wD ((P.setCell ⟨R,j+(f+2),none⟩ (.int .u64 ((0:Nat):Int))).setCell ⟨Z,j,none⟩ (.int .u64 (d:Int)))):=(N0.out.next r (fun i hi e=>by have:=HR.out;omega)).setCell (Or.inr (by have:=HR.out;have:=l.out;show wD.heap.size≤Z;omega)) _
    have S0:Hid ((g.take j ++ m ++ (0 :: g.drop (j+(f+2)+1))).length=xs.length+1):=by unfold Hid;simp;omega
    clear v0 c0 Q K0 d0 L0 o q S t I hu J O0 k1 k2 F r r0 g0 P0
    simp only[Int.ofNat_zero] at *
    go_wp2
    go_roundw
    case rel=>exact⟨j,_,_,by omega,rfl,Q0,S0,K1.out,s2.out,L1.out⟩
    case measure=>simp[intOf]
   have u2:0<d:=by
    rcases uI d with e|e
    ·subst e
     have:W64^(f+2)*1≤W64^(f+2)*br:=uK _ (by omega)
     omega
    exact e
   have g2:=iP u2 p2.out
   obtain⟨d1,T0⟩:=yE (d-1)
   rw[T0] at g2
   obtain⟨t2,g1,k1⟩:=Zf3 ((top:Int)-(br:Int))
   have t1:=dI (a:=top) (b:=br) (by omega)
   have F:=Q.set (j+(f+2)) t2 t
   rw[Zhc _ _ _ _ _ _ S q (by omega)] at F
   have r:Fr (· = R) P (P.setCell ⟨R,j+(f+2),none⟩ (.int .u64 (t2:Int))):=(Fr.refl (· = R) P).setCell (p:=⟨R,j+(f+2),none⟩) (Or.inl rfl) _
   have y2:=zh F
   have U0:=zh r
   have z2:=zh (M0.out.fr r (by have:=l.out;omega))
   have M1:Hid (zF .u64 (P.setCell ⟨R,j+(f+2),none⟩ (.int .u64 (t2:Int))) AD Y):=w0.out.fr r (fun a ha _=>q0.out a ha)
   have B2:Hid (Ext wD (P.setCell ⟨R,j+(f+2),none⟩ (.int .u64 (t2:Int)))):=N0.out.next r (fun i hi e=>by have:=HR.out;omega)
   have C2:=zh d0
   have h0:=zh q
   have s0:=zh S
   have Hu:=zh hu
   have D2:=zh J
   have E2:=zh O0
   have F2:=zh k1
   have G2:=zh T0
   have H2:=zh e0
   have N1:top<br:=by omega
   clear v0 c0 Q K0 d0 L0 o q S t I hu J O0 k1 F r P0 T0 e0 w0 N0 M0
   go_wp2
   generalize I2:P.setCell ⟨R,j+(f+2),none⟩ (.int .u64 (t2:Int))=w7 at *
   clear I2 C J1 g1 g2 t1
   obtain⟨wo,rfl⟩:∃ wo:World,wo=wr:=⟨_,rfl⟩
   go_loopw [17,115] (fun cv iv wr=>∃ (D cc:Nat) (m2:List Nat),D≤f+2∧iv=.int .i64 (D:Int)∧cc≤1∧cv=.int .u64 (cc:Int)∧Hid (dZ m Y D m2 cc)∧Hid (Own .u64 94 wr R (g.take j ++ m2 ++ (t2 :: g.drop (j+(f+2)+1))))∧Hid (Fr (· = R) w7 wr)) (fun _ iv _=>f+2-(intOf iv).toNat)
   case atStart=>exact⟨0,0,m,by omega,rfl,by omega,rfl,dZ.start _ _ C2.out,y2.out,Fr.refl _ _⟩
   case round =>
    obtain⟨D,cc,m2,W2,rfl,O1,rfl,T,u,i0⟩:=hrel
    have v:m2.length=f+2:=by rw[T.out.1];exact h0.out
    by_cases Q2:D<f+2
    ·obtain⟨b3,o3,rfl,_,J2⟩:=(M1.out.fr i0.out (fun a ha _=>q0.out a ha)).at (i:=D) (by rw[x.out];omega)
     obtain⟨y,ey⟩:=yE (Y[D]?.getD 0)
     obtain⟨z,ez⟩:=yE (m2[D]?.getD 0)
     have P1:D<m2.length:=by omega
     have Q1:=u.out.mid (k:=D) P1
     have X2:=u.out.frozen (j+D)
     rw[s0.out] at Q1
     rw[ey] at J2
     rw[ez] at Q1
     have K2:=zh (T.out.step (by rw[h0.out];omega) ez ey (by rw[x.out];omega))
     have R1:xO z y cc≤1:=ZcX (ez ▸ T.out.2.2.1.getD zM D) (ey ▸ n0.out.getD zM D) O1
     have x0:=zh (u.out.set_mid P1 (xI z y cc))
     rw[s0.out] at x0
     have ha:=fH z y cc O1
     clear ey ez v
     go_wp2
     go_roundw
     case rel=>exact⟨D+1,_,_,by omega,by go_num,R1,rfl,K2,x0.out,i0.out.setCell (p:=⟨R,j+D,none⟩) (Or.inl rfl) _⟩
     case measure=>simp[intOf];omega
    obtain rfl:D=f+2:=by omega
    have j0:=T.out.done (by rw[x.out];omega) (by rw[h0.out];omega) (Or.inr h0.out.symm)
    rw[h0.out,HV.out] at j0
    obtain⟨_,k2,k3,k4⟩:=ZhT a0.out hV.out Hu.out u0.out D2.out N1 E2.out j0 (by have:=xZ T.out.2.2.1;rw[v] at this;exact this)
    have g3:IntKind.u64.wrap ((t2:Int)+(cc:Int))=0:=by
     have h1:=F2.out
     rw[IntKind.wrap_u64]
     omega
    rw[G2.out] at k2
    have o:=B.out
    have S1:=H2.out
    have G:j+(f+2)<(g.take j ++ m2 ++ (t2 :: g.drop (j+(f+2)+1))).length:=by simp;omega
    have C:=u.out.cell G
    have J1:=u.out.frozen (j+(f+2))
    rw[Zjh _ _ _ _ _ _ s0.out v] at C
    have k0:=u.out.set (j+(f+2)) 0 G
    rw[Zjg _ _ _ _ _ _ _ s0.out v] at k0
    have l0:Fr (· = R) w7 (wr.setCell ⟨R,j+(f+2),none⟩ (.int .u64 ((0:Nat):Int))):=i0.out.setCell (p:=⟨R,j+(f+2),none⟩) (Or.inl rfl) _
    have K:=z2.out.fr l0 (by have:=l.out;omega)
    have f0:j<qs.length:=by omega
    have R0:=K.cell f0
    have r2:=K.frozen j
    obtain⟨z0,g0⟩:=yE (qs[j]?.getD 0)
    rw[g0] at R0
    have Q0:=zh (H.out.step a0.out hV.out (by omega) v T.out.2.2.1 k2 k3)
    have T1:=zh (K.set j d1 f0)
    have U1:=zh (k0.far (p:=⟨Z,j,none⟩) (by have:=l.out;show R≠Z;omega) (.int .u64 (d1:Int)))
    have V1:Hid (Ext wD ((wr.setCell ⟨R,j+(f+2),none⟩ (.int .u64 ((0:Nat):Int))).setCell ⟨Z,j,none⟩ (.int .u64 (d1:Int)))):=(B2.out.next l0 (fun i hi e=>by have:=HR.out;omega)).setCell (Or.inr (by have:=HR.out;have:=l.out;show wD.heap.size≤Z;omega)) _
    have S0:Hid ((g.take j ++ m2 ++ (0 :: g.drop (j+(f+2)+1))).length=xs.length+1):=by unfold Hid;simp;omega
    clear j0 k2 k3 k4 o S1 G k0 l0 K g0 v
    simp only[Int.ofNat_zero] at *
    go_wp2
    go_roundw
    case rel=>exact⟨j,_,_,by omega,rfl,Q0,S0,U1.out,T1.out,V1.out⟩
    case measure=>simp[intOf]
  obtain rfl:k=0:=by omega
  obtain⟨k1,k2⟩:=H.out.done
  have e0:qs.length=xs.length-(f+2)+1:=by have:=H.out.2.2.1;have:=B.out;omega
  have V0:=ZdR (val W64 xs) (val W64 ys) (2^s) (uT (by omega))
  have NQ:=zK.of_own (c:=xs.length-(f+2)+1) H0.out H.out.2.1 (by omega)
  have NR:=zK.of_own (c:=xs.length+1) E.out H.out.1 (by have:=B.out;omega)
  rw[k1,← HX.out,← HV.out,M.out,V0.1] at NQ
  rw[k2,← HX.out,← HV.out,M.out] at NR
  have L2:=zh NQ
  have M2:=zh NR
  have W1:=zh (eO _ qs (xs.length-(f+2)+1) (xs.length-(f+2)+1) wr e0 H0.out.shows0 (by omega) (by omega))
  have X1:=zh (eO _ g (xs.length+1) (xs.length+1) wr B.out E.out.shows0 (by have:=B.out;omega) (by have:=B.out;omega))
  have N2:=zh V0.2
  have p0:Hid (wl (val W64 xs*2^s%(val W64 ys*2^s))≤4294967296):=by
   refine uE ((kE (k:=f+2)).2 ?_) (by omega)
   have h1:=uP (val W64 xs*2^s) a0.out
   rw[←HV.out,M.out] at h1
   have h2:=hV.out
   rw[←HV.out,M.out] at h2
   exact uQ h1 h2
  clear k1 k2 e0 V0 NQ NR
  go_wp2_with fail
  (with_reducible refine W1.out.mono ?_)
  rintro e w7 ⟨rfl,rfl⟩
  clear W1
  go_wp2_with fail
  (with_reducible refine X1.out.mono ?_)
  rintro e w7 ⟨rfl,rfl⟩
  clear X1
  go_wp2_with fail
  (with_reducible refine (Zha _ _ s _ M2.out p0.out (by omega)).mono ?_)
  rintro e w7 ⟨v7,rfl,W0,r⟩
  rw[N2.out] at W0
  have O2:=zh W0
  have U0:=zh r
  clear W0 r
  go_wp2
  go_ret2
  exact⟨_,_,rfl,L2.out.ext U0.out,O2.out,(r1.out.ext N.out).ext U0.out⟩
theorem Zfx (d e:Value)(x y:Nat)(w:World)(g:zK w d x)(h:zK w e y)(f:wl x≤4294967296)(k:wl y≤4294967296)(r:0<y) :
 yA 196 #[d,e] w (ZaR w (x/y) (x%y)):=by
 rcases vJ x y with a|b
 ·rw[tG a,vC a]
  exact Zf7 d e x y w g h f k a
 have s:=ZdT r
 by_cases l:wl y=1
 ·exact Zfw d e x y w g h f l b
 obtain⟨A,t,c,rfl,u,i,m,n,rfl⟩:=g
 obtain⟨v,o,z,rfl,j,B,p,q,rfl⟩:=h
 rw[←xR m n] at f
 rw[←xR p q] at k l s
 exact ZeY A v t o c z (o.length-2) w i B u j f (by omega) m p n q b
theorem Zb6 (d f:Value)(x y:Nat)(w:World)(k:zK w d x)(l:zK w f y)(p:wl x≤4294967296)(q:wl y<80)(r:0<y) :
 yA 167 #[d,f] w (ZaR w (x/y) (x%y)):=by
 have s:=zh (Zfx d f x y w k l p (by omega) r)
 obtain⟨A,E,c,rfl,t,g,z,B,rfl⟩:=k
 obtain⟨F,G,H,rfl,h,C,m,n,rfl⟩:=l
 rw[←xR m n] at q
 clear g z B C m n t h
 go_enter Tryz.func167,Tryz.ntmps167
 go_wp2_with (go_at_call 196;refine s.out.mono ?_;rintro e I ⟨u,v,rfl,a,b,o⟩;have i:=zh a;have j:=zh b;have D:=zh o;clear a b o)
 go_ret2
 exact⟨_,_,rfl,i.out,j.out,D.out⟩
noncomputable def W32:Nat:=Classical.choose (p:=fun n:Nat=>n=4294967296) ⟨_,rfl⟩
theorem xB:W32=4294967296:=qX (p:=fun n:Nat=>n=4294967296) ⟨_,rfl⟩
theorem zY:0<W32:=by have:=xB;omega
theorem Zhf:1<W32:=by have:=xB;omega
theorem Zqj:2≤W32:=by have:=xB;omega
theorem bQ:W32*W32=W64:=by rw[xB,zO]
theorem cH:(Tryz.prog.info? 102).map (fun i=>(i.zero,i.size,i.bytes))=some (some (.int .u32 0),1,4):=by kernel_rfl
theorem lU (A:Option Addr)(xs:List Nat)(n c:Nat)(w:World)(o:xs.length=n)(h:zF .u32 w A xs)(s:xs.length≤c)(t:xs.length≤70368744177664) :
 yA 71 #[.slice A n c] w fun e w'=>e=.returned (.slice A (wK xs xs.length) c)∧w=w':=by
 subst o
 have H:=zh h
 clear h
 go_enter Tryz.func71,Tryz.ntmps71
 go_wp2
 go_loop [0] (fun v=>∃ k:Nat,k≤xs.length∧v=.slice A k c∧Hid (wK xs xs.length=wK xs k)) (fun v=>match v with | .slice _ k _=>k | _=>0)
 case atStart=>exact⟨xs.length,uM _,rfl,rfl⟩
 case round =>
  obtain⟨k,u,rfl,d⟩:=hrel
  by_cases p:0<k
  ·obtain⟨b,q,rfl,y,f⟩:=H.out.at (i:=k-1) (by omega)
   obtain⟨x,g⟩:=yE (xs[k-1]?.getD 0)
   rw[g] at f
   have l:=zh g
   clear g
   by_cases j:x=0
   ·subst j
    go_wp2
    go_round
    case rel =>
     refine⟨k-1,by omega,by go_num,?_⟩
     have e:=d.out
     obtain⟨m,rfl⟩:∃ m,k=m+1:=⟨k-1,by omega⟩
     rw[wK,uL (by simpa using l.out)] at e
     exact e
    case measure=>simp;omega
   have r:(((x:Nat):Int) == 0)=false:=by simpa using j
   go_wp2
   go_ret
   refine⟨?_,rfl⟩
   have e:=d.out
   obtain⟨m,rfl⟩:∃ m,k=m+1:=⟨k-1,by omega⟩
   have a:=l.out
   simp only[vW] at a
   rw[wK,uJ (by rw[a];exact j)] at e
   rw[e];rfl
  obtain rfl:k=0:=by omega
  go_wp2
  go_ret
  exact⟨by rw[d.out];rfl,rfl⟩
def ml (n:Nat):Nat:=if n=0 then 0 else n.log2/32+1
theorem ZcB (k:Nat):W32^k=2^(32*k):=by rw[sZ,xB]
theorem lL {n k:Nat}:ml n≤k↔n<W32^k:=by
 unfold ml
 rw[ZcB]
 split
 ·rename_i h;subst h;simp[uT]
 rename_i h
 rw[←Nat.log2_lt h];omega
theorem Zgc (n:Nat):n<W32^ml n:=lL.1 (uM _)
theorem Zhg:ml 0=0:=rfl
theorem Zap {a b:Nat}(h:a≤b):ml a≤ml b:=lL.2 (vE h (Zgc b))
theorem Zrm (a b:Nat):ml (a*b)≤ml a+ml b:=lL.2 (by rw[uS];exact qA (Zgc a) (Zgc b))
theorem Zrn {a b k:Nat}(ha:ml a≤k)(c:ml b≤k):ml (a+b)≤k+1:=by
 rw[lL] at *
 have:W32^k*2≤W32^k*W32:=uK _ Zqj
 rw[uO]
 omega
theorem kX {xs:List Nat}(a:Dig W32 xs)(b:Trim xs):xs.length=ml (val W32 xs):=by
 have c:=jF (n:=ml (val W32 xs)) Zhf b (Zgc _)
 have d:ml (val W32 xs)≤xs.length:=lL.2 (xZ a)
 omega
theorem Zgd {n:Nat}(h:0<n):0<ml n:=by
 unfold ml;rw[uJ (by omega)];omega
def zS (w:World) (v:Value) (n:Nat):Prop :=
 ∃ (A:Option Addr) (xs:List Nat) (c:Nat),v=.slice A xs.length c∧xs.length≤c∧zF .u32 w A xs∧Dig W32 xs∧Trim xs∧val W32 xs=n
theorem zS.ext {w w':World}{v:Value}{n:Nat}(h:zS w v n)(a:Ext w w'):zS w' v n:=by
 obtain⟨A,b,c,d,e,f,g⟩:=h
 exact⟨A,b,c,d,e,f.ext a,g⟩
theorem zS.zero (w:World):zS w (.slice none 0 0) 0:=⟨none,[],0,rfl,by simp,zF.nil,Dig.nil,Trim.nil,rfl⟩
def bR (w:World) (n:Nat) (e:Ending) (w':World):Prop:=∃ v,e=.returned v∧zS w' v n∧Ext w w'
theorem zS.of_own {w:World}{b:Nat}{xs:List Nat}(h:Own .u32 102 w b xs)(a:Dig W32 xs){c:Nat}(d:xs.length≤c):zS w (.slice (some ⟨b,0,none⟩) (wK xs xs.length) c) (val W32 xs):=by
 refine⟨_,wF xs,c,by rw[wH],by rw[wH];exact uE (gB _ _) d,h.shows0.take _,iD a,iG xs,wX _ _⟩
theorem jP (s:Nat):(s:Int)%4294967296=((s%W32:Nat):Int):=by rw[xB];omega
theorem hi32 (s:Nat):(s:Int)/4294967296=((s/W32:Nat):Int):=by rw[xB];omega
theorem addW {a b:Nat}(h:a+b<W64):IntKind.u64.wrap ((a:Int)+(b:Int))=((a+b:Nat):Int):=by rw[←sX];exact wE _ h
def iQ (xs ys:List Nat) (k:Nat) (m:List Nat) (c:Nat):Prop :=
 m.length=xs.length+1∧Dig W32 m∧c≤1∧val W32 (m.take k)+W32^k*c=val W32 (xs.take k)+val W32 (ys.take k)
theorem iQ.start (xs ys:List Nat):iQ xs ys 0 (List.replicate (xs.length+1) 0) 0:=⟨by simp,Dig.replicate zY _,by omega,by simp⟩
theorem ZbE {x y c:Nat}(a:x<W32)(b:y<W32)(d:c≤1):(c+x+y)/W32≤1:=by
 rw[xB] at *;omega
theorem iQ.step {xs ys m:List Nat}{k c x y:Nat}(h:iQ xs ys k m c)(e:k<xs.length)(b:xs[k]?.getD 0=x)(d:ys[k]?.getD 0=y)(a:k<ys.length)(dx:Dig W32 xs)(f:Dig W32 ys) :
 iQ xs ys (k+1) (m.set k ((c+x+y)%W32)) ((c+x+y)/W32):=by
 obtain⟨g,i,j,l⟩:=h
 refine⟨by simpa using g,i.set k (uP _ zY),ZbE (b ▸ dx.getD zY k) (d ▸ f.getD zY k) j,?_⟩
 rw[xL _ _ _ _ (by omega),zR k e,zR k a,b,d,uO]
 exact Zbx _ _ _ _ _ _ _ _ _ _ l (by have:=tR (c+x+y) W32;omega)
theorem iQ.step0 {xs ys m:List Nat}{k c x:Nat}(h:iQ xs ys k m c)(d:k<xs.length)(a:xs[k]?.getD 0=x)(e:ys.length≤k)(dx:Dig W32 xs) :
 iQ xs ys (k+1) (m.set k ((c+x)%W32)) ((c+x)/W32):=by
 obtain⟨f,g,i,b⟩:=h
 refine⟨by simpa using f,g.set k (uP _ zY),by simpa using ZbE (y:=0) (a ▸ dx.getD zY k) zY i,?_⟩
 rw[xL _ _ _ _ (by omega),zR k d,a,uO,uA (l:=ys) (by omega)]
 rw[uA (l:=ys) (by omega)] at b
 have:=Zbx _ _ _ _ _ _ 0 _ _ _ b (by have:=tR (c+x) W32;omega:(c+x)%W32+W32*((c+x)/W32)=x+0+c)
 simpa using this
theorem iQ.last {xs ys m:List Nat}{c:Nat}(h:iQ xs ys xs.length m c)(a:ys.length≤xs.length):(m.set xs.length c).length=xs.length+1∧Dig W32 (m.set xs.length c)∧val W32 (m.set xs.length c)=val W32 xs+val W32 ys:=by
 obtain⟨b,d,g,f⟩:=h
 refine⟨by simpa using b,d.set _ (by have:=xB;omega),?_⟩
 have e:m.set xs.length c=(m.set xs.length c).take (xs.length+1):=by rw[uA (by simp;omega)]
 rw[e,xL _ _ _ _ (by omega),f,uA (uM _),uA a]
theorem ZkJ (A A2:Option Addr)(xs ys:List Nat)(c c2:Nat)(w:World)(hX:zF .u32 w A xs)(hY:zF .u32 w A2 ys)(hl:xs.length≤35184372088832)(K:ys.length≤xs.length)(hx:Dig W32 xs)(hy:Dig W32 ys) :
 yA 102 #[.slice A xs.length c,.slice A2 ys.length c2] w (bR w (val W32 xs+val W32 ys)):=by
 have HX:=zh hX
 have HY:=zh hY
 have L:=zh hx
 have Hy:=zh hy
 clear hX hY hx hy
 go_enter Tryz.func102,Tryz.ntmps102
 go_wp2_with (
  at_make
  refine wO rfl _ _ _ rfl _ _ _ Tryz.underlying30 cH _ _ _ _ (xs.length+1) rfl rfl (by omega) (by omega) (by omega) (by omega) ?_
  intro b w1 hb D M E N
  have O:=zh D
  have P:=zh E
  have Q:=zh hb
  clear D E hb N M)
 go_loopw [6,7] (fun cv i wr=>∃ (k q:Nat) (m:List Nat),k≤xs.length∧i=.int .i64 k∧cv=.int .u64 q∧Hid (iQ xs ys k m q)∧Hid (Own .u32 102 wr b m)∧Hid (Ext w wr)) (fun _ i _=>xs.length-(intOf i).toNat)
 case atStart=>exact⟨0,0,_,by omega,rfl,rfl,iQ.start _ _,O,P⟩
 case round =>
  obtain⟨k,q,m,hk,rfl,rfl,B,g,j⟩:=hrel
  have R:=B.out.1
  by_cases t:k<xs.length
  ·obtain⟨b2,a0,rfl,_,S⟩:=(HX.out.ext j.out).at t
   obtain⟨x,ex⟩:=yE (xs[k]?.getD 0)
   rw[ex] at S
   have s:=ex ▸ L.out.getD zY k
   have r:=B.out.2.2.1
   have u:=g.out.cell (i:=k) (by omega)
   have T:=g.out.frozen k
   obtain⟨z,C⟩:=yE (m[k]?.getD 0)
   rw[C] at u
   have h:q+x<W64:=by have:=xB;have:=zO;omega
   have q0:=wE x (by have:=zO;have:=xB;omega)
   have q1:=addW (a:=q) (b:=x) h
   obtain⟨v,l⟩:=yE (q+x)
   rw[l] at q1
   by_cases F:k<ys.length
   ·obtain⟨b3,b0,rfl,_,U⟩:=(HY.out.ext j.out).at F
    obtain⟨y,J⟩:=yE (ys[k]?.getD 0)
    rw[J] at U
    have G:=J ▸ Hy.out.getD zY k
    have d:=zh (B.out.step t ex J F L.out Hy.out)
    rw[l] at d
    have d0:=wE y (by have:=zO;have:=xB;omega)
    have q2:=addW (a:=v) (b:=y) (by have:=xB;have:=zO;omega)
    obtain⟨H,I⟩:=yE (v+y)
    rw[I] at q2 d
    have f:=zh (g.out.set k (H%W32) (by omega))
    have V:=jP H
    have W:=hi32 H
    obtain⟨lo,n⟩:=yE (H%W32)
    obtain⟨hi,o⟩:=yE (H/W32)
    rw[n] at V d f
    rw[o] at W d
    clear ex J C n o l I s G r h
    go_wp2
    go_roundw
    case rel=>exact⟨k+1,_,_,by omega,by go_num,rfl,d,f.out,j.out.setCell (p:=⟨b,k,none⟩) (Or.inr (by have:=Q.out;show w.heap.size≤b;omega)) _⟩
    case measure=>simp[intOf];omega
   have d:=zh (B.out.step0 t ex (by omega) L.out)
   rw[l] at d
   have f:=zh (g.out.set k (v%W32) (by omega))
   have V:=jP v
   have W:=hi32 v
   obtain⟨lo,n⟩:=yE (v%W32)
   obtain⟨hi,o⟩:=yE (v/W32)
   rw[n] at V d f
   rw[o] at W d
   clear ex C n o l s r h
   go_wp2
   go_roundw
   case rel=>exact⟨k+1,_,_,by omega,by go_num,rfl,d,f.out,j.out.setCell (p:=⟨b,k,none⟩) (Or.inr (by have:=Q.out;show w.heap.size≤b;omega)) _⟩
   case measure=>simp[intOf];omega
  obtain rfl:k=xs.length:=by omega
  obtain⟨X,Y,Z⟩:=B.out.last K
  have u:=g.out.cell (i:=xs.length) (by omega)
  have T:=g.out.frozen xs.length
  obtain⟨z,C⟩:=yE (m[xs.length]?.getD 0)
  rw[C] at u
  have r:=B.out.2.2.1
  have c0:(q:Int)%4294967296=(q:Int):=by omega
  have f:=g.out.set xs.length q (by omega)
  obtain⟨m',em⟩:=yE (m.set xs.length q)
  rw[em] at X Y Z f
  have HT:=zh (lU _ _ (xs.length+1) (xs.length+1) _ X f.shows0 (by omega) (by omega))
  have HN:=zh (zS.of_own (c:=xs.length+1) f Y (by omega))
  rw[Z] at HN
  clear C X Y Z f r R em
  go_wp2_with fail
  refine HT.out.mono ?_
  rintro e w2 ⟨rfl,rfl⟩
  clear HT
  go_wp2
  go_ret
  exact⟨_,rfl,HN.out,j.out.setCell (p:=⟨b,xs.length,none⟩) (Or.inr (by have:=Q.out;show w.heap.size≤b;omega)) _⟩
theorem ZkK (A A2:Option Addr)(xs ys:List Nat)(c c2:Nat)(w:World)(hX:zF .u32 w A xs)(hY:zF .u32 w A2 ys)(hl:xs.length≤35184372088832)(r:ys.length<xs.length)(hx:Dig W32 xs)(hy:Dig W32 ys) :
 yA 102 #[.slice A2 ys.length c2,.slice A xs.length c] w (bR w (val W32 xs+val W32 ys)):=by
 have K:ys.length≤xs.length:=by omega
 have HX:=zh hX
 have HY:=zh hY
 have L:=zh hx
 have Hy:=zh hy
 clear hX hY hx hy
 go_enter Tryz.func102,Tryz.ntmps102
 go_wp2_with (
  at_make
  refine wO rfl _ _ _ rfl _ _ _ Tryz.underlying30 cH _ _ _ _ (xs.length+1) rfl rfl (by omega) (by omega) (by omega) (by omega) ?_
  intro b w1 hb D M E N
  have O:=zh D
  have P:=zh E
  have Q:=zh hb
  clear D E hb N M)
 go_loopw [6,7] (fun cv i wr=>∃ (k q:Nat) (m:List Nat),k≤xs.length∧i=.int .i64 k∧cv=.int .u64 q∧Hid (iQ xs ys k m q)∧Hid (Own .u32 102 wr b m)∧Hid (Ext w wr)) (fun _ i _=>xs.length-(intOf i).toNat)
 case atStart=>exact⟨0,0,_,by omega,rfl,rfl,iQ.start _ _,O,P⟩
 case round =>
  obtain⟨k,q,m,hk,rfl,rfl,B,g,j⟩:=hrel
  have R:=B.out.1
  by_cases r:k<xs.length
  ·obtain⟨b2,a0,rfl,_,S⟩:=(HX.out.ext j.out).at r
   obtain⟨x,ex⟩:=yE (xs[k]?.getD 0)
   rw[ex] at S
   have t:=ex ▸ L.out.getD zY k
   have s:=B.out.2.2.1
   have u:=g.out.cell (i:=k) (by omega)
   have T:=g.out.frozen k
   obtain⟨z,C⟩:=yE (m[k]?.getD 0)
   rw[C] at u
   have h:q+x<W64:=by have:=xB;have:=zO;omega
   have q0:=wE x (by have:=zO;have:=xB;omega)
   have q1:=addW (a:=q) (b:=x) h
   obtain⟨v,l⟩:=yE (q+x)
   rw[l] at q1
   by_cases F:k<ys.length
   ·obtain⟨b3,b0,rfl,_,U⟩:=(HY.out.ext j.out).at F
    obtain⟨y,J⟩:=yE (ys[k]?.getD 0)
    rw[J] at U
    have G:=J ▸ Hy.out.getD zY k
    have d:=zh (B.out.step r ex J F L.out Hy.out)
    rw[l] at d
    have d0:=wE y (by have:=zO;have:=xB;omega)
    have q2:=addW (a:=v) (b:=y) (by have:=xB;have:=zO;omega)
    obtain⟨H,I⟩:=yE (v+y)
    rw[I] at q2 d
    have f:=zh (g.out.set k (H%W32) (by omega))
    have V:=jP H
    have W:=hi32 H
    obtain⟨lo,n⟩:=yE (H%W32)
    obtain⟨hi,o⟩:=yE (H/W32)
    rw[n] at V d f
    rw[o] at W d
    clear ex J C n o l I t G s h
    go_wp2
    go_roundw
    case rel=>exact⟨k+1,_,_,by omega,by go_num,rfl,d,f.out,j.out.setCell (p:=⟨b,k,none⟩) (Or.inr (by have:=Q.out;show w.heap.size≤b;omega)) _⟩
    case measure=>simp[intOf];omega
   have d:=zh (B.out.step0 r ex (by omega) L.out)
   rw[l] at d
   have f:=zh (g.out.set k (v%W32) (by omega))
   have V:=jP v
   have W:=hi32 v
   obtain⟨lo,n⟩:=yE (v%W32)
   obtain⟨hi,o⟩:=yE (v/W32)
   rw[n] at V d f
   rw[o] at W d
   clear ex C n o l t s h
   go_wp2
   go_roundw
   case rel=>exact⟨k+1,_,_,by omega,by go_num,rfl,d,f.out,j.out.setCell (p:=⟨b,k,none⟩) (Or.inr (by have:=Q.out;show w.heap.size≤b;omega)) _⟩
   case measure=>simp[intOf];omega
  obtain rfl:k=xs.length:=by omega
  obtain⟨X,Y,Z⟩:=B.out.last K
  have u:=g.out.cell (i:=xs.length) (by omega)
  have T:=g.out.frozen xs.length
  obtain⟨z,C⟩:=yE (m[xs.length]?.getD 0)
  rw[C] at u
  have s:=B.out.2.2.1
  have c0:(q:Int)%4294967296=(q:Int):=by omega
  have f:=g.out.set xs.length q (by omega)
  obtain⟨m',em⟩:=yE (m.set xs.length q)
  rw[em] at X Y Z f
  have HT:=zh (lU _ _ (xs.length+1) (xs.length+1) _ X f.shows0 (by omega) (by omega))
  have HN:=zh (zS.of_own (c:=xs.length+1) f Y (by omega))
  rw[Z] at HN
  clear C X Y Z f s R em
  go_wp2_with fail
  refine HT.out.mono ?_
  rintro e w2 ⟨rfl,rfl⟩
  clear HT
  go_wp2
  go_ret
  exact⟨_,rfl,HN.out,j.out.setCell (p:=⟨b,xs.length,none⟩) (Or.inr (by have:=Q.out;show w.heap.size≤b;omega)) _⟩
theorem Za8 (v v2:Value)(x y:Nat)(w:World)(m:zS w v x)(n:zS w v2 y)(a:ml x≤17592186044416)(b:ml y≤17592186044416) :
 yA 102 #[v,v2] w (bR w (x+y)):=by
 obtain⟨A,d,c,rfl,r,i,e,o,rfl⟩:=m
 obtain⟨j,f,k,rfl,p,l,g,q,rfl⟩:=n
 rw[←kX e o] at a
 rw[←kX g q] at b
 by_cases h:f.length≤d.length
 ·exact ZkJ A j d f c k w i l (by omega) h e g
 rw[vL]
 exact ZkK j A f d k c w l i (by omega) (by omega) g e
def ZbF (xs ys:List Nat) (i:Nat) (zs:List Nat):Prop :=
 zs.length=xs.length+ys.length∧Dig W32 zs∧(∀ j,i+ys.length≤j→zs[j]?.getD 0=0)∧val W32 zs=val W32 (xs.take i)*val W32 ys
theorem ZbF.start (xs ys:List Nat):ZbF xs ys 0 (List.replicate (xs.length+ys.length) 0):=by
 refine⟨by simp,Dig.replicate zY _,?_,by simp[kS]⟩
 intro j _
 rw[List.getElem?_replicate];split<;>rfl
def ZaC (zs:List Nat) (i x:Nat) (ys:List Nat) (k:Nat) (ms:List Nat) (c:Nat):Prop :=
 ms.length=zs.length∧Dig W32 ms∧c<W32∧ms.drop (i+k)=zs.drop (i+k)∧val W32 (ms.take (i+k))+W32^(i+k)*c=val W32 (zs.take (i+k))+W32^i*(x*val W32 (ys.take k))
theorem ZaC.start {a ys:List Nat}{i x:Nat}(b:Dig W32 a):ZaC a i x ys 0 a 0:=⟨rfl,b,zY,rfl,by simp⟩
theorem ZaC.at {a ys b:List Nat}{i x k c:Nat}(h:ZaC a i x ys k b c):b[i+k]?.getD 0=a[i+k]?.getD 0:=by
 have:=vP (fun l=>l[0]?.getD 0) h.2.2.2.1
 simpa [List.getElem?_drop] using this
theorem sq32 {a b z c:Nat}(ha:a<W32)(d:b<W32)(e:z<W32)(f:c<W32):c+(a*b+z)<W32*W32:=by
 have g:a*b≤(W32-1)*(W32-1):=vV (by omega) (by omega)
 rw[xB] at *
 omega
theorem Zo1 (a b B V Z Y x y z c d c':Nat)(g:V+a*b*c=Z+a*(x*Y))(e:d+B*c'=c+(x*y+z)):V+a*b*d+a*b*B*c'=Z+a*b*z+a*(x*(Y+b*y)):=by
 have f:=vP (a*b * ·) e
 simp only[uN] at f ⊢
 have h:a*b*(B*c')=a*b*B*c':=by rw[uG (a*b)]
 have i:a*(x*(b*y))=a*b*(x*y):=by rw[vU x,uG]
 omega
theorem ZaC.step {a ys b:List Nat}{i x k c y z:Nat}(h:ZaC a i x ys k b c)(n:i+k<a.length)(o:x<W32)(e:ys[k]?.getD 0=y)(d:k<ys.length)(p:Dig W32 ys)(f:b[i+k]?.getD 0=z) :
 ZaC a i x ys (k+1) (b.set (i+k) ((c+(x*y+z))%W32)) ((c+(x*y+z))/W32):=by
 have q:a[i+k]?.getD 0=z:=h.at.symm.trans f
 obtain⟨r,g,s,t,m⟩:=h
 have u:=sq32 o (e ▸ p.getD zY k) (f ▸ g.getD zY (i+k)) s
 refine⟨by simpa using r,g.set _ (uP _ zY),rA u,?_,?_⟩
 ·rw[vX (by omega),← tO,← vM (i:=1) (j:=i+k) (l:=b),← vM (i:=1) (j:=i+k) (l:=a),t]
 rw[←tO,xL _ _ _ _ (by omega),zR (i+k) n,zR k d,q,e,uO,uS]
 rw[uS] at m
 exact Zo1 _ _ _ _ _ _ _ _ _ _ _ _ m (by have:=tR (c+(x*y+z)) W32;omega)
theorem ZdD {B:Nat}{a:List Nat}{n:Nat}(h:∀ j,n≤j→a[j]?.getD 0=0):val B a=val B (a.take n):=by
 rw[xU (xs:=a) n]
 have:val B (a.drop n)=0:=by
  have e:a.drop n=List.replicate (a.drop n).length 0:=by
   apply List.ext_getElem (by simp)
   intro i b c
   have:=h (n+i) (by omega)
   rw[vZ] at b
   rw[List.getElem?_eq_getElem (by omega)] at this
   simpa using this
  rw[e,kS]
 rw[this];simp
theorem ZbF.next {xs ys b a:List Nat}{i x c:Nat}(h:ZbF xs ys i b)(k:ZaC b i x ys ys.length a c)(hi:i<xs.length)(f:xs[i]?.getD 0=x):ZbF xs ys (i+1) (a.set (i+ys.length) c):=by
 obtain⟨g,s,d,m⟩:=h
 obtain⟨n,o,p,q,r⟩:=k
 have e:∀ j,i+1+ys.length≤j→(a.set (i+ys.length) c)[j]?.getD 0=0:=by
  intro j t
  rw[List.getElem?_set_ne (by omega)]
  have:=vP (fun l=>l[j-(i+ys.length)]?.getD 0) q
  simp only[List.getElem?_drop] at this
  rw[show i+ys.length+(j-(i+ys.length))=j by omega] at this
  rw[this];exact d j (by omega)
 refine⟨by simp[n,g],o.set _ p,e,?_⟩
 rw[ZdD e,show i+1+ys.length=i+ys.length+1 by omega,xL _ _ _ _ (by omega),r,← ZdD d,m,zR i hi,f,uU,uA (uM ys.length),uG]
theorem ZkL (A A2:Option Addr)(xs ys:List Nat)(c c2:Nat)(w:World)(hX:zF .u32 w A xs)(hY:zF .u32 w A2 ys)(hl:xs.length≤35184372088832)(e0:ys.length≤35184372088832)(Q:0<xs.length)(R:0<ys.length)(hx:Dig W32 xs)(hy:Dig W32 ys) :
 yA 103 #[.slice A xs.length c,.slice A2 ys.length c2] w (bR w (val W32 xs*val W32 ys)):=by
 have HX:=zh hX
 have HY:=zh hY
 have Hx:=zh hx
 have Hy:=zh hy
 have g1:(((xs.length:Nat):Int) == 0)=false:=by simp;intro e;simp[e] at Q
 have g2:(((ys.length:Nat):Int) == 0)=false:=by simp;intro e;simp[e] at R
 clear hX hY hx hy
 go_enter Tryz.func103,Tryz.ntmps103
 go_wp2_with (
  at_make
  refine wO rfl _ _ _ rfl _ _ _ Tryz.underlying30 cH _ _ _ _ (xs.length+ys.length) rfl rfl (by omega) (by omega) (by omega) (by omega) ?_
  intro b w1 o E S F T
  have U:=zh E
  have V:=zh F
  have Hb:=zh o
  clear E F o T S)
 go_loopw [6,7,8] (fun i _ _ wr=>∃ (k:Nat) (m:List Nat),k≤xs.length∧i=.int .i64 k∧Hid (ZbF xs ys k m)∧Hid (Own .u32 102 wr b m)∧Hid (Ext w wr)) (fun i _ _ _=>xs.length-(intOf i).toNat)
 case atStart=>exact⟨0,_,by omega,rfl,ZbF.start _ _,U,V⟩
 case round =>
  obtain⟨k,zs,hk,rfl,G,t,H⟩:=hrel
  have I:=G.out.1
  by_cases u:k<xs.length
  ·obtain⟨x,ex⟩:=yE (xs[k]?.getD 0)
   have J:=zh ex
   have g:Hid (x<W32):=ex ▸ Hx.out.getD zY k
   obtain⟨b2,b0,hA,_⟩:=HX.out.at u
   subst hA
   clear ex
   go_wp2
   obtain⟨wo,rfl⟩:∃ wo:World,wo=wr:=⟨_,rfl⟩
   go_loopw [7,8] (fun cv j wr=>∃ (n v:Nat) (m:List Nat),n≤ys.length∧j=.int .i64 n∧cv=.int .u64 v∧Hid (ZaC zs k x ys n m v)∧Hid (Own .u32 102 wr b m)∧Hid (Ext w wr)) (fun _ j _=>ys.length-(intOf j).toNat)
   case atStart=>exact⟨0,0,_,by omega,rfl,rfl,ZaC.start G.out.2.1,t,H⟩
   case round =>
    obtain⟨n,v,m,hn,rfl,rfl,D,d,h⟩:=hrel
    have f0:=D.out.1
    by_cases q:n<ys.length
    ·obtain⟨b3,c0,rfl,_,W⟩:=(HY.out.ext h.out).at q
     obtain⟨b4,d0,e4,_,X⟩:=(HX.out.ext h.out).at u
     injection e4 with e4
     injection e4 with e4 e5
     subst e4 e5
     rw[J.out] at X
     obtain⟨y,P⟩:=yE (ys[n]?.getD 0)
     rw[P] at W
     obtain⟨z,B⟩:=yE (m[k+n]?.getD 0)
     have C:=d.out.cell (i:=k+n) (by omega)
     have Y:=d.out.frozen (k+n)
     rw[B] at C
     have r:=P ▸ Hy.out.getD zY n
     have s:=B ▸ D.out.2.1.getD zY (k+n)
     have o:=sq32 g.out r s D.out.2.2.1
     rw[bQ] at o
     have f:=zh (D.out.step (by omega) g.out P q Hy.out B)
     have q0:=wE x (by have:=zO;have:=xB;have:=g.out;omega)
     have q1:=wE y (by have:=zO;have:=xB;omega)
     have q2:=wE z (by have:=zO;have:=xB;omega)
     have q3:IntKind.u64.wrap ((x:Int)*(y:Int))=((x*y:Nat):Int):=by rw[←tB];exact wE _ (by omega)
     obtain⟨p,ep⟩:=yE (x*y)
     rw[ep] at q3 f o
     have q4:=addW (a:=p) (b:=z) (by omega)
     obtain⟨s1,K⟩:=yE (p+z)
     rw[K] at q4 f o
     have q5:=addW (a:=v) (b:=s1) o
     obtain⟨L,M⟩:=yE (v+s1)
     rw[M] at q5 f
     have Z:=jP L
     have q7:=hi32 L
     have l:=zh (d.out.set (k+n) (L%W32) (by omega))
     obtain⟨lo,N⟩:=yE (L%W32)
     obtain⟨hi,O⟩:=yE (L/W32)
     rw[N] at Z f l
     rw[O] at q7 f
     clear P B r s o ep K M N O
     go_wp2
     go_region
     all_goals
      go_wp2
      go_roundw
      case rel=>exact⟨n+1,_,_,by omega,by go_num,rfl,f,l.out.drewN _,(h.out.drewN _).setCell (p:=⟨b,k+n,none⟩) (Or.inr (by have:=Hb.out;show w.heap.size≤b;omega)) _⟩
      case measure=>simp[intOf];omega
    obtain rfl:n=ys.length:=by omega
    have a0:=zh (G.out.next D.out u J.out)
    have C:=d.out.cell (i:=k+ys.length) (by omega)
    have Y:=d.out.frozen (k+ys.length)
    obtain⟨z,B⟩:=yE (m[k+ys.length]?.getD 0)
    rw[B] at C
    have l:=zh (d.out.set (k+ys.length) v (by omega))
    have Z:=jP v
    rw[vC D.out.2.2.1] at Z
    clear B
    go_wp2
    go_roundw
    case rel=>exact⟨k+1,_,by omega,by go_num,a0,l.out,h.out.setCell (p:=⟨b,k+ys.length,none⟩) (Or.inr (by have:=Hb.out;show w.heap.size≤b;omega)) _⟩
    case measure=>simp[intOf];omega
  obtain rfl:k=xs.length:=by omega
  have HT:=zh (lU _ zs (xs.length+ys.length) (xs.length+ys.length) wr I t.out.shows0 (by omega) (by omega))
  have HN:=zh (zS.of_own (c:=xs.length+ys.length) t.out G.out.2.1 (by omega))
  rw[G.out.2.2.2,uA (uM _)] at HN
  clear I
  go_wp2_with fail
  refine HT.out.mono ?_
  rintro e w2 ⟨rfl,rfl⟩
  clear HT
  go_wp2
  go_ret
  exact⟨_,rfl,HN.out,H.out⟩
theorem ZkM (A b:Option Addr)(n m c c2:Nat)(w:World)(h:n=0∨m=0)(d:n≤35184372088832)(e:m≤35184372088832) :
 yA 103 #[.slice A n c,.slice b m c2] w (bR w 0):=by
 by_cases a:n=0
 ·subst a
  go_enter Tryz.func103,Tryz.ntmps103
  go_wp2
  go_ret
  exact⟨_,rfl,zS.zero _,Fr.refl _ _⟩
 obtain rfl:m=0:=by omega
 have f:(((n:Nat):Int) == 0)=false:=by simpa using a
 go_enter Tryz.func103,Tryz.ntmps103
 go_wp2
 go_ret
 exact⟨_,rfl,zS.zero _,Fr.refl _ _⟩
theorem bF (v v2:Value)(x y:Nat)(w:World)(l:zS w v x)(m:zS w v2 y)(a:ml x≤17592186044416)(b:ml y≤17592186044416) :
 yA 103 #[v,v2] w (bR w (x*y)):=by
 obtain⟨A,d,c,rfl,s,n,g,o,rfl⟩:=l
 obtain⟨i,f,j,rfl,p,q,k,r,rfl⟩:=m
 rw[←kX g o] at a
 rw[←kX k r] at b
 by_cases h:d.length=0∨f.length=0
 ·have e:val W32 d*val W32 f=0:=by
   rcases h with h|h
   ·rw[tI.1 h];simp
   rw[tI.1 h];simp
  rw[e]
  exact ZkM A i _ _ c j w h (by omega) (by omega)
 exact ZkL A i d f c j w n q (by omega) (by omega) (by omega) (by omega) g k
def Zc5 (xs:List Nat) (d k:Nat) (zs:List Nat) (r:Nat):Prop :=
 zs.length=xs.length∧Dig W32 zs∧r<d∧val W32 (xs.drop k)=val W32 (zs.drop k)*d+r
theorem Zc5.start (xs:List Nat){d:Nat}(h:0<d):Zc5 xs d xs.length (List.replicate xs.length 0) 0:=⟨by simp,Dig.replicate zY _,h,by simp⟩
theorem Zc5.step {xs a:List Nat}{d k r x:Nat}(h:Zc5 xs d (k+1) a r)(e:k<xs.length)(b:xs[k]?.getD 0=x)(dx:Dig W32 xs) :
 Zc5 xs d k (a.set k ((r*W32+x)/d)) ((r*W32+x)%d)∧(r*W32+x)/d<W32:=by
 obtain⟨f,g,i,j⟩:=h
 have l:x<W32:=b ▸ dx.getD zY k
 have c:(r*W32+x)/d<W32:=by
  apply rA
  have:(r+1)*W32≤d*W32:=uC _ i
  rw[uU,sV] at this
  omega
 refine⟨⟨by simpa using f,g.set k c,uP _ (by omega),?_⟩,c⟩
 rw[xV k e,xV (xs:=a.set k _) k (by simp;omega),b,vX (by omega),List.getElem?_set_self (by omega)]
 exact Zft _ _ _ _ _ _ _ _ j (by have:=vO (r*W32+x) d;rw[uF d] at this;show _=(r*W32+x)/d*d+_;omega)
theorem Zmj (r:Nat)(h:r<W32):IntKind.u64.wrap ((r:Int)*4294967296)=((r*W32:Nat):Int):=by
 rw[xB] at *;rw[IntKind.wrap_u64];omega
theorem or32 (r x:Nat)(a:x<W32):r*W32 ||| x=r*W32+x:=by
 rw[xB] at *
 have:=tL (i:=32) (b:=x) (by omega) r
 rw[sK] at this
 exact this.symm
def ZhW (w:World) (x d:Nat) (e:Ending) (w':World):Prop:=∃ l c,e=.returned (.tuple #[.slice (some ⟨w.heap.size,0,none⟩) l c,.int .u32 ((x%d:Nat):Int)])∧zS w' (.slice (some ⟨w.heap.size,0,none⟩) l c) (x/d)∧Ext w w'
theorem ZiB (A:Option Addr)(xs:List Nat)(c d:Nat)(w:World)(V:zF .u32 w A xs)(hl:xs.length≤35184372088832)(W:Dig W32 xs)(hd:0<d)(y:d<W32) :
 yA 115 #[.slice A xs.length c,.int .u32 (d:Int)] w (ZhW w (val W32 xs) d):=by
 have HX:=zh V
 have X:=zh W
 have Y:=zh hd
 have B:=zh y
 have g1:(((d:Nat):Int) == 0)=false:=by simp;omega
 have q0:=wE d (by have:=zO;have:=xB;omega)
 clear V W y
 go_enter Tryz.func115,Tryz.ntmps115
 go_wp2_with (
  at_make
  refine wO rfl _ _ _ rfl _ _ _ Tryz.underlying30 cH _ _ _ _ xs.length rfl rfl (by omega) (by omega) (by omega) (by omega) ?_
  intro b w1 Z C L D M
  have N:=zh C
  have O:=zh D
  have P:=zh Z
  clear C D Z M L)
 go_loopw [7,8] (fun rv i wr=>∃ (k r:Nat) (m:List Nat),k≤xs.length∧i=.int .i64 ((k:Int)-1)∧rv=.int .u64 r∧Hid (Zc5 xs d k m r)∧Hid (Own .u32 102 wr b m)∧Hid (Ext w wr)) (fun _ i _=>(intOf i+1).toNat)
 case atStart=>exact⟨xs.length,0,_,by omega,rfl,rfl,Zc5.start _ Y.out,N,O⟩
 case round =>
  obtain⟨k,r,m,hk,rfl,rfl,v,f,t⟩:=hrel
  have E:=v.out.1
  by_cases b0:0<k
  ·obtain⟨k,rfl⟩:∃ j,k=j+1:=⟨k-1,by omega⟩
   have F:k<xs.length:=by omega
   obtain⟨b2,a0,rfl,_,Q⟩:=(HX.out.ext t.out).at F
   obtain⟨x,ex⟩:=yE (xs[k]?.getD 0)
   rw[ex] at Q
   have o:=ex ▸ X.out.getD zY k
   have R:=f.out.cell (i:=k) (by omega)
   have c0:=f.out.frozen k
   obtain⟨z,ez⟩:=yE (m[k]?.getD 0)
   rw[ez] at R
   have hi:((k+1:Nat):Int)-1=(k:Int):=by omega
   rw[hi]
   obtain⟨G,J⟩:=v.out.step F ex X.out
   have g:=zh G
   have h:r<W32:=qF v.out.2.2.1 B.out
   have q1:=Zmj r h
   have q2:=wE x (by have:=zO;have:=xB;omega)
   have u:r*W32+x<W64:=by
    have:(r+1)*W32≤W32*W32:=uC _ h
    rw[uU,bQ] at this;omega
   have S:=bN (a:=r*W32) (b:=x) (by omega) (by omega)
   rw[or32 r x o] at S
   obtain⟨rw1,e1⟩:=yE (r*W32)
   rw[e1] at q1 S g J u
   obtain⟨s,es⟩:=yE (rw1+x)
   rw[es] at S g J u
   have q4:(s:Int).tdiv (d:Int)=((s/d:Nat):Int):=by rw[sH (by omega)];rfl
   have T:(s:Int)/(d:Int)=((s/d:Nat):Int):=rfl
   have q5:(s:Int).tmod (d:Int)=((s%d:Nat):Int):=by rw[tM (by omega)];rfl
   have U:(s:Int)%(d:Int)=((s%d:Nat):Int):=rfl
   have H:=zh (f.out.set k (s/d) (by omega))
   have K:=jP (s/d)
   rw[vC J] at K
   have q7:IntKind.u64.wrap ((s/d:Nat):Int)=((s/d:Nat):Int):=wE _ (by have:=zO;have:=xB;omega)
   obtain⟨q,eq⟩:=yE (s/d)
   obtain⟨r2,I⟩:=yE (s%d)
   rw[eq] at q4 T K q7 H g
   rw[I] at q5 U g
   clear ex ez o G J h u e1 es eq I hi
   go_wp2
   refine⟨⟨k,_,_,by omega,rfl,rfl,g,H,t.out.setCell (p:=⟨b,k,none⟩) (Or.inr (by have:=P.out;show w.heap.size≤b;omega)) _⟩,?_⟩
   simp[intOf]
  obtain rfl:k=0:=by omega
  have l:=v.out.2.2.2
  rw[tS,tS] at l
  have HT:=zh (lU _ m xs.length xs.length wr E f.out.shows0 (by omega) (by omega))
  have HN:=zh (zS.of_own (c:=xs.length) f.out v.out.2.1 (by omega))
  have n:=v.out.2.2.1
  have ed:val W32 xs/d=val W32 m:=by
   rw[l,uF,sP Y.out,tG n,tA]
  have I:val W32 xs%d=r:=by
   rw[l,uF,rX,vC n]
  rw[←ed] at HN
  have HE:=zh I
  have K:=jP r
  rw[vC (qF n B.out)] at K
  clear l n ed I E
  go_wp2_with fail
  refine HT.out.mono ?_
  rintro e w2 ⟨rfl,rfl⟩
  clear HT
  go_wp2
  go_ret2
  exact⟨_,_,by rw[HE.out,P.out];rfl,by rw[P.out];exact HN.out,t.out⟩
theorem Zd0 (v:Value)(x d:Nat)(w:World)(f:zS w v x)(a:ml x≤17592186044416)(g:0<d)(b:d<W32) :
 yA 115 #[v,.int .u32 (d:Int)] w (ZhW w x d):=by
 obtain⟨A,h,c,rfl,k,i,e,j,rfl⟩:=f
 rw[←kX e j] at a
 exact ZiB A h c d w i (by omega) e g b
def iX (xs ys:List Nat) (k:Nat) (m:List Nat) (c:Nat):Prop :=
 m.length=xs.length∧Dig W32 m∧c≤1∧val W32 (m.take k)+val W32 (ys.take k)=val W32 (xs.take k)+W32^k*c
theorem iX.start (xs ys:List Nat):iX xs ys 0 (List.replicate xs.length 0) 0:=⟨by simp,Dig.replicate zY _,by omega,by simp⟩
noncomputable def d32 (x y c:Nat):Nat:=(x+W64-c-y)%W64
theorem Zfy {x y c:Nat}(a:x<W32)(b:y<W32)(d:c≤1):d32 x y c%W32+y+c=x+W32*(d32 x y c/W32%2):=by
 unfold d32
 rw[xB] at *
 rw[zO] at *
 omega
theorem iX.step {xs ys m:List Nat}{k c x y:Nat}(h:iX xs ys k m c)(e:k<xs.length)(b:xs[k]?.getD 0=x)(d:ys[k]?.getD 0=y)(a:k<ys.length)(dx:Dig W32 xs)(f:Dig W32 ys) :
 iX xs ys (k+1) (m.set k (d32 x y c%W32)) (d32 x y c/W32%2):=by
 obtain⟨g,i,j,l⟩:=h
 refine⟨by simpa using g,i.set k (uP _ zY),by omega,?_⟩
 rw[xL _ _ _ _ (by omega),zR k e,zR k a,b,d,uO]
 exact Zfs _ _ _ _ _ _ _ _ _ _ l (Zfy (b ▸ dx.getD zY k) (d ▸ f.getD zY k) j)
theorem iX.step0 {xs ys m:List Nat}{k c x:Nat}(h:iX xs ys k m c)(d:k<xs.length)(a:xs[k]?.getD 0=x)(e:ys.length≤k)(dx:Dig W32 xs) :
 iX xs ys (k+1) (m.set k (d32 x 0 c%W32)) (d32 x 0 c/W32%2):=by
 obtain⟨f,g,i,b⟩:=h
 refine⟨by simpa using f,g.set k (uP _ zY),by omega,?_⟩
 rw[xL _ _ _ _ (by omega),zR k d,a,uO,uA (l:=ys) (by omega)]
 rw[uA (l:=ys) (by omega)] at b
 have:=Zfs _ _ _ _ _ _ 0 _ _ _ b (Zfy (y:=0) (a ▸ dx.getD zY k) zY i)
 simpa using this
theorem iX.done {xs ys m:List Nat}{c:Nat}(h:iX xs ys xs.length m c)(e:ys.length≤xs.length)(f:val W32 ys≤val W32 xs):val W32 m=val W32 xs-val W32 ys:=by
 obtain⟨b,d,g,a⟩:=h
 rw[uA (by omega),uA (by omega),uA (by omega)] at a
 have:=xZ d
 rw[b] at this
 rcases (by omega:c=0∨c=1) with rfl|rfl
 ·simp at a;omega
 omega
theorem Zqk {x c:Nat}(a:x<W32)(b:c≤1):IntKind.u64.wrap ((x:Int)-(c:Int))=((d32 x 0 c:Nat):Int):=by
 unfold d32;rw[IntKind.wrap_u64,zO];rw[xB] at a;omega
theorem Zql {x y c:Nat}(a:x<W32)(b:y<W32)(d:c≤1):IntKind.u64.wrap (((d32 x 0 c:Nat):Int)-(y:Int))=((d32 x y c:Nat):Int):=by
 unfold d32;rw[IntKind.wrap_u64,zO];rw[xB] at a b;omega
theorem Zjp (x y c:Nat):d32 x y c<W64:=uP _ zM
theorem Zhh (h:Nat)(a:h<W64):bits .and .u64 (h:Int) 1=((h%2:Nat):Int):=by
 rw[zO] at a
 have:=bits_and_u64_nat h 1 a (by omega)
 rw[Nat.and_one_is_mod] at this
 exact this
theorem ZkN (A V:Option Addr)(xs ys:List Nat)(c c2:Nat)(w:World)(W:zF .u32 w A xs)(X:zF .u32 w V ys)(hl:xs.length≤35184372088832)(K:ys.length≤xs.length)(Y:Dig W32 xs)(Z:Dig W32 ys)(hv:val W32 ys≤val W32 xs) :
 yA 117 #[.slice A xs.length c,.slice V ys.length c2] w (bR w (val W32 xs-val W32 ys)):=by
 have HX:=zh W
 have HY:=zh X
 have L:=zh Y
 have Hy:=zh Z
 have HV:=zh hv
 clear W X Y Z hv
 go_enter Tryz.func117,Tryz.ntmps117
 go_wp2_with (
  at_make
  refine wO rfl _ _ _ rfl _ _ _ Tryz.underlying30 cH _ _ _ _ xs.length rfl rfl (by omega) (by omega) (by omega) (by omega) ?_
  intro b w1 hb B M C N
  have O:=zh B
  have P:=zh C
  have Hb:=zh hb
  clear B C hb N M)
 go_loopw [6,7,8] (fun cv i _ wr=>∃ (k f:Nat) (m:List Nat),k≤xs.length∧i=.int .i64 k∧cv=.int .u64 f∧Hid (iX xs ys k m f)∧Hid (Own .u32 102 wr b m)∧Hid (Ext w wr)) (fun _ i _ _=>xs.length-(intOf i).toNat)
 case atStart=>exact⟨0,0,_,by omega,rfl,rfl,iX.start _ _,O,P⟩
 case round =>
  obtain⟨k,f,m,hk,rfl,rfl,v,h,j⟩:=hrel
  have D:=v.out.1
  by_cases t:k<xs.length
  ·obtain⟨b2,a0,rfl,_,Q⟩:=(HX.out.ext j.out).at t
   obtain⟨x,ex⟩:=yE (xs[k]?.getD 0)
   rw[ex] at Q
   have g:=ex ▸ L.out.getD zY k
   have r:=v.out.2.2.1
   have R:=h.out.cell (i:=k) (by omega)
   have c0:=h.out.frozen k
   obtain⟨z,S⟩:=yE (m[k]?.getD 0)
   rw[S] at R
   have q0:=wE x (by have:=zO;have:=xB;omega)
   have q1:=Zqk g r
   by_cases E:k<ys.length
   ·obtain⟨b3,b0,rfl,_,T⟩:=(HY.out.ext j.out).at E
    obtain⟨y,J⟩:=yE (ys[k]?.getD 0)
    rw[J] at T
    have s:=J ▸ Hy.out.getD zY k
    have a:=zh (v.out.step t ex J E L.out Hy.out)
    have d0:=wE y (by have:=zO;have:=xB;omega)
    have q2:=Zql g s r
    have F:=jP (d32 x y f)
    have G:=hi32 (d32 x y f)
    have u:=Zhh (d32 x y f/W32) (vE (uZ _ _) (Zjp _ _ _))
    have d:=zh (h.out.set k (d32 x y f%W32) (by omega))
    obtain⟨d1,H⟩:=yE (d32 x 0 f)
    obtain⟨I,l⟩:=yE (d32 x y f)
    rw[H] at q1 q2
    rw[l] at q2 F G u d a
    obtain⟨lo,n⟩:=yE (I%W32)
    obtain⟨U,o⟩:=yE (I/W32)
    rw[n] at F a d
    rw[o] at G u a
    obtain⟨bw,q⟩:=yE (U%2)
    rw[q] at u a
    clear ex J S n o H l q g s r
    go_wp2
    go_roundw
    case rel=>exact⟨k+1,_,_,by omega,by go_num,rfl,a,d.out,j.out.setCell (p:=⟨b,k,none⟩) (Or.inr (by have:=Hb.out;show w.heap.size≤b;omega)) _⟩
    case measure=>simp[intOf];omega
   have a:=zh (v.out.step0 t ex (by omega) L.out)
   have F:=jP (d32 x 0 f)
   have G:=hi32 (d32 x 0 f)
   have u:=Zhh (d32 x 0 f/W32) (vE (uZ _ _) (Zjp _ _ _))
   have d:=zh (h.out.set k (d32 x 0 f%W32) (by omega))
   obtain⟨I,l⟩:=yE (d32 x 0 f)
   rw[l] at q1 F G u d a
   obtain⟨lo,n⟩:=yE (I%W32)
   obtain⟨U,o⟩:=yE (I/W32)
   rw[n] at F a d
   rw[o] at G u a
   obtain⟨bw,q⟩:=yE (U%2)
   rw[q] at u a
   clear ex S n o l q g r
   go_wp2
   go_roundw
   case rel=>exact⟨k+1,_,_,by omega,by go_num,rfl,a,d.out,j.out.setCell (p:=⟨b,k,none⟩) (Or.inr (by have:=Hb.out;show w.heap.size≤b;omega)) _⟩
   case measure=>simp[intOf];omega
  obtain rfl:k=xs.length:=by omega
  have l3:=v.out.done K HV.out
  have HT:=zh (lU _ m xs.length xs.length wr D h.out.shows0 (by omega) (by omega))
  have HN:=zh (zS.of_own (c:=xs.length) h.out v.out.2.1 (by omega))
  rw[l3] at HN
  clear l3 D
  go_wp2_with fail
  refine HT.out.mono ?_
  rintro e w2 ⟨rfl,rfl⟩
  clear HT
  go_wp2
  go_ret
  exact⟨_,rfl,HN.out,j.out⟩
theorem Za9 (v v2:Value)(x y:Nat)(w:World)(g:zS w v x)(h:zS w v2 y)(b:ml x≤17592186044416)(a:y≤x) :
 yA 117 #[v,v2] w (bR w (x-y)):=by
 have d:=Zap a
 obtain⟨A,i,c,rfl,r,j,e,k,rfl⟩:=g
 obtain⟨l,m,n,rfl,o,p,f,q,rfl⟩:=h
 rw[←kX e k] at b d
 rw[←kX f q] at d
 exact ZkN A l i m c n w j p (by omega) d e f a
theorem Zno {xs ys:List Nat}(a:Dig W32 xs)(b:Dig W32 ys)(c:Trim xs)(d:Trim ys)(e:xs.length≠ys.length):cmpI xs.length ys.length=cmpI (val W32 xs) (val W32 ys):=by
 rcases qP e with h|h
 ·rw[jS (by omega),jS (by have:=gP zY a d h;omega)]
 rw[iO (by omega),iO (by have:=gP zY b c h;omega)]
theorem ZkO {xs ys:List Nat}(d:Dig W32 xs)(e:Dig W32 ys)(b:xs.length=ys.length){k x y:Nat}(f:k<xs.length)(c:xs.drop (k+1)=ys.drop (k+1))(ex:xs[k]?.getD 0=x)(g:ys[k]?.getD 0=y)(a:x≠y) :
 cmpI x y=cmpI (val W32 xs) (val W32 ys):=by
 subst ex g
 rcases qP a with h|h
 ·rw[jS (by omega),jS (by have:=dQ d b k f c h;omega)]
 rw[iO (by omega),iO (by have:=dQ e b.symm k (by omega) c.symm h;omega)]
theorem Zfd (A E:Option Addr)(xs ys:List Nat)(n m c c2:Nat)(w:World)(L:xs.length=n)(M:ys.length=m)(s:zF .u32 w A xs)(t:zF .u32 w E ys)(X:xs.length≤70368744177664)(_:ys.length≤70368744177664)(o:Dig W32 xs)(p:Dig W32 ys)(u:Trim xs)(v:Trim ys) :
 yA 116 #[.slice A n c,.slice E m c2] w fun e w'=>e=.returned (.int .i64 (cmpI (val W32 xs) (val W32 ys)))∧∃ n,w'=w.drewN n:=by
 subst L M
 by_cases q:xs.length=ys.length
 ·have N:=zh s
  have O:=zh t
  have h:=zh q
  have P:=zh o
  have R:=zh p
  have z:(((xs.length:Nat):Int) != (ys.length:Nat))=false:=by simp[q]
  clear s t o p u v q
  go_enter Tryz.func116,Tryz.ntmps116
  go_wp2
  go_loopw [5] (fun i wr=>∃ k n:Nat,k≤xs.length∧i=.int .i64 ((k:Int)-1)∧Hid (xs.drop k=ys.drop k)∧Hid (wr=w.drewN n)) (fun i _=>(intOf i+1).toNat)
  case atStart=>exact⟨xs.length,0,uM _,rfl,by unfold Hid;rw[uX (uM _),uX (by rw[h.out];exact uM _)],rfl⟩
  case round =>
   obtain⟨k,n,Y,rfl,Q,F⟩:=hrel
   obtain rfl:=F.out
   clear F
   by_cases S:0<k
   ·obtain⟨j,rfl⟩:∃ j,k=j+1:=⟨k-1,by omega⟩
    have G:(((j+1:Nat):Int)-1)=(j:Int):=by omega
    rw[G]
    clear G
    obtain⟨b,T,rfl,_,B⟩:=N.out.at (i:=j) (by omega)
    obtain⟨Z,H,rfl,_,C⟩:=O.out.at (i:=j) (by have:=h.out;omega)
    obtain⟨x,ex⟩:=yE (xs[j]?.getD 0)
    obtain⟨y,f⟩:=yE (ys[j]?.getD 0)
    rw[ex] at B
    rw[f] at C
    have U:(j:Int)<(ys.length:Nat):=by have:=h.out;omega
    have V:(j:Int)<(xs.length:Nat):=by omega
    by_cases I:x=y
    ·subst I
     have r:Hid (xs.drop j=ys.drop j):=by
      unfold Hid
      have J:j<xs.length:=by omega
      have K:j<ys.length:=by have:=h.out;omega
      rw[tJ J,tJ K,Q.out]
      rw[List.getElem?_eq_getElem J] at ex
      rw[List.getElem?_eq_getElem K] at f
      simp only[rP] at ex f
      rw[ex,f]
     clear ex f Q
     go_wp2
     go_quiet (fail)
     go_wp2
     go_roundw
     case rel=>exact⟨j,_,by omega,rfl,r,rfl⟩
     case measure=>simp[intOf]
    have g:=zh (ZkO P.out R.out h.out (by omega) Q.out ex f I)
    have W:(((x:Nat):Int) != (y:Nat))=true:=by simp;omega
    clear ex f Q
    by_cases D:x<y
    ·have d:=zh (jS (a:=x) (b:=y) (by omega))
     go_wp2
     go_quiet (fail)
     go_wp2
     go_quiet (fail)
     go_wp2
     go_ret
     exact⟨by rw[←g.out,d.out];rfl,by simp only[World.drewN_drewN];exact⟨_,rfl⟩⟩
    have d:=zh (iO (a:=x) (b:=y) (by omega))
    go_wp2
    go_quiet (fail)
    go_wp2
    go_quiet (fail)
    go_wp2
    go_ret
    exact⟨by rw[←g.out,d.out];rfl,by simp only[World.drewN_drewN];exact⟨_,rfl⟩⟩
   obtain rfl:k=0:=by omega
   have r:xs=ys:=by simpa using Q.out
   have g:=zh (vP (fun l=>cmpI (val W32 xs) (val W32 l)) r)
   clear Q r
   go_wp2
   go_ret
   exact⟨by rw[←(show _=cmpI (val W32 xs) (val W32 ys) from g.out),ZaP];rfl,_,rfl⟩
 have z:(((xs.length:Nat):Int) != (ys.length:Nat))=true:=by simp;omega
 have g:=zh (Zno o p u v q)
 clear s t o p u v
 by_cases D:xs.length<ys.length
 ·have d:=zh (jS (a:=xs.length) (b:=ys.length) (by omega))
  go_enter Tryz.func116,Tryz.ntmps116
  go_wp2
  go_ret
  exact⟨by rw[←g.out,d.out];rfl,0,rfl⟩
 have d:=zh (iO (a:=xs.length) (b:=ys.length) (by omega))
 go_enter Tryz.func116,Tryz.ntmps116
 go_wp2
 go_ret
 exact⟨by rw[←g.out,d.out];rfl,0,rfl⟩
theorem bG (u v:Value)(m n:Nat)(w:World)(g:zS w u m)(h:zS w v n)(i:ml m≤17592186044416)(j:ml n≤17592186044416) :
 yA 116 #[u,v] w fun e w'=>e=.returned (.int .i64 (cmpI m n))∧∃ n,w'=w.drewN n:=by
 obtain⟨A,k,c,rfl,t,l,a,b,rfl⟩:=g
 obtain⟨o,p,q,rfl,r,s,d,f,rfl⟩:=h
 rw[←kX a b] at i
 rw[←kX d f] at j
 exact Zfd A o k p _ _ c q w rfl rfl l s (by omega) (by omega) a d b f
end Go.Proofs.YtklpdkpcocnglaaGreatDoor
namespace Go.Proofs.YtklpdkpcocnglaaGreatDoor
def iY (X v n k:Nat) (rs qs:List Nat):Prop :=
 Dig W32 rs∧Dig W32 qs∧rs.length=qs.length+n∧val W32 rs+val W32 (qs.drop k)*W32^k*v=X∧val W32 (rs.drop k)<v
theorem iY.window {X v n k:Nat}{a c:List Nat}(h:iY X v n (k+1) a c)(g:v≤W32^n)(i:k+n<a.length) :
 val W32 (a.drop k)=val W32 ((a.drop k).take (n+1))∧val W32 (a.drop k)<v*W32∧val W32 (a.drop (k+n+1))=0:=by
 obtain⟨d,j,l,m,f⟩:=h
 have b:val W32 (a.drop (k+n+1))=0:=by
  have e:=xU (B:=W32) (xs:=a.drop (k+1)) n
  rw[vM,show k+1+n=k+n+1 by omega,uV (by simp;omega)] at e
  rcases uI (val W32 (a.drop (k+n+1))) with h|h
  ·exact h
  have:W32^n*1≤W32^n*val W32 (a.drop (k+n+1)):=uK _ h
  omega
 refine⟨?_,?_,b⟩
 ·have e:=xU (B:=W32) (xs:=a.drop k) (n+1)
  rw[vM,show k+(n+1)=k+n+1 by omega,b] at e
  simpa using e
 rw[xV k (by omega)]
 have o:=d.getD zY k
 have:W32*(val W32 (a.drop (k+1))+1)≤W32*v:=uK _ f
 rw[uN] at this
 rw[uF v]
 omega
theorem iY.step {X v n k q:Nat}{a c m:List Nat}(h:iY X v n (k+1) a c)(e:0<v)(s:v≤W32^n)(t:k+n<a.length)(u:m.length=n)(w:Dig W32 m)(l:q=val W32 (a.drop k)/v)(o:val W32 m=val W32 (a.drop k)%v) :
 iY X v n k (a.take k ++ m ++ (0 :: a.drop (k+n+1))) (c.set k q):=by
 obtain⟨E,x,y⟩:=h.window s t
 obtain⟨p,z,F,G,H⟩:=h
 have f:k<c.length:=by omega
 have i:q<W32:=by rw[l,vG e,uF];exact x
 have g:(a.take k).length=k:=by simp;omega
 have b:val W32 (m ++ (0 :: a.drop (k+n+1)))=val W32 m:=by
  rw[kH,gO,y];simp
 have d:(a.take k ++ m ++ (0 :: a.drop (k+n+1))).drop k=m ++ (0 :: a.drop (k+n+1)):=by
  rw[tC,List.drop_append,g,uX (by omega),qQ];simp
 refine⟨((p.take k).append w).append (Dig.cons zY (p.drop _)),z.set k i,?_,?_,?_⟩
 ·simp[u];omega
 ·rw[tC,kH,g,b,o]
  rw[xV (xs:=c.set k q) k (by simpa using f),vX (by omega)]
  have j:(c.set k q)[k]?.getD 0=q:=by rw[List.getElem?_set_self f];rfl
  rw[j]
  have A:=xU (B:=W32) (xs:=a) k
  rw[uV (by omega)] at A
  have r:=vO (val W32 (a.drop k)) v
  rw[←l] at r
  have C:=vP (W32^k * ·) r
  simp only[uN] at C
  rw[uU,uU]
  have e4:q*W32^k*v=W32^k*(v*q):=by rw[uF q,uG,uF q]
  have D:W32*val W32 (c.drop (k+1))*W32^k*v=val W32 (c.drop (k+1))*W32^(k+1)*v:=by
   rw[uO,uF W32 (val W32 _),uG (val W32 _) W32,uF W32 (W32^k)]
  rw[e4,D]
  omega
 rw[d,b,o];exact uP _ e
theorem iY.done {X v n:Nat}{c d:List Nat}(h:iY X v n 0 c d):val W32 d=X/v∧val W32 c=X%v:=by
 obtain⟨e,f,g,a,b⟩:=h
 rw[tS] at a b
 simp only[vT,sB] at a
 rw[←a,vL,uF,sP (by omega),rX,vC b,tG b]
 exact⟨by omega,rfl⟩
theorem iY.start {x y s L n:Nat}{a:List Nat}(c:Dig W32 a)(m:a.length=L+1)(b:val W32 a=x*2^s)(d:x<W32^L)(f:W32^(n-1)≤y)(o:1≤n)(g:n≤L) :
 iY (x*2^s) (y*2^s) n (L-n+1) a (List.replicate (L-n+1) 0):=by
 refine⟨c,Dig.replicate zY _,by simp;omega,?_,?_⟩
 ·rw[uX (by simp)];simp[b]
 have e:=xU (B:=W32) (xs:=a) (L-n+1)
 rw[uV (by omega),b] at e
 have h:0<2^s:=uT (by omega)
 have p:W32^(L-n+1)*val W32 (a.drop (L-n+1))≤x*2^s:=by omega
 have i:x*2^s<W32^L*2^s:=tF d h
 have j:W32^L=W32^(L-n+1)*W32^(n-1):=by rw[←uS,show L-n+1+(n-1)=L by omega]
 rw[j,uG] at i
 have k:W32^(L-n+1)*val W32 (a.drop (L-n+1))<W32^(L-n+1)*(W32^(n-1)*2^s):=by omega
 have l:=tW k
 exact uQ l (uC _ f)
theorem lP {t:Nat}(a:t≤31):2^(32-t)*2^t=W32:=by
 rw[←uS,show 32-t+t=32 by omega,xB]
theorem ZkP {x t:Nat}(a:t≤31):x*2^t=x*2^t%W32+W32*(x/2^(32-t)):=by
 have h:=tR (x*2^t) W32
 have:x*2^t/W32=x/2^(32-t):=by
  rw[←lP a,rL _ _ (uT (by omega))]
 rw[this] at h
 exact h.symm
theorem Zo3 {h x t:Nat}(a:h<2^t)(b:t≤31):h ||| x*2^t%W32=h+x*2^t%W32:=by
 have e:x*2^t%W32=(x%2^(32-t)) <<< t:=by
  rw[sK,← lP b,sM]
 rw[e,Nat.or_comm,← tL a,vL]
def eS (xs:List Nat) (skip t k:Nat) (zs:List Nat):Prop :=
 zs.length=xs.length+skip+1∧Dig W32 zs∧val W32 (zs.take (k+skip+1))=val W32 (xs.take k)*2^(32*skip+t)∧(zs[k+skip]?.getD 0)<2^t
theorem eS.start (xs:List Nat)(a t:Nat):eS xs a t 0 (List.replicate (xs.length+a+1) 0):=by
 refine⟨by simp,Dig.replicate zY _,?_,?_⟩
 ·rw[List.take_replicate,kS];simp
 have:((List.replicate (xs.length+a+1) 0)[0+a]?.getD 0)=0:=by
  rw[List.getElem?_replicate];split<;>rfl
 rw[this];exact uT (by omega)
theorem eS.step {xs f:List Nat}{a t k h x:Nat}(l:eS xs a t k f)(i:t≤31)(m:k<xs.length)(j:f[k+a]?.getD 0=h)(n:xs[k]?.getD 0=x)(b:x<W32) :
 eS xs a t (k+1) ((f.set (k+a) (h+x*2^t%W32)).set (k+a+1) (x/2^(32-t)))∧h+x*2^t%W32<W32:=by
 obtain⟨o,p,q,r⟩:=l
 rw[j] at r
 have c:h+x*2^t%W32<W32:=by
  rw[←lP i,sM]
  have:x%2^(32-t)<2^(32-t):=uP _ (uT (by omega))
  have s:(x%2^(32-t)+1)*2^t≤2^(32-t)*2^t:=uC _ this
  rw[uU] at s
  omega
 have g:x/2^(32-t)<2^t:=by
  rw[vG (uT (by omega)),← uS,show t+(32-t)=32 by omega]
  rw[xB] at b;exact b
 have d:x/2^(32-t)<W32:=vE (uZ _ _) b
 refine⟨⟨by simpa using o,(p.set _ c).set _ d,?_,?_⟩,c⟩
 ·rw[show k+1+a+1=(k+a+1)+1 by omega,xL _ _ _ _ (by simp;omega),xL _ _ _ _ (by omega),zR k m,n,uU,← q,zR (k+a) (by omega),j]
  have e:=ZkP (x:=x) i
  have u:W32^k*x*2^(32*a+t)=W32^(k+a)*(x*2^t):=by
   rw[uS 2,← ZcB,uS]
   simp only[uG,vU]
  rw[u]
  have v:=vP (W32^(k+a) * ·) e
  simp only[uN] at v
  rw[uN,uO,uG]
  omega
 have:((f.set (k+a) (h+x*2^t%W32)).set (k+a+1) (x/2^(32-t)))[k+1+a]?.getD 0=x/2^(32-t):=by
  rw[show k+1+a=k+a+1 by omega,List.getElem?_set_self (by simp;omega)]
  rfl
 rw[this];exact g
theorem eS.done {xs b:List Nat}{a t:Nat}(h:eS xs a t xs.length b):val W32 b=val W32 xs*2^(32*a+t):=by
 obtain⟨d,e,c,f⟩:=h
 rw[uA (by omega),uA (by omega)] at c
 exact c
def fU (ys:List Nat) (t k:Nat) (zs:List Nat):Prop :=
 zs.length=ys.length∧Dig W32 zs∧2^t*val W32 (zs.take k)+(ys[0]?.getD 0)%2^t=val W32 (ys.take k)+W32^k*((ys[k]?.getD 0)%2^t)
theorem fU.start (ys:List Nat)(t:Nat):fU ys t 0 (List.replicate ys.length 0):=by
 refine⟨by simp,Dig.replicate zY _,?_⟩
 simp
theorem Znp {y t:Nat}(a:t≤31):y*2^(32-t)%W32=y%2^t*2^(32-t):=by
 rw[←lP a,uF (2^(32-t)),sM]
theorem Zo4 {x y t:Nat}(b:t≤31)(c:x<W32):x/2^t ||| y*2^(32-t)%W32=x/2^t+y%2^t*2^(32-t):=by
 have a:x/2^t<2^(32-t):=by
  rw[vG (uT (by omega)),lP b];exact c
 rw[Znp b,← sK,Nat.or_comm,← tL a,vL]
theorem fU.step {ys f:List Nat}{t k x y:Nat}(h:fU ys t k f)(a:t≤31)(j:k<ys.length)(g:ys[k]?.getD 0=x)(l:ys[k+1]?.getD 0=y)(b:x<W32) :
 fU ys t (k+1) (f.set k (x/2^t+y%2^t*2^(32-t))):=by
 obtain⟨m,n,o⟩:=h
 have c:x/2^t+y%2^t*2^(32-t)<W32:=by
  have i:x/2^t<2^(32-t):=by
   rw[vG (uT (by omega)),lP a];exact b
  have d:y%2^t<2^t:=uP _ (uT (by omega))
  have e:(y%2^t+1)*2^(32-t)≤2^t*2^(32-t):=uC _ d
  rw[uF (2^t),lP a,uU] at e
  omega
 refine⟨by simpa using m,n.set k c,?_⟩
 rw[xL _ _ _ _ (by omega),zR k j,g,l]
 rw[g] at o
 have i:=vO x (2^t)
 have d:2^t*(y%2^t*2^(32-t))=W32*(y%2^t):=by
  rw[←lP a]
  simp only[uF,vU]
 have e:=vP (W32^k * ·) i
 simp only[uN] at e
 rw[uN,vU (2^t),uN (2^t),d,uN,uO,uG (W32^k) W32]
 omega
theorem fU.done {ys b:List Nat}{t:Nat}(h:fU ys t ys.length b):val W32 b=val W32 ys/2^t:=by
 obtain⟨c,d,a⟩:=h
 rw[uA (by omega),uA (by omega),List.getElem?_eq_none (uM _)] at a
 simp only[Option.getD_none,Nat.zero_mod,tK,tA] at a
 rw[←a,sP (uT (by omega)),tG (uP _ (uT (by omega))),tA]
theorem ZkQ {ys a:List Nat}{n yt s:Nat}(z:ys.length=n+1)(r:Dig W32 ys)(t:ys[n]?.getD 0=yt)(d:2147483648≤yt*2^s)(u:s≤31)(f:yt*2^s<W32)(p:Dig W32 a)(v:Trim a)(w:val W32 a=val W32 ys*2^s) :
 a.length=n+1∧W32≤2*(a[n]?.getD 0)∧W32^n≤val W32 ys:=by
 have x:0<2^s:=uT (by omega)
 have j:0<yt:=by
  rcases uI yt with e|e
  ·rw[e,sI] at d;omega
  exact e
 have A:val W32 ys=val W32 (ys.take n)+W32^n*yt:=by
  have:=zR (B:=W32) (xs:=ys) n (by omega)
  rw[uA (by omega),t] at this
  exact this
 have g:=xZ (r.take n)
 rw[uY,uV (by omega)] at g
 have k:(yt+1)*2^s≤W32:=by
  rw[←lP u] at f ⊢
  exact uC _ (sN f)
 have l:val W32 ys*2^s<W32^(n+1):=by
  have c:val W32 ys<W32^n*(yt+1):=by rw[uN];omega
  have i:=tF c x
  rw[uG] at i
  have q:W32^n*((yt+1)*2^s)≤W32^n*W32:=uK _ k
  rw[uO]
  omega
 have y:W32^n*2147483648≤val W32 ys*2^s:=by
  have c:W32^n*yt≤val W32 ys:=by omega
  have i:=uC (2^s) c
  rw[uG] at i
  have q:W32^n*2147483648≤W32^n*(yt*2^s):=uK _ d
  omega
 have m:a.length≤n+1:=jF Zhf v (w ▸ l)
 have o:n+1≤a.length:=by
  rcases vJ a.length (n+1) with h|h
  ·have c:=xZ p
   have i:W32^a.length≤W32^n:=uR zY (by omega)
   have q:W32^n*1≤W32^n*2147483648:=uK _ (by omega)
   omega
  exact h
 refine⟨by omega,?_,?_⟩
 ·have C:val W32 a=val W32 (a.take n)+W32^n*(a[n]?.getD 0):=by
   have:=zR (B:=W32) (xs:=a) n (by omega)
   rw[uA (by omega)] at this
   exact this
  have b:=xZ (p.take n)
  rw[uY,uV (by omega)] at b
  have c:W32^n*2147483648<W32^n*((a[n]?.getD 0)+1):=by rw[uN];omega
  have i:=tW c
  rw[xB]
  omega
 have:W32^n*1≤W32^n*yt:=uK _ j
 omega
def jT (U V top v1 h r:Nat):Prop:=top=h*v1+r∧U<(h+1)*V
def Lead (U V top u3 v1 v2:Nat):Prop :=
 ∃ R u' v',0<R∧u'<R∧v'<R∧U=(top*W32+u3)*R+u'∧V=(v1*W32+v2)*R+v'∧U<V*W32∧0<v1∧u3<W32∧v2<W32
theorem jT.start {U V a u3 v1 v2:Nat}(b:Lead U V a u3 v1 v2):jT U V a v1 (a/v1) (a%v1):=by
 obtain⟨R,j,k,l,c,m,d,e,f,g,n,o⟩:=b
 refine⟨by have:=vO a v1;rw[uF] at this;exact this.symm,?_⟩
 rw[d,e]
 refine ZdP _ _ _ _ _ _ c ?_
 have h:=Zb5 a g
 have i:(a+1)*W32≤(a/v1+1)*v1*W32:=uC _ h
 rw[uU a] at i
 rw[uN (a/v1+1),← uG]
 omega
theorem jT.big {U V a u3 v1 v2 h r:Nat}(b:jT U V a v1 h r)(c:Lead U V a u3 v1 v2)(d:W32≤h):0<h∧jT U V a v1 (h-1) (r+v1):=by
 obtain⟨R,i,j,k,l,m,n,o,e,p,q,s⟩:=c
 obtain⟨f,t⟩:=b
 have u:=zY
 obtain⟨g,rfl⟩:∃ g,h=g+1:=⟨h-1,by omega⟩
 refine⟨by omega,?_,?_⟩
 ·rw[f,vW,uU];omega
 rw[vW]
 have:V*W32≤V*(g+1):=uK _ d
 rw[uF (g+1)]
 omega
theorem jT.more {U V a u3 v1 v2 h r:Nat}(c:jT U V a v1 h r)(d:Lead U V a u3 v1 v2)(f:r*W32+u3<h*v2):0<h∧jT U V a v1 (h-1) (r+v1):=by
 obtain⟨R,n,o,p,i,q,j,k,l,s,t,u⟩:=d
 obtain⟨b,v⟩:=c
 have m:0<h:=by
  rcases uI h with e|e
  ·rw[e,sI] at f;omega
  exact e
 obtain⟨g,rfl⟩:∃ g,h=g+1:=⟨h-1,by omega⟩
 refine⟨m,?_,?_⟩
 ·rw[b,vW,uU];omega
 rw[vW,j,k]
 refine ZdP _ _ _ _ _ _ i ?_
 rw[b,uN (g+1),← uG,uU ((g+1)*v1)]
 omega
theorem Lead.top_lt {U V a u3 v1 v2:Nat}(c:Lead U V a u3 v1 v2):a<v1*W32+W32:=by
 obtain⟨R,i,d,j,k,l,e,f,b,m,n,o⟩:=c
 rw[e,f] at b
 have p:(a*W32)*R≤(a*W32+u3)*R:=uC _ (by omega)
 have g:((v1*W32+v2)*R+d)*W32≤((v1*W32+v2)*R+R)*W32:=uC _ (by omega)
 have h:((v1*W32+v2)*R+R)*W32=((v1*W32+v2+1)*W32)*R:=by
  rw[uU (v1*W32+v2) 1 W32,uU,sV,uU _ W32 R,uF R W32,uG,uF R W32,← uG]
 rw[h] at g
 have e4:a*W32*R<(v1*W32+v2+1)*W32*R:=by omega
 have q:=sN (sN e4)
 omega
theorem jT.done {U V a u3 v1 v2 h r:Nat}(b:jT U V a v1 h r)(c:Lead U V a u3 v1 v2)(d:h<W32)(m:h*v2≤r*W32+u3):eC U V h:=by
 obtain⟨R,n,o,p,q,e,f,g,i,j,s,t⟩:=c
 obtain⟨k,l⟩:=b
 refine⟨?_,l⟩
 rw[f,g]
 refine Zm8 _ _ _ _ _ _ W32 e d (uC _ ?_) ?_
 ·have:1*W32≤v1*W32:=uC _ j
  omega
 rw[k,uN h,← uG,uU (h*v1)]
 omega
theorem jT.broke {U V a u3 v1 v2 h r:Nat}(c:jT U V a v1 h r)(b:Lead U V a u3 v1 v2)(f:W32≤r):h<W32∧eC U V h:=by
 have g:=b.top_lt
 have d:v2<W32:=by obtain⟨_,_,_,_,_,_,_,_,_,_,_,d⟩:=b;exact d
 have i:=c.1
 have e:h<W32:=by
  have:h*v1<v1*W32:=by omega
  rw[uF v1] at this
  exact sN this
 refine⟨e,c.done b e ?_⟩
 have j:h*v2≤W32*W32:=vV (by omega) (by omega)
 have k:W32*W32≤r*W32:=uC _ f
 omega
theorem Zqp {a b:List Nat}{n u1 u2 u3 v1 v2:Nat}(i:b.length=n+2)(j:a.length=n+3)(c:Dig W32 b)(d:Dig W32 a)(k:a[n+2]?.getD 0=u1)(l:a[n+1]?.getD 0=u2)(e:a[n]?.getD 0=u3)(m:b[n+1]?.getD 0=v1)(f:b[n]?.getD 0=v2)(o:val W32 a<val W32 b*W32)(p:W32≤2*v1) :
 Lead (val W32 a) (val W32 b) (u1*W32+u2) u3 v1 v2:=by
 have g:=xZ (d.take n)
 have h:=xZ (c.take n)
 rw[uY,uV (by omega)] at g h
 have q:=zY
 refine⟨W32^n,val W32 (a.take n),val W32 (b.take n),uT zY,g,h,?_,?_,o,by omega,e ▸ d.getD zY _,f ▸ c.getD zY _⟩
 ·rw[top3 j,k,l,e,vL]
  congr 1
  rw[uF]
  congr 1
  rw[vL,uF W32,uF W32,vL u2]
 rw[top2 i,m,f,vL]
 congr 1
 rw[uF]
 congr 1
 rw[vL,uF W32]
def Zb8 (w0 vs:List Nat) (h i:Nat) (m:List Nat) (c bw:Nat):Prop :=
 m.length=w0.length∧Dig W32 m∧c<W32∧bw≤1∧m.drop i=w0.drop i∧val W32 (m.take i)+val W32 (vs.take i)*h=val W32 (w0.take i)+W32^i*(c+bw)
theorem Zb8.start {a b:List Nat}{h:Nat}(c:Dig W32 a):Zb8 a b h 0 a 0 0:=⟨rfl,c,zY,by omega,rfl,by simp⟩
theorem Zlu {xs ys:List Nat}{i:Nat}(h:xs.drop i=ys.drop i):xs[i]?.getD 0=ys[i]?.getD 0:=by
 have:=vP (fun l=>l[0]?.getD 0) h
 simpa [List.getElem?_drop] using this
theorem ZhZ {xs ys:List Nat}{i v:Nat}(h:xs.drop i=ys.drop i):(xs.set i v).drop (i+1)=ys.drop (i+1):=by
 rw[vX (by omega),← vM (i:=1) (j:=i) (l:=xs),← vM (i:=1) (j:=i) (l:=ys),h]
theorem Zju {h x c:Nat}(a:h<W32)(b:x<W32)(d:c<W32):h*x+c<W32*W32:=by
 have e:h*x≤(W32-1)*(W32-1):=vV (by omega) (by omega)
 rw[xB] at *
 omega
theorem Zb8.step {b a m:List Nat}{h i c d z x:Nat}(k:Zb8 b a h i m c d)(hi:i<b.length)(e:i<a.length)(l:h<W32)(f:m[i]?.getD 0=z)(ex:a[i]?.getD 0=x)(n:Dig W32 a) :
 Zb8 b a h (i+1) (m.set i (d32 z ((h*x+c)%W32) d%W32)) ((h*x+c)/W32) (d32 z ((h*x+c)%W32) d/W32%2):=by
 obtain⟨o,g,p,q,j,r⟩:=k
 have s:x<W32:=ex ▸ n.getD zY i
 have t:z<W32:=f ▸ g.getD zY i
 have u:=Zfy (y:=(h*x+c)%W32) t (uP _ zY) q
 refine⟨by simpa using o,g.set _ (uP _ zY),rA (Zju l s p),by omega,ZhZ j,?_⟩
 rw[xL _ _ _ _ (by omega),zR i hi,zR i e,ex,← Zlu j,f,uO]
 refine ZhQ _ _ _ _ _ _ _ _ _ _ _ r ?_
 have v:=tR (h*x+c) W32
 rw[uF x h,uN W32]
 omega
def Zb9 (w0 vs:List Nat) (i:Nat) (m:List Nat) (c:Nat):Prop :=
 m.length=w0.length∧Dig W32 m∧c≤1∧m.drop i=w0.drop i∧val W32 (m.take i)+W32^i*c=val W32 (w0.take i)+val W32 (vs.take i)
theorem Zb9.start {a b:List Nat}(c:Dig W32 a):Zb9 a b 0 a 0:=⟨rfl,c,by omega,rfl,by simp⟩
theorem Zb9.step {b a m:List Nat}{i c z x:Nat}(h:Zb9 b a i m c)(hi:i<b.length)(d:i<a.length)(e:m[i]?.getD 0=z)(ex:a[i]?.getD 0=x)(j:Dig W32 a) :
 Zb9 b a (i+1) (m.set i ((c+(z+x))%W32)) ((c+(z+x))/W32):=by
 obtain⟨k,f,l,g,n⟩:=h
 have o:x<W32:=ex ▸ j.getD zY i
 have p:z<W32:=e ▸ f.getD zY i
 have q:(c+(z+x))/W32≤1:=by have:=ZbE p o l;rwa [tO] at this
 refine⟨by simpa using k,f.set _ (uP _ zY),q,ZhZ g,?_⟩
 rw[xL _ _ _ _ (by omega),zR i hi,zR i d,ex,← Zlu g,e,uO]
 exact Zbx _ _ _ _ _ _ _ _ _ _ n (by have:=tR (c+(z+x)) W32;omega)
theorem zF.cell0 {k:Go.IntKind}{w:Go.World}{b off:Nat}{xs:List Nat}(h:zF k w (some ⟨b,off,none⟩) xs){i:Nat}(hi:i<xs.length):w.cell? ⟨b,off+i,none⟩=some (.int k ((xs[i]?.getD 0:Nat):Int)):=by
 obtain⟨c,d,e,_,a⟩:=h.at hi
 injection e with e
 injection e with e1 e2
 subst e1 e2
 exact a
theorem Zrp (p:Nat)(h:p<W64):Go.bits .and .u64 (p:Int) 4294967295=((p%W32:Nat):Int):=by
 rw[zO] at h
 have:=Go.bits_and_u64_nat p 4294967295 h (by omega)
 rw[show (4294967295:Nat)=2^32-1 from rfl,Nat.and_two_pow_sub_one_eq_mod] at this
 rw[xB]
 exact this
theorem Zlv {z l:Nat}(a:z<W32)(b:l<W32):Go.IntKind.u64.wrap ((z:Int)-(l:Int))=((d32 z l 0:Nat):Int):=by
 unfold d32;rw[Go.IntKind.wrap_u64,zO];rw[xB] at a b;omega
theorem Zlw {z l a:Nat}(b:z<W32)(c:l<W32)(d:a≤1):Go.IntKind.u64.wrap (((d32 z l 0:Nat):Int)-(a:Int))=((d32 z l a:Nat):Int):=by
 unfold d32;rw[Go.IntKind.wrap_u64,zO];rw[xB] at b c;omega
theorem Zqq {t c a:Nat}(b:t<W32)(d:c<W32)(e:a≤1):d32 t c a/9223372036854775808=(if t<c+a then 1 else 0):=by
 unfold d32
 rw[xB] at *
 rw[zO]
 split<;>omega
theorem Zo5 {t c a:Nat}(h:t=c+a):d32 t c a%W32=0:=by
 unfold d32
 rw[xB,zO]
 omega
theorem Zqr {t c a b:Nat}(h:b+t=c+a)(_:c<W32)(_:a≤1)(d:b≤1)(e:t<c+a):(d32 t c a%W32+b)%W32=0:=by
 unfold d32
 rw[xB] at *
 rw[zO]
 omega
theorem Own.mid32 {d:Go.IntKind}{t:Go.TypeId}{w:Go.World}{b:Nat}{a mid c:List Nat}(h:Own d t w b (a ++ mid ++ c)){k:Nat}(e:k<mid.length):w.cell? ⟨b,a.length+k,none⟩=some (.int d ((mid[k]?.getD 0:Nat):Int)):=by
 rw[h.cell (by simp;omega),Zlk _ _ _ _ e]
theorem Own.set_mid32 {d:Go.IntKind}{t:Go.TypeId}{w:Go.World}{b:Nat}{a mid c:List Nat}(h:Own d t w b (a ++ mid ++ c)){k:Nat}(e:k<mid.length)(v:Nat):Own d t (w.setCell ⟨b,a.length+k,none⟩ (.int d (v:Int))) b (a ++ mid.set k v ++ c):=by
 have:=h.set (a.length+k) v (by simp;omega)
 rwa [Go.Proofs.YtklpdkpcocnglaaGreatDoor.set_mid _ _ _ _ _ e] at this
theorem Zff {a ts rest:List Nat}{k v:Nat}(b:k<ts.length)(e:a.length=ts.length):(a.take k ++ ts.drop k ++ rest).set k v=(a.set k v).take (k+1) ++ ts.drop (k+1) ++ rest:=by
 have c:(a.take k).length=k:=by simp;omega
 rw[tC,qY _ _ (by omega),c,qQ,tJ b,pX,List.set_cons_zero,tZ (by simp;omega)]
 have d:(a.set k v).take k=a.take k:=by rw[sU (by omega)]
 simp[d]
theorem Zfg {a ts rest:List Nat}{k i:Nat}(c:k≤i)(hi:i<ts.length)(d:a.length=ts.length):(a.take k ++ ts.drop k ++ rest)[i]?.getD 0=ts[i]?.getD 0:=by
 have b:(a.take k).length=k:=by simp;omega
 rw[tC,List.getElem?_append_right (by omega),b,List.getElem?_append_left (by simp;omega),List.getElem?_drop,show k+(i-k)=i by omega]
end Go.Proofs.YtklpdkpcocnglaaGreatDoor
namespace Go.Proofs.YtklpdkpcocnglaaGreatDoor
open Go.RowKit
theorem Znq {a b:Nat}(ha:a<W32)(c:b<W32):bits .or .u32 (a:Int) (b:Int)=((a ||| b:Nat):Int):=by
 rw[xB] at ha c
 have f:a ||| b<2^32:=Nat.or_lt_two_pow (by omega) (by omega)
 have d:(BitVec.ofInt 32 (a:Int)).toNat=a:=by
  rw[qG,qR];exact vC (by omega)
 have e:(BitVec.ofInt 32 (b:Int)).toNat=b:=by
  rw[qG,qR];exact vC (by omega)
 show IntKind.u32.wrap ((BitVec.ofInt 32 (a:Int) ||| BitVec.ofInt 32 (b:Int)).toNat:Int)=_
 rw[BitVec.toNat_or,d,e,IntKind.wrap_u32]
 omega
theorem Zh0 {x s:Nat}(a:x<W32)(b:s≤32):IntKind.u64.wrap ((x:Int)*2^s)=((x*2^s:Nat):Int):=by
 rw[Zan,vC]
 have c:2^s≤W32:=by rw[xB];exact uE (uR (by omega) b) (by decide)
 rw[←bQ]
 exact uQ (tF a (uT (by omega))) (uK _ c)
theorem Zrq {x s:Nat}(a:s≤31):x*2^s/W32=x/2^(32-s):=by
 rw[←lP a,rL _ _ (uT (by omega))]
def Zo6 (w:World) (l:Nat) (v:Nat) (e:Ending) (w':World):Prop :=
 ∃ us:List Nat,e=.returned (.slice (some ⟨w.heap.size,0,none⟩) l l)∧us.length=l∧Own .u32 102 w' w.heap.size us∧Dig W32 us∧val W32 us=v∧Ext w w'
theorem Zd5 (A:Option Addr)(xs:List Nat)(n c s:Nat)(w:World)(hn:xs.length=n)(S:zF .u32 w A xs)(hl:xs.length≤35184372088832)(T:Dig W32 xs)(K:s≤31) :
 yA 72 #[.slice A n c,.int .u64 (s:Int)] w (Zo6 w (n+1) (val W32 xs*2^s)):=by
 subst hn
 have HX:=zh S
 have Hd:=zh T
 clear S T
 go_enter Tryz.func72,Tryz.ntmps72
 go_wp2_with (
  at_make
  refine wO rfl _ _ _ rfl _ _ _ Tryz.underlying30 cH _ _ _ _ (xs.length+1) rfl rfl (by omega) (by omega) (by omega) (by omega) ?_
  intro b w1 U z _ B L
  have M:=zh z
  have N:=zh B
  have J:=zh U
  clear z B U L)
 go_loopw [6,7] (fun i _ wr=>∃ (k:Nat) (o:List Nat),k≤xs.length∧i=.int .i64 (k:Int)∧Hid (eS xs 0 s k o)∧Hid (Own .u32 102 wr b o)∧Hid (Ext w wr)) (fun i _ _=>xs.length-(intOf i).toNat)
 case atStart=>exact⟨0,_,by omega,rfl,eS.start xs 0 s,M.out,N.out⟩
 case round =>
  obtain⟨k,o,a0,rfl,q,f,r⟩:=hrel
  by_cases C:k<xs.length
  ·obtain⟨b2,V,rfl,_,O⟩:=(HX.out.ext r.out).at C
   obtain⟨x,ex⟩:=yE (xs[k]?.getD 0)
   obtain⟨h,y⟩:=yE (o[k+0]?.getD 0)
   rw[ex] at O
   have j:Hid (x<W32):=ex ▸ Hd.out.getD zY k
   obtain⟨D,E⟩:=q.out.step K C y ex j.out
   have e:=zh D
   have F:o.length=xs.length+0+1:=q.out.1
   simp only[tA] at y F e
   have P:=f.out.cell (i:=k) (by omega)
   have b0:=f.out.frozen k
   rw[y] at P
   have l:=f.out.set k (h+x*2^s%W32) (by omega)
   have t:=l.cell (i:=k+1) (by simp;omega)
   have G:=l.frozen (k+1)
   obtain⟨g,W⟩:=yE ((o.set k (h+x*2^s%W32))[k+1]?.getD 0)
   rw[W] at t
   have m:=zh (l.set (k+1) (x/2^(32-s)) (by simp;omega))
   have q0:=wE x (by have:=zO;have:=xB;have:=j.out;omega)
   have q1:=Zh0 j.out (by omega:s≤32)
   have X:=jP (x*2^s)
   have Q:=Znq (a:=h) (b:=x*2^s%W32) (y ▸ q.out.2.1.getD zY _) (uP _ zY)
   have u:=q.out.2.2.2
   simp only[tA] at u
   rw[Zo3 (y ▸ u) K] at Q
   have R:=hi32 (x*2^s)
   rw[Zrq K] at R
   have Y:=jP (x/2^(32-s))
   rw[vC (vE (uZ _ _) j.out)] at Y
   obtain⟨lo,H⟩:=yE (x*2^s%W32)
   obtain⟨v,Z⟩:=yE (x*2^s)
   obtain⟨hi,I⟩:=yE (x/2^(32-s))
   rw[H] at X Q t G e m
   rw[Z] at q1 X R
   rw[I] at R Y e m
   obtain⟨d,ed⟩:=yE (h+lo)
   rw[ed] at Q t G e m
   clear ex y D E F l W H I ed Z u
   go_wp2
   go_roundw
   case rel=>exact⟨k+1,_,by omega,by go_num,e,m.out,(r.out.setCell (p:=⟨b,k,none⟩) (Or.inr (by have:=J.out;show w.heap.size≤b;omega)) _).setCell (p:=⟨b,k+1,none⟩) (Or.inr (by have:=J.out;show w.heap.size≤b;omega)) _⟩
   case measure=>simp[intOf];omega
  obtain rfl:k=xs.length:=by omega
  have hz:=zh q.out.1
  have hv:=zh q.out.done
  go_wp2
  go_ret
  exact⟨o,by rw[J.out];rfl,by have:=hz.out;omega,by rw[J.out];exact f.out,q.out.2.1,by rw[hv.out];simp,r.out⟩
def Zdb (w:World) (q r:Nat) (e:Ending) (w':World):Prop:=∃ u v,e=.returned (.tuple #[u,v])∧zS w' u q∧zS w' v r∧Ext w w'
theorem Zh1 {a b:Nat}:cmpI a b<0↔a<b:=by
 unfold cmpI
 split
 ·omega
 split<;>omega
theorem Znr (l j:Value)(x y:Nat)(w:World)(F:zS w l x)(o:zS w j y)(p:ml x≤17592186044416)(G:ml y≤17592186044416)(q:x<y) :
 yA 114 #[l,j] w (Zdb w 0 x):=by
 have r:=zh (bG l j x y w F o p G)
 rw[jS (by omega)] at r
 obtain⟨A,s,c,rfl,K,H,t,u,v⟩:=F
 obtain⟨z,I,c2,rfl⟩:∃ z I c2,j=.slice z I c2:=by obtain⟨z,Q,c2,h,_⟩:=o;exact⟨_,_,_,h⟩
 rw[←v,← kX t u] at p
 have L:=zh H
 have M:=zh t
 have N:=zh u
 have O:=zh v
 obtain⟨n,k⟩:=yE s.length
 rw[k] at p r
 rw[k]
 have J:=zh k
 clear H t u v q K o G k
 go_enter Tryz.func114,Tryz.ntmps114
 go_wp2_with (first
  | (go_at_call 116;refine r.out.mono ?_;rintro e w' ⟨rfl,m,rfl⟩)
  | (
   at_builtin
   refine wT rfl _ _ _ rfl _ .u32 4 Tryz.underlying30 cH (some ⟨w.heap.size,0,none⟩) A 0 n 0 c rfl rfl [] s rfl J.out ?_ ((L.out.drewN _).alloc _) (by simp only[maxLen];omega) (by omega) ?_
   ·exact Or.inr ⟨_,rfl,Own.new (w.drewN m) _ _ [] [],⟨#[],heap_alloc_new (w.drewN m) _,rfl⟩,uM _,by simp only[maxLen];omega⟩
   intro P b R d f B
   have g:=zh d
   have C:=zh f
   clear d f B))
 go_ret2
 refine⟨_,_,rfl,zS.zero _,⟨P,s,b,?_,?_,?_,M.out,N.out,O.out⟩,?_⟩
 ·rw[J.out];simp
 ·have:=g.out.len;simpa using this
 ·have:=g.out.shows;simpa using this
 refine (((Fr.refl (fun _=>False) w).drewN m).alloc _).next C.out (fun i S D=>?_)
 obtain⟨a,E,D⟩:=D
 injection E with E
 subst E
 simp at D;omega
theorem zS.one {w:World}{b r:Nat}(h:Own .u32 102 w b [r])(a:r<W32):zS w (.slice (some ⟨b,0,none⟩) (wK [r] 1) 1) r:=by
 have:=zS.of_own (c:=1) h (Dig.cons a Dig.nil) (by simp)
 simpa using this
theorem Zml (p q:Value)(x y:Nat)(w:World)(s:zS w p x)(D:zS w q y)(E:ml x≤17592186044416)(t:ml y=1)(g:y≤x) :
 yA 114 #[p,q] w (Zdb w (x/y) (x%y)):=by
 have F:=zh (bG p q x y w s D E (by omega))
 obtain⟨u,a⟩:=yE (cmpI x y)
 have O:0≤u:=by
  rcases pR u 0 with h|h
  ·rw[←a] at h;have:=Zh1.1 h;omega
  exact h
 rw[a] at F
 obtain⟨S,T,U,rfl,v,G,z,A,rfl⟩:=D
 rw[←kX z A] at t
 obtain⟨y,rfl⟩:=pQ.1 t
 have j:val W32 [y]=y:=by simp
 rw[j] at g ⊢
 have d:0<y:=by have:=A 0 (by simp);simp at this;omega
 have f:y<W32:=z.head
 obtain⟨b,o,rfl,_,k⟩:=G.at (i:=0) (by simp)
 have H:w.cell? ⟨b,o,none⟩=some (.int .u32 (y:Int)):=by simpa using k
 have I:=fun w' (P:Ext w w')=>zh (Zd0 p x y w' (s.ext P) E d f)
 have B:=zh I
 have n:Hid (x%y<W32):=qF (uP _ d) f
 obtain⟨r,C⟩:=yE (x%y)
 have J:=zh C
 rw[C] at n
 have K:decide (u<0)=false:=by rw[vA];omega
 clear G z A v a g k I t j d f s C
 go_enter Tryz.func114,Tryz.ntmps114
 go_wp2_with (first
  | (go_at_call 116;refine F.out.mono ?_;rintro e w' ⟨rfl,m,rfl⟩)
  | (go_at_call 115;refine (B.out _ ((Fr.refl _ _).drewN _)).out.mono ?_;rintro e L ⟨l,c,rfl,M,N⟩;have Q:=zh M;have R:=zh N;clear M N;rw[J.out])
  | (go_at_call 71;refine (lU _ [r] 1 1 _ rfl (Own.new L _ _ [r] []).shows0 (by simp) (by simp)).mono ?_;rintro e V ⟨rfl,rfl⟩))
 go_ret2
 exact⟨_,_,rfl,Q.out.ext ((Fr.refl _ _).alloc _),by rw[J.out];exact zS.one (Own.new L _ _ [r] []) n.out,(((Fr.refl _ _).drewN _).ext R.out).alloc _⟩
theorem Zlx {x s:Nat}(h:x*2^s<W32):IntKind.u32.wrap ((x:Int)*2^s)=((x*2^s:Nat):Int):=by
 have a:((2:Int)^s)=((2^s:Nat):Int):=by rw[vI];rfl
 rw[a,← tB,IntKind.wrap_u32]
 rw[xB] at h
 omega
theorem Zo7 {x s:Nat}(h:x*2^s<W32):((x:Int)*2^s)%4294967296=((x*2^s:Nat):Int):=by
 have:=Zlx h
 rw[IntKind.wrap_u32] at this
 exact this
theorem Zns {y s:Nat}(b:0<y)(h:y*2^s<W32):s≤31:=by
 rcases vJ s 32 with a|a
 ·omega
 have c:2^32≤2^s:=uR (by omega) a
 have d:1*2^s≤y*2^s:=uC _ b
 rw[xB] at h
 omega
theorem ZkR (A A2:Option Addr)(xs ys:List Nat)(c c2 kk:Nat)(w:World)(hX:zF .u32 w A xs)(hY:zF .u32 w A2 ys)(_:xs.length≤c)(y2:ys.length≤c2)(hl:xs.length≤17592186044416)(hk:ys.length=kk+2)(dx:Dig W32 xs)(dy:Dig W32 ys)(tx:Trim xs)(ty:Trim ys)(z2:val W32 ys≤val W32 xs) :
 yA 114 #[.slice A xs.length c,.slice A2 ys.length c2] w (Zdb w (val W32 xs/val W32 ys) (val W32 xs%val W32 ys)):=by
 have o3:kk+2≤xs.length:=by
  have:=Zap z2
  rw[←kX dx tx,← kX dy ty] at this
  omega
 have HC:=zh (Zfd A A2 xs ys _ _ c c2 w rfl rfl hX hY (by omega) (by omega) dx dy tx ty)
 obtain⟨cr,B2⟩:=yE (cmpI (val W32 xs) (val W32 ys))
 have A5:0≤cr:=by
  rcases pR cr 0 with h|h
  ·rw[←B2] at h;have:=Zh1.1 h;omega
  exact h
 rw[B2] at HC
 clear B2
 obtain⟨bY,oY,rfl,_,T⟩:=hY.at (i:=kk+1) (by omega)
 obtain⟨yt,y1⟩:=yE (ys[kk+1]?.getD 0)
 rw[y1] at T
 have S1:Hid (0<yt):=by have:=ty (kk+1) (by omega);unfold Hid;omega
 have T1:Hid (yt<W32):=y1 ▸ dy.getD zY _
 have HX:=zh hX
 have HY:=zh hY
 have p3:=zh dx
 have s3:=zh dy
 have t3:=zh y1
 clear hX hY dx dy tx ty z2 y1
 obtain⟨n,hn⟩:=yE ys.length
 rw[hn] at HC hk y2
 rw[hn]
 have HN:=zh hn
 subst hk
 clear hn
 have v3:(((kk:Int)+2) == 1)=false:=by simp;omega
 have x3:decide (cr<0)=false:=by rw[vA];omega
 go_enter Tryz.func114,Tryz.ntmps114
 go_wp2_with (go_at_call 116;refine HC.out.mono ?_;rintro e w' ⟨rfl,m0,rfl⟩)
 go_loop [8] (fun sv=>∃ s:Nat,s≤31∧sv=.int .u64 (s:Int)∧Hid (yt*2^s<W32)) (fun sv=>32-(intOf sv).toNat)
 case atStart=>exact⟨0,by omega,rfl,by have:=T1.out;unfold Hid;simpa using this⟩
 case round =>
  obtain⟨s,hs,rfl,z1⟩:=hrel
  have q1:=Zlx z1.out
  have J0:=Zo7 z1.out
  obtain⟨p,ep⟩:=yE (yt*2^s)
  rw[ep] at q1 J0
  by_cases hp:p<2147483648
  ·have t1:decide ((p:Int)<2147483648)=true:=by rw[vN];omega
   have y3:decide (p<2147483648)=true:=by rw[vN];omega
   have z3:Hid (yt*2^(s+1)<W32):=by unfold Hid;rw[uO,← uG,ep,xB];omega
   have B5:=Zns S1.out z3.out
   clear ep hp
   go_wp2
   go_round
   case rel=>exact⟨s+1,by omega,by go_num,z3⟩
   case measure=>simp[intOf];omega
  have t1:decide ((p:Int)<2147483648)=false:=by rw[vA];omega
  have y3:decide (p<2147483648)=false:=by rw[vA];omega
  have HP:Hid (2147483648≤yt*2^s):=by unfold Hid;omega
  clear ep hp
  have A3:=zh (Zd5 _ ys (kk+2) c2 s (w.drewN m0) HN.out (HY.out.drewN _) (by have:=HN.out;omega) s3.out hs)
  clear HC
  go_wp2_with fail
  clear q1 J0 t1 y3 T
  refine A3.out.mono ?_
  rintro e wD ⟨H4,rfl,U1,C2,K0,B3,C3⟩
  have NV:=zS.of_own (c:=kk+2+1) C2 K0 (by omega)
  obtain⟨AV,vs,cV,eV,I4,D3,D2,E3,A1⟩:=NV
  injection eV with eV1 eV2 eV3
  rw[B3] at A1
  obtain⟨n1,n2,n3⟩:=ZkQ (n:=kk+1) HN.out s3.out t3.out HP.out hs z1.out D2 E3 A1
  replace n1:vs.length=kk+2:=n1
  have HT:=zh (lU (some ⟨(w.drewN m0).heap.size,0,none⟩) H4 (kk+2+1) (kk+2+1) wD U1 C2.shows0 (by omega) (by omega))
  rw[eV2,n1] at HT
  obtain⟨Vb,E2⟩:=yE ((w.drewN m0).heap.size)
  rw[E2] at HT eV1 ⊢
  have C5:=zh E2
  subst eV1
  have L0:=zh D3
  have W:=zh D2
  have F2:Hid (Ext w wD):=((Fr.refl _ _).drewN _).ext C3
  have M0:=zh A1
  have H:=zh n1
  have J4:=zh n2
  have F3:=zh n3
  clear A3 U1 C2 K0 B3 C3 I4 D3 D2 E3 A1 n1 n2 n3 eV2 eV3 E2 HP z1 T1 S1 t3
  go_wp2_with fail
  refine HT.out.mono ?_
  rintro e w' ⟨rfl,rfl⟩
  clear HT
  have M:=zh (Zd5 A xs xs.length c s wD rfl (HX.out.ext F2.out) (by omega) p3.out hs)
  go_wp2_with fail
  refine M.out.mono ?_
  rintro e w2 ⟨us,rfl,G3,Y,H3,N0,I3⟩
  obtain⟨R,eR⟩:=yE wD.heap.size
  rw[eR] at Y ⊢
  have HR:=zh eR
  have G2:=zh Y
  have J3:=zh I3
  have K3:=zh H3
  have L3:=zh N0
  have H2:=zh G3
  clear G3 Y H3 N0 I3 eR M
  go_wp2_with (
   at_make
   refine wO rfl _ _ _ rfl _ _ _ Tryz.underlying30 cH _ _ _ _ (xs.length-(kk+2)+1) rfl rfl (by omega) (by omega) (by omega) (by omega) ?_
   intro Qb w4 hQ M3 _ N3 K4
   have I:=zh M3
   have I2:=zh N3
   have HQ:=zh hQ
   clear M3 N3 hQ K4)
  have u:Hid (R<Qb):=by
   have F:=G2.out.lt
   have h2:=HQ.out
   unfold Hid;omega
  have hV:Hid (val W32 vs≤W32^(kk+2)):=by
   have:=xZ W.out
   rw[H.out] at this
   exact rT this
  have B1:Hid (0<val W32 vs):=by
   rw[M0.out]
   have F:=F3.out
   have h2:=uT (n:=kk+1) zY
   exact tV (by omega) (uT (by omega))
  obtain⟨X,eX⟩:=yE (val W32 xs*2^s)
  have C1:=zh eX
  have J2:Hid (iY X (val W32 vs) (kk+2) (xs.length-(kk+2)+1) us (List.replicate (xs.length-(kk+2)+1) 0)):=by
   unfold Hid
   rw[←C1.out,M0.out]
   exact iY.start (L:=xs.length) K3.out H2.out L3.out (xZ p3.out) (by simpa using F3.out) (by omega) o3
  have O3:Hid (Ext wD w4):=J3.out.ext I2.out
  have D1:Hid (Vb<R):=by
   have F:Vb<wD.heap.size:=by
    obtain⟨b',o',e',D5,_⟩:=L0.out.at (i:=0) (by rw[H.out];omega)
    injection e' with e'
    injection e' with e1 e2
    omega
   have h2:=HR.out
   unfold Hid;omega
  have V1:=zh (G2.out.ext I2.out)
  clear G2 J3 I2 K3 L3 eX v3 x3
  obtain⟨V,eV⟩:=yE (val W32 vs)
  have HV:=zh eV
  rw[eV] at hV B1 J2
  clear eV
  go_loopw [14] (fun i wr=>∃ (k:Nat) (rs qs:List Nat),k≤xs.length-(kk+2)+1∧i=.int .i64 ((k:Int)-1)∧Hid (iY X V (kk+2) k rs qs)∧Hid (rs.length=xs.length+1)∧Hid (Own .u32 102 wr R rs)∧Hid (Own .u32 102 wr Qb qs)∧Hid (Ext wD wr)) (fun i _=>(intOf i+1).toNat)
  case atStart=>exact⟨xs.length-(kk+2)+1,us,_,uM _,by go_num,J2,H2,V1.out,I.out,O3.out⟩
  case round =>
   clear J2 I O3 V1 H2
   obtain⟨k,rs,qs,hk,rfl,Z,y0,A0,Y,l0⟩:=hrel
   by_cases L4:0<k
   ·obtain⟨j,rfl⟩:∃ j,k=j+1:=⟨k-1,by omega⟩
    have ej:(((j+1:Nat):Int)-1)=(j:Int):=by omega
    rw[ej]
    clear ej
    obtain⟨wo,rfl⟩:∃ wo:World,wo=wr:=⟨_,rfl⟩
    have E5:j+(kk+2)<xs.length+1:=by omega
    have C:=y0.out
    obtain⟨q1,q2,q3⟩:=Z.out.window hV.out (by omega)
    have P3:((rs.drop j).take (kk+3)).length=kk+3:=by simp;omega
    obtain⟨u1,E1⟩:=yE (rs[j+(kk+2)]?.getD 0)
    obtain⟨u2,F1⟩:=yE (rs[j+(kk+1)]?.getD 0)
    obtain⟨u3,G1⟩:=yE (rs[j+kk]?.getD 0)
    obtain⟨v1,O0⟩:=yE (vs[kk+1]?.getD 0)
    obtain⟨v2,H1⟩:=yE (vs[kk]?.getD 0)
    have K2:=J4.out
    rw[O0] at K2
    have HL:=Zqp (n:=kk) (u1:=u1) (u2:=u2) (u3:=u3) (v1:=v1) (v2:=v2) H.out P3 W.out ((Z.out.1.drop j).take _) (by rw[List.getElem?_take_of_lt (by omega),List.getElem?_drop];exact E1) (by rw[List.getElem?_take_of_lt (by omega),List.getElem?_drop];exact F1) (by rw[List.getElem?_take_of_lt (by omega),List.getElem?_drop];exact G1) O0 H1 (by rw[←q1,HV.out];exact q2) K2
    rw[←q1,HV.out] at HL
    have N:=zh HL
    have L2:Hid (u1<W32):=E1 ▸ Z.out.1.getD zY _
    have M2:Hid (u2<W32):=F1 ▸ Z.out.1.getD zY _
    have N2:Hid (u3<W32):=G1 ▸ Z.out.1.getD zY _
    have O2:Hid (v1<W32):=O0 ▸ W.out.getD zY _
    have N0:Hid (v2<W32):=H1 ▸ W.out.getD zY _
    have P0:Hid (0<v1):=by have:=zY;unfold Hid;omega
    have c1:=A0.out.cell (i:=j+(kk+2)) (by omega)
    have Q3:=A0.out.cell (i:=j+(kk+1)) (by omega)
    have c3:=A0.out.cell (i:=j+kk) (by omega)
    have d1:=((L0.out.ext l0.out).cell0 (i:=kk+1) (by rw[H.out];omega))
    have d2:=((L0.out.ext l0.out).cell0 (i:=kk) (by rw[H.out];omega))
    rw[E1] at c1
    rw[F1] at Q3
    rw[G1] at c3
    rw[O0,sC] at d1
    rw[H1,sC] at d2
    have w1:=wE u1 (by have:=zO;have:=xB;have:=L2.out;omega)
    have w2:=wE u2 (by have:=zO;have:=xB;have:=M2.out;omega)
    have w3:=wE u3 (by have:=zO;have:=xB;have:=N2.out;omega)
    have w4:=wE v1 (by have:=zO;have:=xB;have:=O2.out;omega)
    have w5:=wE v2 (by have:=zO;have:=xB;have:=N0.out;omega)
    have s1:=Zmj u1 L2.out
    have B0:u1*W32+u2<W64:=by
     have:(u1+1)*W32≤W32*W32:=uC _ L2.out
     rw[uU,bQ] at this;have:=M2.out;omega
    have s2:=bN (a:=u1*W32) (b:=u2) (by omega) (by omega)
    rw[or32 u1 u2 M2.out] at s2
    obtain⟨a1,Q0⟩:=yE (u1*W32)
    rw[Q0] at s1 s2 N B0
    obtain⟨f,W1⟩:=yE (a1+u2)
    rw[W1] at s2 N B0
    have R3:((v1:Int) == 0)=false:=by have:=P0.out;simp;omega
    have v5:=zh B0
    have i1:IntKind.i64.wrap ((j:Int)+((kk:Int)+2))=(j:Int)+((kk:Int)+2):=IntWalk.i64_in _ (by omega)
    have i2:((j:Int)+((kk:Int)+2)).toNat=j+(kk+2):=by omega
    have i3:IntKind.i64.wrap ((j:Int)+((kk:Int)+2)-1)=(j:Int)+((kk:Int)+1):=by rw[show (j:Int)+((kk:Int)+2)-1=(j:Int)+((kk:Int)+1) by omega];exact IntWalk.i64_in _ (by omega)
    have i4:((j:Int)+((kk:Int)+1)).toNat=j+(kk+1):=by omega
    have r1:(f:Int).tdiv (v1:Int)=((f/v1:Nat):Int):=by rw[sH (by omega)];rfl
    have S3:(f:Int)/(v1:Int)=((f/v1:Nat):Int):=rfl
    have r2:(f:Int).tmod (v1:Int)=((f%v1:Nat):Int):=by rw[tM (by omega)];rfl
    have T3:(f:Int)%(v1:Int)=((f%v1:Nat):Int):=rfl
    have r3:IntKind.u64.wrap ((f/v1:Nat):Int)=((f/v1:Nat):Int):=wE _ (vE (uZ _ _) B0)
    have C0:Hid (jT (val W32 (rs.drop j)) V f v1 (f/v1) (f%v1)):=jT.start N.out
    have I1:Hid (f/v1<W64):=vE (uZ _ _) B0
    have J1:Hid (f%v1<W32):=qF (uP _ P0.out) O2.out
    obtain⟨h0,U3⟩:=yE (f/v1)
    obtain⟨r0,V3⟩:=yE (f%v1)
    rw[U3] at r1 S3 r3 C0 I1
    rw[V3] at r2 T3 C0 J1
    have x5:0<v1:=P0.out
    clear q1 q2 q3 P3 C E1 F1 G1 O0 H1 K2 HL Q0 W1 B0 U3 V3
    go_wp2
    go_quiet (fail)
    go_upto_block 4 with fail
    clear r1 S3 r2 T3 r3 i1 i2 i3 i4 s1 s2 c1 Q3 w1 w2
    obtain⟨U,eU⟩:=yE (val W32 (rs.drop j))
    have HU:=zh eU
    rw[eU] at C0 N
    clear eU
    go_cut [16,17] from 115 to 150 (fun hv _ wx=>∃ (h n2:Nat),hv=.int .u64 (h:Int)∧Hid (h<W32)∧Hid (eC U V h)∧Hid (wx=wo.drewN n2))
    case first =>
     go_wp2_with fail
     go_loopw [16,17] (fun hv rv wx=>∃ (h r n2:Nat),hv=.int .u64 (h:Int)∧rv=.int .u64 (r:Int)∧Hid (jT U V f v1 h r)∧Hid (r<W32)∧Hid (h<W64)∧Hid (wx=wo.drewN n2)) (fun hv _ _=>(intOf hv).toNat)
     case atStart=>exact⟨h0,r0,_,rfl,rfl,C0,J1,I1,rfl⟩
     case round =>
      obtain⟨h,r,n2,rfl,rfl,hC,hr,D0,hw⟩:=hrel
      obtain rfl:=hw.out
      clear hw C0 I1 J1
      have a3:=kU (a:=r) (b:=v1) (by have:=hr.out;have:=O2.out;have:=xB;have:=zO;omega)
      obtain⟨r',E0⟩:=yE (r+v1)
      rw[E0] at a3
      by_cases R0:W32≤h
      ·obtain⟨hp,a0⟩:=hC.out.big N.out R0
       rw[E0] at a0
       have g1:decide ((4294967296:Int)≤(h:Int))=true:=by rw[vN];have:=xB;omega
       have M4:decide (4294967296≤h)=true:=by rw[vN];have:=xB;omega
       have a2:=iP hp D0.out
       obtain⟨F,O⟩:=yE (h-1)
       rw[O] at a2 a0
       have n0:=zh a0
       have W3:F<h:=by omega
       have P2:Hid (F<W64):=by have:=D0.out;unfold Hid;omega
       clear a0 R0 E0 O hp hC hr D0
       by_cases o0:W32≤r'
       ·have g2:decide ((4294967296:Int)≤(r':Int))=true:=by rw[vN];have:=xB;omega
        have Q2:decide (4294967296≤r')=true:=by rw[vN];have:=xB;omega
        have HB:=zh (n0.out.broke N.out o0)
        clear o0 n0
        go_wp2
        go_quiet (fail)
        go_wp2
        go_meet
        exact⟨F,_,rfl,HB.out.1,HB.out.2,rfl⟩
       have g2:decide ((4294967296:Int)≤(r':Int))=false:=by rw[vA];have:=xB;omega
       have Q2:decide (4294967296≤r')=false:=by rw[vA];have:=xB;omega
       have R2:Hid (r'<W32):=by unfold Hid;omega
       clear o0
       go_wp2
       go_quiet (fail)
       go_wp2
       go_roundw
       case rel=>exact⟨F,r',_,rfl,rfl,n0,R2,P2,rfl⟩
       case measure=>simp[intOf];omega
      have g1:decide ((4294967296:Int)≤(h:Int))=false:=by rw[vA];have:=xB;omega
      have M4:decide (4294967296≤h)=false:=by rw[vA];have:=xB;omega
      have P:Hid (h<W32):=by unfold Hid;omega
      have X3:h*v2<W64:=by
       rw[←bQ]
       exact qA P.out N0.out
      have m1:=fA (a:=h) (b:=v2) X3
      have m2:=Zmj r hr.out
      have m3:r*W32+u3<W64:=by
       have:(r+1)*W32≤W32*W32:=uC _ hr.out
       rw[uU,bQ] at this;have:=N2.out;omega
      have m4:=bN (a:=r*W32) (b:=u3) (by omega) (by omega)
      rw[or32 r u3 N2.out] at m4
      have i1:IntKind.i64.wrap ((kk:Int)+2-2)=(kk:Int):=by rw[show (kk:Int)+2-2=(kk:Int) by omega];exact IntWalk.i64_in _ (by omega)
      have i3:IntKind.i64.wrap ((j:Int)+((kk:Int)+2))=(j:Int)+((kk:Int)+2):=IntWalk.i64_in _ (by omega)
      have i4:IntKind.i64.wrap ((j:Int)+((kk:Int)+2)-2)=(j:Int)+(kk:Int):=by rw[show (j:Int)+((kk:Int)+2)-2=(j:Int)+(kk:Int) by omega];exact IntWalk.i64_in _ (by omega)
      have i5:((j:Int)+(kk:Int)).toNat=j+kk:=by omega
      have F5:(j:Int)+(kk:Int)<(xs.length:Int)+1:=by omega
      have S2:=hC
      have Y3:∀ a b:Nat,h*v2=a→r*W32+u3=b→Hid ((b<a→0<h∧jT U V f v1 (h-1) (r+v1))∧(¬ b<a→eC U V h)):=by
       intro a b ea eb
       refine⟨fun L4=>S2.out.more N.out (by omega),fun z2=>S2.out.done N.out P.out (by omega)⟩
      obtain⟨p,ep⟩:=yE (h*v2)
      rw[ep] at m1
      obtain⟨a1,Q0⟩:=yE (r*W32)
      rw[Q0] at m2 m4
      obtain⟨q,eq⟩:=yE (a1+u3)
      rw[eq] at m4
      have HM:=Y3 p q ep (by omega)
      rw[E0] at HM
      clear Y3 S2 hC ep Q0 eq X3 m3 R0
      by_cases D:q<p
      ·obtain⟨hp,a0⟩:=HM.out.1 D
       have t2:=dI D
       have a2:=iP hp D0.out
       obtain⟨F,O⟩:=yE (h-1)
       rw[O] at a2 a0
       have n0:=zh a0
       have W3:F<h:=by omega
       have P2:Hid (F<W64):=by have:=D0.out;unfold Hid;omega
       clear a0 E0 O hp hr D0 HM D
       by_cases o0:W32≤r'
       ·have g2:decide ((4294967296:Int)≤(r':Int))=true:=by rw[vN];have:=xB;omega
        have Q2:decide (4294967296≤r')=true:=by rw[vN];have:=xB;omega
        have HB:=zh (n0.out.broke N.out o0)
        clear o0 n0
        go_wp2
        go_quiet (fail)
        go_wp2
        go_meet
        exact⟨F,_,rfl,HB.out.1,HB.out.2,rfl⟩
       have g2:decide ((4294967296:Int)≤(r':Int))=false:=by rw[vA];have:=xB;omega
       have Q2:decide (4294967296≤r')=false:=by rw[vA];have:=xB;omega
       have R2:Hid (r'<W32):=by unfold Hid;omega
       clear o0
       go_wp2
       go_quiet (fail)
       go_wp2
       go_roundw
       case rel=>exact⟨F,r',_,rfl,rfl,n0,R2,P2,rfl⟩
       case measure=>simp[intOf];omega
      have HD:=zh (HM.out.2 D)
      have t2:=fS D
      clear HM D E0
      go_wp2
      go_quiet (fail)
      go_wp2
      go_meet
      exact⟨h,_,rfl,P,HD,World.drewN_drewN _ _ _⟩
    case rest =>
     obtain⟨h,n2,rfl,P,Z3,hw⟩:=hcut
     obtain rfl:=hw.out
     clear hw C0 I1 J1 c3 d1 d2 w3 w4 w5 R3
     have C:=y0.out
     have p0:Hid ((rs.take j).length=j):=by unfold Hid;simp;omega
     have b0:Hid (((rs.drop j).take (kk+2)).length=kk+2):=by unfold Hid;simp;omega
     have T2:Hid (Own .u32 102 (wo.drewN n2) R (rs.take j ++ (rs.drop j).take (kk+2) ++ rs.drop (j+(kk+2)))):=by rw[Znc];exact A0.out.drewN _
     have U2:Hid (Zb8 ((rs.drop j).take (kk+2)) vs h 0 ((rs.drop j).take (kk+2)) 0 0):=Zb8.start ((Z.out.1.drop j).take _)
     obtain⟨w0,V2⟩:=yE ((rs.drop j).take (kk+2))
     have N4:=zh V2
     rw[V2] at b0 T2 U2
     clear C V2
     go_wp2_with fail
     go_loopw [18,19,20] (fun cv bv iv wx=>∃ (i cc bw:Nat) (m:List Nat),i≤kk+2∧iv=.int .i64 (i:Int)∧cv=.int .u64 (cc:Int)∧bv=.int .u64 (bw:Int)∧Hid (Zb8 w0 vs h i m cc bw)∧Hid (Own .u32 102 wx R (rs.take j ++ m ++ rs.drop (j+(kk+2))))∧Hid (Fr (· = R) wo wx)) (fun _ _ iv _=>kk+2-(intOf iv).toNat)
     case atStart=>exact⟨0,0,0,w0,by omega,rfl,rfl,rfl,U2,T2,(Fr.refl _ _).drewN _⟩
     case round =>
      obtain⟨i,cc,bw,m,hi,rfl,rfl,rfl,hM,c0,d0⟩:=hrel
      clear U2 T2
      by_cases X1:i<kk+2
      ·have g:m.length=kk+2:=by rw[hM.out.1];exact b0.out
       obtain⟨x,ex⟩:=yE (vs[i]?.getD 0)
       obtain⟨z,ez⟩:=yE (m[i]?.getD 0)
       have o:x<W32:=ex ▸ W.out.getD zY _
       have f0:z<W32:=ez ▸ hM.out.2.1.getD zY _
       have J:=hM.out.2.2.1
       have g0:=hM.out.2.2.2.1
       have i0:zF .u32 wr (some ⟨Vb,0,none⟩) vs:=(L0.out.ext l0.out).fr d0.out (fun a ha _=>by injection ha with ha;subst ha;have:=D1.out;show Vb≠R;omega)
       have dx:=i0.cell0 (i:=i) (by rw[H.out];omega)
       rw[ex,sC] at dx
       have W2:=c0.out.mid32 (k:=i) (by omega)
       have O4:=c0.out.frozen (i+j)
       rw[p0.out,ez,vL j i] at W2
       have Q:=zh (hM.out.step (by rw[b0.out];omega) (by rw[H.out];omega) P.out ez ex W.out)
       have F0:=Zju P.out o J
       rw[bQ] at F0
       have q0:=wE x (by have:=zO;have:=xB;omega)
       have P4:=wE z (by have:=zO;have:=xB;omega)
       have q1:=fA (a:=h) (b:=x) (by omega)
       have q2:=kU (a:=h*x) (b:=cc) F0
       obtain⟨hx,a4⟩:=yE (h*x)
       rw[a4] at q1 q2 Q F0
       obtain⟨p,ep⟩:=yE (hx+cc)
       rw[ep] at q2 Q F0
       have q3:=hi32 p
       have q4:=Zrp p F0
       have K1:p%W32<W32:=uP _ zY
       obtain⟨pl,b4⟩:=yE (p%W32)
       obtain⟨ph,S0⟩:=yE (p/W32)
       rw[S0] at q3 Q
       rw[b4] at q4 Q K1
       have q5:=Zlv f0 K1
       have q6:=Zlw f0 K1 g0
       have q7:=jP (d32 z pl bw)
       have q8:=hi32 (d32 z pl bw)
       have q9:=Zhh (d32 z pl bw/W32) (vE (uZ _ _) (Zjp _ _ _))
       have I:=zh (c0.out.set_mid32 (k:=i) (by omega) (d32 z pl bw%W32))
       rw[p0.out,vL j i] at I
       obtain⟨e1,s0⟩:=yE (d32 z pl 0)
       obtain⟨e2,j0⟩:=yE (d32 z pl bw)
       rw[s0] at q5 q6
       rw[j0] at q6 q7 q8 q9 I Q
       obtain⟨lo,K⟩:=yE (e2%W32)
       obtain⟨Q4,Y1⟩:=yE (e2/W32)
       rw[K] at q7 Q I
       rw[Y1] at q8 q9 Q
       obtain⟨R4,Z1⟩:=yE (Q4%2)
       rw[Z1] at q9 Q
       have S4:(i:Int)+(j:Int)<(xs.length:Int)+1:=by omega
       have y5:i+j<xs.length+1:=by omega
       clear g ex ez o f0 J g0 i0 F0 a4 ep K1 b4 S0 s0 j0 K Y1 Z1
       go_wp2
       go_roundw
       case rel=>exact⟨i+1,ph,R4,_,by omega,by go_num,rfl,rfl,Q,I.out,d0.out.setCell (p:=⟨R,i+j,none⟩) (Or.inl rfl) _⟩
       case measure=>simp[intOf];omega
      obtain rfl:i=kk+2:=by omega
      have g:m.length=kk+2:=by rw[hM.out.1];exact b0.out
      have C:=y0.out
      have v0:=p0.out
      have T0:=b0.out
      have J:=hM.out.2.2.1
      have g0:=hM.out.2.2.2.1
      have G0:=hM.out.2.1
      have U0:=hM.out.2.2.2.2.2
      rw[uA (by omega),uA (by rw[H.out];omega),uA (by omega),HV.out] at U0
      have S:j+(kk+2)<(rs.take j ++ m ++ rs.drop (j+(kk+2))).length:=by simp;omega
      have T:=c0.out.cell S
      have c4:=c0.out.frozen (j+(kk+2))
      rw[Zlm _ _ _ _ _ v0 g] at T
      obtain⟨tw,V0⟩:=yE (rs[j+(kk+2)]?.getD 0)
      rw[V0] at T
      have W0:tw<W32:=V0 ▸ Z.out.1.getD zY _
      have hu:U=val W32 w0+W32^(kk+2)*tw:=by
       obtain⟨q1,_,_⟩:=Z.out.window hV.out (by omega)
       rw[←HU.out,q1,zR (kk+2) (by simp;omega),List.getElem?_drop,V0,N4.out]
      have X2:val W32 m<W32^(kk+2):=by have:=xZ G0;rw[g] at this;exact this
      have H0:qs.length=xs.length-(kk+2)+1:=by have:=Z.out.2.2.1;omega
      have q0:=wE tw (by have:=zO;have:=xB;omega)
      have q5:=Zlv W0 J
      have q6:=Zlw W0 J g0
      have q7:=jP (d32 tw cc bw)
      have q8:=Zqq W0 J g0
      have q9:((d32 tw cc bw:Nat):Int)/9223372036854775808=((d32 tw cc bw/9223372036854775808:Nat):Int):=by omega
      rw[q8] at q9
      have Y2:h%W32=h:=vC P.out
      have d4:=jP h
      rw[Y2] at d4
      have t:=c0.out.set (j+(kk+2)) (d32 tw cc bw%W32) S
      rw[Zhc _ _ _ _ _ _ v0 g (by omega)] at t
      have X0:j<qs.length:=by omega
      obtain⟨e1,s0⟩:=yE (d32 tw cc 0)
      obtain⟨e2,j0⟩:=yE (d32 tw cc bw)
      by_cases Z2:cc+bw≤tw
      ·rw[uJ (by omega)] at q9
       obtain⟨k1,k2,k3⟩:=Zf6 (v:=V) hV.out hu Z3.out U0 Z2
       have b3:=zh (Z.out.step (q:=h) B1.out hV.out (by omega) g G0 (by rw[HU.out];exact k1) (by rw[HU.out];exact k2))
       have k4:=Zo5 k3
       rw[k4] at t q7
       rw[s0] at q5 q6
       rw[j0] at q6 q7 q9
       have G:Fr (· = R) wr (wr.setCell ⟨R,j+(kk+2),none⟩ (.int .u32 ((0:Nat):Int))):=(Fr.refl (· = R) wr).setCell (p:=⟨R,j+(kk+2),none⟩) (Or.inl rfl) _
       have L1:=(Y.out.fr d0.out (by have:=u.out;omega)).fr G (by have:=u.out;omega)
       have d3:=L1.cell X0
       have T4:=L1.frozen j
       obtain⟨z0,Y0⟩:=yE (qs[j]?.getD 0)
       rw[Y0] at d3
       have U4:=zh (L1.set j h X0)
       have e4:=zh (t.far (p:=⟨Qb,j,none⟩) (by have:=u.out;show R≠Qb;omega) (.int .u32 (h:Int)))
       have f4:Hid (Ext wD ((wr.setCell ⟨R,j+(kk+2),none⟩ (.int .u32 ((0:Nat):Int))).setCell ⟨Qb,j,none⟩ (.int .u32 (h:Int)))):=((l0.out.next d0.out (fun i hi e=>by have:=HR.out;omega)).next G (fun i hi e=>by have:=HR.out;omega)).setCell (Or.inr (by have:=HR.out;have:=u.out;show wD.heap.size≤Qb;omega)) _
       have M1:Hid ((rs.take j ++ m ++ (0 :: rs.drop (j+(kk+2)+1))).length=xs.length+1):=by unfold Hid;simp;omega
       have V4:(j:Int)+((kk:Int)+2)<(xs.length:Int)+1:=by omega
       clear g C v0 T0 J g0 G0 U0 S V0 W0 hu X2 q8 Y2 t L1 G Y0 s0 j0 Z2 k1 k2 k3 k4 c0
       simp only[Int.ofNat_zero] at *
       go_wp2
       go_roundw
       case rel=>exact⟨j,_,_,by omega,rfl,b3,M1,e4.out,U4.out,f4.out⟩
       case measure=>simp[intOf]
      rw[uL (by omega)] at q9
      have b2:Hid (tw<cc+bw):=by unfold Hid;omega
      have K0:0<h:=by
       rcases uI h with e|e
       ·subst e
        have:W32^(kk+2)*1≤W32^(kk+2)*(cc+bw):=uK _ (by omega)
        omega
       exact e
      have g2:=iP K0 (by have:=P.out;have:=xB;have:=zO;omega)
      obtain⟨F,O⟩:=yE (h-1)
      rw[O] at g2
      have W4:=jP F
      rw[vC (by have:=P.out;omega)] at W4
      rw[s0] at q5 q6
      rw[j0] at q6 q7 q9 t
      have f2:Hid (∀ c',c'+tw=cc+bw→c'≤1→(e2%W32+c')%W32=0):=fun c' Z0 y2=>by rw[←j0];exact Zqr Z0 J g0 y2 b2.out
      have j2:Hid (e2%W32<W32):=uP _ zY
      obtain⟨t2,g4⟩:=yE (e2%W32)
      rw[g4] at q7 t f2 j2
      have G:Fr (· = R) wr (wr.setCell ⟨R,j+(kk+2),none⟩ (.int .u32 (t2:Int))):=(Fr.refl (· = R) wr).setCell (p:=⟨R,j+(kk+2),none⟩) (Or.inl rfl) _
      have N1:=zh t
      have X4:=zh ((Y.out.fr d0.out (by have:=u.out;omega)).fr G (by have:=u.out;omega))
      have Y4:Hid (Ext wD (wr.setCell ⟨R,j+(kk+2),none⟩ (.int .u32 (t2:Int)))):=(l0.out.next d0.out (fun i hi e=>by have:=HR.out;omega)).next G (fun i hi e=>by have:=HR.out;omega)
      have h4:Hid (zF .u32 (wr.setCell ⟨R,j+(kk+2),none⟩ (.int .u32 (t2:Int))) (some ⟨Vb,0,none⟩) vs):=((L0.out.ext l0.out).fr d0.out (fun a ha _=>by injection ha with ha;subst ha;have:=D1.out;show Vb≠R;omega)).fr G (fun a ha _=>by injection ha with ha;subst ha;have:=D1.out;show Vb≠R;omega)
      have G5:Hid (Dig W32 m):=G0
      have O1:=zh g
      have Hu:=zh hu
      have Z4:=zh U0
      have a5:=zh X2
      have b5:=zh O
      have e3:=zh H0
      have V4:(j:Int)+((kk:Int)+2)<(xs.length:Int)+1:=by omega
      have j4:Hid (Zb9 m vs 0 m 0):=Zb9.start G0
      clear g C v0 T0 J g0 G0 U0 S V0 W0 hu X2 q8 Y2 t G s0 j0 Z2 c0 K0 O g4 H0 hM d0 X1 hi
      simp only[Int.ofNat_one] at *
      go_wp2
      generalize c5:wr.setCell ⟨R,j+(kk+2),none⟩ (.int .u32 (t2:Int))=w7 at *
      clear c5 T c4 q0 q5 q6 q7 q9 d4 g2
      obtain⟨l4,rfl⟩:∃ l4:World,l4=wr:=⟨_,rfl⟩
      go_loopw [18,24] (fun cv iv wr=>∃ (i c':Nat) (m2:List Nat),i≤kk+2∧iv=.int .i64 (i:Int)∧cv=.int .u64 (c':Int)∧Hid (Zb9 m vs i m2 c')∧Hid (Own .u32 102 wr R (rs.take j ++ m2 ++ (t2 :: rs.drop (j+(kk+2)+1))))∧Hid (Fr (· = R) w7 wr)) (fun _ iv _=>kk+2-(intOf iv).toNat)
      case atStart=>exact⟨0,0,m,by omega,rfl,rfl,j4,N1,Fr.refl _ _⟩
      case round =>
       obtain⟨i,c',m2,hi,rfl,rfl,hA,I0,f3⟩:=hrel
       clear j4 N1
       by_cases z5:i<kk+2
       ·have g:m2.length=kk+2:=by rw[hA.out.1];exact O1.out
        obtain⟨x,ex⟩:=yE (vs[i]?.getD 0)
        obtain⟨z,ez⟩:=yE (m2[i]?.getD 0)
        have o:x<W32:=ex ▸ W.out.getD zY _
        have f0:z<W32:=ez ▸ hA.out.2.1.getD zY _
        have J:=hA.out.2.2.1
        have i0:zF .u32 wr (some ⟨Vb,0,none⟩) vs:=h4.out.fr f3.out (fun a ha _=>by injection ha with ha;subst ha;have:=D1.out;show Vb≠R;omega)
        have dx:=i0.cell0 (i:=i) (by rw[H.out];omega)
        rw[ex,sC] at dx
        have W2:=I0.out.mid32 (k:=i) (by omega)
        have O4:=I0.out.frozen (i+j)
        rw[p0.out,ez,vL j i] at W2
        have b1:=zh (hA.out.step (by rw[O1.out];omega) (by rw[H.out];omega) ez ex W.out)
        have q0:=wE x (by have:=zO;have:=xB;omega)
        have P4:=wE z (by have:=zO;have:=xB;omega)
        have q1:=kU (a:=z) (b:=x) (by have:=zO;have:=xB;omega)
        have q2:=kU (a:=c') (b:=z+x) (by have:=zO;have:=xB;omega)
        obtain⟨zx,n4⟩:=yE (z+x)
        rw[n4] at q1 q2 b1
        obtain⟨p,ep⟩:=yE (c'+zx)
        rw[ep] at q2 b1
        have q3:=hi32 p
        have q4:=jP p
        have I:=zh (I0.out.set_mid32 (k:=i) (by omega) (p%W32))
        rw[p0.out,vL j i] at I
        obtain⟨lo,K⟩:=yE (p%W32)
        obtain⟨ph,S0⟩:=yE (p/W32)
        rw[K] at q4 b1 I
        rw[S0] at q3 b1
        have S4:(i:Int)+(j:Int)<(xs.length:Int)+1:=by omega
        have i1:IntKind.i64.wrap ((i:Int)+(j:Int))=(i:Int)+(j:Int):=IntWalk.i64_in _ (by omega)
        have i2:((i:Int)+(j:Int)).toNat=i+j:=by omega
        clear g ex ez o f0 J i0 n4 ep K S0
        go_wp2
        go_quiet (fail)
        clear i1 i2
        go_wp2
        go_roundw
        case rel=>exact⟨i+1,ph,_,by omega,by go_num,rfl,b1,I.out,(f3.out.drewN _).setCell (p:=⟨R,i+j,none⟩) (Or.inl rfl) _⟩
        case measure=>simp[intOf];omega
       obtain rfl:i=kk+2:=by omega
       have g:m2.length=kk+2:=by rw[hA.out.1];exact O1.out
       have f1:=hA.out.2.2.2.2
       rw[uA (by omega),uA (by rw[O1.out];omega),uA (by rw[H.out];omega),HV.out] at f1
       obtain⟨_,k2,k3,k4⟩:=ZhT B1.out hV.out Hu.out Z3.out Z4.out b2.out a5.out f1 (by have:=xZ hA.out.2.1;rw[g] at this;exact this)
       have t0:=f2.out c' k4 hA.out.2.2.1
       have d5:=j2.out
       have Z0:=hA.out.2.2.1
       have g5:=jP c'
       rw[vC (by have:=Zhf;omega)] at g5
       have g3:IntKind.u32.wrap ((t2:Int)+(c':Int))=0:=by
        rw[IntKind.wrap_u32];rw[xB] at t0;omega
       have H5:((t2:Int)+(c':Int))%4294967296=0:=by rw[xB] at t0;omega
       rw[b5.out] at k2
       have C:=y0.out
       have o4:=e3.out
       have u0:j+(kk+2)<(rs.take j ++ m2 ++ (t2 :: rs.drop (j+(kk+2)+1))).length:=by simp;omega
       have T:=I0.out.cell u0
       have c4:=I0.out.frozen (j+(kk+2))
       rw[Zjh _ _ _ _ _ _ p0.out g] at T
       have j1:=I0.out.set (j+(kk+2)) 0 u0
       rw[Zjg _ _ _ _ _ _ _ p0.out g] at j1
       have l1:Fr (· = R) w7 (wr.setCell ⟨R,j+(kk+2),none⟩ (.int .u32 ((0:Nat):Int))):=f3.out.setCell (p:=⟨R,j+(kk+2),none⟩) (Or.inl rfl) _
       have x0:=X4.out.fr l1 (by have:=u.out;omega)
       have X0:j<qs.length:=by omega
       have d3:=x0.cell X0
       have T4:=x0.frozen j
       obtain⟨z0,Y0⟩:=yE (qs[j]?.getD 0)
       rw[Y0] at d3
       have b3:=zh (Z.out.step (q:=F) B1.out hV.out (by omega) g hA.out.2.1 (by rw[HU.out];exact k2) (by rw[HU.out];exact k3))
       have p4:=zh (x0.set j F X0)
       have r4:=zh (j1.far (p:=⟨Qb,j,none⟩) (by have:=u.out;show R≠Qb;omega) (.int .u32 (F:Int)))
       have s4:Hid (Ext wD ((wr.setCell ⟨R,j+(kk+2),none⟩ (.int .u32 ((0:Nat):Int))).setCell ⟨Qb,j,none⟩ (.int .u32 (F:Int)))):=(Y4.out.next l1 (fun i hi e=>by have:=HR.out;omega)).setCell (Or.inr (by have:=HR.out;have:=u.out;show wD.heap.size≤Qb;omega)) _
       have M1:Hid ((rs.take j ++ m2 ++ (0 :: rs.drop (j+(kk+2)+1))).length=xs.length+1):=by unfold Hid;simp;omega
       clear f1 k2 k3 k4 C o4 u0 j1 l1 x0 Y0 g t0 d5 Z0
       simp only[Int.ofNat_zero] at *
       go_wp2
       go_roundw
       case rel=>exact⟨j,_,_,by omega,rfl,b3,M1,r4.out,p4.out,s4.out⟩
       case measure=>simp[intOf]
   obtain rfl:k=0:=by omega
   obtain⟨k1,k2⟩:=Z.out.done
   have C:=y0.out
   have H0:qs.length=xs.length-(kk+2)+1:=by have:=Z.out.2.2.1;omega
   have P1:=ZdR (val W32 xs) (val W32 ys) (2^s) (uT (by omega))
   have NQ:=zS.of_own (c:=xs.length-(kk+2)+1) Y.out Z.out.2.1 (by omega)
   rw[k1,← C1.out,← HV.out,M0.out,P1.1] at NQ
   rw[←C1.out,← HV.out,M0.out] at k2
   have t4:val W32 rs<W32^(kk+2):=by
    have F:=Z.out.2.2.2.2
    rw[tS] at F
    have:=hV.out
    omega
   have u4:val W32 (rs.take (kk+2))=val W32 rs:=by
    have F:=xU (B:=W32) (xs:=rs) (kk+2)
    rw[uV (by omega)] at F
    rcases uI (val W32 (rs.drop (kk+2))) with h|h
    ·rw[h] at F;simp at F;omega
    have:W32^(kk+2)*1≤W32^(kk+2)*val W32 (rs.drop (kk+2)):=uK _ h
    omega
   have v4:(rs.take (kk+2)).length=kk+2:=by simp;omega
   have h3:val W32 (wF (rs.take (kk+2)))=val W32 xs*2^s%(val W32 ys*2^s):=by rw[wX,u4,k2]
   have o1:wF (rs.take (kk+2))=rs.take (wF (rs.take (kk+2))).length:=by
    have F:=wH (rs.take (kk+2))
    have h2:=gB (rs.take (kk+2)) (rs.take (kk+2)).length
    rw[F]
    unfold wF
    rw[List.take_take,uV (by omega)]
   have j3:Dig W32 (wF (rs.take (kk+2))):=iD (Z.out.1.take _)
   have l2:(wF (rs.take (kk+2))).length≤kk+2:=by rw[wH];have:=gB (rs.take (kk+2)) (rs.take (kk+2)).length;omega
   have p1:=zh (lU (some ⟨R,0,none⟩) (rs.take (kk+2)) (kk+2) (xs.length+1) wr v4 (A0.out.shows0.take _) (by omega) (by omega))
   rw[←wH] at p1
   have e5:=zh (fun wz (hO:Own .u32 102 wz Qb qs)=>lU (some ⟨Qb,0,none⟩) qs (xs.length-(kk+2)+1) (xs.length-(kk+2)+1) wz H0 hO.shows0 (by omega) (by omega))
   obtain⟨ts,x4⟩:=yE (wF (rs.take (kk+2)))
   rw[x4] at p1 h3 o1 j3 l2
   obtain⟨l,el⟩:=yE ts.length
   rw[el] at p1 o1 l2
   have y4:=zh el
   have I5:=zh o1
   have z4:=zh j3
   have f5:=zh h3
   have e3:=zh H0
   have h5:=zh P1.2
   have j5:Hid (Dig W32 qs):=Z.out.2.1
   have k5:Hid (val W32 qs=val W32 xs/val W32 ys):=by unfold Hid;rw[k1,← C1.out,← HV.out,M0.out,P1.1]
   have o2:Hid (Own .u32 102 wr R ((List.replicate ts.length 0).take 0 ++ ts.drop 0 ++ rs.drop l)):=by
    unfold Hid
    rw[List.take_zero,List.nil_append,tS,o1,rK]
    exact A0.out
   have M1:Hid (rs.length=xs.length+1):=y0
   have p2:Hid (fU ts s 0 (List.replicate ts.length 0)):=fU.start ts s
   have l5:Hid (wD.heap.size≤R):=by have:=HR.out;unfold Hid;omega
   clear k1 k2 C H0 P1 NQ t4 u4 v4 h3 o1 j3 x4 el
   go_wp2_with fail
   refine p1.out.mono ?_
   rintro e w' ⟨rfl,rfl⟩
   clear p1
   go_wp2_with fail
   obtain⟨wo,rfl⟩:∃ wo:World,wo=wr:=⟨_,rfl⟩
   go_loopw [26] (fun iv wr=>∃ (k:Nat) (zs:List Nat),k≤l∧iv=.int .i64 (k:Int)∧Hid (fU ts s k zs)∧Hid (Own .u32 102 wr R (zs.take k ++ ts.drop k ++ rs.drop l))∧Hid (Fr (· = R) wo wr)) (fun iv _=>l-(intOf iv).toNat)
   case atStart=>exact⟨0,_,by omega,rfl,p2,o2,Fr.refl _ _⟩
   case round =>
    obtain⟨k,zs,J5,rfl,hS,x1,Q1⟩:=hrel
    clear p2 o2
    have K5:=y4.out
    have R1:zs.length=ts.length:=hS.out.1
    by_cases X1:k<l
    ·obtain⟨x,ex⟩:=yE (ts[k]?.getD 0)
     have o:x<W32:=ex ▸ z4.out.getD zY _
     have k0:k<(zs.take k ++ ts.drop k ++ rs.drop l).length:=by simp;omega
     have Z0:=x1.out.cell k0
     have L5:=x1.out.frozen k
     rw[Zfg (uM k) (by omega) R1,ex] at Z0
     have q3:=ZbC x s
     have G4:k<xs.length+1:=by omega
     by_cases m5:k+1<l
     ·obtain⟨y,ey⟩:=yE (ts[k+1]?.getD 0)
      have x2:y<W32:=ey ▸ z4.out.getD zY _
      have M:=zh (hS.out.step hs (by omega) ex ey o)
      have q1:=Zh0 x2 (by omega:32-s≤32)
      have J0:=jP (y*2^(32-s))
      have q2:=Znq (a:=x/2^s) (b:=y*2^(32-s)%W32) (vE (uZ _ _) o) (uP _ zY)
      rw[Zo4 hs o] at q2
      obtain⟨lo,K⟩:=yE (x/2^s)
      obtain⟨hi,A4⟩:=yE (y*2^(32-s)%W32)
      obtain⟨yy,B4⟩:=yE (y*2^(32-s))
      obtain⟨d,ed⟩:=yE (x/2^s+y%2^s*2^(32-s))
      rw[ed] at q2 M
      rw[K] at q2 q3
      rw[A4] at J0 q2
      rw[B4] at q1 J0
      have E:=x1.out.set k lo k0
      have M5:=E.frozen k
      have n5:=E.cell (i:=k) (by simpa using k0)
      rw[List.getElem?_set_self k0,rP] at n5
      have o5:=E.cell (i:=k+1) (by simp;omega)
      rw[List.getElem?_set_ne (by omega),Zfg (by omega) (by omega) R1,ey] at o5
      have t:=E.set k d (by simpa using k0)
      rw[List.set_set,Zff (by omega) R1] at t
      have N1:=zh t
      have q0:=wE y (by have:=zO;have:=xB;omega)
      have i1:IntKind.u64.wrap ((32:Int)-(s:Int))=((32-s:Nat):Int):=by rw[IntKind.wrap_u64];omega
      obtain⟨r,er⟩:=yE (32-s)
      rw[er] at i1 q1
      have i4:min r 64=r:=by omega
      have i2:IntKind.i64.wrap ((k:Int)+1)=(k:Int)+1:=IntWalk.i64_in _ (by omega)
      have i3:((k:Int)+1).toNat=k+1:=by omega
      have G:Hid (∀ n,Fr (· = R) wo (((wr.setCell ⟨R,k,none⟩ (.int .u32 (lo:Int))).drewN n).setCell ⟨R,k,none⟩ (.int .u32 (d:Int)))):=fun n=>((Q1.out.setCell (p:=⟨R,k,none⟩) (Or.inl rfl) _).drewN _).setCell (p:=⟨R,k,none⟩) (Or.inl rfl) _
      clear ex o k0 ey x2 K A4 B4 ed E t er
      have C4:(k:Int)+1<(l:Int):=by omega
      go_wp2
      go_region
      all_goals
       go_wp2
       go_roundw
       case rel=>exact⟨k+1,_,by omega,by go_num,M,N1.out.drewN _,G.out _⟩
       case measure=>simp[intOf];omega
     have M:=zh (hS.out.step hs (by omega) ex (show ts[k+1]?.getD 0=0 by rw[List.getElem?_eq_none (by omega)];rfl) o)
     have e0:x/2^s+0%2^s*2^(32-s)=x/2^s:=by simp
     rw[e0] at M
     obtain⟨lo,K⟩:=yE (x/2^s)
     rw[K] at M q3
     have E:=x1.out.set k lo k0
     rw[Zff (by omega) R1] at E
     have p5:=zh E
     have G:Hid (Fr (· = R) wo (wr.setCell ⟨R,k,none⟩ (.int .u32 (lo:Int)))):=Q1.out.setCell (p:=⟨R,k,none⟩) (Or.inl rfl) _
     have C4:¬ ((k:Int)+1<(l:Int)):=by omega
     have N5:decide ((k:Int)+1<(l:Int))=false:=by rw[vA];omega
     clear ex o k0 e0 K E
     go_wp2
     go_roundw
     case rel=>exact⟨k+1,_,by omega,by go_num,M,p5.out,G.out⟩
     case measure=>simp[intOf];omega
    obtain rfl:k=l:=by omega
    have l3:=hS.out
    rw[←y4.out] at l3
    have D4:=l3.done
    have E:=x1.out
    rw[uA (by omega),uX (by omega:ts.length≤k),rI] at E
    have t:=E.front
    have NR:=zS.of_own (c:=xs.length+1) t hS.out.2.1 (by omega)
    rw[D4,f5.out,h5.out,show zs.length=k by omega] at NR
    have r5:=zh NR
    have E4:=zh (Y.out.fr Q1.out (by have:=u.out;omega))
    have NQ:=zS.of_own (c:=xs.length-(kk+2)+1) E4.out j5.out (by have:=e3.out;omega)
    rw[k5.out] at NQ
    have s5:=zh NQ
    have t5:=zh (lU (some ⟨R,0,none⟩) zs k (xs.length+1) wr (by omega) t.shows0 (by omega) (by omega))
    have F4:=zh (e5.out wr E4.out)
    have u5:Hid (Ext w wr):=(F2.out.ext l0.out).next Q1.out (fun i hi e=>by have:=F2.out.size;have:=HR.out;omega)
    have C4:¬ ((k:Int)<(k:Int)):=by omega
    clear l3 D4 E t NR NQ
    go_wp2_with fail
    refine F4.out.mono ?_
    rintro e w' ⟨rfl,rfl⟩
    go_wp2_with fail
    refine t5.out.mono ?_
    rintro e w' ⟨rfl,rfl⟩
    go_wp2
    go_ret2
    exact⟨_,_,rfl,s5.out,r5.out,u5.out⟩
theorem Zgl (e f:Value)(x y:Nat)(w:World)(b:zS w e x)(d:zS w f y)(g:ml x≤17592186044416)(o:ml y≤17592186044416)(p:0<y) :
 yA 114 #[e,f] w (Zdb w (x/y) (x%y)):=by
 by_cases a:x<y
 ·rw[tG a,vC a]
  exact Znr e f x y w b d g o a
 have q:=Zgd p
 by_cases i:ml y=1
 ·exact Zml e f x y w b d g i (by omega)
 obtain⟨A,r,c,rfl,s,b,j,k,rfl⟩:=b
 obtain⟨t,l,u,rfl,h,d,m,n,rfl⟩:=d
 rw[←kX j k] at g
 rw[←kX m n] at i q
 exact ZkR A t r l c u (l.length-2) w b d s h g (by omega) j m k n (by omega)
end Go.Proofs.YtklpdkpcocnglaaGreatDoor
