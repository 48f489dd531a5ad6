/-
 My texts Dv3 put together.
-/
import Derived.Test.YtoanifijmlgcgaaGreatDoorD07
import Derived.Deep.CutBlock
import Derived.Deep.DeepCutAuto
set_option maxRecDepth 100000
set_option maxHeartbeats 8000000
namespace Go.Proofs.YtoanifijmlgcgaaGreatDoor
open Go.RowKit
theorem Zin {x s:Nat}(h:x*2^s<W32):IntKind.u32.wrap ((x:Int)*2^s)=((x*2^s:Nat):Int):=by
 have a:((2:Int)^s)=((2^s:Nat):Int):=by rw[tN];rfl
 rw[a,← tW,IntKind.wrap_u32]
 rw[zU] at h
 omega
theorem Zls {x s:Nat}(h:x*2^s<W32):((x:Int)*2^s)%4294967296=((x*2^s:Nat):Int):=by
 have:=Zin h
 rw[IntKind.wrap_u32] at this
 exact this
theorem Zkg {y s:Nat}(b:0<y)(h:y*2^s<W32):s≤31:=by
 rcases uZ s 32 with a|a
 ·omega
 have c:2^32≤2^s:=vS (by omega) a
 have d:1*2^s≤y*2^s:=uC _ b
 rw[zU] at h
 omega
theorem ZhI (A A2:Option Addr)(xs T:List Nat)(c c2 kk:Nat)(w:World)(hX:zV .u32 w A xs)(hY:zV .u32 w A2 T)(_:xs.length≤c)(y2:T.length≤c2)(hl:xs.length≤17592186044416)(hk:T.length=kk+2)(dx:Dig W32 xs)(dy:Dig W32 T)(tx:Trim xs)(ty:Trim T)(z2:val W32 T≤val W32 xs) :
 yA 252 #[.slice A xs.length c,.slice A2 T.length c2] w (Zbr w (val W32 xs/val W32 T) (val W32 xs%val W32 T)):=by
 have o3:kk+2≤xs.length:=by
  have:=aN z2
  rw[←kG dx tx,← kG dy ty] at this
  omega
 have HC:=zh (Zc8 A A2 xs T _ _ c c2 w rfl rfl hX hY (by omega) (by omega) dx dy tx ty)
 obtain⟨cr,B2⟩:=yE (cmpI (val W32 xs) (val W32 T))
 have A5:0≤cr:=by
  rcases Int.lt_or_le cr 0 with h|h
  ·rw[←B2] at h;have:=ZfL.1 h;omega
  exact h
 rw[B2] at HC
 clear B2
 obtain⟨bY,oY,rfl,_,W⟩:=hY.at (i:=kk+1) (by omega)
 obtain⟨yt,y1⟩:=yE (T[kk+1]?.getD 0)
 rw[y1] at W
 have S1:Hid (0<yt):=by have:=ty (kk+1) (by omega);unfold Hid;omega
 have T1:Hid (yt<W32):=y1 ▸ dy.getD zQ _
 have HX:=zh hX
 have HY:=zh hY
 have p3:=zh dx
 have s3:=zh dy
 have t3:=zh y1
 clear hX hY dx dy tx ty z2 y1
 obtain⟨n,hn⟩:=yE T.length
 rw[hn] at HC hk y2
 rw[hn]
 have HN:=zh hn
 subst hk
 clear hn
 have v3:(((kk:Int)+2) == 1)=false:=by simp;omega
 have x3:decide (cr<0)=false:=by rw[vA];omega
 go_enter Tryz.func252,Tryz.ntmps252
 go_wp2_with (go_at_call 242;refine HC.out.mono ?_;rintro e w' ⟨rfl,m0,rfl⟩)
 go_loop [8] (fun sv=>∃ s:Nat,s≤31∧sv=.int .u64 (s:Int)∧Hid (yt*2^s<W32)) (fun sv=>32-(intOf sv).toNat)
 case atStart=>exact⟨0,by omega,rfl,by have:=T1.out;unfold Hid;simpa using this⟩
 case round =>
  obtain⟨s,hs,rfl,z1⟩:=hrel
  have q1:=Zin z1.out
  have J0:=Zls z1.out
  obtain⟨p,ep⟩:=yE (yt*2^s)
  rw[ep] at q1 J0
  by_cases hp:p<2147483648
  ·have t1:decide ((p:Int)<2147483648)=true:=by rw[vF];omega
   have y3:decide (p<2147483648)=true:=by rw[vF];omega
   have z3:Hid (yt*2^(s+1)<W32):=by unfold Hid;rw[uW,← uQ,ep,zU];omega
   have B5:=Zkg S1.out z3.out
   clear ep hp
   go_wp2
   go_round
   case rel=>exact⟨s+1,by omega,by go_num,z3⟩
   case measure=>simp[intOf];omega
  have t1:decide ((p:Int)<2147483648)=false:=by rw[vA];omega
  have y3:decide (p<2147483648)=false:=by rw[vA];omega
  have HP:Hid (2147483648≤yt*2^s):=by unfold Hid;omega
  clear ep hp
  have A3:=zh (ZfK _ T (kk+2) c2 s (w.drewN m0) HN.out (HY.out.drewN _) (by have:=HN.out;omega) s3.out hs)
  clear HC
  go_wp2_with fail
  clear q1 J0 t1 y3 W
  refine A3.out.mono ?_
  rintro e wD ⟨H4,rfl,U1,C2,K0,B3,C3⟩
  have NV:=zP.of_own (c:=kk+2+1) C2 K0 (by omega)
  obtain⟨AV,vs,cV,eV,I4,D3,D2,E3,A1⟩:=NV
  injection eV with eV1 eV2 eV3
  rw[B3] at A1
  obtain⟨n1,n2,n3⟩:=ZhH (n:=kk+1) HN.out s3.out t3.out HP.out hs z1.out D2 E3 A1
  replace n1:vs.length=kk+2:=n1
  have HT:=zh (kD (some ⟨(w.drewN m0).heap.size,0,none⟩) H4 (kk+2+1) (kk+2+1) wD U1 C2.shows0 (by omega) (by omega))
  rw[eV2,n1] at HT
  obtain⟨Vb,E2⟩:=yE ((w.drewN m0).heap.size)
  rw[E2] at HT eV1 ⊢
  have C5:=zh E2
  subst eV1
  have L0:=zh D3
  have Y:=zh D2
  have F2:Hid (Ext w wD):=((Fr.refl _ _).drewN _).ext C3
  have M0:=zh A1
  have H:=zh n1
  have J4:=zh n2
  have F3:=zh n3
  clear A3 U1 C2 K0 B3 C3 I4 D3 D2 E3 A1 n1 n2 n3 eV2 eV3 E2 HP z1 T1 S1 t3
  go_wp2_with fail
  refine HT.out.mono ?_
  rintro e w' ⟨rfl,rfl⟩
  clear HT
  have M:=zh (ZfK A xs xs.length c s wD rfl (HX.out.ext F2.out) (by omega) p3.out hs)
  go_wp2_with fail
  refine M.out.mono ?_
  rintro e w2 ⟨us,rfl,G3,Z,H3,N0,I3⟩
  obtain⟨R,eR⟩:=yE wD.heap.size
  rw[eR] at Z ⊢
  have HR:=zh eR
  have G2:=zh Z
  have J3:=zh I3
  have K3:=zh H3
  have L3:=zh N0
  have H2:=zh G3
  clear G3 Z H3 N0 I3 eR M
  go_wp2_with (
   at_make
   refine wE rfl _ _ _ rfl _ _ _ Tryz.underlying123 dQ _ _ _ _ (xs.length-(kk+2)+1) rfl rfl (by omega) (by omega) (by omega) (by omega) ?_
   intro Qb w4 hQ M3 _ N3 K4
   have I:=zh M3
   have I2:=zh N3
   have HQ:=zh hQ
   clear M3 N3 hQ K4)
  have u:Hid (R<Qb):=by
   have F:=G2.out.lt
   have h2:=HQ.out
   unfold Hid;omega
  have hV:Hid (val W32 vs≤W32^(kk+2)):=by
   have:=wH Y.out
   rw[H.out] at this
   exact qX this
  have B1:Hid (0<val W32 vs):=by
   rw[M0.out]
   have F:=F3.out
   have h2:=uU (n:=kk+1) zQ
   exact rQ (by omega) (uU (by omega))
  obtain⟨X,eX⟩:=yE (val W32 xs*2^s)
  have C1:=zh eX
  have J2:Hid (jL X (val W32 vs) (kk+2) (xs.length-(kk+2)+1) us (List.replicate (xs.length-(kk+2)+1) 0)):=by
   unfold Hid
   rw[←C1.out,M0.out]
   exact jL.start (L:=xs.length) K3.out H2.out L3.out (wH p3.out) (by simpa using F3.out) (by omega) o3
  have O3:Hid (Ext wD w4):=J3.out.ext I2.out
  have D1:Hid (Vb<R):=by
   have F:Vb<wD.heap.size:=by
    obtain⟨b',o',e',D5,_⟩:=L0.out.at (i:=0) (by rw[H.out];omega)
    injection e' with e'
    injection e' with e1 e2
    omega
   have h2:=HR.out
   unfold Hid;omega
  have V1:=zh (G2.out.ext I2.out)
  clear G2 J3 I2 K3 L3 eX v3 x3
  obtain⟨V,eV⟩:=yE (val W32 vs)
  have HV:=zh eV
  rw[eV] at hV B1 J2
  clear eV
  go_loopw [14] (fun i wr=>∃ (k:Nat) (rs qs:List Nat),k≤xs.length-(kk+2)+1∧i=.int .i64 ((k:Int)-1)∧Hid (jL X V (kk+2) k rs qs)∧Hid (rs.length=xs.length+1)∧Hid (Own .u32 292 wr R rs)∧Hid (Own .u32 292 wr Qb qs)∧Hid (Ext wD wr)) (fun i _=>(intOf i+1).toNat)
  case atStart=>exact⟨xs.length-(kk+2)+1,us,_,uR _,by go_num,J2,H2,V1.out,I.out,O3.out⟩
  case round =>
   clear J2 I O3 V1 H2
   obtain⟨k,rs,qs,hk,rfl,hR,y0,A0,Z,l0⟩:=hrel
   by_cases L4:0<k
   ·obtain⟨j,rfl⟩:∃ j,k=j+1:=⟨k-1,by omega⟩
    have ej:(((j+1:Nat):Int)-1)=(j:Int):=by omega
    rw[ej]
    clear ej
    obtain⟨wo,rfl⟩:∃ wo:World,wo=wr:=⟨_,rfl⟩
    have E5:j+(kk+2)<xs.length+1:=by omega
    have C:=y0.out
    obtain⟨q1,q2,q3⟩:=hR.out.window hV.out (by omega)
    have P3:((rs.drop j).take (kk+3)).length=kk+3:=by simp;omega
    obtain⟨u1,E1⟩:=yE (rs[j+(kk+2)]?.getD 0)
    obtain⟨u2,F1⟩:=yE (rs[j+(kk+1)]?.getD 0)
    obtain⟨u3,G1⟩:=yE (rs[j+kk]?.getD 0)
    obtain⟨v1,O0⟩:=yE (vs[kk+1]?.getD 0)
    obtain⟨v2,H1⟩:=yE (vs[kk]?.getD 0)
    have K2:=J4.out
    rw[O0] at K2
    have HL:=Zmy (n:=kk) (u1:=u1) (u2:=u2) (u3:=u3) (v1:=v1) (v2:=v2) H.out P3 Y.out ((hR.out.1.drop j).take _) (by rw[List.getElem?_take_of_lt (by omega),List.getElem?_drop];exact E1) (by rw[List.getElem?_take_of_lt (by omega),List.getElem?_drop];exact F1) (by rw[List.getElem?_take_of_lt (by omega),List.getElem?_drop];exact G1) O0 H1 (by rw[←q1,HV.out];exact q2) K2
    rw[←q1,HV.out] at HL
    have N:=zh HL
    have L2:Hid (u1<W32):=E1 ▸ hR.out.1.getD zQ _
    have M2:Hid (u2<W32):=F1 ▸ hR.out.1.getD zQ _
    have N2:Hid (u3<W32):=G1 ▸ hR.out.1.getD zQ _
    have O2:Hid (v1<W32):=O0 ▸ Y.out.getD zQ _
    have N0:Hid (v2<W32):=H1 ▸ Y.out.getD zQ _
    have P0:Hid (0<v1):=by have:=zQ;unfold Hid;omega
    have c1:=A0.out.cell (i:=j+(kk+2)) (by omega)
    have Q3:=A0.out.cell (i:=j+(kk+1)) (by omega)
    have c3:=A0.out.cell (i:=j+kk) (by omega)
    have d1:=((L0.out.ext l0.out).cell0 (i:=kk+1) (by rw[H.out];omega))
    have d2:=((L0.out.ext l0.out).cell0 (i:=kk) (by rw[H.out];omega))
    rw[E1] at c1
    rw[F1] at Q3
    rw[G1] at c3
    rw[O0,vO] at d1
    rw[H1,vO] at d2
    have w1:=xV u1 (by have:=zM;have:=zU;have:=L2.out;omega)
    have w2:=xV u2 (by have:=zM;have:=zU;have:=M2.out;omega)
    have w3:=xV u3 (by have:=zM;have:=zU;have:=N2.out;omega)
    have w4:=xV v1 (by have:=zM;have:=zU;have:=O2.out;omega)
    have w5:=xV v2 (by have:=zM;have:=zU;have:=N0.out;omega)
    have s1:=Zi5 u1 L2.out
    have B0:u1*W32+u2<W64:=by
     have:(u1+1)*W32≤W32*W32:=uC _ L2.out
     rw[uT,fX] at this;have:=M2.out;omega
    have s2:=dK (a:=u1*W32) (b:=u2) (by omega) (by omega)
    rw[or32 u1 u2 M2.out] at s2
    obtain⟨a1,Q0⟩:=yE (u1*W32)
    rw[Q0] at s1 s2 N B0
    obtain⟨f,W1⟩:=yE (a1+u2)
    rw[W1] at s2 N B0
    have R3:((v1:Int) == 0)=false:=by have:=P0.out;simp;omega
    have v5:=zh B0
    have i1:IntKind.i64.wrap ((j:Int)+((kk:Int)+2))=(j:Int)+((kk:Int)+2):=IntWalk.i64_in _ (by omega)
    have i2:((j:Int)+((kk:Int)+2)).toNat=j+(kk+2):=by omega
    have i3:IntKind.i64.wrap ((j:Int)+((kk:Int)+2)-1)=(j:Int)+((kk:Int)+1):=by rw[show (j:Int)+((kk:Int)+2)-1=(j:Int)+((kk:Int)+1) by omega];exact IntWalk.i64_in _ (by omega)
    have i4:((j:Int)+((kk:Int)+1)).toNat=j+(kk+1):=by omega
    have r1:(f:Int).tdiv (v1:Int)=((f/v1:Nat):Int):=by rw[tF (by omega)];rfl
    have S3:(f:Int)/(v1:Int)=((f/v1:Nat):Int):=rfl
    have r2:(f:Int).tmod (v1:Int)=((f%v1:Nat):Int):=by rw[tJ (by omega)];rfl
    have T3:(f:Int)%(v1:Int)=((f%v1:Nat):Int):=rfl
    have r3:IntKind.u64.wrap ((f/v1:Nat):Int)=((f/v1:Nat):Int):=xV _ (uN (vU _ _) B0)
    have C0:Hid (kR (val W32 (rs.drop j)) V f v1 (f/v1) (f%v1)):=kR.start N.out
    have I1:Hid (f/v1<W64):=uN (vU _ _) B0
    have J1:Hid (f%v1<W32):=rR (uP _ P0.out) O2.out
    obtain⟨h0,U3⟩:=yE (f/v1)
    obtain⟨r0,V3⟩:=yE (f%v1)
    rw[U3] at r1 S3 r3 C0 I1
    rw[V3] at r2 T3 C0 J1
    have x5:0<v1:=P0.out
    clear q1 q2 q3 P3 C E1 F1 G1 O0 H1 K2 HL Q0 W1 B0 U3 V3
    go_wp2
    go_quiet (fail)
    go_upto_block 4 with fail
    clear r1 S3 r2 T3 r3 i1 i2 i3 i4 s1 s2 c1 Q3 w1 w2
    obtain⟨U,eU⟩:=yE (val W32 (rs.drop j))
    have HU:=zh eU
    rw[eU] at C0 N
    clear eU
    go_cut [16,17] from 115 to 150 (fun hv _ wx=>∃ (h n2:Nat),hv=.int .u64 (h:Int)∧Hid (h<W32)∧Hid (gA U V h)∧Hid (wx=wo.drewN n2))
    case first =>
     go_wp2_with fail
     go_loopw [16,17] (fun hv rv wx=>∃ (h r n2:Nat),hv=.int .u64 (h:Int)∧rv=.int .u64 (r:Int)∧Hid (kR U V f v1 h r)∧Hid (r<W32)∧Hid (h<W64)∧Hid (wx=wo.drewN n2)) (fun hv _ _=>(intOf hv).toNat)
     case atStart=>exact⟨h0,r0,_,rfl,rfl,C0,J1,I1,rfl⟩
     case round =>
      obtain⟨h,r,n2,rfl,rfl,hC,hr,D0,hw⟩:=hrel
      obtain rfl:=hw.out
      clear hw C0 I1 J1
      have a3:=lR (a:=r) (b:=v1) (by have:=hr.out;have:=O2.out;have:=zU;have:=zM;omega)
      obtain⟨r',E0⟩:=yE (r+v1)
      rw[E0] at a3
      by_cases R0:W32≤h
      ·obtain⟨hp,a0⟩:=hC.out.big N.out R0
       rw[E0] at a0
       have g1:decide ((4294967296:Int)≤(h:Int))=true:=by rw[vF];have:=zU;omega
       have M4:decide (4294967296≤h)=true:=by rw[vF];have:=zU;omega
       have a2:=jD hp D0.out
       obtain⟨F,O⟩:=yE (h-1)
       rw[O] at a2 a0
       have n0:=zh a0
       have W3:F<h:=by omega
       have P2:Hid (F<W64):=by have:=D0.out;unfold Hid;omega
       clear a0 R0 E0 O hp hC hr D0
       by_cases o0:W32≤r'
       ·have g2:decide ((4294967296:Int)≤(r':Int))=true:=by rw[vF];have:=zU;omega
        have Q2:decide (4294967296≤r')=true:=by rw[vF];have:=zU;omega
        have HB:=zh (n0.out.broke N.out o0)
        clear o0 n0
        go_wp2
        go_quiet (fail)
        go_wp2
        go_meet
        exact⟨F,_,rfl,HB.out.1,HB.out.2,rfl⟩
       have g2:decide ((4294967296:Int)≤(r':Int))=false:=by rw[vA];have:=zU;omega
       have Q2:decide (4294967296≤r')=false:=by rw[vA];have:=zU;omega
       have R2:Hid (r'<W32):=by unfold Hid;omega
       clear o0
       go_wp2
       go_quiet (fail)
       go_wp2
       go_roundw
       case rel=>exact⟨F,r',_,rfl,rfl,n0,R2,P2,rfl⟩
       case measure=>simp[intOf];omega
      have g1:decide ((4294967296:Int)≤(h:Int))=false:=by rw[vA];have:=zU;omega
      have M4:decide (4294967296≤h)=false:=by rw[vA];have:=zU;omega
      have P:Hid (h<W32):=by unfold Hid;omega
      have X3:h*v2<W64:=by
       rw[←fX]
       exact Nat.mul_lt_mul'' P.out N0.out
      have m1:=iL (a:=h) (b:=v2) X3
      have m2:=Zi5 r hr.out
      have m3:r*W32+u3<W64:=by
       have:(r+1)*W32≤W32*W32:=uC _ hr.out
       rw[uT,fX] at this;have:=N2.out;omega
      have m4:=dK (a:=r*W32) (b:=u3) (by omega) (by omega)
      rw[or32 r u3 N2.out] at m4
      have i1:IntKind.i64.wrap ((kk:Int)+2-2)=(kk:Int):=by rw[show (kk:Int)+2-2=(kk:Int) by omega];exact IntWalk.i64_in _ (by omega)
      have i3:IntKind.i64.wrap ((j:Int)+((kk:Int)+2))=(j:Int)+((kk:Int)+2):=IntWalk.i64_in _ (by omega)
      have i4:IntKind.i64.wrap ((j:Int)+((kk:Int)+2)-2)=(j:Int)+(kk:Int):=by rw[show (j:Int)+((kk:Int)+2)-2=(j:Int)+(kk:Int) by omega];exact IntWalk.i64_in _ (by omega)
      have i5:((j:Int)+(kk:Int)).toNat=j+kk:=by omega
      have F5:(j:Int)+(kk:Int)<(xs.length:Int)+1:=by omega
      have S2:=hC
      have Y3:∀ a b:Nat,h*v2=a→r*W32+u3=b→Hid ((b<a→0<h∧kR U V f v1 (h-1) (r+v1))∧(¬ b<a→gA U V h)):=by
       intro a b ea eb
       refine⟨fun L4=>S2.out.more N.out (by omega),fun z2=>S2.out.done N.out P.out (by omega)⟩
      obtain⟨p,ep⟩:=yE (h*v2)
      rw[ep] at m1
      obtain⟨a1,Q0⟩:=yE (r*W32)
      rw[Q0] at m2 m4
      obtain⟨q,eq⟩:=yE (a1+u3)
      rw[eq] at m4
      have HM:=Y3 p q ep (by omega)
      rw[E0] at HM
      clear Y3 S2 hC ep Q0 eq X3 m3 R0
      by_cases D:q<p
      ·obtain⟨hp,a0⟩:=HM.out.1 D
       have t2:=gV D
       have a2:=jD hp D0.out
       obtain⟨F,O⟩:=yE (h-1)
       rw[O] at a2 a0
       have n0:=zh a0
       have W3:F<h:=by omega
       have P2:Hid (F<W64):=by have:=D0.out;unfold Hid;omega
       clear a0 E0 O hp hr D0 HM D
       by_cases o0:W32≤r'
       ·have g2:decide ((4294967296:Int)≤(r':Int))=true:=by rw[vF];have:=zU;omega
        have Q2:decide (4294967296≤r')=true:=by rw[vF];have:=zU;omega
        have HB:=zh (n0.out.broke N.out o0)
        clear o0 n0
        go_wp2
        go_quiet (fail)
        go_wp2
        go_meet
        exact⟨F,_,rfl,HB.out.1,HB.out.2,rfl⟩
       have g2:decide ((4294967296:Int)≤(r':Int))=false:=by rw[vA];have:=zU;omega
       have Q2:decide (4294967296≤r')=false:=by rw[vA];have:=zU;omega
       have R2:Hid (r'<W32):=by unfold Hid;omega
       clear o0
       go_wp2
       go_quiet (fail)
       go_wp2
       go_roundw
       case rel=>exact⟨F,r',_,rfl,rfl,n0,R2,P2,rfl⟩
       case measure=>simp[intOf];omega
      have HD:=zh (HM.out.2 D)
      have t2:=iP D
      clear HM D E0
      go_wp2
      go_quiet (fail)
      go_wp2
      go_meet
      exact⟨h,_,rfl,P,HD,World.drewN_drewN _ _ _⟩
    case rest =>
     obtain⟨h,n2,rfl,P,Z3,hw⟩:=hcut
     obtain rfl:=hw.out
     clear hw C0 I1 J1 c3 d1 d2 w3 w4 w5 R3
     have C:=y0.out
     have p0:Hid ((rs.take j).length=j):=by unfold Hid;simp;omega
     have b0:Hid (((rs.drop j).take (kk+2)).length=kk+2):=by unfold Hid;simp;omega
     have T2:Hid (Own .u32 292 (wo.drewN n2) R (rs.take j ++ (rs.drop j).take (kk+2) ++ rs.drop (j+(kk+2)))):=by rw[ZjH];exact A0.out.drewN _
     have U2:Hid (ZaJ ((rs.drop j).take (kk+2)) vs h 0 ((rs.drop j).take (kk+2)) 0 0):=ZaJ.start ((hR.out.1.drop j).take _)
     obtain⟨w0,V2⟩:=yE ((rs.drop j).take (kk+2))
     have N4:=zh V2
     rw[V2] at b0 T2 U2
     clear C V2
     go_wp2_with fail
     go_loopw [18,19,20] (fun cv bv iv wx=>∃ (i cc bw:Nat) (m:List Nat),i≤kk+2∧iv=.int .i64 (i:Int)∧cv=.int .u64 (cc:Int)∧bv=.int .u64 (bw:Int)∧Hid (ZaJ w0 vs h i m cc bw)∧Hid (Own .u32 292 wx R (rs.take j ++ m ++ rs.drop (j+(kk+2))))∧Hid (Fr (· = R) wo wx)) (fun _ _ iv _=>kk+2-(intOf iv).toNat)
     case atStart=>exact⟨0,0,0,w0,by omega,rfl,rfl,rfl,U2,T2,(Fr.refl _ _).drewN _⟩
     case round =>
      obtain⟨i,cc,bw,m,hi,rfl,rfl,rfl,hM,c0,d0⟩:=hrel
      clear U2 T2
      by_cases X1:i<kk+2
      ·have g:m.length=kk+2:=by rw[hM.out.1];exact b0.out
       obtain⟨x,ex⟩:=yE (vs[i]?.getD 0)
       obtain⟨z,ez⟩:=yE (m[i]?.getD 0)
       have o:x<W32:=ex ▸ Y.out.getD zQ _
       have f0:z<W32:=ez ▸ hM.out.2.1.getD zQ _
       have J:=hM.out.2.2.1
       have g0:=hM.out.2.2.2.1
       have i0:zV .u32 wr (some ⟨Vb,0,none⟩) vs:=(L0.out.ext l0.out).fr d0.out (fun a ha _=>by injection ha with ha;subst ha;have:=D1.out;show Vb≠R;omega)
       have dx:=i0.cell0 (i:=i) (by rw[H.out];omega)
       rw[ex,vO] at dx
       have W2:=c0.out.mid32 (k:=i) (by omega)
       have O4:=c0.out.frozen (i+j)
       rw[p0.out,ez,vR j i] at W2
       have Q:=zh (hM.out.step (by rw[b0.out];omega) (by rw[H.out];omega) P.out ez ex Y.out)
       have F0:=Zg1 P.out o J
       rw[fX] at F0
       have q0:=xV x (by have:=zM;have:=zU;omega)
       have P4:=xV z (by have:=zM;have:=zU;omega)
       have q1:=iL (a:=h) (b:=x) (by omega)
       have q2:=lR (a:=h*x) (b:=cc) F0
       obtain⟨hx,a4⟩:=yE (h*x)
       rw[a4] at q1 q2 Q F0
       obtain⟨p,ep⟩:=yE (hx+cc)
       rw[ep] at q2 Q F0
       have q3:=hi32 p
       have q4:=Znu p F0
       have K1:p%W32<W32:=uP _ zQ
       obtain⟨pl,b4⟩:=yE (p%W32)
       obtain⟨ph,S0⟩:=yE (p/W32)
       rw[S0] at q3 Q
       rw[b4] at q4 Q K1
       have q5:=Zil f0 K1
       have q6:=Zim f0 K1 g0
       have q7:=kO (d32 z pl bw)
       have q8:=hi32 (d32 z pl bw)
       have q9:=ZeZ (d32 z pl bw/W32) (uN (vU _ _) (ZgP _ _ _))
       have I:=zh (c0.out.set_mid32 (k:=i) (by omega) (d32 z pl bw%W32))
       rw[p0.out,vR j i] at I
       obtain⟨e1,s0⟩:=yE (d32 z pl 0)
       obtain⟨e2,j0⟩:=yE (d32 z pl bw)
       rw[s0] at q5 q6
       rw[j0] at q6 q7 q8 q9 I Q
       obtain⟨lo,K⟩:=yE (e2%W32)
       obtain⟨Q4,Y1⟩:=yE (e2/W32)
       rw[K] at q7 Q I
       rw[Y1] at q8 q9 Q
       obtain⟨R4,Z1⟩:=yE (Q4%2)
       rw[Z1] at q9 Q
       have S4:(i:Int)+(j:Int)<(xs.length:Int)+1:=by omega
       have y5:i+j<xs.length+1:=by omega
       clear g ex ez o f0 J g0 i0 F0 a4 ep K1 b4 S0 s0 j0 K Y1 Z1
       go_wp2
       go_roundw
       case rel=>exact⟨i+1,ph,R4,_,by omega,by go_num,rfl,rfl,Q,I.out,d0.out.setCell (p:=⟨R,i+j,none⟩) (Or.inl rfl) _⟩
       case measure=>simp[intOf];omega
      obtain rfl:i=kk+2:=by omega
      have g:m.length=kk+2:=by rw[hM.out.1];exact b0.out
      have C:=y0.out
      have v0:=p0.out
      have T0:=b0.out
      have J:=hM.out.2.2.1
      have g0:=hM.out.2.2.2.1
      have G0:=hM.out.2.1
      have U0:=hM.out.2.2.2.2.2
      rw[uB (by omega),uB (by rw[H.out];omega),uB (by omega),HV.out] at U0
      have S:j+(kk+2)<(rs.take j ++ m ++ rs.drop (j+(kk+2))).length:=by simp;omega
      have W:=c0.out.cell S
      have c4:=c0.out.frozen (j+(kk+2))
      rw[Zh3 _ _ _ _ _ v0 g] at W
      obtain⟨tw,V0⟩:=yE (rs[j+(kk+2)]?.getD 0)
      rw[V0] at W
      have W0:tw<W32:=V0 ▸ hR.out.1.getD zQ _
      have hu:U=val W32 w0+W32^(kk+2)*tw:=by
       obtain⟨q1,_,_⟩:=hR.out.window hV.out (by omega)
       rw[←HU.out,q1,zT (kk+2) (by simp;omega),List.getElem?_drop,V0,N4.out]
      have X2:val W32 m<W32^(kk+2):=by have:=wH G0;rw[g] at this;exact this
      have H0:qs.length=xs.length-(kk+2)+1:=by have:=hR.out.2.2.1;omega
      have q0:=xV tw (by have:=zM;have:=zU;omega)
      have q5:=Zil W0 J
      have q6:=Zim W0 J g0
      have q7:=kO (d32 tw cc bw)
      have q8:=Zmz W0 J g0
      have q9:((d32 tw cc bw:Nat):Int)/9223372036854775808=((d32 tw cc bw/9223372036854775808:Nat):Int):=by omega
      rw[q8] at q9
      have Y2:h%W32=h:=vI P.out
      have d4:=kO h
      rw[Y2] at d4
      have t:=c0.out.set (j+(kk+2)) (d32 tw cc bw%W32) S
      rw[ZeT _ _ _ _ _ _ v0 g (by omega)] at t
      have X0:j<qs.length:=by omega
      obtain⟨e1,s0⟩:=yE (d32 tw cc 0)
      obtain⟨e2,j0⟩:=yE (d32 tw cc bw)
      by_cases Z2:cc+bw≤tw
      ·rw[vP (by omega)] at q9
       obtain⟨k1,k2,k3⟩:=ZdY (v:=V) hV.out hu Z3.out U0 Z2
       have b3:=zh (hR.out.step (q:=h) B1.out hV.out (by omega) g G0 (by rw[HU.out];exact k1) (by rw[HU.out];exact k2))
       have k4:=Zlq k3
       rw[k4] at t q7
       rw[s0] at q5 q6
       rw[j0] at q6 q7 q9
       have G:Fr (· = R) wr (wr.setCell ⟨R,j+(kk+2),none⟩ (.int .u32 ((0:Nat):Int))):=(Fr.refl (· = R) wr).setCell (p:=⟨R,j+(kk+2),none⟩) (Or.inl rfl) _
       have L1:=(Z.out.fr d0.out (by have:=u.out;omega)).fr G (by have:=u.out;omega)
       have d3:=L1.cell X0
       have T4:=L1.frozen j
       obtain⟨z0,Y0⟩:=yE (qs[j]?.getD 0)
       rw[Y0] at d3
       have U4:=zh (L1.set j h X0)
       have e4:=zh (t.far (p:=⟨Qb,j,none⟩) (by have:=u.out;show R≠Qb;omega) (.int .u32 (h:Int)))
       have f4:Hid (Ext wD ((wr.setCell ⟨R,j+(kk+2),none⟩ (.int .u32 ((0:Nat):Int))).setCell ⟨Qb,j,none⟩ (.int .u32 (h:Int)))):=((l0.out.next d0.out (fun i hi e=>by have:=HR.out;omega)).next G (fun i hi e=>by have:=HR.out;omega)).setCell (Or.inr (by have:=HR.out;have:=u.out;show wD.heap.size≤Qb;omega)) _
       have M1:Hid ((rs.take j ++ m ++ (0 :: rs.drop (j+(kk+2)+1))).length=xs.length+1):=by unfold Hid;simp;omega
       have V4:(j:Int)+((kk:Int)+2)<(xs.length:Int)+1:=by omega
       clear g C v0 T0 J g0 G0 U0 S V0 W0 hu X2 q8 Y2 t L1 G Y0 s0 j0 Z2 k1 k2 k3 k4 c0
       simp only[Int.ofNat_zero] at *
       go_wp2
       go_roundw
       case rel=>exact⟨j,_,_,by omega,rfl,b3,M1,e4.out,U4.out,f4.out⟩
       case measure=>simp[intOf]
      rw[tA (by omega)] at q9
      have b2:Hid (tw<cc+bw):=by unfold Hid;omega
      have K0:0<h:=by
       rcases uJ h with e|e
       ·subst e
        have:W32^(kk+2)*1≤W32^(kk+2)*(cc+bw):=uK _ (by omega)
        omega
       exact e
      have g2:=jD K0 (by have:=P.out;have:=zU;have:=zM;omega)
      obtain⟨F,O⟩:=yE (h-1)
      rw[O] at g2
      have W4:=kO F
      rw[vI (by have:=P.out;omega)] at W4
      rw[s0] at q5 q6
      rw[j0] at q6 q7 q9 t
      have f2:Hid (∀ c',c'+tw=cc+bw→c'≤1→(e2%W32+c')%W32=0):=fun c' Z0 y2=>by rw[←j0];exact ZmA Z0 J g0 y2 b2.out
      have j2:Hid (e2%W32<W32):=uP _ zQ
      obtain⟨t2,g4⟩:=yE (e2%W32)
      rw[g4] at q7 t f2 j2
      have G:Fr (· = R) wr (wr.setCell ⟨R,j+(kk+2),none⟩ (.int .u32 (t2:Int))):=(Fr.refl (· = R) wr).setCell (p:=⟨R,j+(kk+2),none⟩) (Or.inl rfl) _
      have N1:=zh t
      have X4:=zh ((Z.out.fr d0.out (by have:=u.out;omega)).fr G (by have:=u.out;omega))
      have Y4:Hid (Ext wD (wr.setCell ⟨R,j+(kk+2),none⟩ (.int .u32 (t2:Int)))):=(l0.out.next d0.out (fun i hi e=>by have:=HR.out;omega)).next G (fun i hi e=>by have:=HR.out;omega)
      have h4:Hid (zV .u32 (wr.setCell ⟨R,j+(kk+2),none⟩ (.int .u32 (t2:Int))) (some ⟨Vb,0,none⟩) vs):=((L0.out.ext l0.out).fr d0.out (fun a ha _=>by injection ha with ha;subst ha;have:=D1.out;show Vb≠R;omega)).fr G (fun a ha _=>by injection ha with ha;subst ha;have:=D1.out;show Vb≠R;omega)
      have G5:Hid (Dig W32 m):=G0
      have O1:=zh g
      have Hu:=zh hu
      have Z4:=zh U0
      have a5:=zh X2
      have b5:=zh O
      have e3:=zh H0
      have V4:(j:Int)+((kk:Int)+2)<(xs.length:Int)+1:=by omega
      have j4:Hid (ZaK m vs 0 m 0):=ZaK.start G0
      clear g C v0 T0 J g0 G0 U0 S V0 W0 hu X2 q8 Y2 t G s0 j0 Z2 c0 K0 O g4 H0 hM d0 X1 hi
      simp only[Int.ofNat_one] at *
      go_wp2
      generalize c5:wr.setCell ⟨R,j+(kk+2),none⟩ (.int .u32 (t2:Int))=w7 at *
      clear c5 W c4 q0 q5 q6 q7 q9 d4 g2
      obtain⟨l4,rfl⟩:∃ l4:World,l4=wr:=⟨_,rfl⟩
      go_loopw [18,24] (fun cv iv wr=>∃ (i c':Nat) (m2:List Nat),i≤kk+2∧iv=.int .i64 (i:Int)∧cv=.int .u64 (c':Int)∧Hid (ZaK m vs i m2 c')∧Hid (Own .u32 292 wr R (rs.take j ++ m2 ++ (t2 :: rs.drop (j+(kk+2)+1))))∧Hid (Fr (· = R) w7 wr)) (fun _ iv _=>kk+2-(intOf iv).toNat)
      case atStart=>exact⟨0,0,m,by omega,rfl,rfl,j4,N1,Fr.refl _ _⟩
      case round =>
       obtain⟨i,c',m2,hi,rfl,rfl,hA,I0,f3⟩:=hrel
       clear j4 N1
       by_cases z5:i<kk+2
       ·have g:m2.length=kk+2:=by rw[hA.out.1];exact O1.out
        obtain⟨x,ex⟩:=yE (vs[i]?.getD 0)
        obtain⟨z,ez⟩:=yE (m2[i]?.getD 0)
        have o:x<W32:=ex ▸ Y.out.getD zQ _
        have f0:z<W32:=ez ▸ hA.out.2.1.getD zQ _
        have J:=hA.out.2.2.1
        have i0:zV .u32 wr (some ⟨Vb,0,none⟩) vs:=h4.out.fr f3.out (fun a ha _=>by injection ha with ha;subst ha;have:=D1.out;show Vb≠R;omega)
        have dx:=i0.cell0 (i:=i) (by rw[H.out];omega)
        rw[ex,vO] at dx
        have W2:=I0.out.mid32 (k:=i) (by omega)
        have O4:=I0.out.frozen (i+j)
        rw[p0.out,ez,vR j i] at W2
        have b1:=zh (hA.out.step (by rw[O1.out];omega) (by rw[H.out];omega) ez ex Y.out)
        have q0:=xV x (by have:=zM;have:=zU;omega)
        have P4:=xV z (by have:=zM;have:=zU;omega)
        have q1:=lR (a:=z) (b:=x) (by have:=zM;have:=zU;omega)
        have q2:=lR (a:=c') (b:=z+x) (by have:=zM;have:=zU;omega)
        obtain⟨zx,n4⟩:=yE (z+x)
        rw[n4] at q1 q2 b1
        obtain⟨p,ep⟩:=yE (c'+zx)
        rw[ep] at q2 b1
        have q3:=hi32 p
        have q4:=kO p
        have I:=zh (I0.out.set_mid32 (k:=i) (by omega) (p%W32))
        rw[p0.out,vR j i] at I
        obtain⟨lo,K⟩:=yE (p%W32)
        obtain⟨ph,S0⟩:=yE (p/W32)
        rw[K] at q4 b1 I
        rw[S0] at q3 b1
        have S4:(i:Int)+(j:Int)<(xs.length:Int)+1:=by omega
        have i1:IntKind.i64.wrap ((i:Int)+(j:Int))=(i:Int)+(j:Int):=IntWalk.i64_in _ (by omega)
        have i2:((i:Int)+(j:Int)).toNat=i+j:=by omega
        clear g ex ez o f0 J i0 n4 ep K S0
        go_wp2
        go_quiet (fail)
        clear i1 i2
        go_wp2
        go_roundw
        case rel=>exact⟨i+1,ph,_,by omega,by go_num,rfl,b1,I.out,(f3.out.drewN _).setCell (p:=⟨R,i+j,none⟩) (Or.inl rfl) _⟩
        case measure=>simp[intOf];omega
       obtain rfl:i=kk+2:=by omega
       have g:m2.length=kk+2:=by rw[hA.out.1];exact O1.out
       have f1:=hA.out.2.2.2.2
       rw[uB (by omega),uB (by rw[O1.out];omega),uB (by rw[H.out];omega),HV.out] at f1
       obtain⟨_,k2,k3,k4⟩:=Zfr B1.out hV.out Hu.out Z3.out Z4.out b2.out a5.out f1 (by have:=wH hA.out.2.1;rw[g] at this;exact this)
       have t0:=f2.out c' k4 hA.out.2.2.1
       have d5:=j2.out
       have Z0:=hA.out.2.2.1
       have g5:=kO c'
       rw[vI (by have:=ZeX;omega)] at g5
       have g3:IntKind.u32.wrap ((t2:Int)+(c':Int))=0:=by
        rw[IntKind.wrap_u32];rw[zU] at t0;omega
       have H5:((t2:Int)+(c':Int))%4294967296=0:=by rw[zU] at t0;omega
       rw[b5.out] at k2
       have C:=y0.out
       have o4:=e3.out
       have u0:j+(kk+2)<(rs.take j ++ m2 ++ (t2 :: rs.drop (j+(kk+2)+1))).length:=by simp;omega
       have W:=I0.out.cell u0
       have c4:=I0.out.frozen (j+(kk+2))
       rw[Zgz _ _ _ _ _ _ p0.out g] at W
       have j1:=I0.out.set (j+(kk+2)) 0 u0
       rw[Zgy _ _ _ _ _ _ _ p0.out g] at j1
       have l1:Fr (· = R) w7 (wr.setCell ⟨R,j+(kk+2),none⟩ (.int .u32 ((0:Nat):Int))):=f3.out.setCell (p:=⟨R,j+(kk+2),none⟩) (Or.inl rfl) _
       have x0:=X4.out.fr l1 (by have:=u.out;omega)
       have X0:j<qs.length:=by omega
       have d3:=x0.cell X0
       have T4:=x0.frozen j
       obtain⟨z0,Y0⟩:=yE (qs[j]?.getD 0)
       rw[Y0] at d3
       have b3:=zh (hR.out.step (q:=F) B1.out hV.out (by omega) g hA.out.2.1 (by rw[HU.out];exact k2) (by rw[HU.out];exact k3))
       have p4:=zh (x0.set j F X0)
       have r4:=zh (j1.far (p:=⟨Qb,j,none⟩) (by have:=u.out;show R≠Qb;omega) (.int .u32 (F:Int)))
       have s4:Hid (Ext wD ((wr.setCell ⟨R,j+(kk+2),none⟩ (.int .u32 ((0:Nat):Int))).setCell ⟨Qb,j,none⟩ (.int .u32 (F:Int)))):=(Y4.out.next l1 (fun i hi e=>by have:=HR.out;omega)).setCell (Or.inr (by have:=HR.out;have:=u.out;show wD.heap.size≤Qb;omega)) _
       have M1:Hid ((rs.take j ++ m2 ++ (0 :: rs.drop (j+(kk+2)+1))).length=xs.length+1):=by unfold Hid;simp;omega
       clear f1 k2 k3 k4 C o4 u0 j1 l1 x0 Y0 g t0 d5 Z0
       simp only[Int.ofNat_zero] at *
       go_wp2
       go_roundw
       case rel=>exact⟨j,_,_,by omega,rfl,b3,M1,r4.out,p4.out,s4.out⟩
       case measure=>simp[intOf]
   obtain rfl:k=0:=by omega
   obtain⟨k1,k2⟩:=hR.out.done
   have C:=y0.out
   have H0:qs.length=xs.length-(kk+2)+1:=by have:=hR.out.2.2.1;omega
   have P1:=ZbV (val W32 xs) (val W32 T) (2^s) (uU (by omega))
   have NQ:=zP.of_own (c:=xs.length-(kk+2)+1) Z.out hR.out.2.1 (by omega)
   rw[k1,← C1.out,← HV.out,M0.out,P1.1] at NQ
   rw[←C1.out,← HV.out,M0.out] at k2
   have t4:val W32 rs<W32^(kk+2):=by
    have F:=hR.out.2.2.2.2
    rw[sL] at F
    have:=hV.out
    omega
   have u4:val W32 (rs.take (kk+2))=val W32 rs:=by
    have F:=xQ (B:=W32) (xs:=rs) (kk+2)
    rw[uY (by omega)] at F
    rcases uJ (val W32 (rs.drop (kk+2))) with h|h
    ·rw[h] at F;simp at F;omega
    have:W32^(kk+2)*1≤W32^(kk+2)*val W32 (rs.drop (kk+2)):=uK _ h
    omega
   have v4:(rs.take (kk+2)).length=kk+2:=by simp;omega
   have h3:val W32 (xZ (rs.take (kk+2)))=val W32 xs*2^s%(val W32 T*2^s):=by rw[wZ,u4,k2]
   have o1:xZ (rs.take (kk+2))=rs.take (xZ (rs.take (kk+2))).length:=by
    have F:=wM (rs.take (kk+2))
    have h2:=gI (rs.take (kk+2)) (rs.take (kk+2)).length
    rw[F]
    unfold xZ
    rw[List.take_take,uY (by omega)]
   have j3:Dig W32 (xZ (rs.take (kk+2))):=iO (hR.out.1.take _)
   have l2:(xZ (rs.take (kk+2))).length≤kk+2:=by rw[wM];have:=gI (rs.take (kk+2)) (rs.take (kk+2)).length;omega
   have p1:=zh (kD (some ⟨R,0,none⟩) (rs.take (kk+2)) (kk+2) (xs.length+1) wr v4 (A0.out.shows0.take _) (by omega) (by omega))
   rw[←wM] at p1
   have e5:=zh (fun wz (hO:Own .u32 292 wz Qb qs)=>kD (some ⟨Qb,0,none⟩) qs (xs.length-(kk+2)+1) (xs.length-(kk+2)+1) wz H0 hO.shows0 (by omega) (by omega))
   obtain⟨ts,x4⟩:=yE (xZ (rs.take (kk+2)))
   rw[x4] at p1 h3 o1 j3 l2
   obtain⟨l,el⟩:=yE ts.length
   rw[el] at p1 o1 l2
   have y4:=zh el
   have I5:=zh o1
   have z4:=zh j3
   have f5:=zh h3
   have e3:=zh H0
   have h5:=zh P1.2
   have j5:Hid (Dig W32 qs):=hR.out.2.1
   have k5:Hid (val W32 qs=val W32 xs/val W32 T):=by unfold Hid;rw[k1,← C1.out,← HV.out,M0.out,P1.1]
   have o2:Hid (Own .u32 292 wr R ((List.replicate ts.length 0).take 0 ++ ts.drop 0 ++ rs.drop l)):=by
    unfold Hid
    rw[qA,qW,sL,o1,tT]
    exact A0.out
   have M1:Hid (rs.length=xs.length+1):=y0
   have p2:Hid (iU ts s 0 (List.replicate ts.length 0)):=iU.start ts s
   have l5:Hid (wD.heap.size≤R):=by have:=HR.out;unfold Hid;omega
   clear k1 k2 C H0 P1 NQ t4 u4 v4 h3 o1 j3 x4 el
   go_wp2_with fail
   refine p1.out.mono ?_
   rintro e w' ⟨rfl,rfl⟩
   clear p1
   go_wp2_with fail
   obtain⟨wo,rfl⟩:∃ wo:World,wo=wr:=⟨_,rfl⟩
   go_loopw [26] (fun iv wr=>∃ (k:Nat) (zs:List Nat),k≤l∧iv=.int .i64 (k:Int)∧Hid (iU ts s k zs)∧Hid (Own .u32 292 wr R (zs.take k ++ ts.drop k ++ rs.drop l))∧Hid (Fr (· = R) wo wr)) (fun iv _=>l-(intOf iv).toNat)
   case atStart=>exact⟨0,_,by omega,rfl,p2,o2,Fr.refl _ _⟩
   case round =>
    obtain⟨k,zs,J5,rfl,hS,x1,Q1⟩:=hrel
    clear p2 o2
    have K5:=y4.out
    have R1:zs.length=ts.length:=hS.out.1
    by_cases X1:k<l
    ·obtain⟨x,ex⟩:=yE (ts[k]?.getD 0)
     have o:x<W32:=ex ▸ z4.out.getD zQ _
     have k0:k<(zs.take k ++ ts.drop k ++ rs.drop l).length:=by simp;omega
     have Z0:=x1.out.cell k0
     have L5:=x1.out.frozen k
     rw[Zde (uR k) (by omega) R1,ex] at Z0
     have q3:=Zb2 x s
     have G4:k<xs.length+1:=by omega
     by_cases m5:k+1<l
     ·obtain⟨y,ey⟩:=yE (ts[k+1]?.getD 0)
      have x2:y<W32:=ey ▸ z4.out.getD zQ _
      have M:=zh (hS.out.step hs (by omega) ex ey o)
      have q1:=ZfJ x2 (by omega:32-s≤32)
      have J0:=kO (y*2^(32-s))
      have q2:=Zke (a:=x/2^s) (b:=y*2^(32-s)%W32) (uN (vU _ _) o) (uP _ zQ)
      rw[Zlp hs o] at q2
      obtain⟨lo,K⟩:=yE (x/2^s)
      obtain⟨hi,A4⟩:=yE (y*2^(32-s)%W32)
      obtain⟨yy,B4⟩:=yE (y*2^(32-s))
      obtain⟨d,ed⟩:=yE (x/2^s+y%2^s*2^(32-s))
      rw[ed] at q2 M
      rw[K] at q2 q3
      rw[A4] at J0 q2
      rw[B4] at q1 J0
      have E:=x1.out.set k lo k0
      have M5:=E.frozen k
      have n5:=E.cell (i:=k) (by simpa using k0)
      rw[List.getElem?_set_self k0,qC] at n5
      have o5:=E.cell (i:=k+1) (by simp;omega)
      rw[List.getElem?_set_ne (by omega),Zde (by omega) (by omega) R1,ey] at o5
      have t:=E.set k d (by simpa using k0)
      rw[List.set_set,Zdd (by omega) R1] at t
      have N1:=zh t
      have q0:=xV y (by have:=zM;have:=zU;omega)
      have i1:IntKind.u64.wrap ((32:Int)-(s:Int))=((32-s:Nat):Int):=by rw[IntKind.wrap_u64];omega
      obtain⟨r,er⟩:=yE (32-s)
      rw[er] at i1 q1
      have i4:min r 64=r:=by omega
      have i2:IntKind.i64.wrap ((k:Int)+1)=(k:Int)+1:=IntWalk.i64_in _ (by omega)
      have i3:((k:Int)+1).toNat=k+1:=by omega
      have G:Hid (∀ n,Fr (· = R) wo (((wr.setCell ⟨R,k,none⟩ (.int .u32 (lo:Int))).drewN n).setCell ⟨R,k,none⟩ (.int .u32 (d:Int)))):=fun n=>((Q1.out.setCell (p:=⟨R,k,none⟩) (Or.inl rfl) _).drewN _).setCell (p:=⟨R,k,none⟩) (Or.inl rfl) _
      clear ex o k0 ey x2 K A4 B4 ed E t er
      have C4:(k:Int)+1<(l:Int):=by omega
      go_wp2
      go_region
      all_goals
       go_wp2
       go_roundw
       case rel=>exact⟨k+1,_,by omega,by go_num,M,N1.out.drewN _,G.out _⟩
       case measure=>simp[intOf];omega
     have M:=zh (hS.out.step hs (by omega) ex (show ts[k+1]?.getD 0=0 by rw[List.getElem?_eq_none (by omega)];rfl) o)
     have e0:x/2^s+0%2^s*2^(32-s)=x/2^s:=by simp
     rw[e0] at M
     obtain⟨lo,K⟩:=yE (x/2^s)
     rw[K] at M q3
     have E:=x1.out.set k lo k0
     rw[Zdd (by omega) R1] at E
     have p5:=zh E
     have G:Hid (Fr (· = R) wo (wr.setCell ⟨R,k,none⟩ (.int .u32 (lo:Int)))):=Q1.out.setCell (p:=⟨R,k,none⟩) (Or.inl rfl) _
     have C4:¬ ((k:Int)+1<(l:Int)):=by omega
     have N5:decide ((k:Int)+1<(l:Int))=false:=by rw[vA];omega
     clear ex o k0 e0 K E
     go_wp2
     go_roundw
     case rel=>exact⟨k+1,_,by omega,by go_num,M,p5.out,G.out⟩
     case measure=>simp[intOf];omega
    obtain rfl:k=l:=by omega
    have l3:=hS.out
    rw[←y4.out] at l3
    have D4:=l3.done
    have E:=x1.out
    rw[uB (by omega),vN (by omega:ts.length≤k),tP] at E
    have t:=E.front
    have NR:=zP.of_own (c:=xs.length+1) t hS.out.2.1 (by omega)
    rw[D4,f5.out,h5.out,show zs.length=k by omega] at NR
    have r5:=zh NR
    have E4:=zh (Z.out.fr Q1.out (by have:=u.out;omega))
    have NQ:=zP.of_own (c:=xs.length-(kk+2)+1) E4.out j5.out (by have:=e3.out;omega)
    rw[k5.out] at NQ
    have s5:=zh NQ
    have t5:=zh (kD (some ⟨R,0,none⟩) zs k (xs.length+1) wr (by omega) t.shows0 (by omega) (by omega))
    have F4:=zh (e5.out wr E4.out)
    have u5:Hid (Ext w wr):=(F2.out.ext l0.out).next Q1.out (fun i hi e=>by have:=F2.out.size;have:=HR.out;omega)
    have C4:¬ ((k:Int)<(k:Int)):=by omega
    clear l3 D4 E t NR NQ
    go_wp2_with fail
    refine F4.out.mono ?_
    rintro e w' ⟨rfl,rfl⟩
    go_wp2_with fail
    refine t5.out.mono ?_
    rintro e w' ⟨rfl,rfl⟩
    go_wp2
    go_ret2
    exact⟨_,_,rfl,s5.out,r5.out,u5.out⟩
theorem Zew (e f:Value)(x y:Nat)(w:World)(b:zP w e x)(d:zP w f y)(g:ml x≤17592186044416)(o:ml y≤17592186044416)(p:0<y) :
 yA 252 #[e,f] w (Zbr w (x/y) (x%y)):=by
 by_cases a:x<y
 ·rw[tO a,vI a]
  exact Zkf e f x y w b d g o a
 have q:=Zef p
 by_cases i:ml y=1
 ·exact Zjd e f x y w b d g i (by omega)
 obtain⟨A,r,c,rfl,s,b,j,k,rfl⟩:=b
 obtain⟨t,l,u,rfl,h,d,m,n,rfl⟩:=d
 rw[←kG j k] at g
 rw[←kG m n] at i q
 exact ZhI A t r l c u (l.length-2) w b d s h g (by omega) j m k n (by omega)
end Go.Proofs.YtoanifijmlgcgaaGreatDoor
