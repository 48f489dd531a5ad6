/-
 My texts Gcd1, Gcd2, Int4, Int5, Print0, Smp, Smp2, Spl, Spl2, Print, Res, Comb, Split, Parse, Parse2, Rat, Read, Rq, CrtM, Fermat, DecR, Ai, Short, Short2, Sign, Num6, Num7, FpM put together.
-/
import Derived.Test.YtklpdkpcocnglaaGreatDoorX10
import Derived.Test.YtklpdkpcocnglaaGreatDoorX08
import Derived.Test.YtklpdkpcocnglaaGreatDoorX05
import Derived.Test.YtklpdkpcocnglaaGreatDoorX07
import Derived.Deep.LoopGhost
import Derived.Laws.IdiomStrings
import Derived.Deep.RegionWith
import Derived.Test.YtklpdkpcocnglaaGreatDoorX06
import Derived.Test.YtklpdkpcocnglaaGreatDoorX01
import Derived.Test.YtklpdkpcocnglaaGreatDoorX02
import Derived.Laws.BitsAllLaws
import Derived.Test.YtklpdkpcocnglaaGreatDoorX03
import Derived.Deep.QuietTactic
import Derived.BigQuiet
import Derived.Outline
import Derived.Deep.DeepCutAuto
import Derived.Lib.Strings
import Derived.RegionTactic
import Derived.BigRegion
import Derived.Lib.ConvBytes
import Derived.Test.YtklpdkpcocnglaaGreatDoorX00
set_option maxRecDepth 100000
set_option maxHeartbeats 8000000
namespace Go.Proofs.YtklpdkpcocnglaaGreatDoor
open Go.RowKit
theorem ZkE (u v:Value)(m n g:Nat)(w:World)(hg:Glob w)(hu:zK w u m)(hv:zK w v n)(hm:wl m≤4294967296)(hn:n<W64)(h0:0<n)(l:n≤m)(eg:Nat.gcd m n=g) :
 yA 140 #[u,v] w (wW w g):=by
 obtain⟨A,a,c,rfl,hc,U,o,s,V⟩:=hu
 obtain⟨A2,ys,c2,rfl,t,k1,k2,k3,k4⟩:=hv
 have z:=xR o s
 have B:=xR k2 k3
 rw[V] at z
 rw[k4] at B
 have C:ys.length=1:=by
  have:=bL.2 hn
  have:=ZdT h0
  omega
 obtain⟨y,rfl⟩:∃ y,ys=[y]:=by match ys,C with | [y],_=>exact⟨y,rfl⟩
 simp at k4
 subst k4
 have HU:Hid (zK w (.slice A a.length c) m):=⟨A,a,c,rfl,hc,U,o,s,V⟩
 have HV:Hid (zK w (.slice A2 1 c2) y):=⟨A2,[y],c2,rfl,t,k1,k2,k3,by simp⟩
 have HX:=zh U
 have HY:=zh k1
 have Hm:Hid (wl m≤4294967296∧a.length≤4294967296):=⟨hm,by omega⟩
 have W:=zh hn
 have a0:=zh l
 have d:=zh h0
 have b0:=zh o
 have D:=zh V
 have E:=zh eg
 have HG:=zh hg
 clear hm hn l U k1 k2 k3 s o hc t z B C V eg hg h0
 go_enter Tryz.func140,Tryz.ntmps140
 go_wp2_with fail
 refine (dJ _ _ m y w HU.out HV.out Hm.out.1 (by have:=bL.2 W.out;omega)).mono ?_
 rintro e w' ⟨rfl,nd,F⟩
 obtain⟨q,hq⟩:=yE (cmpI m y)
 have c0:(0:Int)≤q:=by rw[←hq];exact bO a0.out
 have k0:decide (q<0)=false:=by simp;omega
 rw[hq]
 have G:Hid (Ext w w'):=F ▸ (Fr.refl _ w).drewN nd
 clear hq F c0
 go_wp2_with fail
 refine (gG A a _ c w' rfl (HX.out.ext G.out) Hm.out.2).mono ?_
 rintro e w1 ⟨X,b,rfl,H,I,d0⟩
 have J:Hid (zF .u64 w1 X a):=H.shows
 have K:Hid (Ext w w1):=G.out.trans I
 clear H I d0
 go_wp2_with fail
 refine (gG A2 [y] 1 c2 w1 rfl (HY.out.ext K.out) (by omega)).mono ?_
 rintro e Y ⟨A3,L,rfl,M,h,e0⟩
 have N:Hid (zF .u64 Y A3 [y]):=M.shows
 obtain⟨O,Z,rfl,j,P⟩:=N.out.at (i:=0) (by simp)
 simp at P
 have f0:Hid (zF .u64 Y X a):=J.out.ext h
 have Q:Hid (Ext w Y):=K.out.trans h
 have j:=zh j
 clear M h e0 N J
 obtain⟨x,ex⟩:=yE a.length
 rw[ex]
 go_wp2_with fail
 obtain⟨r,er⟩:=yE (m%y)
 go_loopw [5,6] (fun av bv wr=>av=.slice X x b∧bv=.slice (some ⟨O,Z,none⟩) 1 L∧wr=Y) (fun _ _ _=>0)
 case atStart=>exact⟨rfl,rfl,rfl⟩
 case round =>
  obtain⟨rfl,rfl,rfl⟩:=hrel
  go_wp2_with fail
  have R:Hid (wr.cell? ⟨O,Z,none⟩=some (.int .u64 (y:Int))):=P
  have S:Hid (O<wr.heap.size):=j.out
  have k:Hid (r<W64∧Nat.gcd y r=g∧g<W64):=by
   have U:=uP m d.out
   have o:=W.out
   have s:=pD m d.out
   rw[E.out] at s
   refine⟨by omega,?_,by omega⟩
   rw[←er,← E.out,tU y,← qN,tU]
  go_region_held3 (fun w'=>w'.cell? ⟨O,Z,none⟩=some (.int .u64 (y:Int)))
   (first|exact R.out|exact (Fr.cell (p:=⟨O,Z,none⟩) (Fr.undrew hFF) S.out (fun f=>f)).trans R.out)
   (first
    | (
     go_at_call 172
     refine (fX X a x b y _ ex f0.out.drew (by have:=Hm.out.2;omega) b0.out d.out W.out).mono ?_
     rintro e w4 ⟨rfl,g0,T⟩
     rw[D.out,er]
     have hFF:Ext wr.drew w4:=T ▸ (Fr.refl _ wr.drew).drewN g0
     clear T)
    | (
     go_at_call 171
     refine (ZaB y r g _ (HG.out.ext (Q.out.trans (Fr.undrew hFF))) W.out k.out.1 k.out.2.1).mono ?_
     rintro e w5 ⟨rfl,rfl⟩)
    | (
     go_at_call 170
     refine (cC g _ k.out.2.2).mono ?_
     rintro e w6 ⟨v6,rfl,i0,j0⟩
     replace hFF:Ext wr.drew w6:=hFF.trans j0))
  go_wp2
  go_ret
  exact⟨_,rfl,i0,Q.out.trans (Fr.undrew hFF)⟩
theorem ZkF (u v:Value)(m n g:Nat)(w:World)(hg:Glob w)(hu:zK w u m)(hv:zK w v n)(hm:wl m≤4294967296)(hn:n<W64)(h0:0<n)(l:n<m)(eg:Nat.gcd m n=g) :
 yA 140 #[v,u] w (wW w g):=by
 obtain⟨A,a,c,rfl,hc,U,o,s,V⟩:=hu
 obtain⟨A2,ys,c2,rfl,t,k1,k2,k3,k4⟩:=hv
 have z:=xR o s
 have B:=xR k2 k3
 rw[V] at z
 rw[k4] at B
 have C:ys.length=1:=by
  have:=bL.2 hn
  have:=ZdT h0
  omega
 obtain⟨y,rfl⟩:∃ y,ys=[y]:=by match ys,C with | [y],_=>exact⟨y,rfl⟩
 simp at k4
 subst k4
 have HU:Hid (zK w (.slice A a.length c) m):=⟨A,a,c,rfl,hc,U,o,s,V⟩
 have HV:Hid (zK w (.slice A2 1 c2) y):=⟨A2,[y],c2,rfl,t,k1,k2,k3,by simp⟩
 have HX:=zh U
 have HY:=zh k1
 have Hm:Hid (wl m≤4294967296∧a.length≤4294967296):=⟨hm,by omega⟩
 have W:=zh hn
 have a0:=zh l
 have d:=zh h0
 have b0:=zh o
 have D:=zh V
 have E:=zh eg
 have HG:=zh hg
 clear hm hn l U k1 k2 k3 s o hc t z B C V eg hg h0
 go_enter Tryz.func140,Tryz.ntmps140
 go_wp2_with fail
 refine (dJ _ _ y m w HV.out HU.out (by have:=bL.2 W.out;omega) Hm.out.1).mono ?_
 rintro e w' ⟨rfl,nd,F⟩
 obtain⟨q,hq⟩:=yE (cmpI y m)
 have c0:q<0:=by rw[←hq];exact fT.2 a0.out
 have k0:decide (q<0)=true:=by simp;omega
 rw[hq]
 have G:Hid (Ext w w'):=F ▸ (Fr.refl _ w).drewN nd
 clear hq F c0
 go_wp2_with fail
 refine (gG A a _ c w' rfl (HX.out.ext G.out) Hm.out.2).mono ?_
 rintro e w1 ⟨X,b,rfl,H,I,d0⟩
 have J:Hid (zF .u64 w1 X a):=H.shows
 have K:Hid (Ext w w1):=G.out.trans I
 clear H I d0
 go_wp2_with fail
 refine (gG A2 [y] 1 c2 w1 rfl (HY.out.ext K.out) (by omega)).mono ?_
 rintro e Y ⟨A3,L,rfl,M,h,e0⟩
 have N:Hid (zF .u64 Y A3 [y]):=M.shows
 obtain⟨O,Z,rfl,j,P⟩:=N.out.at (i:=0) (by simp)
 simp at P
 have f0:Hid (zF .u64 Y X a):=J.out.ext h
 have Q:Hid (Ext w Y):=K.out.trans h
 have j:=zh j
 clear M h e0 N J
 obtain⟨x,ex⟩:=yE a.length
 rw[ex]
 go_wp2_with fail
 obtain⟨r,er⟩:=yE (m%y)
 go_loopw [5,6] (fun av bv wr=>av=.slice X x b∧bv=.slice (some ⟨O,Z,none⟩) 1 L∧wr=Y) (fun _ _ _=>0)
 case atStart=>exact⟨rfl,rfl,rfl⟩
 case round =>
  obtain⟨rfl,rfl,rfl⟩:=hrel
  go_wp2_with fail
  have R:Hid (wr.cell? ⟨O,Z,none⟩=some (.int .u64 (y:Int))):=P
  have S:Hid (O<wr.heap.size):=j.out
  have k:Hid (r<W64∧Nat.gcd y r=g∧g<W64):=by
   have U:=uP m d.out
   have o:=W.out
   have s:=pD m d.out
   rw[E.out] at s
   refine⟨by omega,?_,by omega⟩
   rw[←er,← E.out,tU y,← qN,tU]
  go_region_held3 (fun w'=>w'.cell? ⟨O,Z,none⟩=some (.int .u64 (y:Int)))
   (first|exact R.out|exact (Fr.cell (p:=⟨O,Z,none⟩) (Fr.undrew hFF) S.out (fun f=>f)).trans R.out)
   (first
    | (
     go_at_call 172
     refine (fX X a x b y _ ex f0.out.drew (by have:=Hm.out.2;omega) b0.out d.out W.out).mono ?_
     rintro e w4 ⟨rfl,g0,T⟩
     rw[D.out,er]
     have hFF:Ext wr.drew w4:=T ▸ (Fr.refl _ wr.drew).drewN g0
     clear T)
    | (
     go_at_call 171
     refine (ZaB y r g _ (HG.out.ext (Q.out.trans (Fr.undrew hFF))) W.out k.out.1 k.out.2.1).mono ?_
     rintro e w5 ⟨rfl,rfl⟩)
    | (
     go_at_call 170
     refine (cC g _ k.out.2.2).mono ?_
     rintro e w6 ⟨v6,rfl,i0,j0⟩
     replace hFF:Ext wr.drew w6:=hFF.trans j0))
  go_wp2
  go_ret
  exact⟨_,rfl,i0,Q.out.trans (Fr.undrew hFF)⟩
theorem Zix (u v:Value)(m:Nat)(w:World)(f:zK w u m)(d:zK w v 0)(i:wl m≤4294967296):yA 140 #[u,v] w (wW w m):=by
 obtain⟨A,l,c,rfl⟩:=f.slice
 obtain⟨s,k,t,rfl⟩:=d.slice
 obtain rfl:k=0:=d.len0
 have j:=zh f
 have n:=zh d
 have o:=zh i
 clear f d i
 go_enter Tryz.func140,Tryz.ntmps140
 go_wp2_with fail
 refine (dJ _ _ m 0 w j.out n.out o.out (by rw[Zll];omega)).mono ?_
 rintro e w' ⟨rfl,p,a⟩
 obtain⟨q,g⟩:=yE (cmpI (m:Int) ((0:Nat):Int))
 have h:(0:Int)≤q:=by rw[←g];exact bO (rV _)
 have r:decide (q<0)=false:=by simp;omega
 rw[g]
 have b:Hid (Ext w w'):=a ▸ (Fr.refl _ w).drewN p
 clear g a h
 go_wp2
 go_ret
 exact⟨_,rfl,j.out.ext b.out,b.out⟩
theorem Zhd (u v:Value)(m:Nat)(w:World)(d:zK w u 0)(f:zK w v m)(i:0<m)(j:wl m≤4294967296):yA 140 #[u,v] w (wW w m):=by
 obtain⟨A,l,c,rfl⟩:=d.slice
 obtain⟨t,x,y,rfl⟩:=f.slice
 obtain rfl:l=0:=d.len0
 have n:=zh d
 have k:=zh f
 have o:=zh j
 have p:=zh i
 clear d f j i
 go_enter Tryz.func140,Tryz.ntmps140
 go_wp2_with fail
 refine (dJ _ _ 0 m w n.out k.out (by rw[Zll];omega) o.out).mono ?_
 rintro e w' ⟨rfl,r,a⟩
 obtain⟨q,g⟩:=yE (cmpI ((0:Nat):Int) (m:Int))
 have h:q<0:=by rw[←g];exact fT.2 p.out
 have s:decide (q<0)=true:=by simp;omega
 rw[g]
 have b:Hid (Ext w w'):=a ▸ (Fr.refl _ w).drewN r
 clear g a h
 go_wp2
 go_ret
 exact⟨_,rfl,k.out.ext b.out,b.out⟩
theorem Zcy (u v:Value)(m n:Nat)(w:World)(c:Glob w)(a:zK w u m)(b:zK w v n)(d:wl m≤4294967296)(e:wl n≤4294967296)(i:min m n<W64):yA 140 #[u,v] w (wW w (Nat.gcd m n)):=by
 rcases uI n with rfl|f
 ·rw[rQ];exact Zix u v m w a b d
 rcases uI m with rfl|g
 ·rw[Nat.gcd_zero_left];exact Zhd u v n w a b f e
 rcases vJ m n with h|h
 ·exact ZkF v u n m _ w c b a e (by omega) g h (tU _ _)
 exact ZkE u v m n _ w c a b d (by omega) f h rfl
theorem Buf.openG {k:IntKind}{e:TypeId}{w:World}{A:Option Addr}{cap:Nat}{xs:List Nat}(h:Buf k e w A cap xs)(a:xs≠[]):∃ b,A=some ⟨b,0,none⟩∧Own k e w b xs∧gX e w b cap∧xs.length≤cap∧cap≤maxLen:=by
 rcases h with ⟨_,h,_⟩|h
 ·exact absurd h a
 exact h
def aY (w wr:World) (G:Nat) (xs ys:List Nat) (Aa:Option Addr) (ca:Nat) (Ab:Option Addr) (cb:Nat):Prop :=
 Buf .u64 94 wr Aa ca xs∧Buf .u64 94 wr Ab cb ys∧Dig W64 xs∧Dig W64 ys∧Trim xs∧Trim ys∧val W64 ys≤val W64 xs∧Nat.gcd (val W64 xs) (val W64 ys)=G∧Ext w wr ∧
  (∀ b,xP Aa b→w.heap.size≤b)∧(∀ b,xP Ab b→w.heap.size≤b)∧(∀ b,xP Aa b→¬ xP Ab b)∧xs.length≤79
theorem aY.len {w wr:World}{G:Nat}{xs ys:List Nat}{a:Option Addr}{b:Nat}{c:Option Addr}{d:Nat}(h:aY w wr G xs ys a b c d):ys.length≤xs.length:=by
 obtain⟨_,_,e,g,i,f,j,_⟩:=h
 rcases vJ xs.length ys.length with k|k
 ·have:=gP zM e f k;omega
 exact k
theorem Buf.natIs {w:World}{A:Option Addr}{cap:Nat}{xs:List Nat}(h:Buf .u64 94 w A cap xs)(a:Dig W64 xs)(b:Trim xs):zK w (.slice A xs.length cap) (val W64 xs) :=
 ⟨A,xs,cap,rfl,h.len,h.shows,a,b,rfl⟩
theorem aY.div {w wr w1 w2:World}{G:Nat}{xs ys a:List Nat}{o:Option Addr}{p:Nat}{i:Option Addr}{j:Nat}{d:Option Addr}{cc:Nat}(h:aY w wr G xs ys o p i j)(q:0<val W64 ys)(Q:Ext wr w1)(r:Dig W64 a)(s:Trim a)(t:val W64 a=val W64 xs%val W64 ys)(u:Buf .u64 94 w2 d cc a)(c:Ext w1 w2)(k:∀ b,xP d b→w1.heap.size≤b):aY w w2 G ys a i j d cc:=by
 have l:=h.len
 obtain⟨D,m,E,v,F,x,H,y,n,z,e,A,B⟩:=h
 have C:=uP (val W64 xs) q
 refine⟨m.ext (Q.trans c),u,v,r,x,s,by omega,?_,n.trans (Q.trans c),e,fun b f=>?_,fun b f g=>?_,by omega⟩
 ·rw[t,← y,tU (val W64 ys),← qN,tU]
 ·have:=k b f;have:=Q.size;have:=n.size;omega
 have I:=m.lt f;have J:=k b g;have:=Q.size;omega
def Zc3 (w wr:World) (xs ys:List Nat) (bA ca:Nat) (Ab:Option Addr) (cb j gs:Nat) (cs:Array Value):Prop :=
 Own .u64 94 wr bA xs∧gX 94 wr bA ca∧Buf .u64 94 wr Ab cb (ys ++ List.replicate j 0)∧(∀ b,xP Ab b→w.heap.size≤b∧b≠bA∧b≠gs)∧Blk 191 wr gs cs∧Ext w wr∧w.heap.size≤bA∧gs≠bA∧w.heap.size≤gs
theorem Zc3.next {w wr w3:World}{xs ys:List Nat}{g l:Nat}{d f:Option Addr}{s m j n:Nat}{cs:Array Value}{o:Obj}(h:Zc3 w wr xs ys g l d s j n cs)(t:Buf .u64 94 w3 f m (ys ++ List.replicate j 0 ++ [0]))(u:Fr (xP d) (wr.alloc o) w3)(v:∀ b,xP f b→xP d b∨b=(wr.alloc o).heap.size):Zc3 w w3 xs ys g l f m (j+1) n cs:=by
 obtain⟨p,x,B,e,q,r,y,z,A⟩:=h
 have a:Fr (xP d) wr w3:=((Fr.refl (xP d) wr).alloc o).trans u
 have C:=p.lt
 have D:=q.lt
 refine⟨p.fr a (fun c=>(e _ c).2.1 rfl),x.fr a (fun c=>(e _ c).2.1 rfl),by rw[List.replicate_succ',← tC];exact t,fun b c=>?_,q.fr a (fun c=>(e _ c).2.2 rfl),r.next a (fun i E c=>by have:=(e i c).1;omega),y,z,A⟩
 rcases v b c with k|k
 ·exact e b k
 have:=r.size
 simp at k
 exact⟨by omega,by omega,by omega⟩
theorem Buf.takeG {k:IntKind}{e:TypeId}{w:World}{A:Option Addr}{cap:Nat}{xs:List Nat}(h:Buf k e w A cap xs)(n:Nat):Buf k e w A cap (xs.take n):=by
 rcases h with ⟨a,rfl,c⟩|⟨b,a,d,c,g,f⟩
 ·exact Or.inl ⟨a,by simp,c⟩
 exact Or.inr ⟨b,a,d.take n,c,by rw[uY];omega,f⟩
theorem Ziz (u v:Value)(m n g:Nat)(w:World)(hg:Glob w)(hu:zK w u m)(hv:zK w v n)(hm:wl m≤79)(hn:W64≤n)(p0:n≤m)(eg:Nat.gcd m n=g) :
 yA 140 #[u,v] w (wW w g):=by
 have j0:wl n≤79:=uE (wR p0) hm
 obtain⟨A,h,c,rfl,hc,G,h2,h3,h4⟩:=hu
 obtain⟨A2,ys,c2,rfl,K0,L,M,T,k4⟩:=hv
 have L0:=xR h2 h3
 have M0:=xR M T
 rw[h4] at L0
 rw[k4] at M0
 have U1:2≤ys.length:=by
  rcases vJ ys.length 2 with k|k
  ·have:=bL.1 (show wl n≤1 by omega);omega
  exact k
 have HU:Hid (zK w (.slice A h.length c) m):=⟨A,h,c,rfl,hc,G,h2,h3,h4⟩
 have HV:Hid (zK w (.slice A2 ys.length c2) n):=⟨A2,ys,c2,rfl,K0,L,M,T,k4⟩
 have HX:=zh G
 have HY:=zh L
 have q0:=zh p0
 have U:=zh h2
 have N0:=zh M
 have O0:=zh h3
 have P0:=zh T
 have t0:=zh h4
 have w0:=zh k4
 have Q0:=zh eg
 have HG:=zh hg
 have Hm:=zh hm
 have Hn:=zh j0
 have V:h.length≤79:=by omega
 have V1:ys.length≤79:=by omega
 clear hm hn p0 G L M T h3 h2 hc K0 L0 M0 h4 k4 eg hg j0
 go_enter Tryz.func140,Tryz.ntmps140
 go_wp2_with fail
 refine (dJ _ _ m n w HU.out HV.out (by have:=Hm.out;omega) (by have:=Hn.out;omega)).mono ?_
 rintro e w' ⟨rfl,nd,R0⟩
 obtain⟨q,hq⟩:=yE (cmpI m n)
 have W1:(0:Int)≤q:=by rw[←hq];exact bO q0.out
 have X1:decide (q<0)=false:=by simp;omega
 rw[hq]
 have W:Hid (Ext w w'):=R0 ▸ (Fr.refl _ w).drewN nd
 clear hq R0 W1
 have S0:((ys.length:Int) == 0)=false:=by rw[rH];omega
 go_wp2_with fail
 refine (gG A h _ c w' rfl (HX.out.ext W.out) (by omega)).mono ?_
 rintro e w1 ⟨A1,l0,rfl,T0,N,U0⟩
 have x0:=zh T0
 have V0:Hid (∀ b,xP A1 b→w.heap.size≤b):=fun b H=>uE W.out.size (U0 b H)
 have X:Hid (Ext w w1):=W.out.trans N
 clear T0 N U0
 go_wp2_with fail
 refine (gG A2 ys _ c2 w1 rfl (HY.out.ext X.out) (by omega)).mono ?_
 rintro e w2 ⟨A3,m0,rfl,t,l,s⟩
 have W0:Hid (aY w w2 g h ys A1 l0 A3 m0):=⟨x0.out.ext l,t,U.out,N0.out,O0.out,P0.out,by rw[t0.out,w0.out];exact q0.out,by rw[t0.out,w0.out];exact Q0.out,X.out.trans l,V0.out,fun b H=>uE X.out.size (s b H),fun b H y0=>by
  have L:=x0.out.lt H
  have M:=s b y0
  omega,V⟩
 clear t l s x0 V0 X W HX HY HU HV U N0 O0 P0 q0 Q0 t0 w0 Hm Hn S0 X1
 go_wp2_with fail
 go_loopg [5,6,7,8,9] (val W64 h+val W64 ys) (fun k av bv _ _ _ wr=>∃ (h ys:List Nat) (Aa:Option Addr) (F:Nat) (Ab:Option Addr) (cb:Nat),k=val W64 h+val W64 ys∧av=.slice Aa h.length F∧bv=.slice Ab ys.length cb∧Hid (aY w wr g h ys Aa F Ab cb))
 case atStart=>exact⟨h,ys,A1,l0,A3,m0,rfl,rfl,rfl,W0⟩
 case round =>
  clear W0 U1 V V1
  obtain⟨h,ys,Aa,F,Ab,cb,hk,rfl,rfl,d⟩:=hrel
  have HK:=zh hk
  clear hk
  have o:=d.out.len
  have n0:=d.out.2.2.2.2.2.2.2.2.2.2.2.2
  by_cases G:1<ys.length
  ·obtain⟨J,rfl,z0,X0,F2,Y0⟩:=d.out.1.openG (by intro e;rw[e] at o;simp at o;rw[o] at G;simp at G)
   obtain⟨bB,rfl,B,Z0,G2,D2⟩:=d.out.2.1.openG (by intro e;rw[e] at G;simp at G)
   have O:=zh (ZdY J bB F cb h ys wr z0 B d.out.2.2.1 d.out.2.2.2.1 d.out.2.2.2.2.1 o (by omega) d.out.2.2.2.2.2.2.1 (by omega))
   have a1:0<val W64 ys:=aT d.out.2.2.2.2.2.1 zM (by intro e;rw[e] at G;simp at G)
   have A0:=zh a1
   have c1:=zh (d.out.1.natIs d.out.2.2.1 d.out.2.2.2.2.1)
   have d1:=zh (d.out.2.1.natIs d.out.2.2.2.1 d.out.2.2.2.2.2.1)
   have e1:wl (val W64 h)≤79:=by rw[←xR d.out.2.2.1 d.out.2.2.2.2.1];exact n0
   have f1:wl (val W64 ys)≤79:=by rw[←xR d.out.2.2.2.1 d.out.2.2.2.2.2.1];omega
   have g1:=zh e1
   have Y1:=zh f1
   have B0:=zh z0
   have i1:=zh B
   have j1:=zh X0
   have Z1:=zh Z0
   unfold Zao lT at O
   clear z0 B X0 Z0 a1 e1 f1
   go_wp2_with fail
   refine O.out.mono ?_
   rintro e w1 ⟨u0,u1,v0,v1,odd,rfl,b0,b1,b2,b3,l1,N⟩
   have Y:=zh N
   have a2:=zh l1
   have Hb:=zh (And.intro b0 (And.intro b1 (And.intro b2 b3)))
   clear N l1 b0 b1 b2 b3 O
   by_cases hv:v0=0
   ·subst hv
    go_wp2_with fail
    generalize I:World.alloc w1 _=wb
    have Z:Hid (Ext wr wb):=I ▸ Y.out.alloc _
    clear I Y
    refine (Zb6 _ _ _ _ _ (c1.out.ext Z.out) (d1.out.ext Z.out) (by have:=g1.out;omega) (by have:=Y1.out;omega) A0.out).mono ?_
    rintro e w2 ⟨qv,rv,rfl,m1,d2,n1⟩
    obtain⟨Aq,lq,cq,rfl⟩:=m1.slice
    obtain⟨Ar,C,cr,rfl,e2,o1,C0,D0,E0⟩:=d2
    have a0:=zh (Z.out.trans n1)
    have f2:=zh o1
    have g2:=zh C0
    have i2:=zh D0
    have p1:=zh E0
    have H2:C.length≤79:=by
     rw[xR C0 D0,E0]
     have:wl (val W64 h%val W64 ys)≤wl (val W64 h):=wR (oG _ _)
     have:=g1.out;omega
    clear m1 o1 C0 D0 E0 e2 n1 Z
    go_wp2_with fail
    refine (gG Ar C _ cr w2 rfl f2.out (by omega)).mono ?_
    rintro e w3 ⟨Ac,cc,rfl,t,l,s⟩
    have z:=zh (d.out.div A0.out a0.out g2.out i2.out p1.out t l s)
    have F0:Hid (val W64 ys+val W64 C<val W64 h+val W64 ys):=by
     have G:=uP (val W64 h) A0.out
     have h2:=d.out.2.2.2.2.2.2.1
     have h3:=p1.out
     unfold Hid;omega
    clear t l s d c1 d1 B0 i1 j1 Z1
    go_wp2
    go_roundg (val W64 ys+val W64 C)
    case measure=>rw[HK.out];exact F0.out
    case rel=>exact⟨ys,C,_,cb,Ac,cc,rfl,rfl,rfl,z⟩
   have I2:((v0:Int) == 0)=false:=by simp;omega
   obtain⟨r0,r1,q1,q2,q3,K⟩:=a2.out.pair hv
   have HQ:=zh (And.intro q1 (And.intro q2 (And.intro q3 K)))
   have j2:J≠bB:=fun e=>d.out.2.2.2.2.2.2.2.2.2.2.2.1 J ⟨_,rfl,rfl⟩ ⟨_,rfl,by simp[e]⟩
   clear q1 q2 q3 K hv
   go_wp2_with fail
   generalize I:World.alloc w1 _=wb
   have J2:=B0.out.lt
   have K2:=i1.out.lt
   have L2:=Y.out.size
   have x1:Hid (Zc3 w wb h ys J F (some ⟨bB,0,none⟩) cb 0 w1.heap.size #[.int .u64 (u0:Int),.int .u64 (u1:Int),.int .u64 (v0:Int),.int .u64 (v1:Int),.bool odd]):=by
    have c0:Ext wr wb:=I ▸ Y.out.alloc _
    refine⟨B0.out.ext c0,j1.out.fr c0 (fun f=>f),by rw[List.replicate_zero,rI];exact d.out.2.1.ext c0,fun b H=>?_,I ▸ Blk.new _ _ _,d.out.2.2.2.2.2.2.2.2.1.trans c0,d.out.2.2.2.2.2.2.2.2.2.1 J ⟨_,rfl,rfl⟩,by omega,?_⟩
    ·obtain⟨a,D,rfl⟩:=H
     injection D with D;subst D
     exact⟨d.out.2.2.2.2.2.2.2.2.2.2.1 bB ⟨_,rfl,rfl⟩,fun e=>j2 e.symm,by show bB≠_;omega⟩
    have:=d.out.2.2.2.2.2.2.2.2.1.size;omega
   clear I
   generalize w1.heap.size=gs at *
   go_loopw [6] (fun bv wq=>∃ (j:Nat) (A6:Option Addr) (S:Nat),ys.length+j≤h.length∧bv=.slice A6 (ys.length+j) S∧Hid (Zc3 w wq h ys J F A6 S j gs #[.int .u64 (u0:Int),.int .u64 (u1:Int),.int .u64 (v0:Int),.int .u64 (v1:Int),.bool odd])) (fun bv _=>match bv with | .slice _ k _=>h.length-k | _=>0)
   case atStart=>exact⟨0,_,cb,by omega,rfl,x1⟩
   case round =>
    clear x1
    obtain⟨j,A6,S,hj,rfl,E⟩:=hrel
    by_cases M2:ys.length+j<h.length
    ·have y1:Hid (zF .u64 (wr.alloc (.cells #[.int .u64 0] 94)) (some ⟨wr.heap.size,0,none⟩) [0]):=(Own.new wr 94 .u64 [0] []).shows0
     have z1:Hid ((ys ++ List.replicate j 0).length=ys.length+j):=by unfold Hid;simp
     go_wp2_with (at_builtin;refine Hid.out ?_)
     refine zh ?_
     refine wT rfl _ _ _ rfl _ .u64 8 Tryz.underlying76 dB A6 (some ⟨wr.heap.size,0,none⟩) (ys.length+j) 1 S 1 rfl rfl (ys ++ List.replicate j 0) [0] z1.out rfl (E.out.2.2.1.ext ((Fr.refl _ _).alloc _)) y1.out (by simp only[maxLen];omega) (by omega) ?_
     intro A7 c7 w3 t l s
     have z:=zh (E.out.next t l s)
     clear t l s y1 z1
     go_wp2
     go_roundw
     case rel=>exact⟨j+1,A7,c7,by omega,by rw[tO],z⟩
     case measure=>simp;omega
    have ej:ys.length+j=h.length:=by omega
    have E2:0<h.length:=by omega
    have o0:ys ++ List.replicate j 0≠[]:=fun e=>by have:=vP List.length e;rw[vH,oC] at this;omega
    obtain⟨bC,rfl,G0,B1,N2,C1⟩:=E.out.2.2.1.openG o0
    have P:=E.out.2.2.2.1 bC ⟨_,rfl,rfl⟩
    have d0:(ys ++ List.replicate j 0).length=h.length:=by simp;omega
    have D1:val W64 (ys ++ List.replicate j 0)=val W64 ys:=by rw[kH,kS];simp
    have H0:Dig W64 (ys ++ List.replicate j 0):=d.out.2.2.2.1.append (Dig.replicate zM _)
    have V:=xZ d.out.2.2.1
    have l2:=d.out.2.2.2.2.2.2.1
    have m2:Hid (yA 168 #[.agg #[.int .u64 (u0:Int),.int .u64 (u1:Int),.int .u64 (v0:Int),.int .u64 (v1:Int),.bool odd],.slice (some ⟨J,0,none⟩) h.length F,.slice (some ⟨bC,0,none⟩) (ys.length+j) S] wr (aK J bC h.length r0 r1 wr)):=by
     obtain⟨q1,q2,q3,K⟩:=HQ.out
     obtain⟨k0,L,M,T⟩:=Hb.out
     unfold Hid
     rw[ej]
     rw[←D1] at K
     cases odd with
     | false =>
      simp only[tT,qU] at K
      exact Zga J bC h.length F S u0 u1 v0 v1 r0 r1 h _ wr rfl d0 E.out.1 G0 (fun e=>P.2.1 e.symm) d.out.2.2.1 H0 (by omega) k0 L M T K.1 K.2 (by omega) (by omega)
     | true =>
      simp only[pS] at K
      exact ZhV J bC h.length F S u0 u1 v0 v1 r0 r1 h _ wr rfl d0 E.out.1 G0 (fun e=>P.2.1 e.symm) d.out.2.2.1 H0 (by omega) k0 L M T K.1 K.2 (by omega) (by omega)
    have s0:wr.cell? ⟨gs,0,none⟩=some (.int .u64 (u0:Int)):=E.out.2.2.2.2.1.cell 0
    have s1:wr.cell? ⟨gs,1,none⟩=some (.int .u64 (u1:Int)):=E.out.2.2.2.2.1.cell 1
    have s2:wr.cell? ⟨gs,2,none⟩=some (.int .u64 (v0:Int)):=E.out.2.2.2.2.1.cell 2
    have s3:wr.cell? ⟨gs,3,none⟩=some (.int .u64 (v1:Int)):=E.out.2.2.2.2.1.cell 3
    have s4:wr.cell? ⟨gs,4,none⟩=some (.bool odd):=E.out.2.2.2.2.1.cell 4
    have n2:=zh B1
    have E1:=zh d0
    have o2:=zh ej
    clear G0 B1 d0 D1 H0 V l2 o0 ej
    go_wp2_with fail
    refine m2.out.mono ?_
    rintro e w3 ⟨C,zt,rfl,Q,R,e0,f0,F1,G1,H1,p2,I1,J1,l⟩
    have r2:=o2.out
    have K1:=zh (eO _ C h.length F w3 H1 Q.shows0 (by omega) (by omega))
    have L1:=zh (eO _ zt (ys.length+j) S w3 (by omega) R.shows0 (by have:=E1.out;omega) (by omega))
    have z:Hid (aY w w3 g (wF C) (wF zt) (some ⟨J,0,none⟩) F (some ⟨bC,0,none⟩) S):=by
     obtain⟨q1,q2,q3,K⟩:=HQ.out
     have t1:=wH C
     have t2:=gB C C.length
     refine⟨Buf.takeG (Or.inr ⟨J,rfl,Q,I1 _ E.out.2.1,by omega,Y0⟩) _,Buf.takeG (Or.inr ⟨bC,rfl,R,J1 _ n2.out,by have:=E1.out;omega,C1⟩) _,iD F1,iD G1,iG _,iG _,?_,?_,?_,fun b H=>?_,fun b H=>?_,fun b H y0=>?_,by omega⟩
     ·rw[wX,wX,e0,f0];omega
     ·rw[wX,wX,e0,f0,q3];exact d.out.2.2.2.2.2.2.2.1
     ·refine E.out.2.2.2.2.2.1.next l (fun i hi e=>?_)
      rcases e with e|e
      ·have:=E.out.2.2.2.2.2.2.1;omega
      have:=P.1;omega
     ·obtain⟨a,D,rfl⟩:=H
      injection D with D;subst D
      exact E.out.2.2.2.2.2.2.1
     ·obtain⟨a,D,rfl⟩:=H
      injection D with D;subst D
      exact P.1
     obtain⟨a,D,rfl⟩:=H
     injection D with D;subst D
     obtain⟨a',I0,e⟩:=y0
     injection I0 with I0;subst I0
     exact P.2.1 e
    have F0:Hid (val W64 (wF C)+val W64 (wF zt)<val W64 h+val W64 ys):=by
     obtain⟨q1,q2,q3,K⟩:=HQ.out
     have h2:=d.out.2.2.2.2.2.2.1
     unfold Hid
     rw[wX,wX,e0,f0];omega
    have M1:=zh (wH C)
    have N1:=zh (wH zt)
    clear Q R e0 f0 F1 G1 I1 J1 l r2 H1 p2
    go_wp2_with fail
    refine K1.out.mono ?_
    rintro e w4 ⟨rfl,rfl⟩
    go_wp2_with fail
    refine L1.out.mono ?_
    rintro e w4 ⟨rfl,rfl⟩
    go_wp2
    go_roundg (val W64 (wF C)+val W64 (wF zt))
    case measure=>rw[HK.out];exact F0.out
    case rel=>exact⟨wF C,wF zt,_,F,_,S,rfl,by rw[M1.out],by rw[N1.out],z⟩
  have O1:decide ((1:Int)<(ys.length:Int))=false:=by simp;omega
  by_cases h0:ys=[]
  ·subst h0
   have HN:Hid (zK wr (.slice Aa h.length F) g):=by
    have L:=d.out.1.natIs d.out.2.2.1 d.out.2.2.2.2.1
    have M:=d.out.2.2.2.2.2.2.2.1
    rw[dH,rQ] at M
    rw[M] at L
    exact L
   have HE:Hid (Ext w wr):=d.out.2.2.2.2.2.2.2.2.1
   clear d G O1 o
   go_wp2
   go_ret
   exact⟨_,rfl,HN.out,HE.out⟩
  obtain⟨y,rfl⟩:∃ y,ys=[y]:=by
   match ys,(by have:=sS.2 h0;omega:ys.length=1) with
   | [y],_=>exact⟨y,rfl⟩
  obtain⟨b3,rfl,B,_⟩:=d.out.2.1.openG h0
  have P1:=B.cell (i:=0) (by simp)
  simp at P1
  have u2:=zh B.lt
  have a0:Hid (Ext w wr):=d.out.2.2.2.2.2.2.2.2.1
  have v2:Hid (zF .u64 wr Aa h):=d.out.1.shows
  have U:=zh d.out.2.2.1
  have Q1:y<W64:=d.out.2.2.2.1 y (by simp)
  have g0:0<y:=by
   have:=d.out.2.2.2.2.2.1 0 rfl
   simp at this;omega
  have i0:=d.out.2.2.2.2.2.2.2.1
  simp only[gO,dH,tK,tA] at i0
  obtain⟨r,er⟩:=yE (val W64 h%y)
  have J0:Hid (r<W64∧Nat.gcd y r=g∧g<W64):=by
   have L:=uP (val W64 h) g0
   have T:=pD (val W64 h) g0
   rw[i0] at T
   refine⟨by omega,?_,by omega⟩
   rw[←er,← i0,tU y,← qN,tU]
  obtain⟨x,ex⟩:=yE h.length
  rw[ex] at n0 ⊢
  have R1:Hid (wr.cell? ⟨b3,0,none⟩=some (.int .u64 (y:Int))):=P1
  have x2:=zh g0
  have Hn:=zh Q1
  have y2:=zh er
  have S1:=zh ex
  clear d B i0 er ex h0 G O1 o g0 Q1
  go_wp2_with fail
  go_region_held3 (fun w'=>w'.cell? ⟨b3,0,none⟩=some (.int .u64 (y:Int)))
   (first|exact R1.out|exact (Fr.cell (p:=⟨b3,0,none⟩) (Fr.undrew hFF) u2.out (fun f=>f)).trans R1.out)
   (first
    | (
     go_at_call 172
     refine (fX Aa h x F y _ S1.out v2.out.drew (by have:=S1.out;omega) U.out x2.out Hn.out).mono ?_
     rintro e w4 ⟨rfl,z2,T1⟩
     rw[y2.out]
     have hFF:Ext wr.drew w4:=T1 ▸ (Fr.refl _ wr.drew).drewN z2
     clear T1)
    | (
     go_at_call 171
     refine (ZaB y r g _ (HG.out.ext (a0.out.trans (Fr.undrew hFF))) Hn.out J0.out.1 J0.out.2.1).mono ?_
     rintro e w5 ⟨rfl,rfl⟩)
    | (
     go_at_call 170
     refine (cC g _ J0.out.2.2).mono ?_
     rintro e w6 ⟨v6,rfl,B2,C2⟩
     replace hFF:Ext wr.drew w6:=hFF.trans C2))
  go_wp2
  go_ret
  exact⟨_,rfl,B2,a0.out.trans (Fr.undrew hFF)⟩
theorem ZiA (u v:Value)(m n g:Nat)(w:World)(hg:Glob w)(hu:zK w u m)(hv:zK w v n)(hm:wl m≤79)(hn:W64≤n)(J0:n<m)(eg:Nat.gcd m n=g) :
 yA 140 #[v,u] w (wW w g):=by
 have p0:n≤m:=by omega
 have j0:wl n≤79:=uE (wR p0) hm
 obtain⟨A,h,c,rfl,hc,G,h2,h3,h4⟩:=hu
 obtain⟨A2,ys,c2,rfl,K0,L,M,T,k4⟩:=hv
 have L0:=xR h2 h3
 have M0:=xR M T
 rw[h4] at L0
 rw[k4] at M0
 have V1:2≤ys.length:=by
  rcases vJ ys.length 2 with k|k
  ·have:=bL.1 (show wl n≤1 by omega);omega
  exact k
 have HU:Hid (zK w (.slice A h.length c) m):=⟨A,h,c,rfl,hc,G,h2,h3,h4⟩
 have HV:Hid (zK w (.slice A2 ys.length c2) n):=⟨A2,ys,c2,rfl,K0,L,M,T,k4⟩
 have HX:=zh G
 have HY:=zh L
 have N0:=zh p0
 have W1:=zh J0
 have U:=zh h2
 have O0:=zh M
 have P0:=zh h3
 have Q0:=zh T
 have q0:=zh h4
 have t0:=zh k4
 have R0:=zh eg
 have HG:=zh hg
 have Hm:=zh hm
 have Hn:=zh j0
 have V:h.length≤79:=by omega
 have X1:ys.length≤79:=by omega
 clear hm hn p0 J0 G L M T h3 h2 hc K0 L0 M0 h4 k4 eg hg j0
 go_enter Tryz.func140,Tryz.ntmps140
 go_wp2_with fail
 refine (dJ _ _ n m w HV.out HU.out (by have:=Hn.out;omega) (by have:=Hm.out;omega)).mono ?_
 rintro e w' ⟨rfl,nd,S0⟩
 obtain⟨q,hq⟩:=yE (cmpI n m)
 have Y1:q<0:=by
  have h5:(n:Int)<(m:Int):=by have:=W1.out;omega
  rw[←hq];unfold cmpI;rw[uL h5];omega
 have Z1:decide (q<0)=true:=by simp;omega
 rw[hq]
 have W:Hid (Ext w w'):=S0 ▸ (Fr.refl _ w).drewN nd
 clear hq S0 Y1
 have T0:((ys.length:Int) == 0)=false:=by rw[rH];omega
 go_wp2_with fail
 refine (gG A h _ c w' rfl (HX.out.ext W.out) (by omega)).mono ?_
 rintro e w1 ⟨A1,l0,rfl,U0,N,V0⟩
 have w0:=zh U0
 have W0:Hid (∀ b,xP A1 b→w.heap.size≤b):=fun b H=>uE W.out.size (V0 b H)
 have X:Hid (Ext w w1):=W.out.trans N
 clear U0 N V0
 go_wp2_with fail
 refine (gG A2 ys _ c2 w1 rfl (HY.out.ext X.out) (by omega)).mono ?_
 rintro e w2 ⟨A3,m0,rfl,t,l,s⟩
 have X0:Hid (aY w w2 g h ys A1 l0 A3 m0):=⟨w0.out.ext l,t,U.out,O0.out,P0.out,Q0.out,by rw[q0.out,t0.out];exact N0.out,by rw[q0.out,t0.out];exact R0.out,X.out.trans l,W0.out,fun b H=>uE X.out.size (s b H),fun b H x0=>by
  have L:=w0.out.lt H
  have M:=s b x0
  omega,V⟩
 clear t l s w0 W0 X W HX HY HU HV U O0 P0 Q0 N0 R0 q0 t0 Hm Hn T0 Z1
 go_wp2_with fail
 go_loopg [5,6,7,8,9] (val W64 h+val W64 ys) (fun k av bv _ _ _ wr=>∃ (h ys:List Nat) (Aa:Option Addr) (F:Nat) (Ab:Option Addr) (cb:Nat),k=val W64 h+val W64 ys∧av=.slice Aa h.length F∧bv=.slice Ab ys.length cb∧Hid (aY w wr g h ys Aa F Ab cb))
 case atStart=>exact⟨h,ys,A1,l0,A3,m0,rfl,rfl,rfl,X0⟩
 case round =>
  clear X0 V1 V X1
  obtain⟨h,ys,Aa,F,Ab,cb,hk,rfl,rfl,d⟩:=hrel
  have HK:=zh hk
  clear hk
  have o:=d.out.len
  have n0:=d.out.2.2.2.2.2.2.2.2.2.2.2.2
  by_cases G:1<ys.length
  ·obtain⟨J,rfl,y0,Y0,H2,Z0⟩:=d.out.1.openG (by intro e;rw[e] at o;simp at o;rw[o] at G;simp at G)
   obtain⟨bB,rfl,B,a1,I2,F2⟩:=d.out.2.1.openG (by intro e;rw[e] at G;simp at G)
   have O:=zh (ZdY J bB F cb h ys wr y0 B d.out.2.2.1 d.out.2.2.2.1 d.out.2.2.2.2.1 o (by omega) d.out.2.2.2.2.2.2.1 (by omega))
   have c1:0<val W64 ys:=aT d.out.2.2.2.2.2.1 zM (by intro e;rw[e] at G;simp at G)
   have z0:=zh c1
   have d1:=zh (d.out.1.natIs d.out.2.2.1 d.out.2.2.2.2.1)
   have e1:=zh (d.out.2.1.natIs d.out.2.2.2.1 d.out.2.2.2.2.2.1)
   have f1:wl (val W64 h)≤79:=by rw[←xR d.out.2.2.1 d.out.2.2.2.2.1];exact n0
   have g1:wl (val W64 ys)≤79:=by rw[←xR d.out.2.2.2.1 d.out.2.2.2.2.2.1];omega
   have i1:=zh f1
   have a2:=zh g1
   have A0:=zh y0
   have j1:=zh B
   have l1:=zh Y0
   have d2:=zh a1
   unfold Zao lT at O
   clear y0 B Y0 a1 c1 f1 g1
   go_wp2_with fail
   refine O.out.mono ?_
   rintro e w1 ⟨u0,u1,v0,v1,odd,rfl,b0,b1,b2,b3,m1,N⟩
   have Y:=zh N
   have e2:=zh m1
   have Hb:=zh (And.intro b0 (And.intro b1 (And.intro b2 b3)))
   clear N m1 b0 b1 b2 b3 O
   by_cases hv:v0=0
   ·subst hv
    go_wp2_with fail
    generalize I:World.alloc w1 _=wb
    have Z:Hid (Ext wr wb):=I ▸ Y.out.alloc _
    clear I Y
    refine (Zb6 _ _ _ _ _ (d1.out.ext Z.out) (e1.out.ext Z.out) (by have:=i1.out;omega) (by have:=a2.out;omega) z0.out).mono ?_
    rintro e w2 ⟨qv,rv,rfl,n1,f2,o1⟩
    obtain⟨Aq,lq,cq,rfl⟩:=n1.slice
    obtain⟨Ar,C,cr,rfl,g2,p1,B0,C0,D0⟩:=f2
    have a0:=zh (Z.out.trans o1)
    have i2:=zh p1
    have j2:=zh B0
    have l2:=zh C0
    have x1:=zh D0
    have J2:C.length≤79:=by
     rw[xR B0 C0,D0]
     have:wl (val W64 h%val W64 ys)≤wl (val W64 h):=wR (oG _ _)
     have:=i1.out;omega
    clear n1 p1 B0 C0 D0 g2 o1 Z
    go_wp2_with fail
    refine (gG Ar C _ cr w2 rfl i2.out (by omega)).mono ?_
    rintro e w3 ⟨Ac,cc,rfl,t,l,s⟩
    have z:=zh (d.out.div z0.out a0.out j2.out l2.out x1.out t l s)
    have E0:Hid (val W64 ys+val W64 C<val W64 h+val W64 ys):=by
     have G:=uP (val W64 h) z0.out
     have h2:=d.out.2.2.2.2.2.2.1
     have h3:=x1.out
     unfold Hid;omega
    clear t l s d d1 e1 A0 j1 l1 d2
    go_wp2
    go_roundg (val W64 ys+val W64 C)
    case measure=>rw[HK.out];exact E0.out
    case rel=>exact⟨ys,C,_,cb,Ac,cc,rfl,rfl,rfl,z⟩
   have K2:((v0:Int) == 0)=false:=by simp;omega
   obtain⟨r0,r1,q1,q2,q3,K⟩:=e2.out.pair hv
   have HQ:=zh (And.intro q1 (And.intro q2 (And.intro q3 K)))
   have m2:J≠bB:=fun e=>d.out.2.2.2.2.2.2.2.2.2.2.2.1 J ⟨_,rfl,rfl⟩ ⟨_,rfl,by simp[e]⟩
   clear q1 q2 q3 K hv
   go_wp2_with fail
   generalize I:World.alloc w1 _=wb
   have L2:=A0.out.lt
   have M2:=j1.out.lt
   have N2:=Y.out.size
   have y1:Hid (Zc3 w wb h ys J F (some ⟨bB,0,none⟩) cb 0 w1.heap.size #[.int .u64 (u0:Int),.int .u64 (u1:Int),.int .u64 (v0:Int),.int .u64 (v1:Int),.bool odd]):=by
    have c0:Ext wr wb:=I ▸ Y.out.alloc _
    refine⟨A0.out.ext c0,l1.out.fr c0 (fun f=>f),by rw[List.replicate_zero,rI];exact d.out.2.1.ext c0,fun b H=>?_,I ▸ Blk.new _ _ _,d.out.2.2.2.2.2.2.2.2.1.trans c0,d.out.2.2.2.2.2.2.2.2.2.1 J ⟨_,rfl,rfl⟩,by omega,?_⟩
    ·obtain⟨a,D,rfl⟩:=H
     injection D with D;subst D
     exact⟨d.out.2.2.2.2.2.2.2.2.2.2.1 bB ⟨_,rfl,rfl⟩,fun e=>m2 e.symm,by show bB≠_;omega⟩
    have:=d.out.2.2.2.2.2.2.2.2.1.size;omega
   clear I
   generalize w1.heap.size=gs at *
   go_loopw [6] (fun bv wq=>∃ (j:Nat) (A6:Option Addr) (S:Nat),ys.length+j≤h.length∧bv=.slice A6 (ys.length+j) S∧Hid (Zc3 w wq h ys J F A6 S j gs #[.int .u64 (u0:Int),.int .u64 (u1:Int),.int .u64 (v0:Int),.int .u64 (v1:Int),.bool odd])) (fun bv _=>match bv with | .slice _ k _=>h.length-k | _=>0)
   case atStart=>exact⟨0,_,cb,by omega,rfl,y1⟩
   case round =>
    clear y1
    obtain⟨j,A6,S,hj,rfl,E⟩:=hrel
    by_cases O2:ys.length+j<h.length
    ·have z1:Hid (zF .u64 (wr.alloc (.cells #[.int .u64 0] 94)) (some ⟨wr.heap.size,0,none⟩) [0]):=(Own.new wr 94 .u64 [0] []).shows0
     have B1:Hid ((ys ++ List.replicate j 0).length=ys.length+j):=by unfold Hid;simp
     go_wp2_with (at_builtin;refine Hid.out ?_)
     refine zh ?_
     refine wT rfl _ _ _ rfl _ .u64 8 Tryz.underlying76 dB A6 (some ⟨wr.heap.size,0,none⟩) (ys.length+j) 1 S 1 rfl rfl (ys ++ List.replicate j 0) [0] B1.out rfl (E.out.2.2.1.ext ((Fr.refl _ _).alloc _)) z1.out (by simp only[maxLen];omega) (by omega) ?_
     intro A7 c7 w3 t l s
     have z:=zh (E.out.next t l s)
     clear t l s z1 B1
     go_wp2
     go_roundw
     case rel=>exact⟨j+1,A7,c7,by omega,by rw[tO],z⟩
     case measure=>simp;omega
    have ej:ys.length+j=h.length:=by omega
    have G2:0<h.length:=by omega
    have o0:ys ++ List.replicate j 0≠[]:=fun e=>by have:=vP List.length e;rw[vH,oC] at this;omega
    obtain⟨bC,rfl,F0,C1,P2,D1⟩:=E.out.2.2.1.openG o0
    have P:=E.out.2.2.2.1 bC ⟨_,rfl,rfl⟩
    have d0:(ys ++ List.replicate j 0).length=h.length:=by simp;omega
    have E1:val W64 (ys ++ List.replicate j 0)=val W64 ys:=by rw[kH,kS];simp
    have G0:Dig W64 (ys ++ List.replicate j 0):=d.out.2.2.2.1.append (Dig.replicate zM _)
    have V:=xZ d.out.2.2.1
    have n2:=d.out.2.2.2.2.2.2.1
    have o2:Hid (yA 168 #[.agg #[.int .u64 (u0:Int),.int .u64 (u1:Int),.int .u64 (v0:Int),.int .u64 (v1:Int),.bool odd],.slice (some ⟨J,0,none⟩) h.length F,.slice (some ⟨bC,0,none⟩) (ys.length+j) S] wr (aK J bC h.length r0 r1 wr)):=by
     obtain⟨q1,q2,q3,K⟩:=HQ.out
     obtain⟨k0,L,M,T⟩:=Hb.out
     unfold Hid
     rw[ej]
     rw[←E1] at K
     cases odd with
     | false =>
      simp only[tT,qU] at K
      exact Zga J bC h.length F S u0 u1 v0 v1 r0 r1 h _ wr rfl d0 E.out.1 F0 (fun e=>P.2.1 e.symm) d.out.2.2.1 G0 (by omega) k0 L M T K.1 K.2 (by omega) (by omega)
     | true =>
      simp only[pS] at K
      exact ZhV J bC h.length F S u0 u1 v0 v1 r0 r1 h _ wr rfl d0 E.out.1 F0 (fun e=>P.2.1 e.symm) d.out.2.2.1 G0 (by omega) k0 L M T K.1 K.2 (by omega) (by omega)
    have s0:wr.cell? ⟨gs,0,none⟩=some (.int .u64 (u0:Int)):=E.out.2.2.2.2.1.cell 0
    have s1:wr.cell? ⟨gs,1,none⟩=some (.int .u64 (u1:Int)):=E.out.2.2.2.2.1.cell 1
    have s2:wr.cell? ⟨gs,2,none⟩=some (.int .u64 (v0:Int)):=E.out.2.2.2.2.1.cell 2
    have s3:wr.cell? ⟨gs,3,none⟩=some (.int .u64 (v1:Int)):=E.out.2.2.2.2.1.cell 3
    have s4:wr.cell? ⟨gs,4,none⟩=some (.bool odd):=E.out.2.2.2.2.1.cell 4
    have p2:=zh C1
    have F1:=zh d0
    have r2:=zh ej
    clear F0 C1 d0 E1 G0 V n2 o0 ej
    go_wp2_with fail
    refine o2.out.mono ?_
    rintro e w3 ⟨C,zt,rfl,Q,R,e0,f0,G1,H1,I1,u2,J1,K1,l⟩
    have v2:=r2.out
    have L1:=zh (eO _ C h.length F w3 I1 Q.shows0 (by omega) (by omega))
    have M1:=zh (eO _ zt (ys.length+j) S w3 (by omega) R.shows0 (by have:=F1.out;omega) (by omega))
    have z:Hid (aY w w3 g (wF C) (wF zt) (some ⟨J,0,none⟩) F (some ⟨bC,0,none⟩) S):=by
     obtain⟨q1,q2,q3,K⟩:=HQ.out
     have t1:=wH C
     have t2:=gB C C.length
     refine⟨Buf.takeG (Or.inr ⟨J,rfl,Q,J1 _ E.out.2.1,by omega,Z0⟩) _,Buf.takeG (Or.inr ⟨bC,rfl,R,K1 _ p2.out,by have:=F1.out;omega,D1⟩) _,iD G1,iD H1,iG _,iG _,?_,?_,?_,fun b H=>?_,fun b H=>?_,fun b H x0=>?_,by omega⟩
     ·rw[wX,wX,e0,f0];omega
     ·rw[wX,wX,e0,f0,q3];exact d.out.2.2.2.2.2.2.2.1
     ·refine E.out.2.2.2.2.2.1.next l (fun i hi e=>?_)
      rcases e with e|e
      ·have:=E.out.2.2.2.2.2.2.1;omega
      have:=P.1;omega
     ·obtain⟨a,D,rfl⟩:=H
      injection D with D;subst D
      exact E.out.2.2.2.2.2.2.1
     ·obtain⟨a,D,rfl⟩:=H
      injection D with D;subst D
      exact P.1
     obtain⟨a,D,rfl⟩:=H
     injection D with D;subst D
     obtain⟨a',H0,e⟩:=x0
     injection H0 with H0;subst H0
     exact P.2.1 e
    have E0:Hid (val W64 (wF C)+val W64 (wF zt)<val W64 h+val W64 ys):=by
     obtain⟨q1,q2,q3,K⟩:=HQ.out
     have h2:=d.out.2.2.2.2.2.2.1
     unfold Hid
     rw[wX,wX,e0,f0];omega
    have N1:=zh (wH C)
    have O1:=zh (wH zt)
    clear Q R e0 f0 G1 H1 J1 K1 l v2 I1 u2
    go_wp2_with fail
    refine L1.out.mono ?_
    rintro e w4 ⟨rfl,rfl⟩
    go_wp2_with fail
    refine M1.out.mono ?_
    rintro e w4 ⟨rfl,rfl⟩
    go_wp2
    go_roundg (val W64 (wF C)+val W64 (wF zt))
    case measure=>rw[HK.out];exact E0.out
    case rel=>exact⟨wF C,wF zt,_,F,_,S,rfl,by rw[N1.out],by rw[O1.out],z⟩
  have P1:decide ((1:Int)<(ys.length:Int))=false:=by simp;omega
  by_cases h0:ys=[]
  ·subst h0
   have HN:Hid (zK wr (.slice Aa h.length F) g):=by
    have L:=d.out.1.natIs d.out.2.2.1 d.out.2.2.2.2.1
    have M:=d.out.2.2.2.2.2.2.2.1
    rw[dH,rQ] at M
    rw[M] at L
    exact L
   have HE:Hid (Ext w wr):=d.out.2.2.2.2.2.2.2.2.1
   clear d G P1 o
   go_wp2
   go_ret
   exact⟨_,rfl,HN.out,HE.out⟩
  obtain⟨y,rfl⟩:∃ y,ys=[y]:=by
   match ys,(by have:=sS.2 h0;omega:ys.length=1) with
   | [y],_=>exact⟨y,rfl⟩
  obtain⟨b3,rfl,B,_⟩:=d.out.2.1.openG h0
  have Q1:=B.cell (i:=0) (by simp)
  simp at Q1
  have x2:=zh B.lt
  have a0:Hid (Ext w wr):=d.out.2.2.2.2.2.2.2.2.1
  have y2:Hid (zF .u64 wr Aa h):=d.out.1.shows
  have U:=zh d.out.2.2.1
  have R1:y<W64:=d.out.2.2.2.1 y (by simp)
  have g0:0<y:=by
   have:=d.out.2.2.2.2.2.1 0 rfl
   simp at this;omega
  have i0:=d.out.2.2.2.2.2.2.2.1
  simp only[gO,dH,tK,tA] at i0
  obtain⟨r,er⟩:=yE (val W64 h%y)
  have I0:Hid (r<W64∧Nat.gcd y r=g∧g<W64):=by
   have L:=uP (val W64 h) g0
   have T:=pD (val W64 h) g0
   rw[i0] at T
   refine⟨by omega,?_,by omega⟩
   rw[←er,← i0,tU y,← qN,tU]
  obtain⟨x,ex⟩:=yE h.length
  rw[ex] at n0 ⊢
  have S1:Hid (wr.cell? ⟨b3,0,none⟩=some (.int .u64 (y:Int))):=Q1
  have z2:=zh g0
  have Hn:=zh R1
  have B2:=zh er
  have T1:=zh ex
  clear d B i0 er ex h0 G P1 o g0 R1
  go_wp2_with fail
  go_region_held3 (fun w'=>w'.cell? ⟨b3,0,none⟩=some (.int .u64 (y:Int)))
   (first|exact S1.out|exact (Fr.cell (p:=⟨b3,0,none⟩) (Fr.undrew hFF) x2.out (fun f=>f)).trans S1.out)
   (first
    | (
     go_at_call 172
     refine (fX Aa h x F y _ T1.out y2.out.drew (by have:=T1.out;omega) U.out z2.out Hn.out).mono ?_
     rintro e w4 ⟨rfl,C2,U1⟩
     rw[B2.out]
     have hFF:Ext wr.drew w4:=U1 ▸ (Fr.refl _ wr.drew).drewN C2
     clear U1)
    | (
     go_at_call 171
     refine (ZaB y r g _ (HG.out.ext (a0.out.trans (Fr.undrew hFF))) Hn.out I0.out.1 I0.out.2.1).mono ?_
     rintro e w5 ⟨rfl,rfl⟩)
    | (
     go_at_call 170
     refine (cC g _ I0.out.2.2).mono ?_
     rintro e w6 ⟨v6,rfl,D2,E2⟩
     replace hFF:Ext wr.drew w6:=hFF.trans E2))
  go_wp2
  go_ret
  exact⟨_,rfl,D2,a0.out.trans (Fr.undrew hFF)⟩
theorem Zjl (u v:Value)(m n:Nat)(w:World)(a:Glob w)(b:zK w u m)(c:zK w v n)(d:wl m≤79)(e:wl n≤79):yA 140 #[u,v] w (wW w (Nat.gcd m n)):=by
 by_cases f:min m n<W64
 ·exact Zcy u v m n w a b c (by omega) (by omega) f
 rcases vJ m n with h|h
 ·exact ZiA v u n m _ w a c b e (by omega) h (tU _ _)
 exact Ziz u v m n _ w a b c d (by omega) h rfl
theorem ZkH (u v:Value)(m n:Nat)(w:World)(a:Glob w)(b:zK w u m)(c:zK w v n)(d:wl m≤4294967296)(e:wl n≤4294967296)(f:min m n<W64∨(wl m≤79∧wl n≤79)):yA 140 #[u,v] w (wW w (Nat.gcd m n)):=by
 rcases f with h|h
 ·exact Zcy u v m n w a b c d e h
 exact Zjl u v m n w a b c h.1 h.2
def ZiZ (x y:Int):Prop:=min x.natAbs y.natAbs<W64∨(wl x.natAbs≤79∧wl y.natAbs≤79)
theorem ZiZ.words {x y:Int}(a:wl x.natAbs≤79)(b:wl y.natAbs≤79):ZiZ x y:=Or.inr ⟨a,b⟩
theorem Zqi (a b:Value)(x y:Int)(w:World)(B:Glob w)(ha:fJ w a x)(C:fJ w b y)(D:Fits x)(E:Fits y)(F:ZiZ x y):yA 95 #[a,b] w (Zf8 w (Int.gcd x y:Int)):=by
 obtain⟨s,A,l,c,rfl,G,I,H⟩:=ha.open
 obtain⟨t,P,R,S,rfl,g,m,n⟩:=C.open
 have J:=zh G
 have o:=zh g
 have K:Hid (wl x.natAbs≤4294967296):=by unfold Fits at D;unfold Hid;omega
 have L:Hid (wl y.natAbs≤4294967296):=by unfold Fits at E;unfold Hid;omega
 have M:=zh B
 have N:=zh F
 obtain⟨z,p⟩:=yE (Int.gcd x y)
 have O:Hid (Nat.gcd x.natAbs y.natAbs=z):=p
 rw[p]
 clear ha C D E G g I m H n B F p
 go_enter Tryz.func95,Tryz.ntmps95
 go_wp2_with fail
 generalize h:World.alloc (World.alloc (World.alloc w _) _) _=wb
 obtain⟨q,r,i,Q⟩:=kN h
 have j:=zh i
 have k:=zh Q
 clear h q r i Q
 refine (ZkH _ _ _ _ _ (M.out.ext k.out) (J.out.ext k.out) (o.out.ext k.out) K.out L.out N.out).mono ?_
 rintro e T ⟨U,rfl,d,f⟩
 rw[O.out] at d
 obtain⟨V,W,X,rfl⟩:=d.slice
 obtain⟨H,Y,Z,z3⟩:=(j.out.ext f).cell2
 have u:=zh d
 have v:=zh f
 clear d f
 go_wp2
 exact Zln (neg:=false) rfl rfl (by omega) k.out j.out v.out u.out rfl rfl
end Go.Proofs.YtklpdkpcocnglaaGreatDoor
namespace Go.Proofs.YtklpdkpcocnglaaGreatDoor
open Go.RowKit Go.Sort
end Go.Proofs.YtklpdkpcocnglaaGreatDoor
namespace Go.Proofs.YtklpdkpcocnglaaGreatDoor
open Go.RowKit Go.Sort
section
variable {w wr w2:World} {A:Option Addr} {L:List UInt8} {cs:List Nat} {Ac:Option Addr} {cc bb t:Nat} {bs:List Nat} {A' A2:Option Addr} {cap' cap2:Nat}
end
end Go.Proofs.YtklpdkpcocnglaaGreatDoor
namespace Go.Proofs.YtklpdkpcocnglaaGreatDoor
open Go.RowKit Go.Sort
end Go.Proofs.YtklpdkpcocnglaaGreatDoor
namespace Go.Proofs.YtklpdkpcocnglaaGreatDoor
open Go.RowKit Go.Sort
end Go.Proofs.YtklpdkpcocnglaaGreatDoor
namespace Go.Proofs.YtklpdkpcocnglaaGreatDoor
open Go.RowKit Go.Sort
end Go.Proofs.YtklpdkpcocnglaaGreatDoor
namespace Go.Proofs.YtklpdkpcocnglaaGreatDoor
open Go.RowKit Go.Sort
theorem TBuf.bytes {w:World}{A:Option Addr}{cap:Nat}{l:List UInt8}(h:TBuf w A cap l)(c:l≠[]):∃ b,A=some ⟨b,0,none⟩∧∀ j (a:j<l.length),w.cell? ((⟨b,0,none⟩:Addr).add j)=some (.int .u8 (l[j].toNat:Int)):=by
 rcases h with ⟨_,h,_⟩|⟨b,rfl,d,_⟩
 ·simp[nats] at h;exact absurd h c
 refine⟨b,rfl,fun j a=>?_⟩
 have:=d.cell (i:=j) (by rw[Zcr];exact a)
 rw[Lib.add_plain,sC,this]
 simp[nats,a]
end Go.Proofs.YtklpdkpcocnglaaGreatDoor
namespace Go.Proofs.YtklpdkpcocnglaaGreatDoor
open Go.RowKit
theorem ZoZ {a p:Nat}:(a:Int).tmod (p:Int)=((a%p:Nat):Int):=by
 rw[tM (by omega),pW]
def jO (w:World) (A:Option Addr) (zs:List Int):Prop :=
 zs≠[]→∃ b off,A=some ⟨b,off,none⟩∧b<w.heap.size∧∀ i,i<zs.length→w.cell? ⟨b,off+i,none⟩=some (.int .i64 (zs.getD i 0))
theorem jO.ext {w w':World}{A:Option Addr}{zs:List Int}(h:jO w A zs)(d:Ext w w'):jO w' A zs:=fun c=>by
 obtain⟨b,a,rfl,e,g⟩:=h c
 exact⟨b,a,rfl,uQ e d.size,fun i j=>(d.cell (p:=⟨b,a+i,none⟩) e (fun f=>f)).trans (g i j)⟩
def Zrl (zs:List Int):Prop:=∀ z∈zs,-9223372036854775808≤z∧z≤9223372036854775807
def zU (c:UInt8):Bool:=decide (48≤c.toNat) && decide (c.toNat≤57)
abbrev bytes (s:ByteArray):List UInt8:=s.data.toList
theorem ZbG {p:UInt8→Bool}:∀ {l:List UInt8} {k:Nat},(l.take k).all p=true→(∀ h:k<l.length,p l[k]=false)→l.takeWhile p=l.take k∧l.dropWhile p=l.drop k
 | [],k,_,_=>by simp
 | x :: l,0,_,h=>by
  have:=h (by simp)
  simp at this
  simp[this]
 | x :: l,k+1,h1,h2=>by
  simp only[List.take_succ_cons,rD,sL] at h1
  have:=ZbG (l:=l) (k:=k) h1.2 (fun h=>by have:=h2 (by simp;omega);simpa using this)
  simp[h1.1,this.1,this.2]
theorem zP (s:ByteArray):(bytes s).length=s.size:=Array.length_toList
theorem lX (s:ByteArray)(a b:Nat):bytes (s.extract a b)=((bytes s).drop a).take (b-a):=Lib.extract_data s a b
theorem Zc6 (s:ByteArray){k:Nat}(h:k<s.size):(bytes s)[k]'(by rw[zP];exact h)=s[k]:=rfl
theorem ZaS (s:ByteArray)(k:Nat)(h:k<s.size):(bytes s).take (k+1)=(bytes s).take k ++ [s[k]]:=by
 rw[tZ (by rw[zP];exact h)];rfl
theorem Zhk {s:ByteArray}{k:Nat}(a:((bytes s).take k).all zU=true)(b:∀ h:k<s.size,zU s[k]=false) :
 bytes (s.extract 0 k)=(bytes s).takeWhile zU∧bytes (s.extract k s.size)=(bytes s).dropWhile zU:=by
 obtain⟨c,d⟩:=ZbG a (fun h=>b (by rw[zP] at h;exact h))
 rw[lX,lX,c,d]
 refine⟨by simp,?_⟩
 rw[uA (by rw[vZ,zP];exact uM _)]
def Zro (s:ByteArray) (w:World) (e:Ending) (w':World):Prop :=
 ∃ t u:ByteArray,e=.returned (.tuple #[.string t,.string u])∧bytes t=(bytes s).takeWhile zU∧bytes u=(bytes s).dropWhile zU∧∃ n,w'=w.drewN n
theorem ZdE (s:ByteArray)(w:World)(i:s.size≤1099511627776):yA 138 #[.string s] w (Zro s w):=by
 go_enter Tryz.func138,Tryz.ntmps138
 go_wp2
 go_loop [4] (fun v=>∃ k:Nat,k≤s.size∧v=.int .i64 (k:Int)∧Hid (((bytes s).take k).all zU=true)) (fun v=>s.size-(intOf v).toNat)
 case atStart=>exact⟨0,rV _,rfl,rfl⟩
 case round =>
  obtain⟨k,j,rfl,c⟩:=hrel
  by_cases b:k<s.size
  ·have f:zU s[k]=(decide (48≤s[k].toNat) && decide (s[k].toNat≤57)):=rfl
   have d:=zh f
   have e:=zh (ZaS s k b)
   clear f
   go_wp2_with fail
   ·have g:48≤(s[k].toNat:Int):=by assumption
    have l:(s[k].toNat:Int)≤57:=by assumption
    go_round
    case rel =>
     refine⟨k+1,by omega,by go_num,?_⟩
     unfold Hid
     rw[e.out,rY,c.out]
     simp only[rD,List.all_nil,Bool.and_true,Bool.true_and]
     rw[d.out,uW (by omega),uW (by omega)];rfl
    case measure=>simp[intOf];omega
   ·have g:57<(s[k].toNat:Int):=by assumption
    have a:=zh (Zhk c.out (fun _=>by rw[d.out,vF (p:=s[k].toNat≤57) (by omega),Bool.and_false]))
    go_quiet (fail)
    go_wp2
    go_ret2
    exact⟨_,_,rfl,a.out.1,a.out.2,_,rfl⟩
   have g:(s[k].toNat:Int)<48:=by assumption
   have a:=zh (Zhk c.out (fun _=>by rw[d.out,vF (p:=48≤s[k].toNat) (by omega),Bool.false_and]))
   go_quiet (fail)
   go_wp2
   go_ret2
   exact⟨_,_,rfl,a.out.1,a.out.2,_,rfl⟩
  have a:=zh (Zhk c.out (fun h=>absurd h b))
  go_wp2_with fail
  go_quiet (fail)
  go_wp2
  go_ret2
  exact⟨_,_,rfl,a.out.1,a.out.2,_,rfl⟩
def zQ (l:List UInt8):Bool×List UInt8:=if l.head? = some 45 then (true,l.tail) else (false,l)
def Zjs (s:ByteArray) (w:World) (e:Ending) (w':World):Prop:=∃ (r:ByteArray) (neg:Bool),e=.returned (.tuple #[.string r,.bool neg])∧zQ (bytes s)=(neg,bytes r)∧w=w'
theorem Zd3 (s:ByteArray)(w:World):yA 104 #[.string s,.string ⟨#[45]⟩] w (Zjs s w):=by
 refine (Tryz.strings_CutPrefix s ⟨#[45]⟩ w).mono ?_
 rintro e c ⟨rfl,rfl⟩
 refine⟨_,_,rfl,?_,rfl⟩
 unfold zQ
 cases h:s.data.toList with
 | nil=>simp[bytes,h,Lib.trimPrefix,Lib.hasPrefix]
 | cons x l =>
  by_cases a:x=45
  ·subst a;simp[bytes,h,Lib.trimPrefix,Lib.hasPrefix]
  have b:¬ 45=x:=fun e=>a e.symm
  simp[bytes,h,Lib.trimPrefix,Lib.hasPrefix,List.isPrefixOf,a,b]
def wQ (l:List UInt8):Bool×List UInt8×List UInt8×Bool :=
 let p:=zQ l
 let num:=p.2.takeWhile zU
 let rest:=p.2.dropWhile zU
 if num=[48] then (p.1,num,[],!p.1 && rest.isEmpty)
 else if num=[]∨num.head? = some 48 then (p.1,num,[],false)
 else if rest=[] then (p.1,num,[],true)
 else if rest.head? ≠ some 47 then (p.1,num,[],false)
 else (p.1,num,rest.tail.takeWhile zU,(rest.tail.dropWhile zU).isEmpty && !(rest.tail.takeWhile zU).isEmpty && (rest.tail.takeWhile zU).head? != some 48 && (rest.tail.takeWhile zU) != [49])
def ZfB (s:ByteArray) (w:World) (e:Ending) (w':World):Prop :=
 ∃ (neg:Bool) (t d:ByteArray) (ok:Bool),e=.returned (.tuple #[.agg #[.bool neg,.string t,.string d],.bool ok])∧wQ (bytes s)=(neg,bytes t,bytes d,ok)∧Ext w w'
theorem ZhX {l r:List UInt8}{neg:Bool}(h:zQ l=(neg,r)):r.length≤l.length:=by
 unfold zQ at h
 split at h<;>(injection h with _ h;subst h;simp)
theorem Zaq {t:ByteArray}(h:bytes t≠[]):0<t.size∧t.toList≠[]∧t.toList.isEmpty=false:=by
 rw[Lib.toList_data]
 have a:0<t.size:=by rw[←zP];exact sS.2 h
 exact⟨a,h,by simpa using h⟩
theorem ZaT {t:ByteArray}(h:0<t.size):(bytes t).head? = some t[0]:=by
 have a:0<(bytes t).length:=by rw[zP];exact h
 rw[List.head?_eq_getElem?,List.getElem?_eq_getElem a,Zc6 t h]
theorem Zhl {b:UInt8}{n:Nat}(a:n<256):((b.toNat:Int) == (n:Int))=decide (b=UInt8.ofNat n):=by
 rw[Bool.eq_iff_iff]
 simp
 constructor
 ·intro h
  have:b.toNat=n:=by omega
  rw[←this];simp
 rintro rfl
 simp[vC a]
theorem Blk.cell3 {t:TypeId}{w:World}{g:Nat}{x y z:Value}(h:Blk t w g #[x,y,z]):w.cell? ⟨g,0,none⟩=some x∧w.cell? ⟨g,1,none⟩=some y∧w.cell? ⟨g,2,none⟩=some z∧w.frozen? ⟨g,0,none⟩=false∧w.frozen? ⟨g,1,none⟩=false∧w.frozen? ⟨g,2,none⟩=false :=
 ⟨h.cell 0,h.cell 1,h.cell 2,h.frozen 0,h.frozen 1,h.frozen 2⟩
theorem jW {fn:Func}{a:Array Value}{w wz:World}{r:Nat}{neg ok:Bool}{s t d:ByteArray}(b:fn.results=#[.cell 2 123,.tmp 3])(c:a[2]? = some (.pointer (some ⟨r,0,none⟩)))(e:a[3]? = some (.bool ok))(f:Blk 123 wz r #[.bool neg,.string t,.string d])(Q:Ext w wz)(g:wQ (bytes s)=(neg,bytes t,bytes d,ok)):bodyPost Tryz.prog fn (ZfB s w) .ret ⟨a,[]⟩ wz:=by
 obtain⟨h,i,j,_⟩:=f.cell3
 refine bodyPost_ret (v:=.tuple #[.agg #[.bool neg,.string t,.string d],.bool ok]) (by simp[results,b,c,e,go_sem,h,i,j]) rfl ⟨neg,t,d,ok,rfl,g,Q⟩
theorem ZhY (s:ByteArray)(w:World)(hs:s.size≤1099511627776):yA 93 #[.string s] w (ZfB s w):=by
 go_enter Tryz.func93,Tryz.ntmps93
 go_wp2_with fail
 refine (Zd3 s _).mono ?_
 rintro e w1 ⟨r,neg,rfl,hr,rfl⟩
 have b0:r.size≤1099511627776:=by
  have:=ZhX hr;rw[zP,zP] at this;omega
 have HR:=zh hr
 clear hr
 go_wp2_with fail
 refine (ZdE r _ b0).mono ?_
 rintro e w1 ⟨t,u,rfl,ht,hu,n1,rfl⟩
 have HT:=zh ht
 have HU:=zh hu
 have e0:u.size≤1099511627776:=by
  have h1:=vP List.length hu
  have h2:=(List.dropWhile_suffix zU (l:=bytes r)).sublist.length_le
  rw[zP] at h1
  rw[zP] at h2
  omega
 have k:Hid (∀ (d:List UInt8) (ok:Bool),wQ (bytes s)=(neg,bytes t,d,ok)↔(if bytes t=[48] then (neg,bytes t,[],!neg && (bytes u).isEmpty)
  else if bytes t=[]∨(bytes t).head? = some 48 then (neg,bytes t,[],false)
  else if bytes u=[] then (neg,bytes t,[],true)
  else if (bytes u).head? ≠ some 47 then (neg,bytes t,[],false)
  else (neg,bytes t,(bytes u).tail.takeWhile zU,((bytes u).tail.dropWhile zU).isEmpty && !((bytes u).tail.takeWhile zU).isEmpty && ((bytes u).tail.takeWhile zU).head? != some 48 && ((bytes u).tail.takeWhile zU) != [49]))=(neg,bytes t,d,ok)):=by
  intro d ok
  unfold wQ
  rw[HR.out]
  simp only[←HT.out,← HU.out]
 clear ht hu
 generalize m:World.alloc (World.alloc w _) _=wb0
 obtain⟨S,T,Q⟩:=Zmh m
 clear m
 generalize m:World.drewN wb0 n1=wb
 have c:Hid (Blk 123 wb w.heap.size #[.bool false,.string ⟨#[]⟩,.string ⟨#[]⟩]):=m ▸ S.drewN n1
 have I:Hid (Blk 123 wb (w.heap.size+1) #[.bool neg,.string ⟨#[]⟩,.string ⟨#[]⟩]):=m ▸ T.drewN n1
 have C:Hid (Ext w wb):=m ▸ Q.drewN n1
 clear m S T Q
 clear wb0
 obtain⟨x0,x1,x2,x3,x4,x5⟩:=c.out.cell3
 obtain⟨y0,y1,y2,y3,y4,y5⟩:=I.out.cell3
 have U:u.toList=bytes u:=Lib.toList_data u
 have V:t.toList=bytes t:=Lib.toList_data t
 have W:=zh U
 have J:=zh V
 clear U V
 by_cases j:bytes t=[48]
 ·have d1:(t.toList == [48])=true:=by rw[J.out,j];rfl
  cases neg with
  | true =>
   have a:Hid (wQ (bytes s)=(true,bytes t,bytes ⟨#[]⟩,false)):=by
    unfold Hid;rw[k.out,uL j];rfl
   clear j
   go_wp2
   exact jW rfl rfl rfl ((((c.out.far (p:=⟨w.heap.size+1,1,none⟩) (by simp) (.string t)).set_ 0 (.bool true)).set_ 1 (.string t)).set_ 2 (.string ⟨#[]⟩)) ((((C.out.setCell (Or.inr (by simp)) _).setCell (Or.inr (by simp)) _).setCell (Or.inr (by simp)) _).setCell (Or.inr (by simp)) _) a.out
  | false =>
   by_cases o:bytes u=[]
   ·have d2:u.toList.isEmpty=true:=by rw[W.out,o,List.isEmpty_nil]
    have a:Hid (wQ (bytes s)=(false,bytes t,bytes ⟨#[]⟩,true)):=by
     unfold Hid;rw[k.out,uL j,o];rfl
    clear j o
    go_wp2
    exact jW rfl rfl rfl ((((c.out.far (p:=⟨w.heap.size+1,1,none⟩) (by simp) (.string t)).set_ 0 (.bool false)).set_ 1 (.string t)).set_ 2 (.string ⟨#[]⟩)) ((((C.out.setCell (Or.inr (by simp)) _).setCell (Or.inr (by simp)) _).setCell (Or.inr (by simp)) _).setCell (Or.inr (by simp)) _) a.out
   have d2:u.toList.isEmpty=false:=(Zaq o).2.2
   have a:Hid (wQ (bytes s)=(false,bytes t,bytes ⟨#[]⟩,false)):=by
    unfold Hid;rw[k.out,uL j,show (bytes u).isEmpty=false by simpa using o];rfl
   clear j o
   go_wp2
   exact jW rfl rfl rfl ((((c.out.far (p:=⟨w.heap.size+1,1,none⟩) (by simp) (.string t)).set_ 0 (.bool false)).set_ 1 (.string t)).set_ 2 (.string ⟨#[]⟩)) ((((C.out.setCell (Or.inr (by simp)) _).setCell (Or.inr (by simp)) _).setCell (Or.inr (by simp)) _).setCell (Or.inr (by simp)) _) a.out
 have d1:(t.toList == [48])=false:=by rw[J.out];simpa using j
 by_cases o:bytes t=[]
 ·have d2:t.toList=[]:=J.out.trans o
  have a:Hid (wQ (bytes s)=(neg,bytes t,bytes ⟨#[]⟩,false)):=by
   unfold Hid;rw[k.out,uJ j,uL (Or.inl o)]
  clear j o
  go_wp2
  exact jW rfl rfl rfl ((((c.out.far (p:=⟨w.heap.size+1,1,none⟩) (by simp) (.string t)).set_ 0 (.bool neg)).set_ 1 (.string t)).set_ 2 (.string ⟨#[]⟩)) ((((C.out.setCell (Or.inr (by simp)) _).setCell (Or.inr (by simp)) _).setCell (Or.inr (by simp)) _).setCell (Or.inr (by simp)) _) a.out
 obtain⟨g1,g2,g3⟩:=Zaq o
 have g:=Zhl (b:=t[0]) (n:=48) (by omega)
 have i:=ZaT g1
 by_cases M:t[0]=48
 ·have d3:((t[0].toNat:Int) == 48)=true:=by rw[show (48:Int)=((48:Nat):Int) from rfl,g];simpa using M
  have a:Hid (wQ (bytes s)=(neg,bytes t,bytes ⟨#[]⟩,false)):=by
   unfold Hid;rw[k.out,uJ j,uL (Or.inr (by rw[i,M]))]
  clear j o M g i
  go_wp2
  exact jW rfl rfl rfl ((((c.out.far (p:=⟨w.heap.size+1,1,none⟩) (by simp) (.string t)).set_ 0 (.bool neg)).set_ 1 (.string t)).set_ 2 (.string ⟨#[]⟩)) ((((C.out.setCell (Or.inr (by simp)) _).setCell (Or.inr (by simp)) _).setCell (Or.inr (by simp)) _).setCell (Or.inr (by simp)) _) a.out
 have d3:((t[0].toNat:Int) == 48)=false:=by rw[show (48:Int)=((48:Nat):Int) from rfl,g];simpa using M
 have N:¬ (bytes t=[]∨(bytes t).head? = some 48):=by
  rintro (h|h)
  ·exact o h
  rw[i] at h;injection h with h;exact M h
 clear g i M o
 by_cases H:bytes u=[]
 ·have d5:u.toList.isEmpty=true:=by rw[W.out,H];rfl
  have a:Hid (wQ (bytes s)=(neg,bytes t,bytes ⟨#[]⟩,true)):=by
   unfold Hid;rw[k.out,uJ j,uJ N,uL H]
  clear j N H
  go_wp2
  exact jW rfl rfl rfl ((((c.out.far (p:=⟨w.heap.size+1,1,none⟩) (by simp) (.string t)).set_ 0 (.bool neg)).set_ 1 (.string t)).set_ 2 (.string ⟨#[]⟩)) ((((C.out.setCell (Or.inr (by simp)) _).setCell (Or.inr (by simp)) _).setCell (Or.inr (by simp)) _).setCell (Or.inr (by simp)) _) a.out
 obtain⟨k1,k2,k3⟩:=Zaq H
 have g:=Zhl (b:=u[0]) (n:=47) (by omega)
 have i:=ZaT k1
 by_cases O:u[0]=47
 ·have d6:((u[0].toNat:Int) != 47)=false:=by
   have:((u[0].toNat:Int) == 47)=true:=by rw[show (47:Int)=((47:Nat):Int) from rfl,g];simpa using O
   simp[bne,this]
  have H6:Hid (¬ (bytes u).head? ≠ some 47):=by unfold Hid;rw[i,O];simp
  have HC:Hid (bytes t≠[48]∧¬ (bytes t=[]∨(bytes t).head? = some 48)∧bytes u≠[]):=⟨j,N,H⟩
  clear j N H O g i
  go_wp2_with fail
  refine (ZdE (u.extract 1 u.size) _ (by rw[rE];omega)).mono ?_
  rintro e w1 ⟨v,x,rfl,hv,hx,n2,rfl⟩
  have ev:bytes (u.extract 1 u.size)=(bytes u).tail:=by
   rw[lX,uA (by rw[vZ,zP];exact uM _),List.drop_one]
  rw[ev] at hv hx
  have X:Hid (∀ ok,(((bytes x).isEmpty && !(bytes v).isEmpty && (bytes v).head? != some 48 && (bytes v) != [49])=ok)→wQ (bytes s)=(neg,bytes t,bytes v,ok)):=by
   intro ok h
   rw[k.out,uJ HC.out.1,uJ HC.out.2.1,uJ HC.out.2.2,uJ H6.out,← hv,← hx,h]
  have Y:v.toList=bytes v:=Lib.toList_data v
  have Z:x.toList=bytes x:=Lib.toList_data x
  have D:=zh Y
  have c0:=zh Z
  clear hv hx ev Y Z d6
  generalize E:World.setCell wb _ _=wc0
  generalize F:World.drewN wc0 n2=wd
  have f:Hid (Blk 123 wd w.heap.size #[.bool false,.string ⟨#[]⟩,.string ⟨#[]⟩]):=F ▸ E ▸ (c.out.far (p:=⟨w.heap.size+1,1,none⟩) (by simp) _).drewN n2
  have a0:Hid (Blk 123 wd (w.heap.size+1) #[.bool neg,.string t,.string ⟨#[]⟩]):=F ▸ E ▸ (I.out.set_ 1 _).drewN n2
  have z:Hid (Ext w wd):=F ▸ E ▸ (C.out.setCell (Or.inr (by simp)) _).drewN n2
  clear F E c I C x0 x1 x2 x3 x4 x5 y0 y1 y2 y3 y4 y5
  clear wc0
  obtain⟨x0,x1,x2,x3,x4,x5⟩:=f.out.cell3
  obtain⟨y0,y1,y2,y3,y4,y5⟩:=a0.out.cell3
  go_wp2_with fail
  by_cases y:bytes x=[]
  ·have r1:x.toList.isEmpty=true:=by rw[c0.out,y,List.isEmpty_nil]
   by_cases G:bytes v=[]
   ·have r2:v.toList.isEmpty=true:=by rw[D.out,G,List.isEmpty_nil]
    have f0:v.toList=[]:=D.out.trans G
    have a:=zh (X.out false (by rw[y,G];rfl))
    clear y G
    go_region
    all_goals go_wp2
    all_goals exact jW rfl rfl rfl (((((f.out.far (p:=⟨w.heap.size+1,2,none⟩) (by simp) (.string v)).set_ 0 (.bool neg)).set_ 1 (.string t)).set_ 2 (.string v)).drewN 1) (((((z.out.setCell (Or.inr (by simp)) _).setCell (Or.inr (by simp)) _).setCell (Or.inr (by simp)) _).setCell (Or.inr (by simp)) _).drewN 1) a.out
   obtain⟨g4,g5,g6⟩:=Zaq G
   have A:=Zhl (b:=v[0]) (n:=48) (by omega)
   have B:=ZaT g4
   have q:(bytes v).isEmpty=false:=by simpa using G
   by_cases K:v[0]=48
   ·have P:((v[0].toNat:Int) == 48)=true:=by rw[show (48:Int)=((48:Nat):Int) from rfl,A];simpa using K
    have d0:((v[0].toNat:Int) != 48)=false:=by rw[bne,P];rfl
    have a:=zh (X.out false (by rw[y,q,B,K];rfl))
    clear y G K A B q P
    go_region
    all_goals go_wp2
    all_goals exact jW rfl rfl rfl (((((f.out.far (p:=⟨w.heap.size+1,2,none⟩) (by simp) (.string v)).set_ 0 (.bool neg)).set_ 1 (.string t)).set_ 2 (.string v)).drewN 1) (((((z.out.setCell (Or.inr (by simp)) _).setCell (Or.inr (by simp)) _).setCell (Or.inr (by simp)) _).setCell (Or.inr (by simp)) _).drewN 1) a.out
   have P:((v[0].toNat:Int) == 48)=false:=by rw[show (48:Int)=((48:Nat):Int) from rfl,A];simpa using K
   have d0:((v[0].toNat:Int) != 48)=true:=by rw[bne,P];rfl
   have n3:((bytes v).head? != some 48)=true:=by rw[B];simpa using K
   by_cases R:bytes v=[49]
   ·have r4:(v.toList == [49])=true:=by rw[D.out,R];rfl
    have L:(v.toList != [49])=false:=by rw[bne,r4];rfl
    have a:=zh (X.out false (by rw[y,n3,q,R];rfl))
    clear y G K R A B q n3 P L
    go_region
    all_goals go_wp2
    all_goals exact jW rfl rfl rfl (((((f.out.far (p:=⟨w.heap.size+1,2,none⟩) (by simp) (.string v)).set_ 0 (.bool neg)).set_ 1 (.string t)).set_ 2 (.string v)).drewN 1) (((((z.out.setCell (Or.inr (by simp)) _).setCell (Or.inr (by simp)) _).setCell (Or.inr (by simp)) _).setCell (Or.inr (by simp)) _).drewN 1) a.out
   have r4:(v.toList == [49])=false:=by rw[D.out];simpa using R
   have L:(v.toList != [49])=true:=by rw[bne,r4];rfl
   have a:=zh (X.out true (by rw[y,n3,q,show (bytes v != [49])=true by rw[bne];simpa using R];rfl))
   clear y G K R A B q n3 P L
   go_region
   all_goals go_wp2
   all_goals exact jW rfl rfl rfl (((((f.out.far (p:=⟨w.heap.size+1,2,none⟩) (by simp) (.string v)).set_ 0 (.bool neg)).set_ 1 (.string t)).set_ 2 (.string v)).drewN 1) (((((z.out.setCell (Or.inr (by simp)) _).setCell (Or.inr (by simp)) _).setCell (Or.inr (by simp)) _).setCell (Or.inr (by simp)) _).drewN 1) a.out
  have r1:x.toList.isEmpty=false:=(Zaq y).2.2
  have a:=zh (X.out false (by rw[show (bytes x).isEmpty=false by simpa using y];rfl))
  clear y
  go_region
  all_goals go_wp2
  all_goals exact jW rfl rfl rfl (((((f.out.far (p:=⟨w.heap.size+1,2,none⟩) (by simp) (.string v)).set_ 0 (.bool neg)).set_ 1 (.string t)).set_ 2 (.string v)).drewN 1) (((((z.out.setCell (Or.inr (by simp)) _).setCell (Or.inr (by simp)) _).setCell (Or.inr (by simp)) _).setCell (Or.inr (by simp)) _).drewN 1) a.out
 have d6:((u[0].toNat:Int) != 47)=true:=by
  have:((u[0].toNat:Int) == 47)=false:=by rw[show (47:Int)=((47:Nat):Int) from rfl,g];simpa using O
  simp[bne,this]
 have a:Hid (wQ (bytes s)=(neg,bytes t,bytes ⟨#[]⟩,false)):=by
  unfold Hid;rw[k.out,uJ j,uJ N,uJ H,uL (by rw[i];simpa using O)]
 clear j N H O g i
 go_wp2
 exact jW rfl rfl rfl ((((c.out.far (p:=⟨w.heap.size+1,1,none⟩) (by simp) (.string t)).set_ 0 (.bool neg)).set_ 1 (.string t)).set_ 2 (.string ⟨#[]⟩)) ((((C.out.setCell (Or.inr (by simp)) _).setCell (Or.inr (by simp)) _).setCell (Or.inr (by simp)) _).setCell (Or.inr (by simp)) _) a.out
def zH (l:List UInt8):Nat:=l.foldl (fun n c=>10*n+(c.toNat-48)) 0
theorem dK (l:List UInt8)(c:UInt8):zH (l ++ [c])=10*zH l+(c.toNat-48):=by simp[zH]
theorem bZ (a b:List UInt8):zH (a ++ b)=zH a*10^b.length+zH b:=by
 have d:∀ (b:List UInt8) (n:Nat),b.foldl (fun n c=>10*n+(c.toNat-48)) n=n*10^b.length+b.foldl (fun n c=>10*n+(c.toNat-48)) 0:=by
  intro b
  induction b with
  | nil=>intro n;simp
  | cons c b ih =>
   intro n
   simp only[List.foldl_cons,sQ]
   rw[ih,ih (10*0+(c.toNat-48)),uO,tK,sC,uU,tO]
   congr 1
   rw[uF (10^b.length) 10,← uG,uF n 10]
 unfold zH
 rw[List.foldl_append,d]
theorem cI {c:UInt8}(h:zU c=true):48≤c.toNat∧c.toNat-48≤9:=by
 unfold zU at h
 simp at h
 omega
theorem Zcs (c:UInt8)(l:List UInt8):zH (c :: l)=(c.toNat-48)*10^l.length+zH l:=by
 have:=bZ [c] l
 simpa [zH] using this
theorem lR:∀ (l:List UInt8),l.all zU=true→zH l<10^l.length
 | [],_=>by simp[zH]
 | c :: l,h=>by
  rw[rD,sL] at h
  have b:=lR l h.2
  have a:=cI h.1
  have d:(c.toNat-48)*10^l.length≤9*10^l.length:=uC _ a.2
  rw[Zcs,sQ,uO]
  omega
def gC (xs:List Nat) (y q k:Nat) (m:List Nat) (c:Nat):Prop :=
 m.length=xs.length∧m.drop k=xs.drop k∧Dig W64 m∧c<W64∧val W64 (m.take k)+W64^k*c=val W64 (xs.take k)*y+q
theorem gC.start {xs:List Nat}{y q:Nat}(h:Dig W64 xs)(a:q<W64):gC xs y q 0 xs q:=⟨rfl,rfl,h,a,by simp⟩
theorem gC.at {xs m:List Nat}{y q k c:Nat}(h:gC xs y q k m c):m[k]?.getD 0=xs[k]?.getD 0:=by
 have:=vP (fun l=>l[0]?.getD 0) h.2.1
 simpa [List.getElem?_drop] using this
theorem gC.step {xs m:List Nat}{y q k c z:Nat}(h:gC xs y q k m c)(d:k<xs.length)(a:m[k]?.getD 0=z)(e:y<W64):gC xs y q (k+1) (m.set k (maLo z y c)) (maHi z y c):=by
 have f:xs[k]?.getD 0=z:=h.at.symm.trans a
 obtain⟨g,i,b,j,o⟩:=h
 refine⟨by simpa using g,?_,b.set k (Zhe _ _ _),ZcA (a ▸ b.getD zM k) e j,?_⟩
 ·rw[vX (by omega),← vM,← vM,i]
 rw[xL _ _ _ _ (by omega),zR k d,f,uO]
 have l:=ZeJ z y c
 have n:=vP (W64^k * ·) l
 simp only[uN] at n
 rw[uU,uG,uG]
 omega
theorem gC.done {xs m:List Nat}{y q c:Nat}(h:gC xs y q xs.length m c):val W64 m+W64^xs.length*c=val W64 xs*y+q:=by
 obtain⟨b,d,e,f,a⟩:=h
 rwa [uA (by omega),uA (by omega)] at a
theorem Zmk {m:List Nat}(b:Dig W64 m)(h:∀ k,m.length=k+1→W64^k≤val W64 m):Trim m:=by
 intro k c d
 have a:=h k c
 rw[xU (xs:=m) k,xV k (by omega),d,uX (by omega:m.length≤k+1)] at a
 have e:=xZ (b.take k)
 rw[uY,uV (by omega)] at e
 simp at a
 omega
theorem gC.zero {xs m:List Nat}{y q:Nat}(h:gC xs y q xs.length m 0)(b:Trim xs)(c:1≤y):Trim m∧val W64 m=val W64 xs*y+q:=by
 have a:=h.done
 simp at a
 refine⟨Zmk h.2.2.1 (fun k d=>?_),a⟩
 have e:=ZdQ (B:=W64) b (k:=k) (by rw[←h.1];exact d)
 have f:val W64 xs*1≤val W64 xs*y:=uK _ c
 omega
theorem gC.more {xs m:List Nat}{y q c:Nat}(h:gC xs y q xs.length m c)(a:c≠0):Trim (m ++ [c])∧Dig W64 (m ++ [c])∧val W64 (m ++ [c])=val W64 xs*y+q:=by
 refine⟨?_,h.2.2.1.append (Dig.nil.cons h.2.2.2.1),?_⟩
 ·intro k b
  have:k=m.length:=by simp at b;omega
  subst this
  simpa using a
 rw[kH,h.1,gO,dH,tK,tA]
 exact h.done
theorem Buf.open_ {k:IntKind}{e:TypeId}{w:World}{A:Option Addr}{cap:Nat}{xs:List Nat}(h:Buf k e w A cap xs)(a:xs≠[]):∃ b,A=some ⟨b,0,none⟩∧Own k e w b xs∧gX e w b cap∧xs.length≤cap∧cap≤maxLen:=by
 rcases h with ⟨_,h,_⟩|h
 ·exact absurd h a
 exact h
theorem Buf.set_ {k:IntKind}{e:TypeId}{w:World}{b cap:Nat}{xs:List Nat}(h:Own k e w b xs)(a:gX e w b cap)(c:xs.length≤cap)(d:cap≤maxLen)(i v:Nat)(hi:i<xs.length):Buf k e (w.setCell ⟨b,i,none⟩ (.int k (v:Int))) (some ⟨b,0,none⟩) cap (xs.set i v) :=
 Or.inr ⟨b,rfl,h.set i v hi,a.setCell b i _,by simpa using c,d⟩
def Zgi (w wr:World) (T:Nat) (d:ByteArray) (A:Option Addr) (cap:Nat) (xs:List Nat):Prop :=
 Buf .u64 94 wr A cap xs∧Dig W64 xs∧Trim xs∧val W64 xs*10^d.size+zH (bytes d)=T∧(bytes d).all zU=true∧Ext w wr∧∀ b,xP A b→w.heap.size≤b
theorem Zgi.len {w wr:World}{T:Nat}{d:ByteArray}{A:Option Addr}{cap:Nat}{xs:List Nat}(h:Zgi w wr T d A cap xs):xs.length≤wl T:=by
 obtain⟨_,a,b,c,_⟩:=h
 rw[xR a b]
 apply wR
 have:val W64 xs*1≤val W64 xs*10^d.size:=uK _ (uT (by omega))
 omega
theorem ZpW {n:Nat}(h:n≤19):10^n≤10000000000000000000:=by
 have:10^n≤10^19:=uR (by omega) h
 exact this
theorem Zgj (d:ByteArray)(w:World)(T:Nat)(hd:(bytes d).all zU=true)(hT:zH (bytes d)=T)(hw:wl T≤1048576)(hl:d.size≤1099511627776) :
 yA 192 #[.string d] w (wW w T):=by
 have HD:=zh hd
 have HT:=zh hT
 clear hd hT
 have R0:=fun (w:World) (s:ByteArray)=>Lib.run_convert_string_bytes (P:=Tryz.prog) w 9 143 5 s Tryz.underlying9 Tryz.underlying143 Tryz.underlying5
 go_enter Tryz.func192,Tryz.ntmps192
 go_wp2
 go_loopw [0,3] (fun v0 v3 wr=>∃ (d:ByteArray) (A:Option Addr) (f:Nat) (l:List Nat),v0=.string d∧v3=.slice A l.length f∧d.size≤1099511627776∧Hid (Zgi w wr T d A f l)) (fun v0 _ _=>match v0 with | .string d=>d.size | _=>0)
 case atStart=>exact⟨d,none,0,[],rfl,rfl,hl,Buf.nil,Dig.nil,Trim.nil,by simpa using HT.out,HD.out,Fr.refl _ _,fun b M=>by obtain⟨a,ha,_⟩:=M;cases ha⟩
 case round =>
  obtain⟨d,A,f,l,rfl,rfl,hl,o⟩:=hrel
  by_cases M0:0<d.size
  ·have Y:=o.out.len
   obtain⟨n,hn⟩:=yE d.size
   obtain⟨z,hz⟩:=yE ((n-1)%19)
   have N0:z≤18:=by omega
   have u0:z+1≤n:=by have:=oG (n-1) 19;omega
   have e1:((n:Int)-1)%19=(z:Int):=by omega
   have S0:(1:Int)≤(n:Int):=by omega
   have T0:(0:Int)≤(n:Int)-1:=by omega
   have U0:((z:Int)+1)≤(n:Int):=by omega
   have V0:((z:Int)+1).toNat=z+1:=by omega
   go_wp2_with fail
   have w0:(d.extract 0 (z+1)).size=z+1:=by rw[rE];omega
   have Z:bytes (d.extract 0 (z+1))=(bytes d).take (z+1):=by rw[lX];simp
   have G:Ext wr (Lib.bytesWorld wr 5 (d.extract 0 (z+1))):=⟨rfl,rfl,rfl,by rw[Lib.bytesWorld_size];omega,fun i hi _=>Lib.bytesWorld_at_old _ _ _ i hi⟩
   have H:∀ j,j<z+1→(Lib.bytesWorld wr 5 (d.extract 0 (z+1))).cell? ⟨wr.heap.size,j,none⟩=some (.int .u8 ((bytes d).getD j 0).toNat):=fun j hj=>by
    rw[Lib.bytesWorld_cell _ _ _ j (by omega)]
    have:(d.extract 0 (z+1)).data.toList=(bytes d).take (z+1):=Z
    rw[this]
    simp[List.getElem?_take_of_lt hj]
   have O0:wr.heap.size<(Lib.bytesWorld wr 5 (d.extract 0 (z+1))).heap.size:=by rw[Lib.bytesWorld_size];omega
   generalize Lib.bytesWorld wr 5 (d.extract 0 (z+1))=wB at *
   have HX:=zh G
   have HC:=zh H
   have Hn:=zh hn
   have Hz:=zh hz
   have x0:Hid ((bytes d).length=n):=by unfold Hid;rw[zP];exact hn
   clear G H w0 Z hn hz
   go_loop [5,6,25] (fun v5 v6 y0=>∃ j c p:Nat,j≤z+1∧y0=.int .i64 (j:Int)∧v5=.int .u64 (c:Int)∧v6=.int .u64 (p:Int)∧c<p∧p≤10000000000000000000∧Hid (c=zH ((bytes d).take j)∧p=10^j)) (fun _ _ v=>z+1-(intOf v).toNat)
   case atStart=>exact⟨0,0,1,by omega,rfl,rfl,rfl,by omega,by omega,by unfold Hid;simp[zH]⟩
   case round =>
    obtain⟨j,c,p,hj,rfl,rfl,rfl,W0,hp,hJ⟩:=hrel
    by_cases N:j<z+1
    ·have X0:=HC.out j N
     have r:j<(bytes d).length:=by rw[x0.out];omega
     have a0:=cI (c:=(bytes d).getD j 0) (by
      rw[List.getD_eq_getElem?_getD,List.getElem?_eq_getElem r]
      exact vR.1 o.out.2.2.2.2.1 _ (rO r))
     have z0:Hid (zH ((bytes d).take (j+1))=10*zH ((bytes d).take j)+(((bytes d).getD j 0).toNat-48)):=by
      unfold Hid
      rw[tZ r,dK,List.getD_eq_getElem?_getD,List.getElem?_eq_getElem r]
      rfl
     have b0:Hid (zH ((bytes d).take (j+1))<10^(j+1)):=by
      have h:=lR ((bytes d).take (j+1)) (by
       rw[vR];intro x hx
       exact vR.1 o.out.2.2.2.2.1 _ (rU hx))
      rw[uY,uV (by omega)] at h
      exact h
     have t:=ZpW (n:=j+1) (by omega)
     rw[uO,← hJ.out.2] at t
     generalize ((bytes d).getD j 0).toNat=x at *
     have f1:IntKind.u64.wrap (10*(c:Int))=((10*c:Nat):Int):=by
      rw[show 10*(c:Int)=((10*c:Nat):Int) by omega];exact wE _ (by rw[zO];omega)
     have f2:IntKind.u8.wrap ((x:Int)-48)=((x-48:Nat):Int):=by
      rw[show (x:Int)-48=((x-48:Nat):Int) by omega,IntKind.wrap_u8];omega
     have f3:IntKind.u64.wrap ((x-48:Nat):Int)=((x-48:Nat):Int):=wE _ (by rw[zO];omega)
     have f4:IntKind.u64.wrap (((10*c:Nat):Int)+((x-48:Nat):Int))=((10*c+(x-48):Nat):Int):=kU (by rw[zO];omega)
     have f5:IntKind.u64.wrap ((p:Int)*10)=((p*10:Nat):Int):=by
      rw[show (p:Int)*10=((p*10:Nat):Int) by omega];exact wE _ (by rw[zO];omega)
     obtain⟨c1,c0⟩:=yE (10*c)
     obtain⟨y,O⟩:=yE (x-48)
     obtain⟨c2,d0⟩:=yE (c1+y)
     obtain⟨p2,e0⟩:=yE (p*10)
     have HN:Hid (c2=zH ((bytes d).take (j+1))∧p2=10^(j+1)):=by
      unfold Hid
      rw[z0.out,← hJ.out.1,uO,← hJ.out.2]
      omega
     have f0:c2<p2:=by rw[HN.out.1,HN.out.2];exact b0.out
     rw[c0] at f1 f4
     rw[O] at f2 f3 f4
     rw[d0] at f4
     rw[e0] at f5 t
     have Y0:wr.heap.size≠wB.heap.size:=by omega
     clear c0 O d0 e0 a0 r
     go_wp2
     go_round
     case rel=>exact⟨j+1,c2,p2,by omega,by go_num,rfl,rfl,f0,t,HN.out⟩
     case measure=>simp[intOf];omega
    obtain rfl:j=z+1:=by omega
    have Z0:z+1≤d.size:=by rw[Hn.out];exact u0
    have g0:bytes (d.extract (z+1) d.size)=(bytes d).drop (z+1):=by
     rw[lX,uA (by rw[vZ,zP];exact uM _)]
    have I:(d.extract (z+1) d.size).size=d.size-(z+1):=by rw[rE];omega
    have i0:=zh g0
    have u:=zh I
    clear g0 I
    go_wp2_with fail
    have A0:=zh o.out.1
    have j0:=zh o.out.2.1
    have R:=zh o.out.2.2.1
    have k0:Hid (∀ m,val W64 m=val W64 l*p+c→val W64 m*10^(d.extract (z+1) d.size).size+zH (bytes (d.extract (z+1) d.size))=T):=by
     intro m hm
     rw[hm,u.out,i0.out,← o.out.2.2.2.1]
     have S:bytes d=(bytes d).take (z+1) ++ (bytes d).drop (z+1):=(rK _ _).symm
     conv=>rhs;rw[S,bZ,← hJ.out.1]
     rw[vZ,zP,hJ.out.2,uU,uG,← uS,tO]
     congr 3
     omega
    have J:Hid ((bytes (d.extract (z+1) d.size)).all zU=true):=by
     unfold Hid
     rw[i0.out,vR]
     intro x hx
     exact vR.1 o.out.2.2.2.2.1 _ (List.mem_of_mem_drop hx)
    have B0:=zh o.out.2.2.2.2.2.1
    have F:=zh o.out.2.2.2.2.2.2
    have K:(d.extract (z+1) d.size).size≤1099511627776:=by rw[u.out];omega
    have B:Hid ((d.extract (z+1) d.size).size<d.size):=by rw[Hid,u.out];omega
    generalize d.extract (z+1) d.size=d2 at *
    have a1:=Y
    have C0:Hid (c<W64):=by unfold Hid;rw[zO];omega
    have l0:Hid (p<W64):=by unfold Hid;rw[zO];omega
    have D0:Hid (1≤p):=by unfold Hid;omega
    go_loopw [9,44] (fun v9 E0 wx=>∃ (k q:Nat) (m:List Nat),k≤l.length∧E0=.int .i64 (k:Int)∧v9=.int .u64 (q:Int)∧Hid (gC l p c k m q)∧Hid (Buf .u64 94 wx A f m)∧Hid (Fr (xP A) wB wx)) (fun _ v _=>l.length-(intOf v).toNat)
    case atStart=>exact⟨0,c,l,by omega,rfl,rfl,gC.start j0.out C0.out,A0.out.ext HX.out,Fr.refl _ _⟩
    case round =>
     obtain⟨k,q,m,hk,rfl,rfl,U,X,hF⟩:=hrel
     have g:m.length=l.length:=U.out.1
     by_cases N:k<l.length
     ·obtain⟨b,rfl,hO,hC,m0,n0⟩:=X.out.open_ (by intro e;rw[e] at g;simp at g;omega)
      obtain⟨y,O⟩:=yE (m[k]?.getD 0)
      have V:=hO.cell (i:=k) (by omega)
      rw[O] at V
      have P0:=hO.frozen k
      have F0:Hid (y<W64):=O ▸ U.out.2.2.1.getD zM k
      have G0:=zh (U.out.step N O l0.out)
      have o0:=fun v=>Buf.set_ hO hC m0 n0 k v (by omega)
      have H0:=zh o0
      have I0:=zh U.out.2.2.2.1
      have J0:=hO.lt
      have Q0:b≠wr.heap.size:=by omega
      have C:=zh g
      clear hO hC m0 n0 O o0 g
      go_wp2_with (go_at_call 197;refine (kI y p q _ F0.out l0.out I0.out).mono ?_;rintro e w' ⟨rfl,rfl⟩)
      go_roundw
      case rel=>exact⟨k+1,_,_,by omega,by go_num,rfl,G0.out,H0.out _,hF.out.setCell (p:=⟨b,k,none⟩) (Or.inl ⟨_,rfl,rfl⟩) _⟩
      case measure=>simp[intOf];omega
     obtain rfl:k=l.length:=by omega
     have W:Hid (Ext w wr):=(B0.out.trans HX.out).next hF.out (fun i hi M=>by have:=F.out i M;omega)
     by_cases hq:q=0
     ·subst hq
      obtain⟨S,h2⟩:=U.out.zero R.out D0.out
      have D:Hid (Zgi w wr T d2 A f m):=⟨X.out,U.out.2.2.1,S,k0.out m h2,J.out,W.out,F.out⟩
      have C:=zh g
      clear S h2 g
      go_wp2
      go_roundw
      case rel=>exact⟨d2,A,f,m,rfl,by rw[C.out],K,D.out⟩
      case measure=>exact B.out
     have b1:((q:Int) != 0)=true:=by simp;omega
     obtain⟨S,h2,h3⟩:=U.out.more hq
     have E:Hid (Trim (m ++ [q])∧Dig W64 (m ++ [q])∧val W64 (m ++ [q])=val W64 l*p+c):=⟨S,h2,h3⟩
     have C:=zh g
     have K0:Hid (zF .u64 (wr.alloc (.cells #[.int .u64 (q:Int)] 94)) (some ⟨wr.heap.size,0,none⟩) [q]):=(Own.new wr 94 .u64 [q] []).shows0
     clear S h2 h3 g hq
     go_wp2_with (at_builtin;refine Hid.out ?_)
     refine zh ?_
     refine wT rfl _ _ _ rfl _ .u64 8 Tryz.underlying76 dB A (some ⟨wr.heap.size,0,none⟩) l.length 1 f 1 rfl rfl m [q] C.out rfl (X.out.ext ((Fr.refl _ _).alloc _)) K0.out (by simp only[maxLen];omega) (by omega) ?_
     intro A1 L w2 p0 q0 r0
     have D:Hid (Zgi w w2 T d2 A1 L (m ++ [q])):=by
      refine⟨p0,E.out.2.1,E.out.1,k0.out _ E.out.2.2,J.out,?_,?_⟩
      ·exact (W.out.alloc _).next q0 (fun i hi M=>by have:=F.out i M;omega)
      intro b M
      rcases r0 b M with h|h
      ·exact F.out b h
      have:=W.out.size;simp at h;omega
     clear p0 q0 r0
     go_wp2
     go_roundw
     case rel=>exact⟨d2,A1,L,m ++ [q],rfl,by rw[vH,C.out];rfl,K,D.out⟩
     case measure=>exact B.out
  have h0:d.size=0:=by omega
  obtain⟨X,hD,s0,hV,_,Q,hN⟩:=o.out
  have t0:bytes d=[]:=tI.1 (by rw[zP];exact h0)
  rw[h0,t0,vT,sB] at hV
  have HB:=zh X
  have L0:=zh hD
  have R:=zh s0
  have HV:Hid (val W64 l=T):=by unfold Hid;rw[←hV];rfl
  have HE:=zh Q
  clear X hD s0 hV Q hN h0 t0
  go_wp2
  go_ret
  exact⟨_,rfl,⟨A,l,f,rfl,HB.out.len,HB.out.shows,L0.out,R.out,HV.out⟩,HE.out⟩
theorem Zhm (d:ByteArray)(w:World)(T:Nat)(a:(bytes d).all zU=true)(b:zH (bytes d)=T)(g:wl T≤1048576)(h:d.size≤1099511627776) :
 yA 163 #[.string d,.slice none 0 0] w (wW w T):=by
 have i:=zh a
 have j:=zh b
 clear a b
 go_enter Tryz.func163,Tryz.ntmps163
 go_wp2
 go_loop [5] (fun v=>v=.int .i64 (-1)) (fun _=>0)
 case atStart=>rfl
 case round =>
  subst hrel
  go_wp2_with fail
  refine (Zgj d _ T i.out j.out g h).mono ?_
  rintro e m ⟨n,rfl,c,f⟩
  have k:=zh c
  have l:=zh f
  clear c f
  go_wp2
  go_ret
  exact⟨_,rfl,k.out,l.out⟩
theorem ZbH {n k m:Nat}(h:n<10^k)(a:k≤m):wl n≤m:=by
 rw[kE]
 have b:10^k≤W64^k:=sF (by rw[zO];omega) k
 have c:W64^k≤W64^m:=uR zM a
 exact uQ h (uE b c)
def Zc7 (n:Nat):Prop:=n≤570
theorem Zhn (d:ByteArray)(w:World)(a:(bytes d).all zU=true)(g:Zc7 d.size) :
 yA 139 #[.string d] w (wW w (zH (bytes d))):=by
 unfold Zc7 at g
 have h:wl (zH (bytes d))≤1048576:=ZbH (by have:=lR (bytes d) a;rw[zP] at this;exact this) (by omega)
 generalize b:zH (bytes d)=T at *
 have i:=zh a
 have j:=zh b
 clear a b
 go_enter Tryz.func139,Tryz.ntmps139
 go_wp2_with fail
 refine (Zhm d _ T i.out j.out h (by omega)).mono ?_
 rintro e m ⟨n,rfl,c,f⟩
 have k:=zh c
 have l:=zh f
 clear c f
 go_wp2
 go_ret
 exact⟨_,rfl,k.out,l.out⟩
theorem Zd4 (d:ByteArray)(w:World)(i:(bytes d).all zU=true)(j:Zc7 d.size) :
 yA 94 #[.string d] w (Zf8 w (zH (bytes d):Int)):=by
 generalize k:zH (bytes d)=T
 have l:=zh i
 have m:=zh j
 have n:=zh k
 clear i k j
 go_enter Tryz.func94,Tryz.ntmps94
 go_wp2_with fail
 generalize a:World.alloc w _=wb
 have f:Hid (Blk 127 wb w.heap.size #[.bool false,.slice none 0 0]):=a ▸ Blk.new _ _ _
 have o:Hid (Ext w wb):=a ▸ (Fr.refl _ _).alloc _
 clear a
 refine (Zhn d _ l.out m.out).mono ?_
 rw[n.out]
 rintro e p ⟨q,rfl,b,c⟩
 obtain⟨r,s,t,rfl⟩:=b.slice
 obtain⟨u,v,x,y⟩:=(f.out.ext c).cell2
 have g:=zh b
 have h:=zh c
 clear b c
 go_wp2
 exact Zln (neg:=false) rfl rfl (by omega) o.out f.out h.out g.out rfl rfl
def Zls (cs:Array Value):Prop:=∀ (i:Nat) (k:Int),cs[i]? ≠ some (.int .u64 k)
theorem zK.other {t:TypeId}{w w':World}{r n:Nat}{u:Value}{cs:Array Value}(h:zK w u n)(d:Blk t w r cs)(f:Zls cs)(j:Fr (fun i=>i=r) w w'):zK w' u n:=by
 obtain⟨k,xs,l,m,o,c,p⟩:=h
 refine⟨k,xs,l,m,o,?_,p⟩
 cases xs with
 | nil=>exact zF.nil
 | cons x xs =>
  refine c.fr j (fun y b q e=>?_)
  obtain⟨g,s,v,_,a⟩:=c.at (i:=0) (by simp)
  rw[v] at b
  injection b with b
  subst b
  simp at e
  subst e
  rw[d.cell] at a
  exact f _ _ a
theorem Blk.cell4 {t:TypeId}{w:World}{g:Nat}{x y z u:Value}(h:Blk t w g #[x,y,z,u]):w.cell? ⟨g,0,none⟩=some x∧w.cell? ⟨g,1,none⟩=some y∧w.cell? ⟨g,2,none⟩=some z∧w.cell? ⟨g,3,none⟩=some u∧w.frozen? ⟨g,0,none⟩=false∧w.frozen? ⟨g,1,none⟩=false∧w.frozen? ⟨g,2,none⟩=false∧w.frozen? ⟨g,3,none⟩=false :=
 ⟨h.cell 0,h.cell 1,h.cell 2,h.cell 3,h.frozen 0,h.frozen 1,h.frozen 2,h.frozen 3⟩
def denF (q:Rat):Int:=if q.den=1 then 0 else (q.den:Int)
def xS (l:List UInt8):Option Rat :=
 match wQ l with
 | (_,_,_,false)=>none
 | (neg,num,den,true) =>
  if den=[] then some ((sg neg (zH num):Int):Rat)
  else if Nat.gcd (zH num) (zH den)=1 then some (mkRat (sg neg (zH num)) (zH den)) else none
theorem jX {p:UInt8→Bool}(l:List UInt8):(l.takeWhile p).all p=true:=by
 induction l with
 | nil=>rfl
 | cons x l ih =>
  rw[pG]
  split
  ·rename_i h;simp[h]
  rfl
theorem dE {l num den:List UInt8}{neg ok:Bool}(h:wQ l=(neg,num,den,ok)):num.all zU=true∧den.all zU=true∧num.length+den.length≤l.length:=by
 have c:(zQ l).2.length≤l.length:=by unfold zQ;split<;>simp
 have a:((zQ l).2.takeWhile zU).length+((zQ l).2.dropWhile zU).length=(zQ l).2.length:=by
  rw[←vH,qK]
 have b:=(List.takeWhile_sublist zU (l:=((zQ l).2.dropWhile zU).tail)).length_le
 have d:((zQ l).2.dropWhile zU).tail.length≤((zQ l).2.dropWhile zU).length:=by simp
 unfold wQ at h
 simp only[] at h
 split at h
 ·injection h with _ h;injection h with h1 h;injection h with h2 _;subst h1 h2
  exact⟨jX _,rfl,by simp;omega⟩
 split at h
 ·injection h with _ h;injection h with h1 h;injection h with h2 _;subst h1 h2
  exact⟨jX _,rfl,by simp;omega⟩
 split at h
 ·injection h with _ h;injection h with h1 h;injection h with h2 _;subst h1 h2
  exact⟨jX _,rfl,by simp;omega⟩
 split at h
 ·injection h with _ h;injection h with h1 h;injection h with h2 _;subst h1 h2
  exact⟨jX _,rfl,by simp;omega⟩
 injection h with _ h;injection h with h1 h;injection h with h2 _;subst h1 h2
 exact⟨jX _,jX _,by omega⟩
theorem Zc8 {l:List UInt8}(g:l.all zU=true)(h:l≠[])(f:l.head? ≠ some 48):1≤zH l∧(2≤zH l∨l=[49]):=by
 cases l with
 | nil=>exact absurd rfl h
 | cons c l =>
  rw[rD,sL] at g
  have k:=cI g.1
  have m:c.toNat≠48:=fun e=>f (by simp;exact UInt8.toNat.inj e)
  rw[Zcs]
  have i:1≤10^l.length:=uT (by omega)
  have j:1*10^l.length≤(c.toNat-48)*10^l.length:=uC _ (by omega)
  refine⟨by omega,?_⟩
  cases l with
  | nil =>
   by_cases e:c.toNat=49
   ·right;rw[UInt8.toNat.inj (a:=c) (b:=49) e]
   left;simp[zH];omega
  | cons d l =>
   left
   rw[sQ,uO] at j ⊢
   have i:1≤10^l.length:=uT (by omega)
   omega
theorem Zc9 {l num den:List UInt8}{neg:Bool}(h:wQ l=(neg,num,den,true)):(den≠[]→2≤zH den)∧(zH num=0→neg=false∧den=[]):=by
 have b:=dE h
 unfold wQ at h
 simp only[] at h
 split at h
 ·rename_i f
  injection h with h0 h;injection h with h1 h;injection h with h2 h3;subst h0 h1 h2
  simp at h3
  exact⟨fun h=>absurd rfl h,fun _=>⟨h3.1,rfl⟩⟩
 rename_i g
 split at h
 ·injection h with _ h;injection h with h1 h;injection h with h2 h3;cases h3
 rename_i d
 have a:zH ((zQ l).2.takeWhile zU)≠0:=by
  have:=(Zc8 (jX (p:=zU) (zQ l).2) (fun e=>d (Or.inl e)) (fun e=>d (Or.inr e))).1
  omega
 split at h
 ·injection h with _ h;injection h with h1 h;injection h with h2 _;subst h1 h2
  exact⟨fun h=>absurd rfl h,fun e=>absurd e a⟩
 split at h
 ·injection h with _ h;injection h with h1 h;injection h with h2 h3;cases h3
 injection h with _ h;injection h with h1 h;injection h with h2 h3;subst h1
 rw[h2] at h3
 simp at h3
 refine⟨fun c=>?_,fun e=>absurd e a⟩
 rcases (Zc8 b.2.1 c h3.1.2).2 with h|h
 ·exact h
 exact absurd h h3.2
theorem Zfe {z:Int}{d:Nat}(c:2≤d)(a:Nat.gcd z.natAbs d=1):(mkRat z d).num=z∧denF (mkRat z d)=(d:Int):=by
 have b:mkRat z d=⟨z,d,by omega,a⟩:=by
  rw[←Rat.normalize_eq_mkRat (by omega)]
  exact Rat.normalize_eq_mk' z d (by omega) a
 rw[b]
 refine⟨rfl,?_⟩
 unfold denF
 simp
 omega
end Go.Proofs.YtklpdkpcocnglaaGreatDoor
namespace Go.Proofs.YtklpdkpcocnglaaGreatDoor
theorem kY {q:Rat}(h:q.den=1):denF q=0:=by unfold denF;rw[uL h]
theorem fV {q:Rat}(h:¬ q.den=1):denF q=(q.den:Int):=by unfold denF;rw[uJ h]
theorem denI (q:Rat):((q.den:Nat):Int)≠0:=by have:=q.den_nz;omega
theorem ZbI (p q:Rat):Rat.divInt (p.num*q.den+q.num*p.den) (p.den*q.den)=p+q:=by
 have h:=Rat.divInt_add_divInt p.num q.num (denI p) (denI q)
 rw[sO,sO] at h
 exact h.symm
theorem ZbJ (p q:Rat):Rat.divInt (p.num*q.num) (p.den*q.den)=p*q:=by
 have h:=Rat.divInt_mul_divInt p.num q.num (d₁:=p.den) (d₂:=q.den)
 rw[sO,sO] at h
 exact h.symm
theorem Zjv (p q:Rat):Rat.divInt (p.num*q.den) (p.den*q.num)=p/q:=by
 rw[Rat.div_def,Rat.inv_def,← sO p,Rat.divInt_mul_divInt,sO]
theorem Zca {p:Rat}(a:p.den=1):p=(p.num:Rat):=by
 apply Rat.ext<;>simp[a]
theorem ZdF {p q:Rat}(a:p.den=1)(b:q.den=1):(p+q).num=p.num+q.num∧(p+q).den=1:=by
 have e:p+q=((p.num+q.num:Int):Rat):=by rw[Rat.intCast_add,← Zca a,← Zca b]
 rw[e]
 exact⟨rfl,rfl⟩
theorem ZdG {p q:Rat}(a:p.den=1)(b:q.den=1):(p*q).num=p.num*q.num∧(p*q).den=1:=by
 have e:p*q=((p.num*q.num:Int):Rat):=by rw[oD,← Zca a,← Zca b]
 rw[e]
 exact⟨rfl,rfl⟩
theorem ZfC (q:Rat):(-q).num = -q.num:=rfl
theorem ZfD (q:Rat):(-q).den=q.den:=rfl
theorem Zo8 (q:Rat):denF (-q)=denF q:=by unfold denF;rw[ZfD]
end Go.Proofs.YtklpdkpcocnglaaGreatDoor
namespace Go.Proofs.YtklpdkpcocnglaaGreatDoor
open Go.RowKit
theorem ZcN {x:Int}(h:0≤x):Lib.itoa x=Lib.decDigits x.natAbs:=by
 unfold Lib.itoa
 rw[uJ (by omega)]
 congr 1;omega
end Go.Proofs.YtklpdkpcocnglaaGreatDoor
namespace Go.Proofs.YtklpdkpcocnglaaGreatDoor
end Go.Proofs.YtklpdkpcocnglaaGreatDoor
namespace Go.Proofs.YtklpdkpcocnglaaGreatDoor
open Go.RowKit
theorem Zdk {n:Nat}(h:10≤n):Lib.decDigits n=Lib.decDigits (n/10) ++ [UInt8.ofNat (48+n%10)]:=by
 rw[Lib.decDigits,dif_neg (by omega)]
theorem dN {n:Nat}(h:n<10):Lib.decDigits n=[UInt8.ofNat (48+n)]:=Lib.decDigits_one h
theorem ZaJ {n:Nat}(h:n<10):(UInt8.ofNat (48+n)).toNat=48+n:=by
 rw[UInt8.toNat_ofNat'];omega
theorem Zfo {n:Nat}(h:n<10):zU (UInt8.ofNat (48+n))=true:=by
 unfold zU;rw[ZaJ h];simp;omega
theorem jK:∀ n,(Lib.decDigits n).all zU=true:=by
 intro n
 induction n using Nat.strongRecOn with
 | _ n ih =>
  rcases vJ n 10 with h|h
  ·rw[dN h,rD,Zfo h];rfl
  rw[Zdk h,rY,ih (n/10) (by omega),rD,Zfo (uP n (by omega:0<10))];rfl
theorem jL:∀ n,zH (Lib.decDigits n)=n:=by
 intro n
 induction n using Nat.strongRecOn with
 | _ n ih =>
  rcases vJ n 10 with h|h
  ·rw[dN h];simp only[zH,List.foldl_cons,List.foldl_nil];rw[ZaJ h];omega
  rw[Zdk h,dK,ih (n/10) (by omega),ZaJ (uP n (by omega:0<10))];omega
theorem aF:∀ n,0<n→(Lib.decDigits n).head? ≠ some 48:=by
 intro n
 induction n using Nat.strongRecOn with
 | _ n ih =>
  intro b
  rcases vJ n 10 with h|h
  ·rw[dN h]
   intro e
   simp only[List.head?_cons,Option.some.injEq] at e
   have:=vP UInt8.toNat e
   rw[ZaJ h] at this
   simp at this;omega
  have a:=ih (n/10) (by omega) (by omega)
  rw[Zdk h,List.head?_append]
  cases hc:(Lib.decDigits (n/10)).head? with
  | none=>exact absurd (List.head?_eq_none_iff.1 hc) (lI _)
  | some c=>rw[hc] at a;exact a
theorem dF {p:UInt8→Bool}{l:List UInt8}(h:l.all p=true):l.takeWhile p=l∧l.dropWhile p=[]:=by
 induction l with
 | nil=>exact⟨rfl,rfl⟩
 | cons x xs ih =>
  simp only[rD,sL] at h
  obtain⟨a,b⟩:=ih h.2
  rw[pG,List.dropWhile_cons,h.1]
  simp[a,b]
theorem ZmI {l:List UInt8}(h:l.all zU=true):zQ l=(false,l):=by
 unfold zQ
 rw[uJ]
 intro e
 cases l with
 | nil=>cases e
 | cons x xs =>
  simp only[List.head?_cons,Option.some.injEq] at e
  subst e
  simp only[rD,sL] at h
  exact absurd h.1 (by decide)
theorem Zn2 (n:Nat):wQ (Lib.decDigits n)=(false,Lib.decDigits n,[],true):=by
 obtain⟨c,d⟩:=dF (jK n)
 unfold wQ
 rw[ZmI (jK n)]
 simp only[]
 rw[c,d]
 rcases uI n with a|a
 ·subst a;rw[dN (by omega)];rfl
 have b:Lib.decDigits n≠[48]:=fun e=>aF n a (by rw[e];rfl)
 rw[uJ b,uJ (fun e=>e.elim (lI n) (aF n a)),uL rfl]
theorem Zn3 {n:Nat}(h:0<n):wQ ([45] ++ Lib.decDigits n)=(true,Lib.decDigits n,[],true):=by
 obtain⟨b,c⟩:=dF (jK n)
 unfold wQ
 have e:zQ ([45] ++ Lib.decDigits n)=(true,Lib.decDigits n):=rfl
 rw[e]
 simp only[]
 rw[b,c]
 have a:Lib.decDigits n≠[48]:=fun e=>aF n h (by rw[e];rfl)
 rw[uJ a,uJ (fun e=>e.elim (lI n) (aF n h)),uL rfl]
theorem ZbR {z:Int}(h:z<0):Lib.itoa z=[45] ++ Lib.decDigits z.natAbs:=by
 unfold Lib.itoa
 rw[uL h]
 rfl
theorem ZmJ (z:Int):wQ (Lib.itoa z)=(decide (z<0),Lib.decDigits z.natAbs,[],true):=by
 by_cases h:z<0
 ·rw[ZbR h,Zn3 (by omega),uW h]
 rw[ZcN (by omega),Zn2,vF h]
theorem Zn4 (z:Int):xS (Lib.itoa z)=some (z:Rat):=by
 unfold xS
 rw[ZmJ]
 simp only[]
 rw[uL trivial,jL]
 congr 2
 unfold sg
 split
 ·rename_i h;have:=uD h;omega
 rename_i h;have:¬ z<0:=fun k=>h (uW k);omega
end Go.Proofs.YtklpdkpcocnglaaGreatDoor
namespace Go.Proofs.YtklpdkpcocnglaaGreatDoor
open Go.RowKit Go.Sort
end Go.Proofs.YtklpdkpcocnglaaGreatDoor
namespace Go.Proofs.YtklpdkpcocnglaaGreatDoor
open Go.RowKit
theorem Zeo {c:UInt8}(h:zU c=true):48≤c.toNat∧c.toNat≤57:=by
 unfold zU at h
 simpa using h
theorem ZkZ {s:ByteArray}(h:(bytes s).all zU=true){k:Nat}(a:k<s.size):zU s[k]=true:=by
 have b:=vR.1 h ((bytes s)[k]'(by rw[zP];exact a)) (rO _)
 rwa [Zc6 s a] at b
theorem Zci (s:ByteArray)(w:World)(o:(bytes s).all zU=true)(y:s.size≤9) :
 yA 136 #[.string s] w fun e w'=>e=.returned (.int .i64 (zH (bytes s):Int))∧w=w':=by
 have p:=zh o
 clear o
 go_enter Tryz.func136,Tryz.ntmps136
 go_wp2
 go_loop [3,7] (fun n i=>∃ k m:Nat,k≤s.size∧i=.int .i64 (k:Int)∧n=.int .i64 (m:Int)∧m≤1000000000∧Hid (m=zH ((bytes s).take k))) (fun _ i=>s.size-(intOf i).toNat)
 case atStart=>exact⟨0,0,rV _,rfl,rfl,by omega,by unfold Hid;simp[zH]⟩
 case round =>
  obtain⟨k,m,z,rfl,rfl,A,q⟩:=hrel
  by_cases b:k<s.size
  ·have B:=Zeo (ZkZ p.out b)
   have c:=ZaS s k b
   have a:Hid (10*m+(s[k].toNat-48)=zH ((bytes s).take (k+1))):=by
    unfold Hid;rw[c,dK,← q.out]
   have f:zH ((bytes s).take (k+1))<10^((bytes s).take (k+1)).length:=lR _ (by
    rw[vR];intro x r;exact vR.1 p.out x (rU r))
   have j:10^((bytes s).take (k+1)).length≤10^9:=uR (by omega) (by rw[uY,zP];omega)
   have g:10*m+(s[k].toNat-48)≤1000000000:=by
    rw[a.out];omega
   have t:IntKind.u8.wrap ((s[k].toNat:Int)-48)=((s[k].toNat-48:Nat):Int):=by rw[IntKind.wrap_u8];omega
   have l:((s[k].toNat:Int)-48)%256=((s[k].toNat-48:Nat):Int):=by omega
   obtain⟨d,u⟩:=yE (s[k].toNat-48)
   rw[u] at a g t l
   clear c f j
   go_wp2
   go_round
   case rel=>exact⟨k+1,10*m+d,by omega,by go_num,by go_num,g,a⟩
   case measure=>simp[intOf];omega
  have v:Hid ((m:Nat)=zH (bytes s)):=by
   have h:=q.out
   rw[uA (by rw[zP];omega)] at h
   exact h
  go_wp2
  go_ret
  exact⟨by rw[←v.out];rfl,rfl⟩
theorem Zn6 (a b:Nat)(w:World)(ha:a≤9223372036854775807)(k:b≤9223372036854775807) :
 yA 137 #[.int .i64 (a:Int),.int .i64 (b:Int)] w fun e w'=>e=.returned (.int .i64 (Nat.gcd a b:Int))∧∃ n,w'=w.drewN n:=by
 obtain⟨G,d⟩:=yE (Nat.gcd a b)
 rw[d]
 have l:=zh d
 clear d
 go_enter Tryz.func137,Tryz.ntmps137
 go_wp2
 go_loopw [0,1] (fun m f wr=>∃ x y n:Nat,m=.int .i64 (x:Int)∧f=.int .i64 (y:Int)∧x≤9223372036854775807∧y≤9223372036854775807∧Hid (Nat.gcd x y=G)∧wr=w.drewN n) (fun _ f _=>(intOf f).toNat)
 case atStart=>exact⟨a,b,0,rfl,rfl,ha,k,l,rfl⟩
 case round =>
  obtain⟨x,y,n,rfl,rfl,t,o,i,rfl⟩:=hrel
  by_cases g:y=0
  ·subst g
   have p:Hid (x=G):=by have:=i.out;rwa [rQ] at this
   go_wp2
   go_ret
   exact⟨by rw[←p.out];rfl,n,rfl⟩
  have u:((y:Int) != 0)=true:=by simp;omega
  have v:((y:Int) == 0)=false:=by simp;omega
  have z:y≠0:=g
  have q:(x:Int).tmod (y:Int)=((x%y:Nat):Int):=ZoZ
  have s:(x:Int)%(y:Int)=((x%y:Nat):Int):=rfl
  have h:x%y<y:=uP _ (by omega)
  have c:Hid (Nat.gcd y (x%y)=G):=by
   unfold Hid;rw[←i.out,tU x y,qN y x,tU]
  obtain⟨r,j⟩:=yE (x%y)
  rw[j] at q s h c
  clear j g
  go_wp2_with fail
  go_region
  all_goals
   go_wp2
   go_roundw
   case rel=>exact⟨y,r,n+1,rfl,rfl,o,by omega,c,rfl⟩
   case measure=>simp[intOf];omega
def Zbp (l:List UInt8) (a b:Int) (ok:Bool):Prop :=
 (ok=true∧∃ q:Rat,xS l=some q∧q.num=a∧(q.den:Int)=b ∧ -1000000000<a∧a<1000000000∧1≤b∧b<1000000000)∨(ok=false∧a=0∧b=0)
def ZfJ (w:World) (l:List UInt8) (e:Ending) (w':World):Prop :=
 ∃ a b ok,e=.returned (.tuple #[.agg #[.int .i64 a,.int .i64 b],.bool ok])∧Zbp l a b ok∧Ext w w'
theorem fM {fn:Func}{c:Array Value}{w wz:World}{r:Nat}{a b:Int}{ok:Bool}{l:List UInt8}(d:fn.results=#[.cell 2 119,.tmp 3])(e:c[2]? = some (.pointer (some ⟨r,0,none⟩)))(f:c[3]? = some (.bool ok))(g:Blk 119 wz r #[.int .i64 a,.int .i64 b])(Q:Ext w wz)(h:Zbp l a b ok):bodyPost Tryz.prog fn (ZfJ w l) .ret ⟨c,[]⟩ wz:=by
 obtain⟨i,j,_,_⟩:=g.cell2
 refine bodyPost_ret (v:=.tuple #[.agg #[.int .i64 a,.int .i64 b],.bool ok]) (by simp[results,d,e,f,go_sem,i,j]) rfl ⟨a,b,ok,rfl,h,Q⟩
theorem Zii {t:ByteArray}(a:(bytes t).all zU=true)(b:t.size≤9):zH (bytes t)<1000000000:=by
 have c:=lR _ a
 have d:10^(bytes t).length≤10^9:=uR (by omega) (by rw[zP];exact b)
 omega
theorem Zk0 {l:List UInt8}{neg:Bool}{t d:ByteArray}(a:wQ l=(neg,bytes t,bytes d,true))(b:bytes d=[])(c:zH (bytes t)<1000000000):Zbp l (sg neg (zH (bytes t))) 1 true:=by
 refine Or.inl ⟨rfl,((sg neg (zH (bytes t)):Int):Rat),?_,rfl,rfl,?_,?_,by omega,by omega⟩
 ·unfold xS;rw[a];simp only[];rw[uL b]
 ·show _<sg neg _
  unfold sg;split<;>omega
 show sg neg _<_
 unfold sg;split<;>omega
theorem ZmL {l:List UInt8}{neg:Bool}{t d:ByteArray}(b:wQ l=(neg,bytes t,bytes d,true))(c:bytes d≠[])(e:Nat.gcd (zH (bytes t)) (zH (bytes d))=1)(j:zH (bytes t)<1000000000)(f:zH (bytes d)<1000000000) :
 Zbp l (sg neg (zH (bytes t))) (zH (bytes d)) true:=by
 have g:=(Zc9 b).1 c
 have h:(sg neg (zH (bytes t))).natAbs=zH (bytes t):=by unfold sg;split<;>omega
 obtain⟨i,a⟩:=Zfe (z:=sg neg (zH (bytes t))) g (by rw[h];exact e)
 refine Or.inl ⟨rfl,_,?_,i,?_,?_,?_,by omega,by omega⟩
 ·unfold xS;rw[b];simp only[];rw[uJ c,uL e]
 ·unfold denF at a
  split at a
  ·omega
  exact a
 ·unfold sg;split<;>omega
 unfold sg;split<;>omega
theorem aO {T:TypeId}{w w1:World}{r0:Nat}{x y:Value}(d:Blk T w1 r0 #[x,y])(Q:Ext w w1)(c:w.heap.size=r0)(a b:Value) :
 Blk T ((w1.setCell ⟨r0,0,none⟩ a).setCell ⟨r0,1,none⟩ b) r0 #[a,b]∧Ext w ((w1.setCell ⟨r0,0,none⟩ a).setCell ⟨r0,1,none⟩ b) :=
 ⟨(d.set_ 0 _).set_ 1 _,(Q.setCell (Or.inr (by rw[c];exact uM _)) _).setCell (Or.inr (by rw[c];exact uM _)) _⟩
theorem ZiE (s:ByteArray)(w:World)(O:s.size≤1099511627776):yA 92 #[.string s] w (ZfJ w (bytes s)):=by
 by_cases P:20<s.size
 ·go_enter Tryz.func92,Tryz.ntmps92
  go_wp2
  exact fM rfl rfl rfl (Blk.new w _ _) ((Fr.refl _ _).alloc _) (Or.inr ⟨rfl,rfl,rfl⟩)
 have H:decide ((20:Int)<(s.size:Int))=false:=by simp;omega
 go_enter Tryz.func92,Tryz.ntmps92
 go_wp2_with fail
 generalize l:World.alloc w _=wb
 have I:Hid (Blk 119 wb w.heap.size #[.int .i64 0,.int .i64 0]):=l ▸ Blk.new _ _ _
 have J:Hid (Ext w wb):=l ▸ (Fr.refl _ _).alloc _
 clear l
 refine (ZhY s wb O).mono ?_
 rintro e n ⟨neg,t,d,ok,rfl,x,m⟩
 have a:=zh (I.out.ext m)
 have b:=zh (J.out.trans m)
 have K:=zh x
 obtain⟨g,k,y⟩:=dE x
 rw[zP,zP,zP] at y
 have L:=zh g
 have M:=zh k
 clear I J m x g k
 generalize o:w.heap.size=r0 at *
 have Q:=a.out.lt
 have c:=zh o
 clear o
 obtain⟨Z,x1,x2,x3⟩:=a.out.cell2
 have f:Hid (Blk 119 (((n.setCell ⟨r0,0,none⟩ (.int .i64 0)).setCell ⟨r0,1,none⟩ (.int .i64 0)).alloc (.cells #[.bool neg,.string t,.string d] 123)) r0 #[.int .i64 0,.int .i64 0]∧Ext w (((n.setCell ⟨r0,0,none⟩ (.int .i64 0)).setCell ⟨r0,1,none⟩ (.int .i64 0)).alloc (.cells #[.bool neg,.string t,.string d] 123))) :=
  ⟨((a.out.set_ 0 _).set_ 1 _).alloc _,((b.out.setCell (Or.inr (by rw[c.out];exact uM _)) _).setCell (Or.inr (by rw[c.out];exact uM _)) _).alloc _⟩
 cases ok with
 | false =>
  go_wp2
  exact fM rfl rfl rfl f.out.1 f.out.2 (Or.inr ⟨rfl,rfl,rfl⟩)
 | true =>
  by_cases R:9<t.size
  ·go_wp2
   exact fM rfl rfl rfl f.out.1 f.out.2 (Or.inr ⟨rfl,rfl,rfl⟩)
  have S:decide ((9:Int)<(t.size:Int))=false:=by simp;omega
  by_cases T:9<d.size
  ·go_wp2
   exact fM rfl rfl rfl f.out.1 f.out.2 (Or.inr ⟨rfl,rfl,rfl⟩)
  have U:decide ((9:Int)<(d.size:Int))=false:=by simp;omega
  clear f
  go_wp2_with fail
  have V:=zh (fun W=>Zci t W L.out (by omega))
  have z:=zh (fun W=>Zci d W M.out (by omega))
  have p:=Zii L.out (by omega)
  have A:=Zii M.out (by omega)
  have N:=zh (fun (h:bytes d=[])=>Zk0 K.out h p)
  have B:=zh (fun (h:bytes d≠[]) X=>ZmL K.out h X p A)
  generalize zH (bytes t)=nt at *
  generalize zH (bytes d)=nd at *
  refine (V.out _).mono ?_
  rintro e w2 ⟨rfl,rfl⟩
  by_cases j:bytes d=[]
  ·have g:d.toList=[]:=by rw[Lib.toList_data];exact j
   have k:(!d.toList.isEmpty)=false:=by rw[g];rfl
   cases neg with
   | false =>
    have q:=aO a.out b.out c.out (.int .i64 (nt:Int)) (.int .i64 1)
    have r:=zh q
    clear q
    go_wp2
    exact fM rfl rfl rfl ((r.out.1.alloc _).alloc _) ((r.out.2.alloc _).alloc _) (N.out j)
   | true =>
    have q:=aO a.out b.out c.out (.int .i64 (-(nt:Int))) (.int .i64 1)
    have r:=zh q
    clear q
    go_wp2
    exact fM rfl rfl rfl ((r.out.1.alloc _).alloc _) ((r.out.2.alloc _).alloc _) (N.out j)
  have g:d.toList≠[]:=by rw[Lib.toList_data];exact j
  have k:d.toList.isEmpty=false:=by simpa using g
  go_wp2_with fail
  refine (z.out _).mono ?_
  rintro e Y ⟨rfl,rfl⟩
  have u:=zh (fun W=>Zn6 nt nd W (by omega) (by omega))
  obtain⟨G,C⟩:=yE (Nat.gcd nt nd)
  rw[C] at u
  have D:=zh C
  clear C
  go_wp2_with fail
  refine (u.out _).mono ?_
  rintro e Y ⟨rfl,i,rfl⟩
  by_cases E:G=1
  ·have F:((G:Int) != 1)=false:=by simp;omega
   have v:=zh (B.out j (by rw[D.out,E]))
   cases neg with
   | false =>
    go_wp2
    exact fM rfl rfl rfl (aO (((a.out.alloc _).alloc _).drewN i) (((b.out.alloc _).alloc _).drewN i) c.out _ _).1 (aO (((a.out.alloc _).alloc _).drewN i) (((b.out.alloc _).alloc _).drewN i) c.out _ _).2 v.out
   | true =>
    go_wp2
    refine fM rfl rfl rfl (aO (w:=w) ((((a.out.alloc _).alloc _).drewN i).far (by show r0≠n.heap.size+1;omega) _) ?_ c.out _ _).1 (aO ((((a.out.alloc _).alloc _).drewN i).far (by show r0≠n.heap.size+1;omega) _) ?_ c.out _ _).2 v.out
    ·exact (((b.out.alloc _).alloc _).drewN i).setCell (Or.inr (by have:=b.out.size;show _≤n.heap.size+1;omega)) _
    exact (((b.out.alloc _).alloc _).drewN i).setCell (Or.inr (by have:=b.out.size;show _≤n.heap.size+1;omega)) _
  have F:((G:Int) != 1)=true:=by simp;omega
  go_wp2
  exact fM rfl rfl rfl (aO (((a.out.alloc _).alloc _).drewN i) (((b.out.alloc _).alloc _).drewN i) c.out _ _).1 (aO (((a.out.alloc _).alloc _).drewN i) (((b.out.alloc _).alloc _).drewN i) c.out _ _).2 (Or.inr ⟨rfl,rfl,rfl⟩)
theorem zJ (l:List UInt8):bytes ⟨l.toArray⟩=l:=by simp[bytes]
def eZ (n:Nat) (xs:List Nat) (m:Nat):Prop:=Dig 1000000000 xs∧n=val 1000000000 xs+1000000000^xs.length*m
theorem eZ.start (n:Nat):eZ n [] n:=⟨Dig.nil,by simp⟩
theorem eZ.step {n m:Nat}{xs:List Nat}(h:eZ n xs m):eZ n (xs ++ [m%1000000000]) (m/1000000000):=by
 obtain⟨a,b⟩:=h
 refine⟨a.append (Dig.nil.cons (uP _ (by omega))),?_⟩
 rw[kH,vH,sW,uO,tO,uG,← uN,gO,dH,tK,tA,tR]
 exact b
theorem eZ.len {n m C:Nat}{xs:List Nat}(h:eZ n xs m)(b:0<m)(c:n<1000000000^C):xs.length<C:=by
 obtain⟨_,d⟩:=h
 rcases vJ xs.length C with a|a
 ·exact a
 have e:1000000000^C≤1000000000^xs.length:=uR (by omega) a
 have f:1000000000^xs.length*1≤1000000000^xs.length*m:=uK _ b
 generalize 1000000000^xs.length=P at *
 generalize 1000000000^C=Q at *
 omega
theorem Zpy {n C:Nat}(a:n<1000000000^C):ml n≤C:=lL.2 (uQ a (sF (by rw[xB];omega) _))
theorem zS.len {w:World}{A:Option Addr}{l c n:Nat}(h:zS w (.slice A l c) n):l=ml n:=by
 obtain⟨f,g,i,a,j,k,b,d,e⟩:=h
 injection a with e1 e2 e3
 rw[e2,kX b d,e]
theorem Zdo (b:Nat):¬ xP none b:=fun c=>by obtain⟨a,ha,_⟩:=c;cases ha
theorem ZqL {a:Nat}(h:a<4294967296):(a:Int)%4294967296=(a:Int):=by omega
def dive (e:Nat):Nat:=100000000/10^e
theorem Zod:dive 0=100000000:=by simp[dive]
theorem Zoe:dive 9=0:=by decide
theorem Zeq (e:Nat):dive e/10=dive (e+1):=by unfold dive;rw[sA,uO]
theorem ZlN {e:Nat}(h:e<9):dive e=10^(9-1-e):=by
 have:e=0∨e=1∨e=2∨e=3∨e=4∨e=5∨e=6∨e=7∨e=8:=by omega
 rcases this with rfl|rfl|rfl|rfl|rfl|rfl|rfl|rfl|rfl<;>decide
theorem ZqM (e:Nat):dive e≤100000000:=uZ _ _
theorem Zpz {e:Nat}(h:e<9):0<dive e:=by rw[ZlN h];exact uT (by omega)
def ZlO (C:Nat) (w wr:World) (n m:Nat) (xs:List Nat) (A:Option Addr) (cap:Nat) (mv:Value):Prop :=
 eZ n xs m∧Buf .u32 102 wr A cap xs∧zS wr mv m∧Ext w wr∧ml m≤ml n∧(∀ b,xP A b→w.heap.size≤b)∧xs.length≤C
theorem zS.fr {S:Nat→Prop}{w w':World}{v:Value}{n:Nat}(h:zS w v n)(d:Fr S w w')(e:∀ A l c,v=.slice A l c→0<l→∀ a,A=some a→¬ S a.block):zS w' v n:=by
 obtain⟨A,xs,c,b,f,g,i⟩:=h
 refine⟨A,xs,c,b,f,?_,i⟩
 cases xs with
 | nil=>exact zF.nil
 | cons x xs=>exact g.fr d (fun a j _=>e A _ c b (by simp) a j)
def Zbg (w wr:World) (xs:List Nat) (A:Option Addr) (cap h t:Nat) (A3:Option Addr) (cap3:Nat):Prop :=
 Buf .u32 102 wr A cap xs∧TBuf wr A3 cap3 (wL h)∧(wL h).length=t∧Ext w wr∧(∀ b,xP A b→w.heap.size≤b)∧(∀ b,xP A3 b→w.heap.size≤b)∧(∀ b,xP A b→¬ xP A3 b)
theorem ZjV {w wr w2:World}{xs:List Nat}{A:Option Addr}{cap h g t c:Nat}{d j:Option Addr}{e cap4:Nat}{o:Obj}(s:Zbg w wr xs A cap h t d e)(l:wL g=wL h ++ [UInt8.ofNat (48+c)])(z:c<10)(u:Buf .u8 5 w2 j cap4 (nats (wL h) ++ [48+c]))(v:Fr (xP d) (wr.alloc o) w2)(m:∀ b,xP j b→xP d b∨b=(wr.alloc o).heap.size):Zbg w w2 xs A cap g (t+1) j cap4:=by
 obtain⟨n,B,x,p,y,q,r⟩:=s
 have f:Fr (xP d) wr w2:=((Fr.refl (xP d) wr).alloc o).trans (v.mono (fun _ _ h=>h))
 refine⟨n.fr f r,?_,by rw[l];simp[x],p.next f (fun i C a=>by have:=q i a;omega),y,?_,?_⟩
 ·show Buf _ _ _ _ _ (nats (wL g))
  rw[l,ZkB]
  have:nats [UInt8.ofNat (48+c)]=[48+c]:=by
   simp[nats];omega
  rw[this];exact u
 ·intro b a
  rcases m b a with h|h
  ·exact q b h
  have:=p.size;simp at h;omega
 intro b a k
 rcases m b k with h|h
 ·exact r b a h
 have:=n.lt a;simp at h;omega
theorem ZmR (s:Bool)(A0:Option Addr)(l0 c0:Nat)(n:Nat)(w:World)(hN:zS w (.slice A0 l0 c0) n)(h0:0<n)(C:Nat)(hn:n<1000000000^C)(hC:C≤15637498706141) :
 yA 76 #[.agg #[.bool s,.slice A0 l0 c0]] w (RetV w (.string ⟨(Lib.decDigits n).toArray⟩)):=by
 have HN:=zh hN
 have H0:=zh h0
 have Hn:=zh hn
 have o0:Hid (C≤15637498706141):=hC
 have E0:Hid (ml n≤17592186044416):=by have:=Zpy hn;unfold Hid;omega
 have V0:((l0:Int) == 0)=false:=by
  obtain⟨A,o,c,h1,h2,h3,h4,h5,h6⟩:=hN
  injection h1 with e1 e2 e3
  subst e2
  have k1:=kX h4 h5
  rw[h6] at k1
  have k2:=Zgd h0
  simp
  intro e
  rw[e] at k1
  simp at k1
  omega
 clear hN h0 hn hC
 go_enter Tryz.func76,Tryz.ntmps76
 go_wp2
 obtain⟨wb,Z⟩:=yE (w.alloc (.cells #[.bool s,.slice A0 l0 c0] 32))
 rw[Z]
 have p0:Hid (Ext w wb):=Z ▸ (Fr.refl _ _).alloc _
 clear Z
 go_loopw [3,4,5,6] (fun pv mv _ _ wr=>∃ (o:List Nat) (m:Nat) (A:Option Addr) (u:Nat) (A1:Option Addr) (l c:Nat),pv=.slice A o.length u∧mv=.slice A1 l c∧Hid (ZlO C w wr n m o A u (.slice A1 l c))) (fun pv _ _ _ _=>match pv with | .slice _ k _=>C-k | _=>0)
 case atStart=>exact⟨[],n,none,0,A0,l0,c0,rfl,rfl,eZ.start n,Buf.nil,HN.out.ext p0.out,p0.out,uM _,fun b I=>(Zdo b I).elim,by simp⟩
 case round =>
  obtain⟨o,m,A,u,A1,l,c,rfl,rfl,g⟩:=hrel
  have hl:=g.out.2.2.1.len
  by_cases hm:0<m
  ·have G:=g.out.1.len hm Hn.out
   have W0:0<l:=by rw[hl];exact Zgd hm
   have F0:=E0.out
   have G0:=o0.out
   have I0:ml m≤17592186044416:=by have:=g.out.2.2.2.2.1;omega
   have HD:=zh (Zd0 _ m 1000000000 wr g.out.2.2.1 I0 (by omega) (by rw[xB];omega))
   obtain⟨k2,ek⟩:=yE C
   rw[ek] at G
   have X0:k2≤15637498706141:=by omega
   clear F0 G0
   have hr:=uP m (y:=1000000000) (by omega)
   have T:=zh g.out.1.step
   have q0:ml (m/1000000000)≤ml m:=Zap (uZ _ _)
   have r0:Hid (ml (m/1000000000)≤ml n):=uE q0 g.out.2.2.2.2.1
   obtain⟨r,er⟩:=yE (m%1000000000)
   obtain⟨m2,em⟩:=yE (m/1000000000)
   rw[er] at T
   rw[em] at T r0
   clear hl q0 hr
   go_wp2_with fail
   refine HD.out.mono ?_
   rintro e w1 ⟨l2,c2,rfl,a0,s0⟩
   rw[er]
   rw[em] at a0
   have t0:=zh a0
   have b0:=zh s0
   clear HD a0 s0 er em
   go_wp2_with (at_builtin;refine Hid.out ?_)
   refine zh ?_
   have E:Hid (zF .u32 (w1.alloc (.cells #[.int .u32 (r:Int)] 102)) (some ⟨w1.heap.size,0,none⟩) [r]):=(Own.new w1 102 .u32 [r] []).shows0
   have u0:Hid (Buf .u32 102 w1 A u o):=g.out.2.1.ext b0.out
   refine wT rfl _ _ _ rfl _ .u32 4 Tryz.underlying30 cH A (some ⟨w1.heap.size,0,none⟩) o.length 1 u 1 rfl rfl o [r] rfl rfl (u0.out.ext ((Fr.refl _ _).alloc _)) E.out (by simp only[maxLen];omega) (by omega) ?_
   intro A2 W w2 v0 d0 w0
   have v:Hid (ZlO C w w2 n m2 (o ++ [r]) A2 W (.slice (some ⟨wr.heap.size,0,none⟩) l2 c2)):=by
    have X:=g.out.2.2.2.2.2.1
    have x0:Ext w w1:=g.out.2.2.2.1.trans b0.out
    refine⟨T.out,v0,(t0.out.ext ((Fr.refl _ _).alloc _)).fr d0 ?_,(x0.alloc _).next d0 (fun i hi I=>by have:=X i I;omega),r0.out,?_,by rw[vH,sW];omega⟩
    ·intro A' l' F e _ a ha I
     injection e with e1 e2 e3
     rw[←e1] at ha
     injection ha with ha
     subst ha
     have:wr.heap.size<wr.heap.size:=g.out.2.1.lt I
     omega
    intro b I
    rcases w0 b I with h|h
    ·exact X b h
    have:=x0.size;simp at h;omega
   clear v0 d0 w0 E u0 t0 b0 T g
   have J0:=zh ek
   clear ek
   go_wp2
   go_roundw
   case rel=>exact⟨o ++ [r],m2,A2,W,_,l2,c2,by rw[vH];rfl,rfl,v⟩
   case measure =>
    simp
    rw[J0.out]
    omega
  obtain rfl:m=0:=by omega
  obtain⟨hC,hB,hM,Q,_,hA,K0⟩:=g.out
  have U0:o.length≤15637498706141:=by have:=o0.out;omega
  obtain rfl:l=0:=by rw[hl];rfl
  have HC:Hid (Dig 1000000000 o∧n=val 1000000000 o):=by
   obtain⟨c1,c2⟩:=hC
   exact⟨c1,by simpa using c2⟩
  have HB:=zh hB
  have HE:=zh Q
  have HA:=zh hA
  clear hC hB hM Q hA g hl hm K0
  go_wp2
  obtain⟨wo,rfl⟩:∃ wo:World,wo=wr:=⟨_,rfl⟩
  go_loopw [7,8,9,10] (fun ov iv _ _ wr=>∃ (k t:Nat) (B:Option Addr) (d:Nat),k≤o.length∧iv=.int .i64 ((k:Int)-1)∧ov=.slice B t d∧t≤9*(o.length-k)∧Hid (Zbg w wr o A u (val 1000000000 (o.drop k)) t B d)) (fun _ iv _ _ _=>(intOf iv+1).toNat)
  case atStart=>exact⟨o.length,0,none,0,uM _,rfl,rfl,by omega,HB.out,by rw[List.drop_length];exact Buf.nil,by rw[List.drop_length];rfl,HE.out,HA.out,fun b I=>(Zdo b I).elim,fun b _ I=>Zdo b I⟩
  case round =>
   obtain⟨k,t,B,d,hk,rfl,rfl,ht,g⟩:=hrel
   by_cases Y0:0<k
   ·obtain⟨k,rfl⟩:∃ j,k=j+1:=⟨k-1,by omega⟩
    have hi:((k+1:Nat):Int)-1=(k:Int):=by omega
    rw[hi]
    clear hi
    have y0:k<o.length:=by omega
    obtain⟨p,ep⟩:=yE (o[k]?.getD 0)
    have hp:p<1000000000:=ep ▸ HC.out.1.getD (by omega) k
    obtain⟨H,eH⟩:=yE (val 1000000000 (o.drop (k+1)))
    have e0:Hid (topE H p 9 9=val 1000000000 (o.drop k)):=by
     unfold Hid
     rw[ZoT,xV k y0,ep,eH,uF]
     omega
    have HP:=zh ep
    rw[eH] at g
    have z0:Hid (Zbg w wr o A u (topE H p 9 0) t B d):=by rw[Zmd (by omega)];exact g
    have L0:((100000000:Nat):Int)=((dive 0:Nat):Int):=by rw[Zod]
    clear ep eH g
    go_wp2
    obtain⟨Z0,rfl⟩:∃ wo:World,wo=wr:=⟨_,rfl⟩
    obtain⟨T0,eT⟩:=yE (9*(o.length-(k+1)))
    rw[eT] at ht
    go_loopw [7,9,10] (fun ov dv _ wr=>∃ (e t:Nat) (B:Option Addr) (d:Nat),e≤9∧dv=.int .u32 (dive e:Nat)∧ov=.slice B t d∧t≤T0+e∧Hid (Zbg w wr o A u (topE H p 9 e) t B d)) (fun _ dv _ _=>(intOf dv).toNat)
    case atStart=>exact⟨0,t,B,d,by omega,by rw[←L0];rfl,rfl,by omega,z0⟩
    case round =>
     clear ht z0
     obtain⟨e,t,B,d,he,rfl,rfl,ht,g⟩:=hrel
     by_cases f0:e<9
     ·have M0:=Zpz f0
      have N0:=ZqM e
      have a1:T0≤140737488355260:=by omega
      obtain⟨b2,J,hA,_,O0⟩:=g.out.1.shows.at y0
      rw[HP.out] at O0
      have f:=zh (Znh (H:=H) (p:=p) (k:=9) f0)
      rw[←ZlN f0] at f
      have x:p/dive e%10<10:=uP _ (by omega)
      have q1:(p:Int).tdiv (dive e:Int)=((p/dive e:Nat):Int):=by rw[sH (by omega)];rfl
      have B0:(p:Int)/(dive e:Int)=((p/dive e:Nat):Int):=rfl
      have q2:((p/dive e:Nat):Int).tmod 10=((p/dive e%10:Nat):Int):=by rw[tM (Int.natCast_nonneg _)];rfl
      have g0:((p/dive e:Nat):Int)%10=((p/dive e%10:Nat):Int):=rfl
      have i0:p/dive e≤p:=uZ _ _
      have q3:((p/dive e:Nat):Int)%4294967296=((p/dive e:Nat):Int):=ZqL (vE i0 (by omega))
      have q5:(dive e:Int).tdiv 10=((dive (e+1):Nat):Int):=by rw[sH (by omega),← Zeq];rfl
      have C0:(dive e:Int)/10=((dive (e+1):Nat):Int):=by rw[←Zeq];rfl
      have K:dive (e+1)<dive e:=by rw[←Zeq];omega
      have q6:((dive (e+1):Nat):Int)%4294967296=((dive (e+1):Nat):Int):=by omega
      obtain⟨D,eD⟩:=yE (dive e)
      obtain⟨D2,j0⟩:=yE (dive (e+1))
      have k0:=zh j0
      rw[eD] at M0 N0 f x q1 B0 q2 g0 i0 q3 q5 C0 K ⊢
      rw[j0] at q5 C0 K q6
      obtain⟨q,eq⟩:=yE (p/D)
      rw[eq] at q1 B0 q2 g0 f x q3 i0
      obtain⟨F,ec⟩:=yE (q%10)
      rw[ec] at q2 g0 f x
      have G:(0<t)↔0<topE H p 9 e:=by rw[←g.out.2.2.1];exact ZkC
      have q7:((48:Int)+(F:Int))%4294967296=((48+F:Nat):Int):=by omega
      have q8:((48+F:Nat):Int)%256=((48+F:Nat):Int):=by omega
      subst hA
      clear eD j0 eq ec
      by_cases m0:0<t∨F≠0
      ·have L:=g.out.2.2.1
       have M:=zh (ZbD (h:=topE H p 9 e) x (by omega))
       rw[←f.out] at M
       have E:Hid (zF .u8 (wr.alloc (.cells #[.int .u8 (48+(F:Int))] 5)) (some ⟨wr.heap.size,0,none⟩) [48+F]):=(Own.new wr 5 .u8 [48+F] []).shows0
       have U:Hid (TBuf wr B d (wL (topE H p 9 e))):=g.out.2.1
       have Y:(decide (0<t) || ((48+F:Nat):Int) != 48)=true:=by
        rcases m0 with h|h
        ·simp[h]
        have:(((48+F:Nat):Int) != 48)=true:=by simp;omega
        rw[this,Bool.or_true]
       have N:=zh L
       have V:=zh g.out
       clear G L f g
       by_cases b1:0<t
       ·clear m0 Y
        go_wp2_with (at_builtin;refine Hid.out ?_)
        refine zh ?_
        refine wT rfl _ _ _ rfl _ .u8 1 Tryz.underlying143 ZpV B (some ⟨wr.heap.size,0,none⟩) t 1 d 1 rfl rfl (nats (wL (topE H p 9 e))) [48+F] (by rw[Zcr];exact N.out) rfl (U.out.ext ((Fr.refl _ _).alloc _)) E.out (by simp only[maxLen];omega) (by omega) ?_
        intro A4 z w2 O R S
        have v:Hid (Zbg w w2 o (some ⟨b2,J,none⟩) u (topE H p 9 (e+1)) (t+1) A4 z):=ZjV V.out M.out x O R S
        clear O R S E U V M
        go_wp2
        go_roundw
        case rel=>exact⟨e+1,t+1,A4,z,by omega,by rw[k0.out],rfl,by omega,v⟩
        case measure=>simp[intOf];omega
       have d1:(((48+F:Nat):Int) != 48)=true:=by simp;omega
       clear m0 Y
       go_wp2_with (at_builtin;refine Hid.out ?_)
       refine zh ?_
       refine wT rfl _ _ _ rfl _ .u8 1 Tryz.underlying143 ZpV B (some ⟨wr.heap.size,0,none⟩) t 1 d 1 rfl rfl (nats (wL (topE H p 9 e))) [48+F] (by rw[Zcr];exact N.out) rfl (U.out.ext ((Fr.refl _ _).alloc _)) E.out (by simp only[maxLen];omega) (by omega) ?_
       intro A4 z w2 O R S
       have v:Hid (Zbg w w2 o (some ⟨b2,J,none⟩) u (topE H p 9 (e+1)) (t+1) A4 z):=ZjV V.out M.out x O R S
       clear O R S E U V M
       go_wp2
       go_roundw
       case rel=>exact⟨e+1,t+1,A4,z,by omega,by rw[k0.out],rfl,by omega,v⟩
       case measure=>simp[intOf];omega
      obtain rfl:t=0:=by omega
      obtain rfl:F=0:=by omega
      have v:Hid (Zbg w wr o (some ⟨b2,J,none⟩) u (topE H p 9 (e+1)) 0 B d):=by
       have h0:topE H p 9 e=0:=by omega
       unfold Hid
       rw[f.out,h0]
       have:=g.out
       rw[h0] at this
       exact this
      clear g G f
      go_wp2
      go_roundw
      case rel=>exact⟨e+1,0,B,d,by omega,by rw[k0.out],rfl,by omega,v⟩
      case measure=>simp[intOf];omega
     obtain rfl:e=9:=by omega
     have P0:Hid (Zbg w wr o A u (val 1000000000 (o.drop k)) t B d):=by
      rw[←e0.out];exact g
     have Q0:t≤9*(o.length-k):=by omega
     rw[Zoe]
     clear g
     go_wp2
     go_roundw
     case rel=>exact⟨k,t,B,d,by omega,by go_num,rfl,Q0,P0⟩
     case measure=>simp[intOf]
   obtain rfl:k=0:=by omega
   obtain⟨_,n0,_,D0,_,_,_⟩:=g.out
   rw[tS,← HC.out.2,jM H0.out] at n0
   have K:(Lib.decDigits n).length=t:=by
    have:=g.out.2.2.1
    rwa [tS,← HC.out.2,jM H0.out] at this
   obtain⟨b,rfl,hc⟩:=TBuf.bytes n0 (lI n)
   have R0:=run_convert_bytes_back (P:=Tryz.prog) wr 143 9 5 ⟨b,0,none⟩ d (Lib.decDigits n) Tryz.underlying143 Tryz.underlying5 Tryz.underlying9 hc
   rw[K] at R0
   have S0:=zh D0
   generalize Lib.decDigits n=txt at *
   clear n0 D0 hc g K
   go_wp2
   go_ret
   exact⟨rfl,S0.out⟩
theorem Zk7 (s:Bool)(b:Option Addr)(c0:Nat)(w:World) :
 yA 76 #[.agg #[.bool s,.slice b 0 c0]] w (RetV w (.string ⟨(Lib.decDigits 0).toArray⟩)):=by
 have a:Lib.decDigits 0=[48]:=Lib.decDigits_one (by omega)
 have c:=zh a
 clear a
 go_enter Tryz.func76,Tryz.ntmps76
 go_wp2
 go_ret
 exact⟨by rw[c.out];rfl,(Fr.refl _ _).alloc _⟩
theorem Zk8 (s:Bool)(a:Option Addr)(b c0:Nat)(n:Nat)(w:World)(c:zS w (.slice a b c0) n)(C:Nat)(e:n<1000000000^C)(f:C≤15637498706141) :
 yA 76 #[.agg #[.bool s,.slice a b c0]] w (RetV w (.string ⟨(Lib.decDigits n).toArray⟩)):=by
 rcases uI n with h|h
 ·subst h
  have d:=c.len
  rw[Zhg] at d
  subst d
  exact Zk7 s a c0 w
 exact ZmR s a b c0 n w c h C e f
theorem pu10:∀ (l:List UInt8) (a:Nat),l.all zU=true→a*10^l.length+zH l<18446744073709551616→Lib.parseUint10 a l=.ok (a*10^l.length+zH l)
 | [],a,_,_=>by simp[Lib.parseUint10,zH]
 | c :: l,a,h,hb=>by
  simp only[rD,sL] at h
  obtain⟨b,g⟩:=cI h.1
  have d:0<10^l.length:=uT (by decide)
  have e:a*10^(c :: l).length+zH (c :: l)=(a*10+(c.toNat-48))*10^l.length+zH l:=by
   rw[Zcs,sQ,uO,uU,uG,uF 10 (10^l.length),tO]
  rw[e] at hb ⊢
  have i:(a*10+(c.toNat-48))*1≤(a*10+(c.toNat-48))*10^l.length:=uK _ d
  have f:=pu10 l (a*10+(c.toNat-48)) h.2 hb
  rw[Lib.parseUint10,uL ⟨b,by omega⟩,uJ (by omega),uJ (by omega)]
  exact f
structure PaR (T:Nat) (d:List UInt8) (xs:List Nat):Prop where
 dig:Dig W64 xs
 trim:Trim xs
 eq:val W64 xs*10^d.length+zH d=T
 all:d.all zU=true
 by19:xs=[]∨d.length%19=0
theorem PaR.start {T:Nat}{d:List UInt8}(h:d.all zU=true)(a:zH d=T):PaR T d []:=⟨Dig.nil,Trim.nil,by simpa using a,h,Or.inl rfl⟩
theorem PaR.len {T:Nat}{d:List UInt8}{xs:List Nat}(h:PaR T d xs):xs.length≤wl T:=by
 rw[xR h.dig h.trim]
 apply wR
 have:val W64 xs*1≤val W64 xs*10^d.length:=uK _ (uT (by decide))
 have:=h.eq
 omega
theorem PaR.done {T:Nat}{xs:List Nat}(h:PaR T [] xs):val W64 xs=T:=by
 have:=h.eq
 simpa [zH] using this
theorem PaR.chunk {T z:Nat}{d:List UInt8}{xs:List Nat}(h:PaR T d xs)(c:0<d.length)(e:(d.length-1)%19=z):zH (d.take (z+1))<10000000000000000000:=by
 have a:=lR (d.take (z+1)) (by
  rw[vR];intro x b
  exact vR.1 h.all _ (rU b))
 have f:=oG (d.length-1) 19
 rw[uY,uV (by omega)] at a
 have:=ZpW (n:=z+1) (by omega)
 omega
theorem PaR.step {T z c:Nat}{d:List UInt8}{xs m:List Nat}(h:PaR T d xs)(r:0<d.length)(s:(d.length-1)%19=z)(i:gC xs 10000000000000000000 (zH (d.take (z+1))) xs.length m c) :
 PaR T (d.drop (z+1)) (if c=0 then m else m ++ [c]):=by
 have t:=oG (d.length-1) 19
 have b:(val W64 xs*10000000000000000000+zH (d.take (z+1)))*10^(d.drop (z+1)).length+zH (d.drop (z+1))=T:=by
  have l:d=d.take (z+1) ++ d.drop (z+1):=(rK _ _).symm
  have n:=h.eq
  have o:val W64 xs*10000000000000000000=val W64 xs*10^(z+1):=by
   rcases h.by19 with e|e
   ·rw[e];simp
   rw[show z+1=19 by omega]
  rw[o,← n]
  conv=>rhs;rw[l,bZ]
  rw[uU,uG,← uS,tO]
  congr 3
  rw[vH,uY,uV (by omega)]
 have a:(d.drop (z+1)).all zU=true:=by
  rw[vR];intro x p
  exact vR.1 h.all _ (List.mem_of_mem_drop p)
 have f:(d.drop (z+1)).length%19=0:=by rw[vZ];omega
 by_cases g:c=0
 ·rw[uL g]
  subst g
  obtain⟨j,k⟩:=i.zero h.trim (by decide)
  exact⟨i.2.2.1,j,by rw[k];exact b,a,Or.inr f⟩
 rw[uJ g]
 obtain⟨j,k,q⟩:=i.more g
 exact⟨k,j,by rw[q];exact b,a,Or.inr f⟩
end Go.Proofs.YtklpdkpcocnglaaGreatDoor
