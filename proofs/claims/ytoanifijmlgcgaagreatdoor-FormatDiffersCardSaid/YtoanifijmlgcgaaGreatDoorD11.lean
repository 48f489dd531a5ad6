/-
 My texts Gcd1, Gcd2, Int4, Int5, Print0, Smp, Smp2, Split, Res put together.
-/
import Derived.Test.YtoanifijmlgcgaaGreatDoorD10
import Derived.Test.YtoanifijmlgcgaaGreatDoorD08
import Derived.Test.YtoanifijmlgcgaaGreatDoorD05
import Derived.Test.YtoanifijmlgcgaaGreatDoorD07
import Derived.Deep.LoopGhost
import Derived.Laws.IdiomStrings
import Derived.Deep.RegionWith
import Derived.Test.YtoanifijmlgcgaaGreatDoorD03
import Derived.Deep.QuietTactic
import Derived.BigQuiet
import Derived.Outline
import Derived.Lib.Strings
import Derived.RegionTactic
import Derived.BigRegion
import Derived.Test.YtoanifijmlgcgaaGreatDoorD02
import Derived.Laws.BitsAllLaws
set_option maxRecDepth 100000
set_option maxHeartbeats 8000000
namespace Go.Proofs.YtoanifijmlgcgaaGreatDoor
open Go.RowKit
theorem Zhs (u v:Value)(m n g:Nat)(w:World)(hg:Glob w)(hu:zY w u m)(hv:zY w v n)(hm:wl m≤4294967296)(hn:n<W64)(h0:0<n)(l:n≤m)(eg:Nat.gcd m n=g) :
 yA 263 #[u,v] w (jN w g):=by
 obtain⟨A,a,c,rfl,hc,U,o,s,V⟩:=hu
 obtain⟨A2,ys,c2,rfl,t,k1,k2,k3,k4⟩:=hv
 have z:=wK o s
 have B:=wK k2 k3
 rw[V] at z
 rw[k4] at B
 have C:ys.length=1:=by
  have:=ZaZ.2 hn
  have:=ZbX h0
  omega
 obtain⟨y,rfl⟩:∃ y,ys=[y]:=by match ys,C with | [y],_=>exact⟨y,rfl⟩
 simp at k4
 subst k4
 have HU:Hid (zY w (.slice A a.length c) m):=⟨A,a,c,rfl,hc,U,o,s,V⟩
 have HV:Hid (zY w (.slice A2 1 c2) y):=⟨A2,[y],c2,rfl,t,k1,k2,k3,by simp⟩
 have HX:=zh U
 have HY:=zh k1
 have Hm:Hid (wl m≤4294967296∧a.length≤4294967296):=⟨hm,by omega⟩
 have W:=zh hn
 have a0:=zh l
 have d:=zh h0
 have b0:=zh o
 have D:=zh V
 have E:=zh eg
 have HG:=zh hg
 clear hm hn l U k1 k2 k3 s o hc t z B C V eg hg h0
 go_enter Tryz.func263,Tryz.ntmps263
 go_wp2_with fail
 refine (gW _ _ m y w HU.out HV.out Hm.out.1 (by have:=ZaZ.2 W.out;omega)).mono ?_
 rintro e w' ⟨rfl,nd,F⟩
 obtain⟨q,hq⟩:=yE (cmpI m y)
 have c0:(0:Int)≤q:=by rw[←hq];exact fU a0.out
 have k0:decide (q<0)=false:=by simp;omega
 rw[hq]
 have G:Hid (Ext w w'):=F ▸ (Fr.refl _ w).drewN nd
 clear hq F c0
 go_wp2_with fail
 refine (jR A a _ c w' rfl (HX.out.ext G.out) Hm.out.2).mono ?_
 rintro e w1 ⟨X,b,rfl,H,I,d0⟩
 have J:Hid (zV .u64 w1 X a):=H.shows
 have K:Hid (Ext w w1):=G.out.trans I
 clear H I d0
 go_wp2_with fail
 refine (jR A2 [y] 1 c2 w1 rfl (HY.out.ext K.out) (by omega)).mono ?_
 rintro e Y ⟨A3,L,rfl,M,h,e0⟩
 have N:Hid (zV .u64 Y A3 [y]):=M.shows
 obtain⟨O,Z,rfl,j,P⟩:=N.out.at (i:=0) (by simp)
 simp at P
 have f0:Hid (zV .u64 Y X a):=J.out.ext h
 have Q:Hid (Ext w Y):=K.out.trans h
 have j:=zh j
 clear M h e0 N J
 obtain⟨x,ex⟩:=yE a.length
 rw[ex]
 go_wp2_with fail
 obtain⟨r,er⟩:=yE (m%y)
 go_loopw [5,6] (fun av bv wr=>av=.slice X x b∧bv=.slice (some ⟨O,Z,none⟩) 1 L∧wr=Y) (fun _ _ _=>0)
 case atStart=>exact⟨rfl,rfl,rfl⟩
 case round =>
  obtain⟨rfl,rfl,rfl⟩:=hrel
  go_wp2_with fail
  have R:Hid (wr.cell? ⟨O,Z,none⟩=some (.int .u64 (y:Int))):=P
  have S:Hid (O<wr.heap.size):=j.out
  have k:Hid (r<W64∧Nat.gcd y r=g∧g<W64):=by
   have U:=uP m d.out
   have o:=W.out
   have s:=qE m d.out
   rw[E.out] at s
   refine⟨by omega,?_,by omega⟩
   rw[←er,← E.out,tV y,← qJ,tV]
  go_region_held3 (fun w'=>w'.cell? ⟨O,Z,none⟩=some (.int .u64 (y:Int)))
   (first|exact R.out|exact (Fr.cell (p:=⟨O,Z,none⟩) (Fr.undrew hFF) S.out (fun f=>f)).trans R.out)
   (first
    | (
     go_at_call 300
     refine (iX X a x b y _ ex f0.out.drew (by have:=Hm.out.2;omega) b0.out d.out W.out).mono ?_
     rintro e w4 ⟨rfl,g0,T⟩
     rw[D.out,er]
     have hFF:Ext wr.drew w4:=T ▸ (Fr.refl _ wr.drew).drewN g0
     clear T)
    | (
     go_at_call 299
     refine (cL y r g _ (HG.out.ext (Q.out.trans (Fr.undrew hFF))) W.out k.out.1 k.out.2.1).mono ?_
     rintro e w5 ⟨rfl,rfl⟩)
    | (
     go_at_call 298
     refine (dH g _ k.out.2.2).mono ?_
     rintro e w6 ⟨v6,rfl,i0,j0⟩
     replace hFF:Ext wr.drew w6:=hFF.trans j0))
  go_wp2
  go_ret
  exact⟨_,rfl,i0,Q.out.trans (Fr.undrew hFF)⟩
theorem Zht (u v:Value)(m n g:Nat)(w:World)(hg:Glob w)(hu:zY w u m)(hv:zY w v n)(hm:wl m≤4294967296)(hn:n<W64)(h0:0<n)(l:n<m)(eg:Nat.gcd m n=g) :
 yA 263 #[v,u] w (jN w g):=by
 obtain⟨A,a,c,rfl,hc,U,o,s,V⟩:=hu
 obtain⟨A2,ys,c2,rfl,t,k1,k2,k3,k4⟩:=hv
 have z:=wK o s
 have B:=wK k2 k3
 rw[V] at z
 rw[k4] at B
 have C:ys.length=1:=by
  have:=ZaZ.2 hn
  have:=ZbX h0
  omega
 obtain⟨y,rfl⟩:∃ y,ys=[y]:=by match ys,C with | [y],_=>exact⟨y,rfl⟩
 simp at k4
 subst k4
 have HU:Hid (zY w (.slice A a.length c) m):=⟨A,a,c,rfl,hc,U,o,s,V⟩
 have HV:Hid (zY w (.slice A2 1 c2) y):=⟨A2,[y],c2,rfl,t,k1,k2,k3,by simp⟩
 have HX:=zh U
 have HY:=zh k1
 have Hm:Hid (wl m≤4294967296∧a.length≤4294967296):=⟨hm,by omega⟩
 have W:=zh hn
 have a0:=zh l
 have d:=zh h0
 have b0:=zh o
 have D:=zh V
 have E:=zh eg
 have HG:=zh hg
 clear hm hn l U k1 k2 k3 s o hc t z B C V eg hg h0
 go_enter Tryz.func263,Tryz.ntmps263
 go_wp2_with fail
 refine (gW _ _ y m w HV.out HU.out (by have:=ZaZ.2 W.out;omega) Hm.out.1).mono ?_
 rintro e w' ⟨rfl,nd,F⟩
 obtain⟨q,hq⟩:=yE (cmpI y m)
 have c0:q<0:=by rw[←hq];exact eG.2 a0.out
 have k0:decide (q<0)=true:=by simp;omega
 rw[hq]
 have G:Hid (Ext w w'):=F ▸ (Fr.refl _ w).drewN nd
 clear hq F c0
 go_wp2_with fail
 refine (jR A a _ c w' rfl (HX.out.ext G.out) Hm.out.2).mono ?_
 rintro e w1 ⟨X,b,rfl,H,I,d0⟩
 have J:Hid (zV .u64 w1 X a):=H.shows
 have K:Hid (Ext w w1):=G.out.trans I
 clear H I d0
 go_wp2_with fail
 refine (jR A2 [y] 1 c2 w1 rfl (HY.out.ext K.out) (by omega)).mono ?_
 rintro e Y ⟨A3,L,rfl,M,h,e0⟩
 have N:Hid (zV .u64 Y A3 [y]):=M.shows
 obtain⟨O,Z,rfl,j,P⟩:=N.out.at (i:=0) (by simp)
 simp at P
 have f0:Hid (zV .u64 Y X a):=J.out.ext h
 have Q:Hid (Ext w Y):=K.out.trans h
 have j:=zh j
 clear M h e0 N J
 obtain⟨x,ex⟩:=yE a.length
 rw[ex]
 go_wp2_with fail
 obtain⟨r,er⟩:=yE (m%y)
 go_loopw [5,6] (fun av bv wr=>av=.slice X x b∧bv=.slice (some ⟨O,Z,none⟩) 1 L∧wr=Y) (fun _ _ _=>0)
 case atStart=>exact⟨rfl,rfl,rfl⟩
 case round =>
  obtain⟨rfl,rfl,rfl⟩:=hrel
  go_wp2_with fail
  have R:Hid (wr.cell? ⟨O,Z,none⟩=some (.int .u64 (y:Int))):=P
  have S:Hid (O<wr.heap.size):=j.out
  have k:Hid (r<W64∧Nat.gcd y r=g∧g<W64):=by
   have U:=uP m d.out
   have o:=W.out
   have s:=qE m d.out
   rw[E.out] at s
   refine⟨by omega,?_,by omega⟩
   rw[←er,← E.out,tV y,← qJ,tV]
  go_region_held3 (fun w'=>w'.cell? ⟨O,Z,none⟩=some (.int .u64 (y:Int)))
   (first|exact R.out|exact (Fr.cell (p:=⟨O,Z,none⟩) (Fr.undrew hFF) S.out (fun f=>f)).trans R.out)
   (first
    | (
     go_at_call 300
     refine (iX X a x b y _ ex f0.out.drew (by have:=Hm.out.2;omega) b0.out d.out W.out).mono ?_
     rintro e w4 ⟨rfl,g0,T⟩
     rw[D.out,er]
     have hFF:Ext wr.drew w4:=T ▸ (Fr.refl _ wr.drew).drewN g0
     clear T)
    | (
     go_at_call 299
     refine (cL y r g _ (HG.out.ext (Q.out.trans (Fr.undrew hFF))) W.out k.out.1 k.out.2.1).mono ?_
     rintro e w5 ⟨rfl,rfl⟩)
    | (
     go_at_call 298
     refine (dH g _ k.out.2.2).mono ?_
     rintro e w6 ⟨v6,rfl,i0,j0⟩
     replace hFF:Ext wr.drew w6:=hFF.trans j0))
  go_wp2
  go_ret
  exact⟨_,rfl,i0,Q.out.trans (Fr.undrew hFF)⟩
theorem Zf3 (u v:Value)(m:Nat)(w:World)(f:zY w u m)(d:zY w v 0)(i:wl m≤4294967296):yA 263 #[u,v] w (jN w m):=by
 obtain⟨A,l,c,rfl⟩:=f.slice
 obtain⟨s,k,t,rfl⟩:=d.slice
 obtain rfl:k=0:=d.len0
 have j:=zh f
 have n:=zh d
 have o:=zh i
 clear f d i
 go_enter Tryz.func263,Tryz.ntmps263
 go_wp2_with fail
 refine (gW _ _ m 0 w j.out n.out o.out (by rw[ZeP];omega)).mono ?_
 rintro e w' ⟨rfl,p,a⟩
 obtain⟨q,g⟩:=yE (cmpI (m:Int) ((0:Nat):Int))
 have h:(0:Int)≤q:=by rw[←g];exact fU (uM _)
 have r:decide (q<0)=false:=by simp;omega
 rw[g]
 have b:Hid (Ext w w'):=a ▸ (Fr.refl _ w).drewN p
 clear g a h
 go_wp2
 go_ret
 exact⟨_,rfl,j.out.ext b.out,b.out⟩
theorem ZeV (u v:Value)(m:Nat)(w:World)(d:zY w u 0)(f:zY w v m)(i:0<m)(j:wl m≤4294967296):yA 263 #[u,v] w (jN w m):=by
 obtain⟨A,l,c,rfl⟩:=d.slice
 obtain⟨t,x,y,rfl⟩:=f.slice
 obtain rfl:l=0:=d.len0
 have n:=zh d
 have k:=zh f
 have o:=zh j
 have p:=zh i
 clear d f j i
 go_enter Tryz.func263,Tryz.ntmps263
 go_wp2_with fail
 refine (gW _ _ 0 m w n.out k.out (by rw[ZeP];omega) o.out).mono ?_
 rintro e w' ⟨rfl,r,a⟩
 obtain⟨q,g⟩:=yE (cmpI ((0:Nat):Int) (m:Int))
 have h:q<0:=by rw[←g];exact eG.2 p.out
 have s:decide (q<0)=true:=by simp;omega
 rw[g]
 have b:Hid (Ext w w'):=a ▸ (Fr.refl _ w).drewN r
 clear g a h
 go_wp2
 go_ret
 exact⟨_,rfl,k.out.ext b.out,b.out⟩
theorem Za2 (u v:Value)(m n:Nat)(w:World)(c:Glob w)(a:zY w u m)(b:zY w v n)(d:wl m≤4294967296)(e:wl n≤4294967296)(i:min m n<W64):yA 263 #[u,v] w (jN w (Nat.gcd m n)):=by
 rcases uJ n with rfl|f
 ·rw[rD];exact Zf3 u v m w a b d
 rcases uJ m with rfl|g
 ·rw[Nat.gcd_zero_left];exact ZeV u v n w a b f e
 rcases uZ m n with h|h
 ·exact Zht v u n m _ w c b a e (by omega) g h (tV _ _)
 exact Zhs u v m n _ w c a b d (by omega) f h rfl
theorem Buf.openG {k:IntKind}{e:TypeId}{w:World}{A:Option Addr}{cap:Nat}{xs:List Nat}(h:Buf k e w A cap xs)(a:xs≠[]):∃ b,A=some ⟨b,0,none⟩∧Own k e w b xs∧iG e w b cap∧xs.length≤cap∧cap≤maxLen:=by
 rcases h with ⟨_,h,_⟩|h
 ·exact absurd h a
 exact h
def dO (w wr:World) (G:Nat) (xs ys:List Nat) (Aa:Option Addr) (ca:Nat) (Ab:Option Addr) (cb:Nat):Prop :=
 Buf .u64 297 wr Aa ca xs∧Buf .u64 297 wr Ab cb ys∧Dig W64 xs∧Dig W64 ys∧Trim xs∧Trim ys∧val W64 ys≤val W64 xs∧Nat.gcd (val W64 xs) (val W64 ys)=G∧Ext w wr ∧
  (∀ b,xJ Aa b→w.heap.size≤b)∧(∀ b,xJ Ab b→w.heap.size≤b)∧(∀ b,xJ Aa b→¬ xJ Ab b)∧xs.length≤79
theorem dO.len {w wr:World}{G:Nat}{xs a:List Nat}{b:Option Addr}{c:Nat}{d:Option Addr}{e:Nat}(h:dO w wr G xs a b c d e):a.length≤xs.length:=by
 obtain⟨_,_,f,i,j,g,l,_⟩:=h
 rcases uZ xs.length a.length with k|k
 ·have:=jX zZ f g k;omega
 exact k
theorem Buf.natIs {w:World}{A:Option Addr}{cap:Nat}{xs:List Nat}(h:Buf .u64 297 w A cap xs)(a:Dig W64 xs)(b:Trim xs):zY w (.slice A xs.length cap) (val W64 xs) :=
 ⟨A,xs,cap,rfl,h.len,h.shows,a,b,rfl⟩
theorem dO.div {w wr d e:World}{G:Nat}{xs a zs:List Nat}{q:Option Addr}{r:Nat}{k:Option Addr}{l:Nat}{f:Option Addr}{cc:Nat}(h:dO w wr G xs a q r k l)(s:0<val W64 a)(Q:Ext wr d)(t:Dig W64 zs)(u:Trim zs)(v:val W64 zs=val W64 xs%val W64 a)(x:Buf .u64 297 e f cc zs)(c:Ext d e)(m:∀ b,xJ f b→d.heap.size≤b):dO w e G a zs k l f cc:=by
 have n:=h.len
 obtain⟨F,o,H,y,I,z,J,A,p,B,g,C,D⟩:=h
 have E:=uP (val W64 xs) s
 refine⟨o.ext (Q.trans c),x,y,t,z,u,by omega,?_,p.trans (Q.trans c),g,fun b i=>?_,fun b i j=>?_,by omega⟩
 ·rw[v,← A,tV (val W64 a),← qJ,tV]
 ·have:=m b i;have:=Q.size;have:=p.size;omega
 have K:=o.lt i;have L:=m b j;have:=Q.size;omega
def Zbf (w wr:World) (xs ys:List Nat) (bA ca:Nat) (Ab:Option Addr) (cb j gs:Nat) (cs:Array Value):Prop :=
 Own .u64 297 wr bA xs∧iG 297 wr bA ca∧Buf .u64 297 wr Ab cb (ys ++ List.replicate j 0)∧(∀ b,xJ Ab b→w.heap.size≤b∧b≠bA∧b≠gs)∧Blk 383 wr gs cs∧Ext w wr∧w.heap.size≤bA∧gs≠bA∧w.heap.size≤gs
theorem Zbf.next {w wr w3:World}{xs f:List Nat}{l m:Nat}{d g:Option Addr}{t n j p:Nat}{cs:Array Value}{o:Obj}(h:Zbf w wr xs f l m d t j p cs)(u:Buf .u64 297 w3 g n (f ++ List.replicate j 0 ++ [0]))(v:Fr (xJ d) (wr.alloc o) w3)(x:∀ b,xJ g b→xJ d b∨b=(wr.alloc o).heap.size):Zbf w w3 xs f l m g n (j+1) p cs:=by
 obtain⟨q,y,C,e,r,s,z,A,B⟩:=h
 have a:Fr (xJ d) wr w3:=((Fr.refl (xJ d) wr).alloc o).trans v
 have D:=q.lt
 have E:=r.lt
 refine⟨q.fr a (fun c=>(e _ c).2.1 rfl),y.fr a (fun c=>(e _ c).2.1 rfl),by rw[List.replicate_succ',← uO];exact u,fun b c=>?_,r.fr a (fun c=>(e _ c).2.2 rfl),s.next a (fun i F c=>by have:=(e i c).1;omega),z,A,B⟩
 rcases x b c with k|k
 ·exact e b k
 have:=s.size
 simp at k
 exact⟨by omega,by omega,by omega⟩
theorem Buf.takeG {k:IntKind}{e:TypeId}{w:World}{A:Option Addr}{cap:Nat}{xs:List Nat}(h:Buf k e w A cap xs)(n:Nat):Buf k e w A cap (xs.take n):=by
 rcases h with ⟨a,rfl,c⟩|⟨b,a,d,c,g,f⟩
 ·exact Or.inl ⟨a,by simp,c⟩
 exact Or.inr ⟨b,a,d.take n,c,by rw[uL];omega,f⟩
theorem Zf5 (u v:Value)(m n g:Nat)(w:World)(hg:Glob w)(hu:zY w u m)(hv:zY w v n)(hm:wl m≤79)(hn:W64≤n)(p0:n≤m)(eg:Nat.gcd m n=g) :
 yA 263 #[u,v] w (jN w g):=by
 have j0:wl n≤79:=uD (aL p0) hm
 obtain⟨A,h,c,rfl,hc,G,h2,h3,h4⟩:=hu
 obtain⟨A2,ys,c2,rfl,K0,L,M,T,k4⟩:=hv
 have L0:=wK h2 h3
 have M0:=wK M T
 rw[h4] at L0
 rw[k4] at M0
 have U1:2≤ys.length:=by
  rcases uZ ys.length 2 with k|k
  ·have:=ZaZ.1 (show wl n≤1 by omega);omega
  exact k
 have HU:Hid (zY w (.slice A h.length c) m):=⟨A,h,c,rfl,hc,G,h2,h3,h4⟩
 have HV:Hid (zY w (.slice A2 ys.length c2) n):=⟨A2,ys,c2,rfl,K0,L,M,T,k4⟩
 have HX:=zh G
 have HY:=zh L
 have q0:=zh p0
 have U:=zh h2
 have N0:=zh M
 have O0:=zh h3
 have P0:=zh T
 have t0:=zh h4
 have w0:=zh k4
 have Q0:=zh eg
 have HG:=zh hg
 have Hm:=zh hm
 have Hn:=zh j0
 have V:h.length≤79:=by omega
 have V1:ys.length≤79:=by omega
 clear hm hn p0 G L M T h3 h2 hc K0 L0 M0 h4 k4 eg hg j0
 go_enter Tryz.func263,Tryz.ntmps263
 go_wp2_with fail
 refine (gW _ _ m n w HU.out HV.out (by have:=Hm.out;omega) (by have:=Hn.out;omega)).mono ?_
 rintro e w' ⟨rfl,nd,R0⟩
 obtain⟨q,hq⟩:=yE (cmpI m n)
 have W1:(0:Int)≤q:=by rw[←hq];exact fU q0.out
 have X1:decide (q<0)=false:=by simp;omega
 rw[hq]
 have W:Hid (Ext w w'):=R0 ▸ (Fr.refl _ w).drewN nd
 clear hq R0 W1
 have S0:((ys.length:Int) == 0)=false:=by rw[beq_eq_false_iff_ne];omega
 go_wp2_with fail
 refine (jR A h _ c w' rfl (HX.out.ext W.out) (by omega)).mono ?_
 rintro e w1 ⟨A1,l0,rfl,T0,N,U0⟩
 have x0:=zh T0
 have V0:Hid (∀ b,xJ A1 b→w.heap.size≤b):=fun b H=>uD W.out.size (U0 b H)
 have X:Hid (Ext w w1):=W.out.trans N
 clear T0 N U0
 go_wp2_with fail
 refine (jR A2 ys _ c2 w1 rfl (HY.out.ext X.out) (by omega)).mono ?_
 rintro e w2 ⟨A3,m0,rfl,t,l,s⟩
 have W0:Hid (dO w w2 g h ys A1 l0 A3 m0):=⟨x0.out.ext l,t,U.out,N0.out,O0.out,P0.out,by rw[t0.out,w0.out];exact q0.out,by rw[t0.out,w0.out];exact Q0.out,X.out.trans l,V0.out,fun b H=>uD X.out.size (s b H),fun b H y0=>by
  have L:=x0.out.lt H
  have M:=s b y0
  omega,V⟩
 clear t l s x0 V0 X W HX HY HU HV U N0 O0 P0 q0 Q0 t0 w0 Hm Hn S0 X1
 go_wp2_with fail
 go_loopg [5,6,7,8,9] (val W64 h+val W64 ys) (fun k av bv _ _ _ wr=>∃ (h ys:List Nat) (Aa:Option Addr) (F:Nat) (Ab:Option Addr) (cb:Nat),k=val W64 h+val W64 ys∧av=.slice Aa h.length F∧bv=.slice Ab ys.length cb∧Hid (dO w wr g h ys Aa F Ab cb))
 case atStart=>exact⟨h,ys,A1,l0,A3,m0,rfl,rfl,rfl,W0⟩
 case round =>
  clear W0 U1 V V1
  obtain⟨h,ys,Aa,F,Ab,cb,hk,rfl,rfl,d⟩:=hrel
  have HK:=zh hk
  clear hk
  have o:=d.out.len
  have n0:=d.out.2.2.2.2.2.2.2.2.2.2.2.2
  by_cases G:1<ys.length
  ·obtain⟨J,rfl,z0,X0,F2,Y0⟩:=d.out.1.openG (by intro e;rw[e] at o;simp at o;rw[o] at G;simp at G)
   obtain⟨bB,rfl,B,Z0,G2,D2⟩:=d.out.2.1.openG (by intro e;rw[e] at G;simp at G)
   have O:=zh (Zb5 J bB F cb h ys wr z0 B d.out.2.2.1 d.out.2.2.2.1 d.out.2.2.2.2.1 o (by omega) d.out.2.2.2.2.2.2.1 (by omega))
   have a1:0<val W64 ys:=Zbd d.out.2.2.2.2.2.1 zZ (by intro e;rw[e] at G;simp at G)
   have A0:=zh a1
   have c1:=zh (d.out.1.natIs d.out.2.2.1 d.out.2.2.2.2.1)
   have d1:=zh (d.out.2.1.natIs d.out.2.2.2.1 d.out.2.2.2.2.2.1)
   have e1:wl (val W64 h)≤79:=by rw[←wK d.out.2.2.1 d.out.2.2.2.2.1];exact n0
   have f1:wl (val W64 ys)≤79:=by rw[←wK d.out.2.2.2.1 d.out.2.2.2.2.2.1];omega
   have g1:=zh e1
   have Y1:=zh f1
   have B0:=zh z0
   have i1:=zh B
   have j1:=zh X0
   have Z1:=zh Z0
   unfold dY lI at O
   clear z0 B X0 Z0 a1 e1 f1
   go_wp2_with fail
   refine O.out.mono ?_
   rintro e w1 ⟨u0,u1,v0,v1,odd,rfl,b0,b1,b2,b3,l1,N⟩
   have Y:=zh N
   have a2:=zh l1
   have Hb:=zh (And.intro b0 (And.intro b1 (And.intro b2 b3)))
   clear N l1 b0 b1 b2 b3 O
   by_cases hv:v0=0
   ·subst hv
    go_wp2_with fail
    generalize I:World.alloc w1 _=wb
    have Z:Hid (Ext wr wb):=I ▸ Y.out.alloc _
    clear I Y
    refine (ZaC _ _ _ _ _ (c1.out.ext Z.out) (d1.out.ext Z.out) (by have:=g1.out;omega) (by have:=Y1.out;omega) A0.out).mono ?_
    rintro e w2 ⟨qv,rv,rfl,m1,d2,n1⟩
    obtain⟨Aq,lq,cq,rfl⟩:=m1.slice
    obtain⟨Ar,C,cr,rfl,e2,o1,C0,D0,E0⟩:=d2
    have a0:=zh (Z.out.trans n1)
    have f2:=zh o1
    have g2:=zh C0
    have i2:=zh D0
    have p1:=zh E0
    have H2:C.length≤79:=by
     rw[wK C0 D0,E0]
     have:wl (val W64 h%val W64 ys)≤wl (val W64 h):=aL (Nat.mod_le _ _)
     have:=g1.out;omega
    clear m1 o1 C0 D0 E0 e2 n1 Z
    go_wp2_with fail
    refine (jR Ar C _ cr w2 rfl f2.out (by omega)).mono ?_
    rintro e w3 ⟨Ac,cc,rfl,t,l,s⟩
    have z:=zh (d.out.div A0.out a0.out g2.out i2.out p1.out t l s)
    have F0:Hid (val W64 ys+val W64 C<val W64 h+val W64 ys):=by
     have G:=uP (val W64 h) A0.out
     have h2:=d.out.2.2.2.2.2.2.1
     have h3:=p1.out
     unfold Hid;omega
    clear t l s d c1 d1 B0 i1 j1 Z1
    go_wp2
    go_roundg (val W64 ys+val W64 C)
    case measure=>rw[HK.out];exact F0.out
    case rel=>exact⟨ys,C,_,cb,Ac,cc,rfl,rfl,rfl,z⟩
   have I2:((v0:Int) == 0)=false:=by simp;omega
   obtain⟨r0,r1,q1,q2,q3,K⟩:=a2.out.pair hv
   have HQ:=zh (And.intro q1 (And.intro q2 (And.intro q3 K)))
   have j2:J≠bB:=fun e=>d.out.2.2.2.2.2.2.2.2.2.2.2.1 J ⟨_,rfl,rfl⟩ ⟨_,rfl,by simp[e]⟩
   clear q1 q2 q3 K hv
   go_wp2_with fail
   generalize I:World.alloc w1 _=wb
   have J2:=B0.out.lt
   have K2:=i1.out.lt
   have L2:=Y.out.size
   have x1:Hid (Zbf w wb h ys J F (some ⟨bB,0,none⟩) cb 0 w1.heap.size #[.int .u64 (u0:Int),.int .u64 (u1:Int),.int .u64 (v0:Int),.int .u64 (v1:Int),.bool odd]):=by
    have c0:Ext wr wb:=I ▸ Y.out.alloc _
    refine⟨B0.out.ext c0,j1.out.fr c0 (fun f=>f),by rw[List.replicate_zero,tP];exact d.out.2.1.ext c0,fun b H=>?_,I ▸ Blk.new _ _ _,d.out.2.2.2.2.2.2.2.2.1.trans c0,d.out.2.2.2.2.2.2.2.2.2.1 J ⟨_,rfl,rfl⟩,by omega,?_⟩
    ·obtain⟨a,D,rfl⟩:=H
     injection D with D;subst D
     exact⟨d.out.2.2.2.2.2.2.2.2.2.2.1 bB ⟨_,rfl,rfl⟩,fun e=>j2 e.symm,by show bB≠_;omega⟩
    have:=d.out.2.2.2.2.2.2.2.2.1.size;omega
   clear I
   generalize w1.heap.size=gs at *
   go_loopw [6] (fun bv wq=>∃ (j:Nat) (A6:Option Addr) (S:Nat),ys.length+j≤h.length∧bv=.slice A6 (ys.length+j) S∧Hid (Zbf w wq h ys J F A6 S j gs #[.int .u64 (u0:Int),.int .u64 (u1:Int),.int .u64 (v0:Int),.int .u64 (v1:Int),.bool odd])) (fun bv _=>match bv with | .slice _ k _=>h.length-k | _=>0)
   case atStart=>exact⟨0,_,cb,by omega,rfl,x1⟩
   case round =>
    clear x1
    obtain⟨j,A6,S,hj,rfl,E⟩:=hrel
    by_cases M2:ys.length+j<h.length
    ·have y1:Hid (zV .u64 (wr.alloc (.cells #[.int .u64 0] 297)) (some ⟨wr.heap.size,0,none⟩) [0]):=(Own.new wr 297 .u64 [0] []).shows0
     have z1:Hid ((ys ++ List.replicate j 0).length=ys.length+j):=by unfold Hid;simp
     go_wp2_with (at_builtin;refine Hid.out ?_)
     refine zh ?_
     refine lC rfl _ _ _ rfl _ .u64 8 Tryz.underlying255 dG A6 (some ⟨wr.heap.size,0,none⟩) (ys.length+j) 1 S 1 rfl rfl (ys ++ List.replicate j 0) [0] z1.out rfl (E.out.2.2.1.ext ((Fr.refl _ _).alloc _)) y1.out (by simp only[maxLen];omega) (by omega) ?_
     intro A7 c7 w3 t l s
     have z:=zh (E.out.next t l s)
     clear t l s y1 z1
     go_wp2
     go_roundw
     case rel=>exact⟨j+1,A7,c7,by omega,by rw[tR],z⟩
     case measure=>simp;omega
    have ej:ys.length+j=h.length:=by omega
    have E2:0<h.length:=by omega
    have o0:ys ++ List.replicate j 0≠[]:=fun e=>by have:=tC List.length e;rw[uA,sO] at this;omega
    obtain⟨bC,rfl,G0,B1,N2,C1⟩:=E.out.2.2.1.openG o0
    have P:=E.out.2.2.2.1 bC ⟨_,rfl,rfl⟩
    have d0:(ys ++ List.replicate j 0).length=h.length:=by simp;omega
    have D1:val W64 (ys ++ List.replicate j 0)=val W64 ys:=by rw[kL,jF];simp
    have H0:Dig W64 (ys ++ List.replicate j 0):=d.out.2.2.2.1.append (Dig.replicate zZ _)
    have V:=wH d.out.2.2.1
    have l2:=d.out.2.2.2.2.2.2.1
    have m2:Hid (yA 296 #[.agg #[.int .u64 (u0:Int),.int .u64 (u1:Int),.int .u64 (v0:Int),.int .u64 (v1:Int),.bool odd],.slice (some ⟨J,0,none⟩) h.length F,.slice (some ⟨bC,0,none⟩) (ys.length+j) S] wr (eP J bC h.length r0 r1 wr)):=by
     obtain⟨q1,q2,q3,K⟩:=HQ.out
     obtain⟨k0,L,M,T⟩:=Hb.out
     unfold Hid
     rw[ej]
     rw[←D1] at K
     cases odd with
     | false =>
      simp only[Bool.false_eq_true,if_false] at K
      exact Zd3 J bC h.length F S u0 u1 v0 v1 r0 r1 h _ wr rfl d0 E.out.1 G0 (fun e=>P.2.1 e.symm) d.out.2.2.1 H0 (by omega) k0 L M T K.1 K.2 (by omega) (by omega)
     | true =>
      simp only[if_true] at K
      exact Zfu J bC h.length F S u0 u1 v0 v1 r0 r1 h _ wr rfl d0 E.out.1 G0 (fun e=>P.2.1 e.symm) d.out.2.2.1 H0 (by omega) k0 L M T K.1 K.2 (by omega) (by omega)
    have s0:wr.cell? ⟨gs,0,none⟩=some (.int .u64 (u0:Int)):=E.out.2.2.2.2.1.cell 0
    have s1:wr.cell? ⟨gs,1,none⟩=some (.int .u64 (u1:Int)):=E.out.2.2.2.2.1.cell 1
    have s2:wr.cell? ⟨gs,2,none⟩=some (.int .u64 (v0:Int)):=E.out.2.2.2.2.1.cell 2
    have s3:wr.cell? ⟨gs,3,none⟩=some (.int .u64 (v1:Int)):=E.out.2.2.2.2.1.cell 3
    have s4:wr.cell? ⟨gs,4,none⟩=some (.bool odd):=E.out.2.2.2.2.1.cell 4
    have n2:=zh B1
    have E1:=zh d0
    have o2:=zh ej
    clear G0 B1 d0 D1 H0 V l2 o0 ej
    go_wp2_with fail
    refine m2.out.mono ?_
    rintro e w3 ⟨C,zt,rfl,Q,R,e0,f0,F1,G1,H1,p2,I1,J1,l⟩
    have r2:=o2.out
    have K1:=zh (gJ _ C h.length F w3 H1 Q.shows0 (by omega) (by omega))
    have L1:=zh (gJ _ zt (ys.length+j) S w3 (by omega) R.shows0 (by have:=E1.out;omega) (by omega))
    have z:Hid (dO w w3 g (xZ C) (xZ zt) (some ⟨J,0,none⟩) F (some ⟨bC,0,none⟩) S):=by
     obtain⟨q1,q2,q3,K⟩:=HQ.out
     have t1:=wM C
     have t2:=gI C C.length
     refine⟨Buf.takeG (Or.inr ⟨J,rfl,Q,I1 _ E.out.2.1,by omega,Y0⟩) _,Buf.takeG (Or.inr ⟨bC,rfl,R,J1 _ n2.out,by have:=E1.out;omega,C1⟩) _,iO F1,iO G1,iY _,iY _,?_,?_,?_,fun b H=>?_,fun b H=>?_,fun b H y0=>?_,by omega⟩
     ·rw[wZ,wZ,e0,f0];omega
     ·rw[wZ,wZ,e0,f0,q3];exact d.out.2.2.2.2.2.2.2.1
     ·refine E.out.2.2.2.2.2.1.next l (fun i hi e=>?_)
      rcases e with e|e
      ·have:=E.out.2.2.2.2.2.2.1;omega
      have:=P.1;omega
     ·obtain⟨a,D,rfl⟩:=H
      injection D with D;subst D
      exact E.out.2.2.2.2.2.2.1
     ·obtain⟨a,D,rfl⟩:=H
      injection D with D;subst D
      exact P.1
     obtain⟨a,D,rfl⟩:=H
     injection D with D;subst D
     obtain⟨a',I0,e⟩:=y0
     injection I0 with I0;subst I0
     exact P.2.1 e
    have F0:Hid (val W64 (xZ C)+val W64 (xZ zt)<val W64 h+val W64 ys):=by
     obtain⟨q1,q2,q3,K⟩:=HQ.out
     have h2:=d.out.2.2.2.2.2.2.1
     unfold Hid
     rw[wZ,wZ,e0,f0];omega
    have M1:=zh (wM C)
    have N1:=zh (wM zt)
    clear Q R e0 f0 F1 G1 I1 J1 l r2 H1 p2
    go_wp2_with fail
    refine K1.out.mono ?_
    rintro e w4 ⟨rfl,rfl⟩
    go_wp2_with fail
    refine L1.out.mono ?_
    rintro e w4 ⟨rfl,rfl⟩
    go_wp2
    go_roundg (val W64 (xZ C)+val W64 (xZ zt))
    case measure=>rw[HK.out];exact F0.out
    case rel=>exact⟨xZ C,xZ zt,_,F,_,S,rfl,by rw[M1.out],by rw[N1.out],z⟩
  have O1:decide ((1:Int)<(ys.length:Int))=false:=by simp;omega
  by_cases h0:ys=[]
  ·subst h0
   have HN:Hid (zY wr (.slice Aa h.length F) g):=by
    have L:=d.out.1.natIs d.out.2.2.1 d.out.2.2.2.2.1
    have M:=d.out.2.2.2.2.2.2.2.1
    rw[eM,rD] at M
    rw[M] at L
    exact L
   have HE:Hid (Ext w wr):=d.out.2.2.2.2.2.2.2.2.1
   clear d G O1 o
   go_wp2
   go_ret
   exact⟨_,rfl,HN.out,HE.out⟩
  obtain⟨y,rfl⟩:∃ y,ys=[y]:=by
   match ys,(by have:=rL.2 h0;omega:ys.length=1) with
   | [y],_=>exact⟨y,rfl⟩
  obtain⟨b3,rfl,B,_⟩:=d.out.2.1.openG h0
  have P1:=B.cell (i:=0) (by simp)
  simp at P1
  have u2:=zh B.lt
  have a0:Hid (Ext w wr):=d.out.2.2.2.2.2.2.2.2.1
  have v2:Hid (zV .u64 wr Aa h):=d.out.1.shows
  have U:=zh d.out.2.2.1
  have Q1:y<W64:=d.out.2.2.2.1 y (by simp)
  have g0:0<y:=by
   have:=d.out.2.2.2.2.2.1 0 rfl
   simp at this;omega
  have i0:=d.out.2.2.2.2.2.2.2.1
  simp only[gH,eM,sS,tK] at i0
  obtain⟨r,er⟩:=yE (val W64 h%y)
  have J0:Hid (r<W64∧Nat.gcd y r=g∧g<W64):=by
   have L:=uP (val W64 h) g0
   have T:=qE (val W64 h) g0
   rw[i0] at T
   refine⟨by omega,?_,by omega⟩
   rw[←er,← i0,tV y,← qJ,tV]
  obtain⟨x,ex⟩:=yE h.length
  rw[ex] at n0 ⊢
  have R1:Hid (wr.cell? ⟨b3,0,none⟩=some (.int .u64 (y:Int))):=P1
  have x2:=zh g0
  have Hn:=zh Q1
  have y2:=zh er
  have S1:=zh ex
  clear d B i0 er ex h0 G O1 o g0 Q1
  go_wp2_with fail
  go_region_held3 (fun w'=>w'.cell? ⟨b3,0,none⟩=some (.int .u64 (y:Int)))
   (first|exact R1.out|exact (Fr.cell (p:=⟨b3,0,none⟩) (Fr.undrew hFF) u2.out (fun f=>f)).trans R1.out)
   (first
    | (
     go_at_call 300
     refine (iX Aa h x F y _ S1.out v2.out.drew (by have:=S1.out;omega) U.out x2.out Hn.out).mono ?_
     rintro e w4 ⟨rfl,z2,T1⟩
     rw[y2.out]
     have hFF:Ext wr.drew w4:=T1 ▸ (Fr.refl _ wr.drew).drewN z2
     clear T1)
    | (
     go_at_call 299
     refine (cL y r g _ (HG.out.ext (a0.out.trans (Fr.undrew hFF))) Hn.out J0.out.1 J0.out.2.1).mono ?_
     rintro e w5 ⟨rfl,rfl⟩)
    | (
     go_at_call 298
     refine (dH g _ J0.out.2.2).mono ?_
     rintro e w6 ⟨v6,rfl,B2,C2⟩
     replace hFF:Ext wr.drew w6:=hFF.trans C2))
  go_wp2
  go_ret
  exact⟨_,rfl,B2,a0.out.trans (Fr.undrew hFF)⟩
theorem Zf6 (u v:Value)(m n g:Nat)(w:World)(hg:Glob w)(hu:zY w u m)(hv:zY w v n)(hm:wl m≤79)(hn:W64≤n)(J0:n<m)(eg:Nat.gcd m n=g) :
 yA 263 #[v,u] w (jN w g):=by
 have p0:n≤m:=by omega
 have j0:wl n≤79:=uD (aL p0) hm
 obtain⟨A,h,c,rfl,hc,G,h2,h3,h4⟩:=hu
 obtain⟨A2,ys,c2,rfl,K0,L,M,T,k4⟩:=hv
 have L0:=wK h2 h3
 have M0:=wK M T
 rw[h4] at L0
 rw[k4] at M0
 have V1:2≤ys.length:=by
  rcases uZ ys.length 2 with k|k
  ·have:=ZaZ.1 (show wl n≤1 by omega);omega
  exact k
 have HU:Hid (zY w (.slice A h.length c) m):=⟨A,h,c,rfl,hc,G,h2,h3,h4⟩
 have HV:Hid (zY w (.slice A2 ys.length c2) n):=⟨A2,ys,c2,rfl,K0,L,M,T,k4⟩
 have HX:=zh G
 have HY:=zh L
 have N0:=zh p0
 have W1:=zh J0
 have U:=zh h2
 have O0:=zh M
 have P0:=zh h3
 have Q0:=zh T
 have q0:=zh h4
 have t0:=zh k4
 have R0:=zh eg
 have HG:=zh hg
 have Hm:=zh hm
 have Hn:=zh j0
 have V:h.length≤79:=by omega
 have X1:ys.length≤79:=by omega
 clear hm hn p0 J0 G L M T h3 h2 hc K0 L0 M0 h4 k4 eg hg j0
 go_enter Tryz.func263,Tryz.ntmps263
 go_wp2_with fail
 refine (gW _ _ n m w HV.out HU.out (by have:=Hn.out;omega) (by have:=Hm.out;omega)).mono ?_
 rintro e w' ⟨rfl,nd,S0⟩
 obtain⟨q,hq⟩:=yE (cmpI n m)
 have Y1:q<0:=by
  have h5:(n:Int)<(m:Int):=by have:=W1.out;omega
  rw[←hq];unfold cmpI;rw[tA h5];omega
 have Z1:decide (q<0)=true:=by simp;omega
 rw[hq]
 have W:Hid (Ext w w'):=S0 ▸ (Fr.refl _ w).drewN nd
 clear hq S0 Y1
 have T0:((ys.length:Int) == 0)=false:=by rw[beq_eq_false_iff_ne];omega
 go_wp2_with fail
 refine (jR A h _ c w' rfl (HX.out.ext W.out) (by omega)).mono ?_
 rintro e w1 ⟨A1,l0,rfl,U0,N,V0⟩
 have w0:=zh U0
 have W0:Hid (∀ b,xJ A1 b→w.heap.size≤b):=fun b H=>uD W.out.size (V0 b H)
 have X:Hid (Ext w w1):=W.out.trans N
 clear U0 N V0
 go_wp2_with fail
 refine (jR A2 ys _ c2 w1 rfl (HY.out.ext X.out) (by omega)).mono ?_
 rintro e w2 ⟨A3,m0,rfl,t,l,s⟩
 have X0:Hid (dO w w2 g h ys A1 l0 A3 m0):=⟨w0.out.ext l,t,U.out,O0.out,P0.out,Q0.out,by rw[q0.out,t0.out];exact N0.out,by rw[q0.out,t0.out];exact R0.out,X.out.trans l,W0.out,fun b H=>uD X.out.size (s b H),fun b H x0=>by
  have L:=w0.out.lt H
  have M:=s b x0
  omega,V⟩
 clear t l s w0 W0 X W HX HY HU HV U O0 P0 Q0 N0 R0 q0 t0 Hm Hn T0 Z1
 go_wp2_with fail
 go_loopg [5,6,7,8,9] (val W64 h+val W64 ys) (fun k av bv _ _ _ wr=>∃ (h ys:List Nat) (Aa:Option Addr) (F:Nat) (Ab:Option Addr) (cb:Nat),k=val W64 h+val W64 ys∧av=.slice Aa h.length F∧bv=.slice Ab ys.length cb∧Hid (dO w wr g h ys Aa F Ab cb))
 case atStart=>exact⟨h,ys,A1,l0,A3,m0,rfl,rfl,rfl,X0⟩
 case round =>
  clear X0 V1 V X1
  obtain⟨h,ys,Aa,F,Ab,cb,hk,rfl,rfl,d⟩:=hrel
  have HK:=zh hk
  clear hk
  have o:=d.out.len
  have n0:=d.out.2.2.2.2.2.2.2.2.2.2.2.2
  by_cases G:1<ys.length
  ·obtain⟨J,rfl,y0,Y0,H2,Z0⟩:=d.out.1.openG (by intro e;rw[e] at o;simp at o;rw[o] at G;simp at G)
   obtain⟨bB,rfl,B,a1,I2,F2⟩:=d.out.2.1.openG (by intro e;rw[e] at G;simp at G)
   have O:=zh (Zb5 J bB F cb h ys wr y0 B d.out.2.2.1 d.out.2.2.2.1 d.out.2.2.2.2.1 o (by omega) d.out.2.2.2.2.2.2.1 (by omega))
   have c1:0<val W64 ys:=Zbd d.out.2.2.2.2.2.1 zZ (by intro e;rw[e] at G;simp at G)
   have z0:=zh c1
   have d1:=zh (d.out.1.natIs d.out.2.2.1 d.out.2.2.2.2.1)
   have e1:=zh (d.out.2.1.natIs d.out.2.2.2.1 d.out.2.2.2.2.2.1)
   have f1:wl (val W64 h)≤79:=by rw[←wK d.out.2.2.1 d.out.2.2.2.2.1];exact n0
   have g1:wl (val W64 ys)≤79:=by rw[←wK d.out.2.2.2.1 d.out.2.2.2.2.2.1];omega
   have i1:=zh f1
   have a2:=zh g1
   have A0:=zh y0
   have j1:=zh B
   have l1:=zh Y0
   have d2:=zh a1
   unfold dY lI at O
   clear y0 B Y0 a1 c1 f1 g1
   go_wp2_with fail
   refine O.out.mono ?_
   rintro e w1 ⟨u0,u1,v0,v1,odd,rfl,b0,b1,b2,b3,m1,N⟩
   have Y:=zh N
   have e2:=zh m1
   have Hb:=zh (And.intro b0 (And.intro b1 (And.intro b2 b3)))
   clear N m1 b0 b1 b2 b3 O
   by_cases hv:v0=0
   ·subst hv
    go_wp2_with fail
    generalize I:World.alloc w1 _=wb
    have Z:Hid (Ext wr wb):=I ▸ Y.out.alloc _
    clear I Y
    refine (ZaC _ _ _ _ _ (d1.out.ext Z.out) (e1.out.ext Z.out) (by have:=i1.out;omega) (by have:=a2.out;omega) z0.out).mono ?_
    rintro e w2 ⟨qv,rv,rfl,n1,f2,o1⟩
    obtain⟨Aq,lq,cq,rfl⟩:=n1.slice
    obtain⟨Ar,C,cr,rfl,g2,p1,B0,C0,D0⟩:=f2
    have a0:=zh (Z.out.trans o1)
    have i2:=zh p1
    have j2:=zh B0
    have l2:=zh C0
    have x1:=zh D0
    have J2:C.length≤79:=by
     rw[wK B0 C0,D0]
     have:wl (val W64 h%val W64 ys)≤wl (val W64 h):=aL (Nat.mod_le _ _)
     have:=i1.out;omega
    clear n1 p1 B0 C0 D0 g2 o1 Z
    go_wp2_with fail
    refine (jR Ar C _ cr w2 rfl i2.out (by omega)).mono ?_
    rintro e w3 ⟨Ac,cc,rfl,t,l,s⟩
    have z:=zh (d.out.div z0.out a0.out j2.out l2.out x1.out t l s)
    have E0:Hid (val W64 ys+val W64 C<val W64 h+val W64 ys):=by
     have G:=uP (val W64 h) z0.out
     have h2:=d.out.2.2.2.2.2.2.1
     have h3:=x1.out
     unfold Hid;omega
    clear t l s d d1 e1 A0 j1 l1 d2
    go_wp2
    go_roundg (val W64 ys+val W64 C)
    case measure=>rw[HK.out];exact E0.out
    case rel=>exact⟨ys,C,_,cb,Ac,cc,rfl,rfl,rfl,z⟩
   have K2:((v0:Int) == 0)=false:=by simp;omega
   obtain⟨r0,r1,q1,q2,q3,K⟩:=e2.out.pair hv
   have HQ:=zh (And.intro q1 (And.intro q2 (And.intro q3 K)))
   have m2:J≠bB:=fun e=>d.out.2.2.2.2.2.2.2.2.2.2.2.1 J ⟨_,rfl,rfl⟩ ⟨_,rfl,by simp[e]⟩
   clear q1 q2 q3 K hv
   go_wp2_with fail
   generalize I:World.alloc w1 _=wb
   have L2:=A0.out.lt
   have M2:=j1.out.lt
   have N2:=Y.out.size
   have y1:Hid (Zbf w wb h ys J F (some ⟨bB,0,none⟩) cb 0 w1.heap.size #[.int .u64 (u0:Int),.int .u64 (u1:Int),.int .u64 (v0:Int),.int .u64 (v1:Int),.bool odd]):=by
    have c0:Ext wr wb:=I ▸ Y.out.alloc _
    refine⟨A0.out.ext c0,l1.out.fr c0 (fun f=>f),by rw[List.replicate_zero,tP];exact d.out.2.1.ext c0,fun b H=>?_,I ▸ Blk.new _ _ _,d.out.2.2.2.2.2.2.2.2.1.trans c0,d.out.2.2.2.2.2.2.2.2.2.1 J ⟨_,rfl,rfl⟩,by omega,?_⟩
    ·obtain⟨a,D,rfl⟩:=H
     injection D with D;subst D
     exact⟨d.out.2.2.2.2.2.2.2.2.2.2.1 bB ⟨_,rfl,rfl⟩,fun e=>m2 e.symm,by show bB≠_;omega⟩
    have:=d.out.2.2.2.2.2.2.2.2.1.size;omega
   clear I
   generalize w1.heap.size=gs at *
   go_loopw [6] (fun bv wq=>∃ (j:Nat) (A6:Option Addr) (S:Nat),ys.length+j≤h.length∧bv=.slice A6 (ys.length+j) S∧Hid (Zbf w wq h ys J F A6 S j gs #[.int .u64 (u0:Int),.int .u64 (u1:Int),.int .u64 (v0:Int),.int .u64 (v1:Int),.bool odd])) (fun bv _=>match bv with | .slice _ k _=>h.length-k | _=>0)
   case atStart=>exact⟨0,_,cb,by omega,rfl,y1⟩
   case round =>
    clear y1
    obtain⟨j,A6,S,hj,rfl,E⟩:=hrel
    by_cases O2:ys.length+j<h.length
    ·have z1:Hid (zV .u64 (wr.alloc (.cells #[.int .u64 0] 297)) (some ⟨wr.heap.size,0,none⟩) [0]):=(Own.new wr 297 .u64 [0] []).shows0
     have B1:Hid ((ys ++ List.replicate j 0).length=ys.length+j):=by unfold Hid;simp
     go_wp2_with (at_builtin;refine Hid.out ?_)
     refine zh ?_
     refine lC rfl _ _ _ rfl _ .u64 8 Tryz.underlying255 dG A6 (some ⟨wr.heap.size,0,none⟩) (ys.length+j) 1 S 1 rfl rfl (ys ++ List.replicate j 0) [0] B1.out rfl (E.out.2.2.1.ext ((Fr.refl _ _).alloc _)) z1.out (by simp only[maxLen];omega) (by omega) ?_
     intro A7 c7 w3 t l s
     have z:=zh (E.out.next t l s)
     clear t l s z1 B1
     go_wp2
     go_roundw
     case rel=>exact⟨j+1,A7,c7,by omega,by rw[tR],z⟩
     case measure=>simp;omega
    have ej:ys.length+j=h.length:=by omega
    have G2:0<h.length:=by omega
    have o0:ys ++ List.replicate j 0≠[]:=fun e=>by have:=tC List.length e;rw[uA,sO] at this;omega
    obtain⟨bC,rfl,F0,C1,P2,D1⟩:=E.out.2.2.1.openG o0
    have P:=E.out.2.2.2.1 bC ⟨_,rfl,rfl⟩
    have d0:(ys ++ List.replicate j 0).length=h.length:=by simp;omega
    have E1:val W64 (ys ++ List.replicate j 0)=val W64 ys:=by rw[kL,jF];simp
    have G0:Dig W64 (ys ++ List.replicate j 0):=d.out.2.2.2.1.append (Dig.replicate zZ _)
    have V:=wH d.out.2.2.1
    have n2:=d.out.2.2.2.2.2.2.1
    have o2:Hid (yA 296 #[.agg #[.int .u64 (u0:Int),.int .u64 (u1:Int),.int .u64 (v0:Int),.int .u64 (v1:Int),.bool odd],.slice (some ⟨J,0,none⟩) h.length F,.slice (some ⟨bC,0,none⟩) (ys.length+j) S] wr (eP J bC h.length r0 r1 wr)):=by
     obtain⟨q1,q2,q3,K⟩:=HQ.out
     obtain⟨k0,L,M,T⟩:=Hb.out
     unfold Hid
     rw[ej]
     rw[←E1] at K
     cases odd with
     | false =>
      simp only[Bool.false_eq_true,if_false] at K
      exact Zd3 J bC h.length F S u0 u1 v0 v1 r0 r1 h _ wr rfl d0 E.out.1 F0 (fun e=>P.2.1 e.symm) d.out.2.2.1 G0 (by omega) k0 L M T K.1 K.2 (by omega) (by omega)
     | true =>
      simp only[if_true] at K
      exact Zfu J bC h.length F S u0 u1 v0 v1 r0 r1 h _ wr rfl d0 E.out.1 F0 (fun e=>P.2.1 e.symm) d.out.2.2.1 G0 (by omega) k0 L M T K.1 K.2 (by omega) (by omega)
    have s0:wr.cell? ⟨gs,0,none⟩=some (.int .u64 (u0:Int)):=E.out.2.2.2.2.1.cell 0
    have s1:wr.cell? ⟨gs,1,none⟩=some (.int .u64 (u1:Int)):=E.out.2.2.2.2.1.cell 1
    have s2:wr.cell? ⟨gs,2,none⟩=some (.int .u64 (v0:Int)):=E.out.2.2.2.2.1.cell 2
    have s3:wr.cell? ⟨gs,3,none⟩=some (.int .u64 (v1:Int)):=E.out.2.2.2.2.1.cell 3
    have s4:wr.cell? ⟨gs,4,none⟩=some (.bool odd):=E.out.2.2.2.2.1.cell 4
    have p2:=zh C1
    have F1:=zh d0
    have r2:=zh ej
    clear F0 C1 d0 E1 G0 V n2 o0 ej
    go_wp2_with fail
    refine o2.out.mono ?_
    rintro e w3 ⟨C,zt,rfl,Q,R,e0,f0,G1,H1,I1,u2,J1,K1,l⟩
    have v2:=r2.out
    have L1:=zh (gJ _ C h.length F w3 I1 Q.shows0 (by omega) (by omega))
    have M1:=zh (gJ _ zt (ys.length+j) S w3 (by omega) R.shows0 (by have:=F1.out;omega) (by omega))
    have z:Hid (dO w w3 g (xZ C) (xZ zt) (some ⟨J,0,none⟩) F (some ⟨bC,0,none⟩) S):=by
     obtain⟨q1,q2,q3,K⟩:=HQ.out
     have t1:=wM C
     have t2:=gI C C.length
     refine⟨Buf.takeG (Or.inr ⟨J,rfl,Q,J1 _ E.out.2.1,by omega,Z0⟩) _,Buf.takeG (Or.inr ⟨bC,rfl,R,K1 _ p2.out,by have:=F1.out;omega,D1⟩) _,iO G1,iO H1,iY _,iY _,?_,?_,?_,fun b H=>?_,fun b H=>?_,fun b H x0=>?_,by omega⟩
     ·rw[wZ,wZ,e0,f0];omega
     ·rw[wZ,wZ,e0,f0,q3];exact d.out.2.2.2.2.2.2.2.1
     ·refine E.out.2.2.2.2.2.1.next l (fun i hi e=>?_)
      rcases e with e|e
      ·have:=E.out.2.2.2.2.2.2.1;omega
      have:=P.1;omega
     ·obtain⟨a,D,rfl⟩:=H
      injection D with D;subst D
      exact E.out.2.2.2.2.2.2.1
     ·obtain⟨a,D,rfl⟩:=H
      injection D with D;subst D
      exact P.1
     obtain⟨a,D,rfl⟩:=H
     injection D with D;subst D
     obtain⟨a',H0,e⟩:=x0
     injection H0 with H0;subst H0
     exact P.2.1 e
    have E0:Hid (val W64 (xZ C)+val W64 (xZ zt)<val W64 h+val W64 ys):=by
     obtain⟨q1,q2,q3,K⟩:=HQ.out
     have h2:=d.out.2.2.2.2.2.2.1
     unfold Hid
     rw[wZ,wZ,e0,f0];omega
    have N1:=zh (wM C)
    have O1:=zh (wM zt)
    clear Q R e0 f0 G1 H1 J1 K1 l v2 I1 u2
    go_wp2_with fail
    refine L1.out.mono ?_
    rintro e w4 ⟨rfl,rfl⟩
    go_wp2_with fail
    refine M1.out.mono ?_
    rintro e w4 ⟨rfl,rfl⟩
    go_wp2
    go_roundg (val W64 (xZ C)+val W64 (xZ zt))
    case measure=>rw[HK.out];exact E0.out
    case rel=>exact⟨xZ C,xZ zt,_,F,_,S,rfl,by rw[N1.out],by rw[O1.out],z⟩
  have P1:decide ((1:Int)<(ys.length:Int))=false:=by simp;omega
  by_cases h0:ys=[]
  ·subst h0
   have HN:Hid (zY wr (.slice Aa h.length F) g):=by
    have L:=d.out.1.natIs d.out.2.2.1 d.out.2.2.2.2.1
    have M:=d.out.2.2.2.2.2.2.2.1
    rw[eM,rD] at M
    rw[M] at L
    exact L
   have HE:Hid (Ext w wr):=d.out.2.2.2.2.2.2.2.2.1
   clear d G P1 o
   go_wp2
   go_ret
   exact⟨_,rfl,HN.out,HE.out⟩
  obtain⟨y,rfl⟩:∃ y,ys=[y]:=by
   match ys,(by have:=rL.2 h0;omega:ys.length=1) with
   | [y],_=>exact⟨y,rfl⟩
  obtain⟨b3,rfl,B,_⟩:=d.out.2.1.openG h0
  have Q1:=B.cell (i:=0) (by simp)
  simp at Q1
  have x2:=zh B.lt
  have a0:Hid (Ext w wr):=d.out.2.2.2.2.2.2.2.2.1
  have y2:Hid (zV .u64 wr Aa h):=d.out.1.shows
  have U:=zh d.out.2.2.1
  have R1:y<W64:=d.out.2.2.2.1 y (by simp)
  have g0:0<y:=by
   have:=d.out.2.2.2.2.2.1 0 rfl
   simp at this;omega
  have i0:=d.out.2.2.2.2.2.2.2.1
  simp only[gH,eM,sS,tK] at i0
  obtain⟨r,er⟩:=yE (val W64 h%y)
  have I0:Hid (r<W64∧Nat.gcd y r=g∧g<W64):=by
   have L:=uP (val W64 h) g0
   have T:=qE (val W64 h) g0
   rw[i0] at T
   refine⟨by omega,?_,by omega⟩
   rw[←er,← i0,tV y,← qJ,tV]
  obtain⟨x,ex⟩:=yE h.length
  rw[ex] at n0 ⊢
  have S1:Hid (wr.cell? ⟨b3,0,none⟩=some (.int .u64 (y:Int))):=Q1
  have z2:=zh g0
  have Hn:=zh R1
  have B2:=zh er
  have T1:=zh ex
  clear d B i0 er ex h0 G P1 o g0 R1
  go_wp2_with fail
  go_region_held3 (fun w'=>w'.cell? ⟨b3,0,none⟩=some (.int .u64 (y:Int)))
   (first|exact S1.out|exact (Fr.cell (p:=⟨b3,0,none⟩) (Fr.undrew hFF) x2.out (fun f=>f)).trans S1.out)
   (first
    | (
     go_at_call 300
     refine (iX Aa h x F y _ T1.out y2.out.drew (by have:=T1.out;omega) U.out z2.out Hn.out).mono ?_
     rintro e w4 ⟨rfl,C2,U1⟩
     rw[B2.out]
     have hFF:Ext wr.drew w4:=U1 ▸ (Fr.refl _ wr.drew).drewN C2
     clear U1)
    | (
     go_at_call 299
     refine (cL y r g _ (HG.out.ext (a0.out.trans (Fr.undrew hFF))) Hn.out I0.out.1 I0.out.2.1).mono ?_
     rintro e w5 ⟨rfl,rfl⟩)
    | (
     go_at_call 298
     refine (dH g _ I0.out.2.2).mono ?_
     rintro e w6 ⟨v6,rfl,D2,E2⟩
     replace hFF:Ext wr.drew w6:=hFF.trans E2))
  go_wp2
  go_ret
  exact⟨_,rfl,D2,a0.out.trans (Fr.undrew hFF)⟩
theorem ZgD (u v:Value)(m n:Nat)(w:World)(a:Glob w)(b:zY w u m)(c:zY w v n)(d:wl m≤79)(e:wl n≤79):yA 263 #[u,v] w (jN w (Nat.gcd m n)):=by
 by_cases f:min m n<W64
 ·exact Za2 u v m n w a b c (by omega) (by omega) f
 rcases uZ m n with h|h
 ·exact Zf6 v u n m _ w a c b e (by omega) h (tV _ _)
 exact Zf5 u v m n _ w a b c d (by omega) h rfl
theorem Zhv (u v:Value)(m n:Nat)(w:World)(a:Glob w)(b:zY w u m)(c:zY w v n)(d:wl m≤4294967296)(e:wl n≤4294967296)(f:min m n<W64∨(wl m≤79∧wl n≤79)):yA 263 #[u,v] w (jN w (Nat.gcd m n)):=by
 rcases f with h|h
 ·exact Za2 u v m n w a b c d e h
 exact ZgD u v m n w a b c h.1 h.2
def Zbg (x y:Int):Prop:=min x.natAbs y.natAbs<W64∨(wl x.natAbs≤79∧wl y.natAbs≤79)
theorem Zbg.words {x y:Int}(a:wl x.natAbs≤79)(b:wl y.natAbs≤79):Zbg x y:=Or.inr ⟨a,b⟩
theorem Zh6 (a b:Value)(x y:Int)(w:World)(B:Glob w)(C:lB w a x)(D:lB w b y)(E:Fits x)(F:Fits y)(G:Zbg x y):yA 213 #[a,b] w (Zd0 w (Int.gcd x y:Int)):=by
 obtain⟨s,A,l,c,rfl,H,J,I⟩:=C.open
 obtain⟨t,R,S,T,rfl,g,m,n⟩:=D.open
 have K:=zh H
 have o:=zh g
 have L:Hid (wl x.natAbs≤4294967296):=by unfold Fits at E;unfold Hid;omega
 have M:Hid (wl y.natAbs≤4294967296):=by unfold Fits at F;unfold Hid;omega
 have N:=zh B
 have O:=zh G
 obtain⟨z,p⟩:=yE (Int.gcd x y)
 have P:Hid (Nat.gcd x.natAbs y.natAbs=z):=p
 rw[p]
 clear C D E F H g J m I n B G p
 go_enter Tryz.func213,Tryz.ntmps213
 go_wp2_with fail
 generalize h:World.alloc (World.alloc (World.alloc w _) _) _=wb
 obtain⟨q,r,i,Q⟩:=lO h
 have j:=zh i
 have k:=zh Q
 clear h q r i Q
 refine (Zhv _ _ _ _ _ (N.out.ext k.out) (K.out.ext k.out) (o.out.ext k.out) L.out M.out O.out).mono ?_
 rintro e U ⟨V,rfl,d,f⟩
 rw[P.out] at d
 obtain⟨W,X,Y,rfl⟩:=d.slice
 obtain⟨I,Z,z2,z3⟩:=(j.out.ext f).cell2
 have u:=zh d
 have v:=zh f
 clear d f
 go_wp2
 exact ZeU (neg:=false) rfl rfl (by omega) k.out j.out v.out u.out rfl rfl
end Go.Proofs.YtoanifijmlgcgaaGreatDoor
namespace Go.Proofs.YtoanifijmlgcgaaGreatDoor
open Go.RowKit Go.Sort
end Go.Proofs.YtoanifijmlgcgaaGreatDoor
namespace Go.Proofs.YtoanifijmlgcgaaGreatDoor
open Go.RowKit Go.Sort
section
variable {w wr w2:World} {A:Option Addr} {L:List UInt8} {cs:List Nat} {Ac:Option Addr} {cc bb t:Nat} {bs:List Nat} {A' A2:Option Addr} {cap' cap2:Nat}
end
end Go.Proofs.YtoanifijmlgcgaaGreatDoor
namespace Go.Proofs.YtoanifijmlgcgaaGreatDoor
open Go.RowKit Go.Sort
end Go.Proofs.YtoanifijmlgcgaaGreatDoor
namespace Go.Proofs.YtoanifijmlgcgaaGreatDoor
open Go.RowKit
def xH (c:UInt8):Bool:=decide (48≤c.toNat) && decide (c.toNat≤57)
abbrev bytes (s:ByteArray):List UInt8:=s.data.toList
theorem Zcc {p:UInt8→Bool}:∀ {l:List UInt8} {k:Nat},(l.take k).all p=true→(∀ h:k<l.length,p l[k]=false)→l.takeWhile p=l.take k∧l.dropWhile p=l.drop k
 | [],k,_,_=>by simp
 | x :: l,0,_,h=>by
  have:=h (by simp)
  simp at this
  simp[this]
 | x :: l,k+1,h1,h2=>by
  simp only[List.take_succ_cons,sZ,vG] at h1
  have:=Zcc (l:=l) (k:=k) h1.2 (fun h=>by have:=h2 (by simp;omega);simpa using this)
  simp[h1.1,this.1,this.2]
theorem xG (s:ByteArray):(bytes s).length=s.size:=Array.length_toList
theorem gS (s:ByteArray)(a b:Nat):bytes (s.extract a b)=((bytes s).drop a).take (b-a):=Lib.extract_data s a b
theorem Zld (s:ByteArray){k:Nat}(h:k<s.size):(bytes s)[k]'(by rw[xG];exact h)=s[k]:=rfl
theorem Zj4 (s:ByteArray)(k:Nat)(h:k<s.size):(bytes s).take (k+1)=(bytes s).take k ++ [s[k]]:=by
 rw[vE (by rw[xG];exact h)];rfl
theorem Ze2 {s:ByteArray}{k:Nat}(a:((bytes s).take k).all xH=true)(b:∀ h:k<s.size,xH s[k]=false) :
 bytes (s.extract 0 k)=(bytes s).takeWhile xH∧bytes (s.extract k s.size)=(bytes s).dropWhile xH:=by
 obtain⟨c,d⟩:=Zcc a (fun h=>b (by rw[xG] at h;exact h))
 rw[gS,gS,c,d]
 refine⟨by simp,?_⟩
 rw[uB (by rw[vJ,xG];exact uR _)]
def Znr (s:ByteArray) (w:World) (e:Ending) (w':World):Prop :=
 ∃ t u:ByteArray,e=.returned (.tuple #[.string t,.string u])∧bytes t=(bytes s).takeWhile xH∧bytes u=(bytes s).dropWhile xH∧∃ n,w'=w.drewN n
theorem ZbH (s:ByteArray)(w:World)(i:s.size≤1099511627776):yA 261 #[.string s] w (Znr s w):=by
 go_enter Tryz.func261,Tryz.ntmps261
 go_wp2
 go_loop [4] (fun v=>∃ k:Nat,k≤s.size∧v=.int .i64 (k:Int)∧Hid (((bytes s).take k).all xH=true)) (fun v=>s.size-(intOf v).toNat)
 case atStart=>exact⟨0,uM _,rfl,rfl⟩
 case round =>
  obtain⟨k,j,rfl,c⟩:=hrel
  by_cases b:k<s.size
  ·have f:xH s[k]=(decide (48≤s[k].toNat) && decide (s[k].toNat≤57)):=rfl
   have d:=zh f
   have e:=zh (Zj4 s k b)
   clear f
   go_wp2_with fail
   ·have g:48≤(s[k].toNat:Int):=by assumption
    have l:(s[k].toNat:Int)≤57:=by assumption
    go_round
    case rel =>
     refine⟨k+1,by omega,by go_num,?_⟩
     unfold Hid
     rw[e.out,List.all_append,c.out]
     simp only[sZ,List.all_nil,Bool.and_true,Bool.true_and]
     rw[d.out,uI (by omega),uI (by omega)];rfl
    case measure=>simp[intOf];omega
   ·have g:57<(s[k].toNat:Int):=by assumption
    have a:=zh (Ze2 c.out (fun _=>by rw[d.out,uH (p:=s[k].toNat≤57) (by omega),tQ]))
    go_quiet (fail)
    go_wp2
    go_ret2
    exact⟨_,_,rfl,a.out.1,a.out.2,_,rfl⟩
   have g:(s[k].toNat:Int)<48:=by assumption
   have a:=zh (Ze2 c.out (fun _=>by rw[d.out,uH (p:=48≤s[k].toNat) (by omega),qM]))
   go_quiet (fail)
   go_wp2
   go_ret2
   exact⟨_,_,rfl,a.out.1,a.out.2,_,rfl⟩
  have a:=zh (Ze2 c.out (fun h=>absurd h b))
  go_wp2_with fail
  go_quiet (fail)
  go_wp2
  go_ret2
  exact⟨_,_,rfl,a.out.1,a.out.2,_,rfl⟩
def lM (l:List UInt8):Bool×List UInt8:=if l.head? = some 45 then (true,l.tail) else (false,l)
def Zle (s:ByteArray) (w:World) (e:Ending) (w':World):Prop:=∃ (r:ByteArray) (neg:Bool),e=.returned (.tuple #[.string r,.bool neg])∧lM (bytes s)=(neg,bytes r)∧w=w'
theorem ZgS (s:ByteArray)(w:World):yA 260 #[.string s,.string ⟨#[45]⟩] w (Zle s w):=by
 refine (Tryz.strings_CutPrefix s ⟨#[45]⟩ w).mono ?_
 rintro e c ⟨rfl,rfl⟩
 refine⟨_,_,rfl,?_,rfl⟩
 unfold lM
 cases h:s.data.toList with
 | nil=>simp[bytes,h,Lib.trimPrefix,Lib.hasPrefix]
 | cons x l =>
  by_cases a:x=45
  ·subst a;simp[bytes,h,Lib.trimPrefix,Lib.hasPrefix]
  have b:¬ 45=x:=fun e=>a e.symm
  simp[bytes,h,Lib.trimPrefix,Lib.hasPrefix,List.isPrefixOf,a,b]
def lE (l:List UInt8):Bool×List UInt8×List UInt8×Bool :=
 let p:=lM l
 let num:=p.2.takeWhile xH
 let rest:=p.2.dropWhile xH
 if num=[48] then (p.1,num,[],!p.1 && rest.isEmpty)
 else if num=[]∨num.head? = some 48 then (p.1,num,[],false)
 else if rest=[] then (p.1,num,[],true)
 else if rest.head? ≠ some 47 then (p.1,num,[],false)
 else (p.1,num,rest.tail.takeWhile xH,(rest.tail.dropWhile xH).isEmpty && !(rest.tail.takeWhile xH).isEmpty && (rest.tail.takeWhile xH).head? != some 48 && (rest.tail.takeWhile xH) != [49])
def ZgT (s:ByteArray) (w:World) (e:Ending) (w':World):Prop :=
 ∃ (neg:Bool) (t d:ByteArray) (ok:Bool),e=.returned (.tuple #[.agg #[.bool neg,.string t,.string d],.bool ok])∧lE (bytes s)=(neg,bytes t,bytes d,ok)∧Ext w w'
theorem Zj5 {l r:List UInt8}{neg:Bool}(h:lM l=(neg,r)):r.length≤l.length:=by
 unfold lM at h
 split at h<;>(injection h with _ h;subst h;simp)
theorem aO {t:ByteArray}(h:bytes t≠[]):0<t.size∧t.toList≠[]∧t.toList.isEmpty=false:=by
 rw[Lib.toList_data]
 have a:0<t.size:=by rw[←xG];exact rL.2 h
 exact⟨a,h,by simpa using h⟩
theorem Zcd {t:ByteArray}(h:0<t.size):(bytes t).head? = some t[0]:=by
 have a:0<(bytes t).length:=by rw[xG];exact h
 rw[List.head?_eq_getElem?,List.getElem?_eq_getElem a,Zld t h]
theorem Ze3 {b:UInt8}{n:Nat}(a:n<256):((b.toNat:Int) == (n:Int))=decide (b=UInt8.ofNat n):=by
 rw[qV]
 simp
 constructor
 ·intro h
  have:b.toNat=n:=by omega
  rw[←this];simp
 rintro rfl
 simp[vI a]
theorem Blk.cell3 {t:TypeId}{w:World}{g:Nat}{x y z:Value}(h:Blk t w g #[x,y,z]):w.cell? ⟨g,0,none⟩=some x∧w.cell? ⟨g,1,none⟩=some y∧w.cell? ⟨g,2,none⟩=some z∧w.frozen? ⟨g,0,none⟩=false∧w.frozen? ⟨g,1,none⟩=false∧w.frozen? ⟨g,2,none⟩=false :=
 ⟨h.cell 0,h.cell 1,h.cell 2,h.frozen 0,h.frozen 1,h.frozen 2⟩
theorem kT {fn:Func}{a:Array Value}{w wz:World}{r:Nat}{neg c:Bool}{s t d:ByteArray}(b:fn.results=#[.cell 2 309,.tmp 3])(e:a[2]? = some (.pointer (some ⟨r,0,none⟩)))(f:a[3]? = some (.bool c))(g:Blk 309 wz r #[.bool neg,.string t,.string d])(Q:Ext w wz)(h:lE (bytes s)=(neg,bytes t,bytes d,c)):bodyPost Tryz.prog fn (ZgT s w) .ret ⟨a,[]⟩ wz:=by
 obtain⟨i,j,k,_⟩:=g.cell3
 refine bodyPost_ret (v:=.tuple #[.agg #[.bool neg,.string t,.string d],.bool c]) (by simp[results,b,e,f,go_sem,i,j,k]) rfl ⟨neg,t,d,c,rfl,h,Q⟩
theorem Zj6 (s:ByteArray)(w:World)(hs:s.size≤1099511627776):yA 211 #[.string s] w (ZgT s w):=by
 go_enter Tryz.func211,Tryz.ntmps211
 go_wp2_with fail
 refine (ZgS s _).mono ?_
 rintro e w1 ⟨r,neg,rfl,hr,rfl⟩
 have c0:r.size≤1099511627776:=by
  have:=Zj5 hr;rw[xG,xG] at this;omega
 have HR:=zh hr
 clear hr
 go_wp2_with fail
 refine (ZbH r _ c0).mono ?_
 rintro e w1 ⟨t,u,rfl,ht,hu,n1,rfl⟩
 have HT:=zh ht
 have HU:=zh hu
 have f0:u.size≤1099511627776:=by
  have h1:=tC List.length hu
  have h2:=(List.dropWhile_suffix xH (l:=bytes r)).sublist.length_le
  rw[xG] at h1
  rw[xG] at h2
  omega
 have k:Hid (∀ (d:List UInt8) (I:Bool),lE (bytes s)=(neg,bytes t,d,I)↔(if bytes t=[48] then (neg,bytes t,[],!neg && (bytes u).isEmpty)
  else if bytes t=[]∨(bytes t).head? = some 48 then (neg,bytes t,[],false)
  else if bytes u=[] then (neg,bytes t,[],true)
  else if (bytes u).head? ≠ some 47 then (neg,bytes t,[],false)
  else (neg,bytes t,(bytes u).tail.takeWhile xH,((bytes u).tail.dropWhile xH).isEmpty && !((bytes u).tail.takeWhile xH).isEmpty && ((bytes u).tail.takeWhile xH).head? != some 48 && ((bytes u).tail.takeWhile xH) != [49]))=(neg,bytes t,d,I)):=by
  intro d I
  unfold lE
  rw[HR.out]
  simp only[←HT.out,← HU.out]
 clear ht hu
 generalize m:World.alloc (World.alloc w _) _=wb0
 obtain⟨T,U,Q⟩:=Zd2 m
 clear m
 generalize m:World.drewN wb0 n1=wb
 have c:Hid (Blk 309 wb w.heap.size #[.bool false,.string ⟨#[]⟩,.string ⟨#[]⟩]):=m ▸ T.drewN n1
 have J:Hid (Blk 309 wb (w.heap.size+1) #[.bool neg,.string ⟨#[]⟩,.string ⟨#[]⟩]):=m ▸ U.drewN n1
 have C:Hid (Ext w wb):=m ▸ Q.drewN n1
 clear m T U Q
 clear wb0
 obtain⟨x0,x1,x2,x3,x4,x5⟩:=c.out.cell3
 obtain⟨y0,y1,y2,y3,y4,y5⟩:=J.out.cell3
 have V:u.toList=bytes u:=Lib.toList_data u
 have W:t.toList=bytes t:=Lib.toList_data t
 have X:=zh V
 have K:=zh W
 clear V W
 by_cases j:bytes t=[48]
 ·have d1:(t.toList == [48])=true:=by rw[K.out,j];rfl
  cases neg with
  | true =>
   have a:Hid (lE (bytes s)=(true,bytes t,bytes ⟨#[]⟩,false)):=by
    unfold Hid;rw[k.out,tA j];rfl
   clear j
   go_wp2
   exact kT rfl rfl rfl ((((c.out.far (p:=⟨w.heap.size+1,1,none⟩) (by simp) (.string t)).set_ 0 (.bool true)).set_ 1 (.string t)).set_ 2 (.string ⟨#[]⟩)) ((((C.out.setCell (Or.inr (by simp)) _).setCell (Or.inr (by simp)) _).setCell (Or.inr (by simp)) _).setCell (Or.inr (by simp)) _) a.out
  | false =>
   by_cases o:bytes u=[]
   ·have d2:u.toList.isEmpty=true:=by rw[X.out,o,List.isEmpty_nil]
    have a:Hid (lE (bytes s)=(false,bytes t,bytes ⟨#[]⟩,true)):=by
     unfold Hid;rw[k.out,tA j,o];rfl
    clear j o
    go_wp2
    exact kT rfl rfl rfl ((((c.out.far (p:=⟨w.heap.size+1,1,none⟩) (by simp) (.string t)).set_ 0 (.bool false)).set_ 1 (.string t)).set_ 2 (.string ⟨#[]⟩)) ((((C.out.setCell (Or.inr (by simp)) _).setCell (Or.inr (by simp)) _).setCell (Or.inr (by simp)) _).setCell (Or.inr (by simp)) _) a.out
   have d2:u.toList.isEmpty=false:=(aO o).2.2
   have a:Hid (lE (bytes s)=(false,bytes t,bytes ⟨#[]⟩,false)):=by
    unfold Hid;rw[k.out,tA j,show (bytes u).isEmpty=false by simpa using o];rfl
   clear j o
   go_wp2
   exact kT rfl rfl rfl ((((c.out.far (p:=⟨w.heap.size+1,1,none⟩) (by simp) (.string t)).set_ 0 (.bool false)).set_ 1 (.string t)).set_ 2 (.string ⟨#[]⟩)) ((((C.out.setCell (Or.inr (by simp)) _).setCell (Or.inr (by simp)) _).setCell (Or.inr (by simp)) _).setCell (Or.inr (by simp)) _) a.out
 have d1:(t.toList == [48])=false:=by rw[K.out];simpa using j
 by_cases o:bytes t=[]
 ·have d2:t.toList=[]:=K.out.trans o
  have a:Hid (lE (bytes s)=(neg,bytes t,bytes ⟨#[]⟩,false)):=by
   unfold Hid;rw[k.out,vP j,tA (Or.inl o)]
  clear j o
  go_wp2
  exact kT rfl rfl rfl ((((c.out.far (p:=⟨w.heap.size+1,1,none⟩) (by simp) (.string t)).set_ 0 (.bool neg)).set_ 1 (.string t)).set_ 2 (.string ⟨#[]⟩)) ((((C.out.setCell (Or.inr (by simp)) _).setCell (Or.inr (by simp)) _).setCell (Or.inr (by simp)) _).setCell (Or.inr (by simp)) _) a.out
 obtain⟨g1,g2,g3⟩:=aO o
 have g:=Ze3 (b:=t[0]) (n:=48) (by omega)
 have i:=Zcd g1
 by_cases N:t[0]=48
 ·have d3:((t[0].toNat:Int) == 48)=true:=by rw[show (48:Int)=((48:Nat):Int) from rfl,g];simpa using N
  have a:Hid (lE (bytes s)=(neg,bytes t,bytes ⟨#[]⟩,false)):=by
   unfold Hid;rw[k.out,vP j,tA (Or.inr (by rw[i,N]))]
  clear j o N g i
  go_wp2
  exact kT rfl rfl rfl ((((c.out.far (p:=⟨w.heap.size+1,1,none⟩) (by simp) (.string t)).set_ 0 (.bool neg)).set_ 1 (.string t)).set_ 2 (.string ⟨#[]⟩)) ((((C.out.setCell (Or.inr (by simp)) _).setCell (Or.inr (by simp)) _).setCell (Or.inr (by simp)) _).setCell (Or.inr (by simp)) _) a.out
 have d3:((t[0].toNat:Int) == 48)=false:=by rw[show (48:Int)=((48:Nat):Int) from rfl,g];simpa using N
 have O:¬ (bytes t=[]∨(bytes t).head? = some 48):=by
  rintro (h|h)
  ·exact o h
  rw[i] at h;injection h with h;exact N h
 clear g i N o
 by_cases H:bytes u=[]
 ·have d5:u.toList.isEmpty=true:=by rw[X.out,H];rfl
  have a:Hid (lE (bytes s)=(neg,bytes t,bytes ⟨#[]⟩,true)):=by
   unfold Hid;rw[k.out,vP j,vP O,tA H]
  clear j O H
  go_wp2
  exact kT rfl rfl rfl ((((c.out.far (p:=⟨w.heap.size+1,1,none⟩) (by simp) (.string t)).set_ 0 (.bool neg)).set_ 1 (.string t)).set_ 2 (.string ⟨#[]⟩)) ((((C.out.setCell (Or.inr (by simp)) _).setCell (Or.inr (by simp)) _).setCell (Or.inr (by simp)) _).setCell (Or.inr (by simp)) _) a.out
 obtain⟨k1,k2,k3⟩:=aO H
 have g:=Ze3 (b:=u[0]) (n:=47) (by omega)
 have i:=Zcd k1
 by_cases P:u[0]=47
 ·have d6:((u[0].toNat:Int) != 47)=false:=by
   have:((u[0].toNat:Int) == 47)=true:=by rw[show (47:Int)=((47:Nat):Int) from rfl,g];simpa using P
   simp[bne,this]
  have H6:Hid (¬ (bytes u).head? ≠ some 47):=by unfold Hid;rw[i,P];simp
  have HC:Hid (bytes t≠[48]∧¬ (bytes t=[]∨(bytes t).head? = some 48)∧bytes u≠[]):=⟨j,O,H⟩
  clear j O H P g i
  go_wp2_with fail
  refine (ZbH (u.extract 1 u.size) _ (by rw[qN];omega)).mono ?_
  rintro e w1 ⟨v,x,rfl,hv,hx,n2,rfl⟩
  have ev:bytes (u.extract 1 u.size)=(bytes u).tail:=by
   rw[gS,uB (by rw[vJ,xG];exact uR _),List.drop_one]
  rw[ev] at hv hx
  have Y:Hid (∀ I,(((bytes x).isEmpty && !(bytes v).isEmpty && (bytes v).head? != some 48 && (bytes v) != [49])=I)→lE (bytes s)=(neg,bytes t,bytes v,I)):=by
   intro I h
   rw[k.out,vP HC.out.1,vP HC.out.2.1,vP HC.out.2.2,vP H6.out,← hv,← hx,h]
  have Z:v.toList=bytes v:=Lib.toList_data v
  have a0:x.toList=bytes x:=Lib.toList_data x
  have D:=zh Z
  have d0:=zh a0
  clear hv hx ev Z a0 d6
  generalize E:World.setCell wb _ _=wc0
  generalize F:World.drewN wc0 n2=wd
  have f:Hid (Blk 309 wd w.heap.size #[.bool false,.string ⟨#[]⟩,.string ⟨#[]⟩]):=F ▸ E ▸ (c.out.far (p:=⟨w.heap.size+1,1,none⟩) (by simp) _).drewN n2
  have b0:Hid (Blk 309 wd (w.heap.size+1) #[.bool neg,.string t,.string ⟨#[]⟩]):=F ▸ E ▸ (J.out.set_ 1 _).drewN n2
  have z:Hid (Ext w wd):=F ▸ E ▸ (C.out.setCell (Or.inr (by simp)) _).drewN n2
  clear F E c J C x0 x1 x2 x3 x4 x5 y0 y1 y2 y3 y4 y5
  clear wc0
  obtain⟨x0,x1,x2,x3,x4,x5⟩:=f.out.cell3
  obtain⟨y0,y1,y2,y3,y4,y5⟩:=b0.out.cell3
  go_wp2_with fail
  by_cases y:bytes x=[]
  ·have r1:x.toList.isEmpty=true:=by rw[d0.out,y,List.isEmpty_nil]
   by_cases G:bytes v=[]
   ·have r2:v.toList.isEmpty=true:=by rw[D.out,G,List.isEmpty_nil]
    have g0:v.toList=[]:=D.out.trans G
    have a:=zh (Y.out false (by rw[y,G];rfl))
    clear y G
    go_region
    all_goals go_wp2
    all_goals exact kT rfl rfl rfl (((((f.out.far (p:=⟨w.heap.size+1,2,none⟩) (by simp) (.string v)).set_ 0 (.bool neg)).set_ 1 (.string t)).set_ 2 (.string v)).drewN 1) (((((z.out.setCell (Or.inr (by simp)) _).setCell (Or.inr (by simp)) _).setCell (Or.inr (by simp)) _).setCell (Or.inr (by simp)) _).drewN 1) a.out
   obtain⟨g4,g5,g6⟩:=aO G
   have A:=Ze3 (b:=v[0]) (n:=48) (by omega)
   have B:=Zcd g4
   have q:(bytes v).isEmpty=false:=by simpa using G
   by_cases L:v[0]=48
   ·have R:((v[0].toNat:Int) == 48)=true:=by rw[show (48:Int)=((48:Nat):Int) from rfl,A];simpa using L
    have e0:((v[0].toNat:Int) != 48)=false:=by rw[bne,R];rfl
    have a:=zh (Y.out false (by rw[y,q,B,L];rfl))
    clear y G L A B q R
    go_region
    all_goals go_wp2
    all_goals exact kT rfl rfl rfl (((((f.out.far (p:=⟨w.heap.size+1,2,none⟩) (by simp) (.string v)).set_ 0 (.bool neg)).set_ 1 (.string t)).set_ 2 (.string v)).drewN 1) (((((z.out.setCell (Or.inr (by simp)) _).setCell (Or.inr (by simp)) _).setCell (Or.inr (by simp)) _).setCell (Or.inr (by simp)) _).drewN 1) a.out
   have R:((v[0].toNat:Int) == 48)=false:=by rw[show (48:Int)=((48:Nat):Int) from rfl,A];simpa using L
   have e0:((v[0].toNat:Int) != 48)=true:=by rw[bne,R];rfl
   have n3:((bytes v).head? != some 48)=true:=by rw[B];simpa using L
   by_cases S:bytes v=[49]
   ·have r4:(v.toList == [49])=true:=by rw[D.out,S];rfl
    have M:(v.toList != [49])=false:=by rw[bne,r4];rfl
    have a:=zh (Y.out false (by rw[y,n3,q,S];rfl))
    clear y G L S A B q n3 R M
    go_region
    all_goals go_wp2
    all_goals exact kT rfl rfl rfl (((((f.out.far (p:=⟨w.heap.size+1,2,none⟩) (by simp) (.string v)).set_ 0 (.bool neg)).set_ 1 (.string t)).set_ 2 (.string v)).drewN 1) (((((z.out.setCell (Or.inr (by simp)) _).setCell (Or.inr (by simp)) _).setCell (Or.inr (by simp)) _).setCell (Or.inr (by simp)) _).drewN 1) a.out
   have r4:(v.toList == [49])=false:=by rw[D.out];simpa using S
   have M:(v.toList != [49])=true:=by rw[bne,r4];rfl
   have a:=zh (Y.out true (by rw[y,n3,q,show (bytes v != [49])=true by rw[bne];simpa using S];rfl))
   clear y G L S A B q n3 R M
   go_region
   all_goals go_wp2
   all_goals exact kT rfl rfl rfl (((((f.out.far (p:=⟨w.heap.size+1,2,none⟩) (by simp) (.string v)).set_ 0 (.bool neg)).set_ 1 (.string t)).set_ 2 (.string v)).drewN 1) (((((z.out.setCell (Or.inr (by simp)) _).setCell (Or.inr (by simp)) _).setCell (Or.inr (by simp)) _).setCell (Or.inr (by simp)) _).drewN 1) a.out
  have r1:x.toList.isEmpty=false:=(aO y).2.2
  have a:=zh (Y.out false (by rw[show (bytes x).isEmpty=false by simpa using y];rfl))
  clear y
  go_region
  all_goals go_wp2
  all_goals exact kT rfl rfl rfl (((((f.out.far (p:=⟨w.heap.size+1,2,none⟩) (by simp) (.string v)).set_ 0 (.bool neg)).set_ 1 (.string t)).set_ 2 (.string v)).drewN 1) (((((z.out.setCell (Or.inr (by simp)) _).setCell (Or.inr (by simp)) _).setCell (Or.inr (by simp)) _).setCell (Or.inr (by simp)) _).drewN 1) a.out
 have d6:((u[0].toNat:Int) != 47)=true:=by
  have:((u[0].toNat:Int) == 47)=false:=by rw[show (47:Int)=((47:Nat):Int) from rfl,g];simpa using P
  simp[bne,this]
 have a:Hid (lE (bytes s)=(neg,bytes t,bytes ⟨#[]⟩,false)):=by
  unfold Hid;rw[k.out,vP j,vP O,vP H,tA (by rw[i];simpa using P)]
 clear j O H P g i
 go_wp2
 exact kT rfl rfl rfl ((((c.out.far (p:=⟨w.heap.size+1,1,none⟩) (by simp) (.string t)).set_ 0 (.bool neg)).set_ 1 (.string t)).set_ 2 (.string ⟨#[]⟩)) ((((C.out.setCell (Or.inr (by simp)) _).setCell (Or.inr (by simp)) _).setCell (Or.inr (by simp)) _).setCell (Or.inr (by simp)) _) a.out
end Go.Proofs.YtoanifijmlgcgaaGreatDoor
