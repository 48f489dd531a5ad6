/-
 My texts.
-/
import Derived.Test.YtmpffakfhcpjoaaGreatDoorF10
import Derived.Test.YtmpffakfhcpjoaaGreatDoorF08
set_option maxRecDepth 100000
set_option maxHeartbeats 8000000
namespace Go.Proofs.YtmpffakfhcpjoaaGreatDoor
open Go.RowKit Tryz
theorem ZkU (u v:Value)(m n g:Nat)(w:World)(hg:Glob w)(hu:zF w u m)(hv:zF w v n)(hm:wl m≤4294967296)(hn:n<W64)(h0:0<n)(l:n≤m)(eg:Nat.gcd m n=g) :
 Ζ 112 #[u,v] w (lH w g):=by
 obtain⟨A,a,c,rfl,hc,U,o,s,V⟩:=hu
 obtain⟨A2,ys,c2,rfl,t,k1,k2,k3,k4⟩:=hv
 have z:=xT o s
 have B:=xT k2 k3
 rw[V] at z
 rw[k4] at B
 have C:ys.length=1:=by
  have:=aU.2 hn
  have:=Zd4 h0
  omega
 obtain⟨y,rfl⟩:∃ y,ys=[y]:=by match ys,C with | [y],_=>exact⟨y,rfl⟩
 simp at k4
 subst k4
 have HU:Hid (zF w (.slice A a.length c) m):=⟨A,a,c,rfl,hc,U,o,s,V⟩
 have HV:Hid (zF w (.slice A2 1 c2) y):=⟨A2,[y],c2,rfl,t,k1,k2,k3,qS⟩
 have HX:=zh U
 have HY:=zh k1
 have Hm:Hid (wl m≤4294967296∧a.length≤4294967296):=⟨hm,qO⟩
 have W:=zh hn
 have a0:=zh l
 have d:=zh h0
 have b0:=zh o
 have D:=zh V
 have E:=zh eg
 have HG:=zh hg
 clear hm hn l U k1 k2 k3 s o hc t z B C V eg hg h0
 go_enter func112,ntmps112
 go_wp2_with fail
 refine (dY _ _ m y w HU.out HV.out Hm.out.1 (by have:=aU.2 W.out;omega)).mono ?_
 rintro e w' ⟨rfl,nd,F⟩
 obtain⟨q,hq⟩:=yE (cmpI m y)
 have c0:(0:Int)≤q:=by rw[←hq];exact bQ a0.out
 have k0:decide (q<0)=false:=by simp;omega
 rw[hq]
 have G:Hid (Ext w w'):=F ▸ (Fr.refl _ w).drewN nd
 clear hq F c0
 go_wp2_with fail
 refine (gT A a _ c w' rfl (HX.out.ext G.out) Hm.out.2).mono ?_
 rintro e w1 ⟨X,b,rfl,H,I,d0⟩
 have J:Hid (zI .u64 w1 X a):=H.shows
 have K:Hid (Ext w w1):=G.out.trans I
 clear H I d0
 go_wp2_with fail
 refine (gT A2 [y] 1 c2 w1 rfl (HY.out.ext K.out) qO).mono ?_
 rintro e Y ⟨A3,L,rfl,M,h,e0⟩
 have N:Hid (zI .u64 Y A3 [y]):=M.shows
 obtain⟨O,Z,rfl,j,P⟩:=N.out.at (i:=0) qS
 simp at P
 have f0:Hid (zI .u64 Y X a):=J.out.ext h
 have Q:Hid (Ext w Y):=K.out.trans h
 have j:=zh j
 clear M h e0 N J
 obtain⟨x,ex⟩:=yE a.length
 rw[ex]
 go_wp2_with fail
 obtain⟨r,er⟩:=yE (m%y)
 go_loopw [5,6] (fun av bv wr=>av=.slice X x b∧bv=.slice (some ⟨O,Z,none⟩) 1 L∧wr=Y) (fun _ _ _=>0)
 case atStart=>exact⟨rfl,rfl,rfl⟩
 case round =>
  obtain⟨rfl,rfl,rfl⟩:=hrel
  go_wp2_with fail
  have R:Hid (wr.cell? ⟨O,Z,none⟩=some (.int .u64 (y:Int))):=P
  have S:Hid (O<wr.heap.size):=j.out
  have k:Hid (r<W64∧Nat.gcd y r=g∧g<W64):=by
   have U:=uP m d.out
   have o:=W.out
   have s:=nA m d.out
   rw[E.out] at s
   refine⟨qO,?_,qO⟩
   rw[←er,← E.out,sP y,← oG,sP]
  go_region_held3 (fun w'=>w'.cell? ⟨O,Z,none⟩=some (.int .u64 (y:Int)))
   (first|exact R.out|exact (Fr.cell (p:=⟨O,Z,none⟩) (Fr.undrew hFF) S.out (fun f=>f)).trans R.out)
   (first
    | (
     go_at_call 147
     refine (eG X a x b y _ ex f0.out.drew (by have:=Hm.out.2;omega) b0.out d.out W.out).mono ?_
     rintro e w4 ⟨rfl,g0,T⟩
     rw[D.out,er]
     have hFF:Ext wr.drew w4:=T ▸ (Fr.refl _ wr.drew).drewN g0
     clear T)
    | (
     go_at_call 146
     refine (ZaD y r g _ (HG.out.ext (Q.out.trans (Fr.undrew hFF))) W.out k.out.1 k.out.2.1).mono ?_
     rintro e w5 ⟨rfl,rfl⟩)
    | (
     go_at_call 145
     refine (aV g _ k.out.2.2).mono ?_
     rintro e w6 ⟨v6,rfl,i0,j0⟩
     replace hFF:Ext wr.drew w6:=hFF.trans j0))
  go_wp2
  go_ret
  exact⟨_,rfl,i0,Q.out.trans (Fr.undrew hFF)⟩
theorem ZkV (u v:Value)(m n g:Nat)(w:World)(hg:Glob w)(hu:zF w u m)(hv:zF w v n)(hm:wl m≤4294967296)(hn:n<W64)(h0:0<n)(l:n<m)(eg:Nat.gcd m n=g) :
 Ζ 112 #[v,u] w (lH w g):=by
 obtain⟨A,a,c,rfl,hc,U,o,s,V⟩:=hu
 obtain⟨A2,ys,c2,rfl,t,k1,k2,k3,k4⟩:=hv
 have z:=xT o s
 have B:=xT k2 k3
 rw[V] at z
 rw[k4] at B
 have C:ys.length=1:=by
  have:=aU.2 hn
  have:=Zd4 h0
  omega
 obtain⟨y,rfl⟩:∃ y,ys=[y]:=by match ys,C with | [y],_=>exact⟨y,rfl⟩
 simp at k4
 subst k4
 have HU:Hid (zF w (.slice A a.length c) m):=⟨A,a,c,rfl,hc,U,o,s,V⟩
 have HV:Hid (zF w (.slice A2 1 c2) y):=⟨A2,[y],c2,rfl,t,k1,k2,k3,qS⟩
 have HX:=zh U
 have HY:=zh k1
 have Hm:Hid (wl m≤4294967296∧a.length≤4294967296):=⟨hm,qO⟩
 have W:=zh hn
 have a0:=zh l
 have d:=zh h0
 have b0:=zh o
 have D:=zh V
 have E:=zh eg
 have HG:=zh hg
 clear hm hn l U k1 k2 k3 s o hc t z B C V eg hg h0
 go_enter func112,ntmps112
 go_wp2_with fail
 refine (dY _ _ y m w HV.out HU.out (by have:=aU.2 W.out;omega) Hm.out.1).mono ?_
 rintro e w' ⟨rfl,nd,F⟩
 obtain⟨q,hq⟩:=yE (cmpI y m)
 have c0:q<0:=by rw[←hq];exact eB.2 a0.out
 have k0:decide (q<0)=true:=by simp;omega
 rw[hq]
 have G:Hid (Ext w w'):=F ▸ (Fr.refl _ w).drewN nd
 clear hq F c0
 go_wp2_with fail
 refine (gT A a _ c w' rfl (HX.out.ext G.out) Hm.out.2).mono ?_
 rintro e w1 ⟨X,b,rfl,H,I,d0⟩
 have J:Hid (zI .u64 w1 X a):=H.shows
 have K:Hid (Ext w w1):=G.out.trans I
 clear H I d0
 go_wp2_with fail
 refine (gT A2 [y] 1 c2 w1 rfl (HY.out.ext K.out) qO).mono ?_
 rintro e Y ⟨A3,L,rfl,M,h,e0⟩
 have N:Hid (zI .u64 Y A3 [y]):=M.shows
 obtain⟨O,Z,rfl,j,P⟩:=N.out.at (i:=0) qS
 simp at P
 have f0:Hid (zI .u64 Y X a):=J.out.ext h
 have Q:Hid (Ext w Y):=K.out.trans h
 have j:=zh j
 clear M h e0 N J
 obtain⟨x,ex⟩:=yE a.length
 rw[ex]
 go_wp2_with fail
 obtain⟨r,er⟩:=yE (m%y)
 go_loopw [5,6] (fun av bv wr=>av=.slice X x b∧bv=.slice (some ⟨O,Z,none⟩) 1 L∧wr=Y) (fun _ _ _=>0)
 case atStart=>exact⟨rfl,rfl,rfl⟩
 case round =>
  obtain⟨rfl,rfl,rfl⟩:=hrel
  go_wp2_with fail
  have R:Hid (wr.cell? ⟨O,Z,none⟩=some (.int .u64 (y:Int))):=P
  have S:Hid (O<wr.heap.size):=j.out
  have k:Hid (r<W64∧Nat.gcd y r=g∧g<W64):=by
   have U:=uP m d.out
   have o:=W.out
   have s:=nA m d.out
   rw[E.out] at s
   refine⟨qO,?_,qO⟩
   rw[←er,← E.out,sP y,← oG,sP]
  go_region_held3 (fun w'=>w'.cell? ⟨O,Z,none⟩=some (.int .u64 (y:Int)))
   (first|exact R.out|exact (Fr.cell (p:=⟨O,Z,none⟩) (Fr.undrew hFF) S.out (fun f=>f)).trans R.out)
   (first
    | (
     go_at_call 147
     refine (eG X a x b y _ ex f0.out.drew (by have:=Hm.out.2;omega) b0.out d.out W.out).mono ?_
     rintro e w4 ⟨rfl,g0,T⟩
     rw[D.out,er]
     have hFF:Ext wr.drew w4:=T ▸ (Fr.refl _ wr.drew).drewN g0
     clear T)
    | (
     go_at_call 146
     refine (ZaD y r g _ (HG.out.ext (Q.out.trans (Fr.undrew hFF))) W.out k.out.1 k.out.2.1).mono ?_
     rintro e w5 ⟨rfl,rfl⟩)
    | (
     go_at_call 145
     refine (aV g _ k.out.2.2).mono ?_
     rintro e w6 ⟨v6,rfl,i0,j0⟩
     replace hFF:Ext wr.drew w6:=hFF.trans j0))
  go_wp2
  go_ret
  exact⟨_,rfl,i0,Q.out.trans (Fr.undrew hFF)⟩
theorem ZiR (u v:Value)(m:Nat)(w:World)(f:zF w u m)(d:zF w v 0)(i:wl m≤4294967296):Ζ 112 #[u,v] w (lH w m):=by
 obtain⟨A,l,c,rfl⟩:=f.slice
 obtain⟨s,k,t,rfl⟩:=d.slice
 obtain rfl:k=0:=d.len0
 have j:=zh f
 have n:=zh d
 have o:=zh i
 clear f d i
 go_enter func112,ntmps112
 go_wp2_with fail
 refine (dY _ _ m 0 w j.out n.out o.out (by rw[ZlE];omega)).mono ?_
 rintro e w' ⟨rfl,p,a⟩
 obtain⟨q,g⟩:=yE (cmpI (m:Int) ((0:Nat):Int))
 have h:(0:Int)≤q:=by rw[←g];exact bQ (vS _)
 have r:decide (q<0)=false:=by simp;omega
 rw[g]
 have b:Hid (Ext w w'):=a ▸ (Fr.refl _ w).drewN p
 clear g a h
 go_wp2
 go_ret
 exact⟨_,rfl,j.out.ext b.out,b.out⟩
theorem Zhw (u v:Value)(m:Nat)(w:World)(d:zF w u 0)(f:zF w v m)(i:0<m)(j:wl m≤4294967296):Ζ 112 #[u,v] w (lH w m):=by
 obtain⟨A,l,c,rfl⟩:=d.slice
 obtain⟨t,x,y,rfl⟩:=f.slice
 obtain rfl:l=0:=d.len0
 have n:=zh d
 have k:=zh f
 have o:=zh j
 have p:=zh i
 clear d f j i
 go_enter func112,ntmps112
 go_wp2_with fail
 refine (dY _ _ 0 m w n.out k.out (by rw[ZlE];omega) o.out).mono ?_
 rintro e w' ⟨rfl,r,a⟩
 obtain⟨q,g⟩:=yE (cmpI ((0:Nat):Int) (m:Int))
 have h:q<0:=by rw[←g];exact eB.2 p.out
 have s:decide (q<0)=true:=by simp;omega
 rw[g]
 have b:Hid (Ext w w'):=a ▸ (Fr.refl _ w).drewN r
 clear g a h
 go_wp2
 go_ret
 exact⟨_,rfl,k.out.ext b.out,b.out⟩
theorem ZcG (u v:Value)(m n:Nat)(w:World)(c:Glob w)(a:zF w u m)(b:zF w v n)(d:wl m≤4294967296)(e:wl n≤4294967296)(i:min m n<W64):Ζ 112 #[u,v] w (lH w (Nat.gcd m n)):=by
 rcases uJ n with rfl|f
 ·rw[qX];exact ZiR u v m w a b d
 rcases uJ m with rfl|g
 ·rw[Nat.gcd_zero_left];exact Zhw u v n w a b f e
 rcases vO m n with h|h
 ·exact ZkV v u n m _ w c b a e qO g h (sP _ _)
 exact ZkU u v m n _ w c a b d qO f h rfl
theorem Buf.openG {k:IntKind}{e:TypeId}{w:World}{A:qA}{cap:Nat}{xs:qN}(h:Buf k e w A cap xs)(a:xs≠[]):∃ b,A=some ⟨b,0,none⟩∧Own k e w b xs∧fI e w b cap∧xs.length≤cap∧cap≤maxLen:=by
 rcases h with ⟨_,h,_⟩|h
 ·exact absurd h a
 exact h
def aZ (w wr:World) (G:Nat) (xs ys:List Nat) (Aa:Option Addr) (ca:Nat) (Ab:Option Addr) (cb:Nat):Prop :=
 Buf .u64 84 wr Aa ca xs∧Buf .u64 84 wr Ab cb ys∧Dig W64 xs∧Dig W64 ys∧Trim xs∧Trim ys∧val W64 ys≤val W64 xs∧Nat.gcd (val W64 xs) (val W64 ys)=G∧Ext w wr ∧
  (∀ b,xQ Aa b→w.heap.size≤b)∧(∀ b,xQ Ab b→w.heap.size≤b)∧(∀ b,xQ Aa b→¬ xQ Ab b)∧xs.length≤79
theorem aZ.len {w wr:World}{G:Nat}{xs ys:qN}{a:qA}{b:Nat}{c:qA}{d:Nat}(h:aZ w wr G xs ys a b c d):ys.length≤xs.length:=by
 obtain⟨_,_,e,g,i,f,j,_⟩:=h
 rcases vO xs.length ys.length with k|k
 ·have:=fA zK e f k;omega
 exact k
theorem Buf.natIs {w:World}{A:qA}{cap:Nat}{xs:qN}(h:Buf .u64 84 w A cap xs)(a:Dig W64 xs)(b:Trim xs):zF w (.slice A xs.length cap) (val W64 xs) :=
 ⟨A,xs,cap,rfl,h.len,h.shows,a,b,rfl⟩
theorem aZ.div {w wr c d:World}{G:Nat}{xs ys zs:qN}{p:qA}{q:Nat}{j:qA}{k:Nat}{e:qA}{cc:Nat}(h:aZ w wr G xs ys p q j k)(r:0<val W64 ys)(Q:Ext wr c)(s:Dig W64 zs)(t:Trim zs)(u:val W64 zs=val W64 xs%val W64 ys)(v:Buf .u64 84 d e cc zs)(a:Ext c d)(l:∀ b,xQ e b→c.heap.size≤b):aZ w d G ys zs j k e cc:=by
 have m:=h.len
 obtain⟨E,n,F,x,H,y,I,z,o,A,f,B,C⟩:=h
 have D:=uP (val W64 xs) r
 refine⟨n.ext (Q.trans a),v,x,s,y,t,qO,?_,o.trans (Q.trans a),f,fun b g=>?_,fun b g i=>?_,qO⟩
 ·rw[u,← z,sP (val W64 ys),← oG,sP]
 ·have:=l b g;have:=Q.size;have:=o.size;omega
 have J:=n.lt g;have K:=l b i;have:=Q.size;omega
def Zda (w wr:World) (xs ys:List Nat) (bA ca:Nat) (Ab:Option Addr) (cb j gs:Nat) (cs:Array Value):Prop :=
 Own .u64 84 wr bA xs∧fI 84 wr bA ca∧Buf .u64 84 wr Ab cb (ys ++ List.replicate j 0)∧(∀ b,xQ Ab b→w.heap.size≤b∧b≠bA∧b≠gs)∧Blk 205 wr gs cs∧Ext w wr∧w.heap.size≤bA∧gs≠bA∧w.heap.size≤gs
theorem Zda.next {w wr w3:World}{xs ys:qN}{g l:Nat}{d f:qA}{s m j n:Nat}{cs:Array Value}{o:Obj}(h:Zda w wr xs ys g l d s j n cs)(t:Buf .u64 84 w3 f m (ys ++ List.replicate j 0 ++ [0]))(u:Fr (xQ d) (wr.alloc o) w3)(v:∀ b,xQ f b→xQ d b∨b=(wr.alloc o).heap.size):Zda w w3 xs ys g l f m (j+1) n cs:=by
 obtain⟨p,x,B,e,q,r,y,z,A⟩:=h
 have a:Fr (xQ d) wr w3:=((Fr.refl (xQ d) wr).alloc o).trans u
 have C:=p.lt
 have D:=q.lt
 refine⟨p.fr a (fun c=>(e _ c).2.1 rfl),x.fr a (fun c=>(e _ c).2.1 rfl),by rw[oR,← tD];exact t,fun b c=>?_,q.fr a (fun c=>(e _ c).2.2 rfl),r.next a (fun i hi c=>by have:=(e i c).1;omega),y,z,A⟩
 rcases v b c with k|k
 ·exact e b k
 have:=r.size
 simp at k
 exact⟨qO,qO,qO⟩
theorem Buf.takeG {k:IntKind}{e:TypeId}{w:World}{A:qA}{cap:Nat}{xs:qN}(h:Buf k e w A cap xs)(n:Nat):Buf k e w A cap (xs.take n):=by
 rcases h with ⟨a,rfl,c⟩|⟨b,a,d,c,g,f⟩
 ·exact Or.inl ⟨a,qS,c⟩
 exact Or.inr ⟨b,a,d.take n,c,by rw[uN];omega,f⟩
theorem ZiT (u v:Value)(m n g:Nat)(w:World)(hg:Glob w)(hu:zF w u m)(hv:zF w v n)(hm:wl m≤79)(hn:W64≤n)(p0:n≤m)(eg:Nat.gcd m n=g) :
 Ζ 112 #[u,v] w (lH w g):=by
 have j0:wl n≤79:=uA (lC p0) hm
 obtain⟨A,h,c,rfl,hc,G,h2,h3,h4⟩:=hu
 obtain⟨A2,ys,c2,rfl,K0,L,M,T,k4⟩:=hv
 have L0:=xT h2 h3
 have M0:=xT M T
 rw[h4] at L0
 rw[k4] at M0
 have U1:2≤ys.length:=by
  rcases vO ys.length 2 with k|k
  ·have:=aU.1 (show wl n≤1 by omega);omega
  exact k
 have HU:Hid (zF w (.slice A h.length c) m):=⟨A,h,c,rfl,hc,G,h2,h3,h4⟩
 have HV:Hid (zF w (.slice A2 ys.length c2) n):=⟨A2,ys,c2,rfl,K0,L,M,T,k4⟩
 have HX:=zh G
 have HY:=zh L
 have q0:=zh p0
 have U:=zh h2
 have N0:=zh M
 have O0:=zh h3
 have P0:=zh T
 have t0:=zh h4
 have w0:=zh k4
 have Q0:=zh eg
 have HG:=zh hg
 have Hm:=zh hm
 have Hn:=zh j0
 have V:h.length≤79:=qO
 have V1:ys.length≤79:=qO
 clear hm hn p0 G L M T h3 h2 hc K0 L0 M0 h4 k4 eg hg j0
 go_enter func112,ntmps112
 go_wp2_with fail
 refine (dY _ _ m n w HU.out HV.out (by have:=Hm.out;omega) (by have:=Hn.out;omega)).mono ?_
 rintro e w' ⟨rfl,nd,R0⟩
 obtain⟨q,hq⟩:=yE (cmpI m n)
 have W1:(0:Int)≤q:=by rw[←hq];exact bQ q0.out
 have X1:decide (q<0)=false:=by simp;omega
 rw[hq]
 have W:Hid (Ext w w'):=R0 ▸ (Fr.refl _ w).drewN nd
 clear hq R0 W1
 have S0:((ys.length:Int) == 0)=false:=by rw[qG];omega
 go_wp2_with fail
 refine (gT A h _ c w' rfl (HX.out.ext W.out) qO).mono ?_
 rintro e w1 ⟨A1,l0,rfl,T0,N,U0⟩
 have x0:=zh T0
 have V0:Hid (∀ b,xQ A1 b→w.heap.size≤b):=fun b H=>uA W.out.size (U0 b H)
 have X:Hid (Ext w w1):=W.out.trans N
 clear T0 N U0
 go_wp2_with fail
 refine (gT A2 ys _ c2 w1 rfl (HY.out.ext X.out) qO).mono ?_
 rintro e w2 ⟨A3,m0,rfl,t,l,s⟩
 have W0:Hid (aZ w w2 g h ys A1 l0 A3 m0):=⟨x0.out.ext l,t,U.out,N0.out,O0.out,P0.out,by rw[t0.out,w0.out];exact q0.out,by rw[t0.out,w0.out];exact Q0.out,X.out.trans l,V0.out,fun b H=>uA X.out.size (s b H),fun b H y0=>by
  have L:=x0.out.lt H
  have M:=s b y0
  omega,V⟩
 clear t l s x0 V0 X W HX HY HU HV U N0 O0 P0 q0 Q0 t0 w0 Hm Hn S0 X1
 go_wp2_with fail
 go_loopg [5,6,7,8,9] (val W64 h+val W64 ys) (fun k av bv _ _ _ wr=>∃ (h ys:List Nat) (Aa:Option Addr) (F:Nat) (Ab:Option Addr) (cb:Nat),k=val W64 h+val W64 ys∧av=.slice Aa h.length F∧bv=.slice Ab ys.length cb∧Hid (aZ w wr g h ys Aa F Ab cb))
 case atStart=>exact⟨h,ys,A1,l0,A3,m0,rfl,rfl,rfl,W0⟩
 case round =>
  clear W0 U1 V V1
  obtain⟨h,ys,Aa,F,Ab,cb,hk,rfl,rfl,d⟩:=hrel
  have HK:=zh hk
  clear hk
  have o:=d.out.len
  have n0:=d.out.2.2.2.2.2.2.2.2.2.2.2.2
  by_cases G:1<ys.length
  ·obtain⟨J,rfl,z0,X0,F2,Y0⟩:=d.out.1.openG (by intro e;rw[e] at o;simp at o;rw[o] at G;simp at G)
   obtain⟨bB,rfl,B,Z0,G2,D2⟩:=d.out.2.1.openG (by intro e;rw[e] at G;simp at G)
   have O:=zh (Zd9 J bB F cb h ys wr z0 B d.out.2.2.1 d.out.2.2.2.1 d.out.2.2.2.2.1 o qO d.out.2.2.2.2.2.2.1 qO)
   have a1:0<val W64 ys:=aS d.out.2.2.2.2.2.1 zK (by intro e;rw[e] at G;simp at G)
   have A0:=zh a1
   have c1:=zh (d.out.1.natIs d.out.2.2.1 d.out.2.2.2.2.1)
   have d1:=zh (d.out.2.1.natIs d.out.2.2.2.1 d.out.2.2.2.2.2.1)
   have e1:wl (val W64 h)≤79:=by rw[←xT d.out.2.2.1 d.out.2.2.2.2.1];exact n0
   have f1:wl (val W64 ys)≤79:=by rw[←xT d.out.2.2.2.1 d.out.2.2.2.2.2.1];omega
   have g1:=zh e1
   have Y1:=zh f1
   have B0:=zh z0
   have i1:=zh B
   have j1:=zh X0
   have Z1:=zh Z0
   unfold Zan kD at O
   clear z0 B X0 Z0 a1 e1 f1
   go_wp2_with fail
   refine O.out.mono ?_
   rintro e w1 ⟨u0,u1,v0,v1,odd,rfl,b0,b1,b2,b3,l1,N⟩
   have Y:=zh N
   have a2:=zh l1
   have Hb:=zh (And.intro b0 (And.intro b1 (And.intro b2 b3)))
   clear N l1 b0 b1 b2 b3 O
   by_cases hv:v0=0
   ·subst hv
    go_wp2_with fail
    generalize I:World.alloc w1 _=wb
    have Z:Hid (Ext wr wb):=I ▸ Y.out.alloc _
    clear I Y
    refine (Zb5 _ _ _ _ _ (c1.out.ext Z.out) (d1.out.ext Z.out) (by have:=g1.out;omega) (by have:=Y1.out;omega) A0.out).mono ?_
    rintro e w2 ⟨qv,rv,rfl,m1,d2,n1⟩
    obtain⟨Aq,lq,cq,rfl⟩:=m1.slice
    obtain⟨Ar,C,cr,rfl,e2,o1,C0,D0,E0⟩:=d2
    have a0:=zh (Z.out.trans n1)
    have f2:=zh o1
    have g2:=zh C0
    have i2:=zh D0
    have p1:=zh E0
    have H2:C.length≤79:=by
     rw[xT C0 D0,E0]
     have:wl (val W64 h%val W64 ys)≤wl (val W64 h):=lC (mU _ _)
     have:=g1.out;omega
    clear m1 o1 C0 D0 E0 e2 n1 Z
    go_wp2_with fail
    refine (gT Ar C _ cr w2 rfl f2.out qO).mono ?_
    rintro e w3 ⟨Ac,cc,rfl,t,l,s⟩
    have z:=zh (d.out.div A0.out a0.out g2.out i2.out p1.out t l s)
    have F0:Hid (val W64 ys+val W64 C<val W64 h+val W64 ys):=by
     have G:=uP (val W64 h) A0.out
     have h2:=d.out.2.2.2.2.2.2.1
     have h3:=p1.out
     unfold Hid;omega
    clear t l s d c1 d1 B0 i1 j1 Z1
    go_wp2
    go_roundg (val W64 ys+val W64 C)
    case measure=>rw[HK.out];exact F0.out
    case rel=>exact⟨ys,C,_,cb,Ac,cc,rfl,rfl,rfl,z⟩
   have I2:((v0:Int) == 0)=false:=by simp;omega
   obtain⟨r0,r1,q1,q2,q3,K⟩:=a2.out.pair hv
   have HQ:=zh (And.intro q1 (And.intro q2 (And.intro q3 K)))
   have j2:J≠bB:=fun e=>d.out.2.2.2.2.2.2.2.2.2.2.2.1 J ⟨_,rfl,rfl⟩ ⟨_,rfl,by simp[e]⟩
   clear q1 q2 q3 K hv
   go_wp2_with fail
   generalize I:World.alloc w1 _=wb
   have J2:=B0.out.lt
   have K2:=i1.out.lt
   have L2:=Y.out.size
   have x1:Hid (Zda w wb h ys J F (some ⟨bB,0,none⟩) cb 0 w1.heap.size #[.int .u64 (u0:Int),.int .u64 (u1:Int),.int .u64 (v0:Int),.int .u64 (v1:Int),.bool odd]):=by
    have c0:Ext wr wb:=I ▸ Y.out.alloc _
    refine⟨B0.out.ext c0,j1.out.fr c0 (fun f=>f),by rw[List.replicate_zero,qJ];exact d.out.2.1.ext c0,fun b H=>?_,I ▸ Blk.new _ _ _,d.out.2.2.2.2.2.2.2.2.1.trans c0,d.out.2.2.2.2.2.2.2.2.2.1 J ⟨_,rfl,rfl⟩,qO,?_⟩
    ·obtain⟨a,D,rfl⟩:=H
     injection D with D;subst D
     exact⟨d.out.2.2.2.2.2.2.2.2.2.2.1 bB ⟨_,rfl,rfl⟩,fun e=>j2 e.symm,by show bB≠_;omega⟩
    have:=d.out.2.2.2.2.2.2.2.2.1.size;omega
   clear I
   generalize w1.heap.size=gs at *
   go_loopw [6] (fun bv wq=>∃ (j:Nat) (A6:Option Addr) (S:Nat),ys.length+j≤h.length∧bv=.slice A6 (ys.length+j) S∧Hid (Zda w wq h ys J F A6 S j gs #[.int .u64 (u0:Int),.int .u64 (u1:Int),.int .u64 (v0:Int),.int .u64 (v1:Int),.bool odd])) (fun bv _=>match bv with | .slice _ k _=>h.length-k | _=>0)
   case atStart=>exact⟨0,_,cb,qO,rfl,x1⟩
   case round =>
    clear x1
    obtain⟨j,A6,S,hj,rfl,E⟩:=hrel
    by_cases M2:ys.length+j<h.length
    ·have y1:Hid (zI .u64 (wr.alloc (.cells #[.int .u64 0] 84)) (some ⟨wr.heap.size,0,none⟩) [0]):=(Own.new wr 84 .u64 [0] []).shows0
     have z1:Hid ((ys ++ List.replicate j 0).length=ys.length+j):=by unfold Hid;simp
     go_wp2_with (at_builtin;refine Hid.out ?_)
     refine zh ?_
     refine lF rfl _ _ _ rfl _ .u64 8 underlying96 dR A6 (some ⟨wr.heap.size,0,none⟩) (ys.length+j) 1 S 1 rfl rfl (ys ++ List.replicate j 0) [0] z1.out rfl (E.out.2.2.1.ext ((Fr.refl _ _).alloc _)) y1.out (by simp only[maxLen];omega) qO ?_
     intro A7 c7 w3 t l s
     have z:=zh (E.out.next t l s)
     clear t l s y1 z1
     go_wp2
     go_roundw
     case rel=>exact⟨j+1,A7,c7,qO,by rw[sG],z⟩
     case measure=>simp;omega
    have ej:ys.length+j=h.length:=qO
    have E2:0<h.length:=qO
    have o0:ys ++ List.replicate j 0≠[]:=fun e=>by have:=vP List.length e;rw[vE,mN] at this;omega
    obtain⟨bC,rfl,G0,B1,N2,C1⟩:=E.out.2.2.1.openG o0
    have P:=E.out.2.2.2.1 bC ⟨_,rfl,rfl⟩
    have d0:(ys ++ List.replicate j 0).length=h.length:=by simp;omega
    have D1:val W64 (ys ++ List.replicate j 0)=val W64 ys:=by rw[kO,kX];simp
    have H0:Dig W64 (ys ++ List.replicate j 0):=d.out.2.2.2.1.append (Dig.replicate zK _)
    have V:=wF d.out.2.2.1
    have l2:=d.out.2.2.2.2.2.2.1
    have m2:Hid (Ζ 143 #[.agg #[.int .u64 (u0:Int),.int .u64 (u1:Int),.int .u64 (v0:Int),.int .u64 (v1:Int),.bool odd],.slice (some ⟨J,0,none⟩) h.length F,.slice (some ⟨bC,0,none⟩) (ys.length+j) S] wr (aI J bC h.length r0 r1 wr)):=by
     obtain⟨q1,q2,q3,K⟩:=HQ.out
     obtain⟨k0,L,M,T⟩:=Hb.out
     unfold Hid
     rw[ej]
     rw[←D1] at K
     cases odd with
     | false =>
      simp only[pM,oK] at K
      exact Zgk J bC h.length F S u0 u1 v0 v1 r0 r1 h _ wr rfl d0 E.out.1 G0 (fun e=>P.2.1 e.symm) d.out.2.2.1 H0 qO k0 L M T K.1 K.2 qO qO
     | true =>
      simp only[mR] at K
      exact Zib J bC h.length F S u0 u1 v0 v1 r0 r1 h _ wr rfl d0 E.out.1 G0 (fun e=>P.2.1 e.symm) d.out.2.2.1 H0 qO k0 L M T K.1 K.2 qO qO
    have s0:wr.cell? ⟨gs,0,none⟩=some (.int .u64 (u0:Int)):=E.out.2.2.2.2.1.cell 0
    have s1:wr.cell? ⟨gs,1,none⟩=some (.int .u64 (u1:Int)):=E.out.2.2.2.2.1.cell 1
    have s2:wr.cell? ⟨gs,2,none⟩=some (.int .u64 (v0:Int)):=E.out.2.2.2.2.1.cell 2
    have s3:wr.cell? ⟨gs,3,none⟩=some (.int .u64 (v1:Int)):=E.out.2.2.2.2.1.cell 3
    have s4:wr.cell? ⟨gs,4,none⟩=some (.bool odd):=E.out.2.2.2.2.1.cell 4
    have n2:=zh B1
    have E1:=zh d0
    have o2:=zh ej
    clear G0 B1 d0 D1 H0 V l2 o0 ej
    go_wp2_with fail
    refine m2.out.mono ?_
    rintro e w3 ⟨C,zt,rfl,Q,R,e0,f0,F1,G1,H1,p2,I1,J1,l⟩
    have r2:=o2.out
    have K1:=zh (dG _ C h.length F w3 H1 Q.shows0 qO qO)
    have L1:=zh (dG _ zt (ys.length+j) S w3 qO R.shows0 (by have:=E1.out;omega) qO)
    have z:Hid (aZ w w3 g (wL C) (wL zt) (some ⟨J,0,none⟩) F (some ⟨bC,0,none⟩) S):=by
     obtain⟨q1,q2,q3,K⟩:=HQ.out
     have t1:=wQ C
     have t2:=gN C C.length
     refine⟨Buf.takeG (Or.inr ⟨J,rfl,Q,I1 _ E.out.2.1,qO,Y0⟩) _,Buf.takeG (Or.inr ⟨bC,rfl,R,J1 _ n2.out,by have:=E1.out;omega,C1⟩) _,iM F1,iM G1,iQ _,iQ _,?_,?_,?_,fun b H=>?_,fun b H=>?_,fun b H y0=>?_,qO⟩
     ·rw[lG,lG,e0,f0];omega
     ·rw[lG,lG,e0,f0,q3];exact d.out.2.2.2.2.2.2.2.1
     ·refine E.out.2.2.2.2.2.1.next l (fun i hi e=>?_)
      rcases e with e|e
      ·have:=E.out.2.2.2.2.2.2.1;omega
      have:=P.1;omega
     ·obtain⟨a,D,rfl⟩:=H
      injection D with D;subst D
      exact E.out.2.2.2.2.2.2.1
     ·obtain⟨a,D,rfl⟩:=H
      injection D with D;subst D
      exact P.1
     obtain⟨a,D,rfl⟩:=H
     injection D with D;subst D
     obtain⟨a',I0,e⟩:=y0
     injection I0 with I0;subst I0
     exact P.2.1 e
    have F0:Hid (val W64 (wL C)+val W64 (wL zt)<val W64 h+val W64 ys):=by
     obtain⟨q1,q2,q3,K⟩:=HQ.out
     have h2:=d.out.2.2.2.2.2.2.1
     unfold Hid
     rw[lG,lG,e0,f0];omega
    have M1:=zh (wQ C)
    have N1:=zh (wQ zt)
    clear Q R e0 f0 F1 G1 I1 J1 l r2 H1 p2
    go_wp2_with fail
    refine K1.out.mono ?_
    rintro e w4 ⟨rfl,rfl⟩
    go_wp2_with fail
    refine L1.out.mono ?_
    rintro e w4 ⟨rfl,rfl⟩
    go_wp2
    go_roundg (val W64 (wL C)+val W64 (wL zt))
    case measure=>rw[HK.out];exact F0.out
    case rel=>exact⟨wL C,wL zt,_,F,_,S,rfl,by rw[M1.out],by rw[N1.out],z⟩
  have O1:decide ((1:Int)<(ys.length:Int))=false:=by simp;omega
  by_cases h0:ys=[]
  ·subst h0
   have HN:Hid (zF wr (.slice Aa h.length F) g):=by
    have L:=d.out.1.natIs d.out.2.2.1 d.out.2.2.2.2.1
    have M:=d.out.2.2.2.2.2.2.2.1
    rw[dW,qX] at M
    rw[M] at L
    exact L
   have HE:Hid (Ext w wr):=d.out.2.2.2.2.2.2.2.2.1
   clear d G O1 o
   go_wp2
   go_ret
   exact⟨_,rfl,HN.out,HE.out⟩
  obtain⟨y,rfl⟩:∃ y,ys=[y]:=by
   match ys,(by have:=rQ.2 h0;omega:ys.length=1) with
   | [y],_=>exact⟨y,rfl⟩
  obtain⟨b3,rfl,B,_⟩:=d.out.2.1.openG h0
  have P1:=B.cell (i:=0) qS
  simp at P1
  have u2:=zh B.lt
  have a0:Hid (Ext w wr):=d.out.2.2.2.2.2.2.2.2.1
  have v2:Hid (zI .u64 wr Aa h):=d.out.1.shows
  have U:=zh d.out.2.2.1
  have Q1:y<W64:=d.out.2.2.2.1 y qS
  have g0:0<y:=by
   have:=d.out.2.2.2.2.2.1 0 rfl
   simp at this;omega
  have i0:=d.out.2.2.2.2.2.2.2.1
  simp only[gZ,dW,tX,tP] at i0
  obtain⟨r,er⟩:=yE (val W64 h%y)
  have J0:Hid (r<W64∧Nat.gcd y r=g∧g<W64):=by
   have L:=uP (val W64 h) g0
   have T:=nA (val W64 h) g0
   rw[i0] at T
   refine⟨qO,?_,qO⟩
   rw[←er,← i0,sP y,← oG,sP]
  obtain⟨x,ex⟩:=yE h.length
  rw[ex] at n0 ⊢
  have R1:Hid (wr.cell? ⟨b3,0,none⟩=some (.int .u64 (y:Int))):=P1
  have x2:=zh g0
  have Hn:=zh Q1
  have y2:=zh er
  have S1:=zh ex
  clear d B i0 er ex h0 G O1 o g0 Q1
  go_wp2_with fail
  go_region_held3 (fun w'=>w'.cell? ⟨b3,0,none⟩=some (.int .u64 (y:Int)))
   (first|exact R1.out|exact (Fr.cell (p:=⟨b3,0,none⟩) (Fr.undrew hFF) u2.out (fun f=>f)).trans R1.out)
   (first
    | (
     go_at_call 147
     refine (eG Aa h x F y _ S1.out v2.out.drew (by have:=S1.out;omega) U.out x2.out Hn.out).mono ?_
     rintro e w4 ⟨rfl,z2,T1⟩
     rw[y2.out]
     have hFF:Ext wr.drew w4:=T1 ▸ (Fr.refl _ wr.drew).drewN z2
     clear T1)
    | (
     go_at_call 146
     refine (ZaD y r g _ (HG.out.ext (a0.out.trans (Fr.undrew hFF))) Hn.out J0.out.1 J0.out.2.1).mono ?_
     rintro e w5 ⟨rfl,rfl⟩)
    | (
     go_at_call 145
     refine (aV g _ J0.out.2.2).mono ?_
     rintro e w6 ⟨v6,rfl,B2,C2⟩
     replace hFF:Ext wr.drew w6:=hFF.trans C2))
  go_wp2
  go_ret
  exact⟨_,rfl,B2,a0.out.trans (Fr.undrew hFF)⟩
theorem ZiU (u v:Value)(m n g:Nat)(w:World)(hg:Glob w)(hu:zF w u m)(hv:zF w v n)(hm:wl m≤79)(hn:W64≤n)(J0:n<m)(eg:Nat.gcd m n=g) :
 Ζ 112 #[v,u] w (lH w g):=by
 have p0:n≤m:=qO
 have j0:wl n≤79:=uA (lC p0) hm
 obtain⟨A,h,c,rfl,hc,G,h2,h3,h4⟩:=hu
 obtain⟨A2,ys,c2,rfl,K0,L,M,T,k4⟩:=hv
 have L0:=xT h2 h3
 have M0:=xT M T
 rw[h4] at L0
 rw[k4] at M0
 have V1:2≤ys.length:=by
  rcases vO ys.length 2 with k|k
  ·have:=aU.1 (show wl n≤1 by omega);omega
  exact k
 have HU:Hid (zF w (.slice A h.length c) m):=⟨A,h,c,rfl,hc,G,h2,h3,h4⟩
 have HV:Hid (zF w (.slice A2 ys.length c2) n):=⟨A2,ys,c2,rfl,K0,L,M,T,k4⟩
 have HX:=zh G
 have HY:=zh L
 have N0:=zh p0
 have W1:=zh J0
 have U:=zh h2
 have O0:=zh M
 have P0:=zh h3
 have Q0:=zh T
 have q0:=zh h4
 have t0:=zh k4
 have R0:=zh eg
 have HG:=zh hg
 have Hm:=zh hm
 have Hn:=zh j0
 have V:h.length≤79:=qO
 have X1:ys.length≤79:=qO
 clear hm hn p0 J0 G L M T h3 h2 hc K0 L0 M0 h4 k4 eg hg j0
 go_enter func112,ntmps112
 go_wp2_with fail
 refine (dY _ _ n m w HV.out HU.out (by have:=Hn.out;omega) (by have:=Hm.out;omega)).mono ?_
 rintro e w' ⟨rfl,nd,S0⟩
 obtain⟨q,hq⟩:=yE (cmpI n m)
 have Y1:q<0:=by
  have h5:(n:Int)<(m:Int):=by have:=W1.out;omega
  rw[←hq];unfold cmpI;rw[uM h5];omega
 have Z1:decide (q<0)=true:=by simp;omega
 rw[hq]
 have W:Hid (Ext w w'):=S0 ▸ (Fr.refl _ w).drewN nd
 clear hq S0 Y1
 have T0:((ys.length:Int) == 0)=false:=by rw[qG];omega
 go_wp2_with fail
 refine (gT A h _ c w' rfl (HX.out.ext W.out) qO).mono ?_
 rintro e w1 ⟨A1,l0,rfl,U0,N,V0⟩
 have w0:=zh U0
 have W0:Hid (∀ b,xQ A1 b→w.heap.size≤b):=fun b H=>uA W.out.size (V0 b H)
 have X:Hid (Ext w w1):=W.out.trans N
 clear U0 N V0
 go_wp2_with fail
 refine (gT A2 ys _ c2 w1 rfl (HY.out.ext X.out) qO).mono ?_
 rintro e w2 ⟨A3,m0,rfl,t,l,s⟩
 have X0:Hid (aZ w w2 g h ys A1 l0 A3 m0):=⟨w0.out.ext l,t,U.out,O0.out,P0.out,Q0.out,by rw[q0.out,t0.out];exact N0.out,by rw[q0.out,t0.out];exact R0.out,X.out.trans l,W0.out,fun b H=>uA X.out.size (s b H),fun b H x0=>by
  have L:=w0.out.lt H
  have M:=s b x0
  omega,V⟩
 clear t l s w0 W0 X W HX HY HU HV U O0 P0 Q0 N0 R0 q0 t0 Hm Hn T0 Z1
 go_wp2_with fail
 go_loopg [5,6,7,8,9] (val W64 h+val W64 ys) (fun k av bv _ _ _ wr=>∃ (h ys:List Nat) (Aa:Option Addr) (F:Nat) (Ab:Option Addr) (cb:Nat),k=val W64 h+val W64 ys∧av=.slice Aa h.length F∧bv=.slice Ab ys.length cb∧Hid (aZ w wr g h ys Aa F Ab cb))
 case atStart=>exact⟨h,ys,A1,l0,A3,m0,rfl,rfl,rfl,X0⟩
 case round =>
  clear X0 V1 V X1
  obtain⟨h,ys,Aa,F,Ab,cb,hk,rfl,rfl,d⟩:=hrel
  have HK:=zh hk
  clear hk
  have o:=d.out.len
  have n0:=d.out.2.2.2.2.2.2.2.2.2.2.2.2
  by_cases G:1<ys.length
  ·obtain⟨J,rfl,y0,Y0,H2,Z0⟩:=d.out.1.openG (by intro e;rw[e] at o;simp at o;rw[o] at G;simp at G)
   obtain⟨bB,rfl,B,a1,I2,F2⟩:=d.out.2.1.openG (by intro e;rw[e] at G;simp at G)
   have O:=zh (Zd9 J bB F cb h ys wr y0 B d.out.2.2.1 d.out.2.2.2.1 d.out.2.2.2.2.1 o qO d.out.2.2.2.2.2.2.1 qO)
   have c1:0<val W64 ys:=aS d.out.2.2.2.2.2.1 zK (by intro e;rw[e] at G;simp at G)
   have z0:=zh c1
   have d1:=zh (d.out.1.natIs d.out.2.2.1 d.out.2.2.2.2.1)
   have e1:=zh (d.out.2.1.natIs d.out.2.2.2.1 d.out.2.2.2.2.2.1)
   have f1:wl (val W64 h)≤79:=by rw[←xT d.out.2.2.1 d.out.2.2.2.2.1];exact n0
   have g1:wl (val W64 ys)≤79:=by rw[←xT d.out.2.2.2.1 d.out.2.2.2.2.2.1];omega
   have i1:=zh f1
   have a2:=zh g1
   have A0:=zh y0
   have j1:=zh B
   have l1:=zh Y0
   have d2:=zh a1
   unfold Zan kD at O
   clear y0 B Y0 a1 c1 f1 g1
   go_wp2_with fail
   refine O.out.mono ?_
   rintro e w1 ⟨u0,u1,v0,v1,odd,rfl,b0,b1,b2,b3,m1,N⟩
   have Y:=zh N
   have e2:=zh m1
   have Hb:=zh (And.intro b0 (And.intro b1 (And.intro b2 b3)))
   clear N m1 b0 b1 b2 b3 O
   by_cases hv:v0=0
   ·subst hv
    go_wp2_with fail
    generalize I:World.alloc w1 _=wb
    have Z:Hid (Ext wr wb):=I ▸ Y.out.alloc _
    clear I Y
    refine (Zb5 _ _ _ _ _ (d1.out.ext Z.out) (e1.out.ext Z.out) (by have:=i1.out;omega) (by have:=a2.out;omega) z0.out).mono ?_
    rintro e w2 ⟨qv,rv,rfl,n1,f2,o1⟩
    obtain⟨Aq,lq,cq,rfl⟩:=n1.slice
    obtain⟨Ar,C,cr,rfl,g2,p1,B0,C0,D0⟩:=f2
    have a0:=zh (Z.out.trans o1)
    have i2:=zh p1
    have j2:=zh B0
    have l2:=zh C0
    have x1:=zh D0
    have J2:C.length≤79:=by
     rw[xT B0 C0,D0]
     have:wl (val W64 h%val W64 ys)≤wl (val W64 h):=lC (mU _ _)
     have:=i1.out;omega
    clear n1 p1 B0 C0 D0 g2 o1 Z
    go_wp2_with fail
    refine (gT Ar C _ cr w2 rfl i2.out qO).mono ?_
    rintro e w3 ⟨Ac,cc,rfl,t,l,s⟩
    have z:=zh (d.out.div z0.out a0.out j2.out l2.out x1.out t l s)
    have E0:Hid (val W64 ys+val W64 C<val W64 h+val W64 ys):=by
     have G:=uP (val W64 h) z0.out
     have h2:=d.out.2.2.2.2.2.2.1
     have h3:=x1.out
     unfold Hid;omega
    clear t l s d d1 e1 A0 j1 l1 d2
    go_wp2
    go_roundg (val W64 ys+val W64 C)
    case measure=>rw[HK.out];exact E0.out
    case rel=>exact⟨ys,C,_,cb,Ac,cc,rfl,rfl,rfl,z⟩
   have K2:((v0:Int) == 0)=false:=by simp;omega
   obtain⟨r0,r1,q1,q2,q3,K⟩:=e2.out.pair hv
   have HQ:=zh (And.intro q1 (And.intro q2 (And.intro q3 K)))
   have m2:J≠bB:=fun e=>d.out.2.2.2.2.2.2.2.2.2.2.2.1 J ⟨_,rfl,rfl⟩ ⟨_,rfl,by simp[e]⟩
   clear q1 q2 q3 K hv
   go_wp2_with fail
   generalize I:World.alloc w1 _=wb
   have L2:=A0.out.lt
   have M2:=j1.out.lt
   have N2:=Y.out.size
   have y1:Hid (Zda w wb h ys J F (some ⟨bB,0,none⟩) cb 0 w1.heap.size #[.int .u64 (u0:Int),.int .u64 (u1:Int),.int .u64 (v0:Int),.int .u64 (v1:Int),.bool odd]):=by
    have c0:Ext wr wb:=I ▸ Y.out.alloc _
    refine⟨A0.out.ext c0,l1.out.fr c0 (fun f=>f),by rw[List.replicate_zero,qJ];exact d.out.2.1.ext c0,fun b H=>?_,I ▸ Blk.new _ _ _,d.out.2.2.2.2.2.2.2.2.1.trans c0,d.out.2.2.2.2.2.2.2.2.2.1 J ⟨_,rfl,rfl⟩,qO,?_⟩
    ·obtain⟨a,D,rfl⟩:=H
     injection D with D;subst D
     exact⟨d.out.2.2.2.2.2.2.2.2.2.2.1 bB ⟨_,rfl,rfl⟩,fun e=>m2 e.symm,by show bB≠_;omega⟩
    have:=d.out.2.2.2.2.2.2.2.2.1.size;omega
   clear I
   generalize w1.heap.size=gs at *
   go_loopw [6] (fun bv wq=>∃ (j:Nat) (A6:Option Addr) (S:Nat),ys.length+j≤h.length∧bv=.slice A6 (ys.length+j) S∧Hid (Zda w wq h ys J F A6 S j gs #[.int .u64 (u0:Int),.int .u64 (u1:Int),.int .u64 (v0:Int),.int .u64 (v1:Int),.bool odd])) (fun bv _=>match bv with | .slice _ k _=>h.length-k | _=>0)
   case atStart=>exact⟨0,_,cb,qO,rfl,y1⟩
   case round =>
    clear y1
    obtain⟨j,A6,S,hj,rfl,E⟩:=hrel
    by_cases O2:ys.length+j<h.length
    ·have z1:Hid (zI .u64 (wr.alloc (.cells #[.int .u64 0] 84)) (some ⟨wr.heap.size,0,none⟩) [0]):=(Own.new wr 84 .u64 [0] []).shows0
     have B1:Hid ((ys ++ List.replicate j 0).length=ys.length+j):=by unfold Hid;simp
     go_wp2_with (at_builtin;refine Hid.out ?_)
     refine zh ?_
     refine lF rfl _ _ _ rfl _ .u64 8 underlying96 dR A6 (some ⟨wr.heap.size,0,none⟩) (ys.length+j) 1 S 1 rfl rfl (ys ++ List.replicate j 0) [0] B1.out rfl (E.out.2.2.1.ext ((Fr.refl _ _).alloc _)) z1.out (by simp only[maxLen];omega) qO ?_
     intro A7 c7 w3 t l s
     have z:=zh (E.out.next t l s)
     clear t l s z1 B1
     go_wp2
     go_roundw
     case rel=>exact⟨j+1,A7,c7,qO,by rw[sG],z⟩
     case measure=>simp;omega
    have ej:ys.length+j=h.length:=qO
    have G2:0<h.length:=qO
    have o0:ys ++ List.replicate j 0≠[]:=fun e=>by have:=vP List.length e;rw[vE,mN] at this;omega
    obtain⟨bC,rfl,F0,C1,P2,D1⟩:=E.out.2.2.1.openG o0
    have P:=E.out.2.2.2.1 bC ⟨_,rfl,rfl⟩
    have d0:(ys ++ List.replicate j 0).length=h.length:=by simp;omega
    have E1:val W64 (ys ++ List.replicate j 0)=val W64 ys:=by rw[kO,kX];simp
    have G0:Dig W64 (ys ++ List.replicate j 0):=d.out.2.2.2.1.append (Dig.replicate zK _)
    have V:=wF d.out.2.2.1
    have n2:=d.out.2.2.2.2.2.2.1
    have o2:Hid (Ζ 143 #[.agg #[.int .u64 (u0:Int),.int .u64 (u1:Int),.int .u64 (v0:Int),.int .u64 (v1:Int),.bool odd],.slice (some ⟨J,0,none⟩) h.length F,.slice (some ⟨bC,0,none⟩) (ys.length+j) S] wr (aI J bC h.length r0 r1 wr)):=by
     obtain⟨q1,q2,q3,K⟩:=HQ.out
     obtain⟨k0,L,M,T⟩:=Hb.out
     unfold Hid
     rw[ej]
     rw[←E1] at K
     cases odd with
     | false =>
      simp only[pM,oK] at K
      exact Zgk J bC h.length F S u0 u1 v0 v1 r0 r1 h _ wr rfl d0 E.out.1 F0 (fun e=>P.2.1 e.symm) d.out.2.2.1 G0 qO k0 L M T K.1 K.2 qO qO
     | true =>
      simp only[mR] at K
      exact Zib J bC h.length F S u0 u1 v0 v1 r0 r1 h _ wr rfl d0 E.out.1 F0 (fun e=>P.2.1 e.symm) d.out.2.2.1 G0 qO k0 L M T K.1 K.2 qO qO
    have s0:wr.cell? ⟨gs,0,none⟩=some (.int .u64 (u0:Int)):=E.out.2.2.2.2.1.cell 0
    have s1:wr.cell? ⟨gs,1,none⟩=some (.int .u64 (u1:Int)):=E.out.2.2.2.2.1.cell 1
    have s2:wr.cell? ⟨gs,2,none⟩=some (.int .u64 (v0:Int)):=E.out.2.2.2.2.1.cell 2
    have s3:wr.cell? ⟨gs,3,none⟩=some (.int .u64 (v1:Int)):=E.out.2.2.2.2.1.cell 3
    have s4:wr.cell? ⟨gs,4,none⟩=some (.bool odd):=E.out.2.2.2.2.1.cell 4
    have p2:=zh C1
    have F1:=zh d0
    have r2:=zh ej
    clear F0 C1 d0 E1 G0 V n2 o0 ej
    go_wp2_with fail
    refine o2.out.mono ?_
    rintro e w3 ⟨C,zt,rfl,Q,R,e0,f0,G1,H1,I1,u2,J1,K1,l⟩
    have v2:=r2.out
    have L1:=zh (dG _ C h.length F w3 I1 Q.shows0 qO qO)
    have M1:=zh (dG _ zt (ys.length+j) S w3 qO R.shows0 (by have:=F1.out;omega) qO)
    have z:Hid (aZ w w3 g (wL C) (wL zt) (some ⟨J,0,none⟩) F (some ⟨bC,0,none⟩) S):=by
     obtain⟨q1,q2,q3,K⟩:=HQ.out
     have t1:=wQ C
     have t2:=gN C C.length
     refine⟨Buf.takeG (Or.inr ⟨J,rfl,Q,J1 _ E.out.2.1,qO,Z0⟩) _,Buf.takeG (Or.inr ⟨bC,rfl,R,K1 _ p2.out,by have:=F1.out;omega,D1⟩) _,iM G1,iM H1,iQ _,iQ _,?_,?_,?_,fun b H=>?_,fun b H=>?_,fun b H x0=>?_,qO⟩
     ·rw[lG,lG,e0,f0];omega
     ·rw[lG,lG,e0,f0,q3];exact d.out.2.2.2.2.2.2.2.1
     ·refine E.out.2.2.2.2.2.1.next l (fun i hi e=>?_)
      rcases e with e|e
      ·have:=E.out.2.2.2.2.2.2.1;omega
      have:=P.1;omega
     ·obtain⟨a,D,rfl⟩:=H
      injection D with D;subst D
      exact E.out.2.2.2.2.2.2.1
     ·obtain⟨a,D,rfl⟩:=H
      injection D with D;subst D
      exact P.1
     obtain⟨a,D,rfl⟩:=H
     injection D with D;subst D
     obtain⟨a',H0,e⟩:=x0
     injection H0 with H0;subst H0
     exact P.2.1 e
    have E0:Hid (val W64 (wL C)+val W64 (wL zt)<val W64 h+val W64 ys):=by
     obtain⟨q1,q2,q3,K⟩:=HQ.out
     have h2:=d.out.2.2.2.2.2.2.1
     unfold Hid
     rw[lG,lG,e0,f0];omega
    have N1:=zh (wQ C)
    have O1:=zh (wQ zt)
    clear Q R e0 f0 G1 H1 J1 K1 l v2 I1 u2
    go_wp2_with fail
    refine L1.out.mono ?_
    rintro e w4 ⟨rfl,rfl⟩
    go_wp2_with fail
    refine M1.out.mono ?_
    rintro e w4 ⟨rfl,rfl⟩
    go_wp2
    go_roundg (val W64 (wL C)+val W64 (wL zt))
    case measure=>rw[HK.out];exact E0.out
    case rel=>exact⟨wL C,wL zt,_,F,_,S,rfl,by rw[N1.out],by rw[O1.out],z⟩
  have P1:decide ((1:Int)<(ys.length:Int))=false:=by simp;omega
  by_cases h0:ys=[]
  ·subst h0
   have HN:Hid (zF wr (.slice Aa h.length F) g):=by
    have L:=d.out.1.natIs d.out.2.2.1 d.out.2.2.2.2.1
    have M:=d.out.2.2.2.2.2.2.2.1
    rw[dW,qX] at M
    rw[M] at L
    exact L
   have HE:Hid (Ext w wr):=d.out.2.2.2.2.2.2.2.2.1
   clear d G P1 o
   go_wp2
   go_ret
   exact⟨_,rfl,HN.out,HE.out⟩
  obtain⟨y,rfl⟩:∃ y,ys=[y]:=by
   match ys,(by have:=rQ.2 h0;omega:ys.length=1) with
   | [y],_=>exact⟨y,rfl⟩
  obtain⟨b3,rfl,B,_⟩:=d.out.2.1.openG h0
  have Q1:=B.cell (i:=0) qS
  simp at Q1
  have x2:=zh B.lt
  have a0:Hid (Ext w wr):=d.out.2.2.2.2.2.2.2.2.1
  have y2:Hid (zI .u64 wr Aa h):=d.out.1.shows
  have U:=zh d.out.2.2.1
  have R1:y<W64:=d.out.2.2.2.1 y qS
  have g0:0<y:=by
   have:=d.out.2.2.2.2.2.1 0 rfl
   simp at this;omega
  have i0:=d.out.2.2.2.2.2.2.2.1
  simp only[gZ,dW,tX,tP] at i0
  obtain⟨r,er⟩:=yE (val W64 h%y)
  have I0:Hid (r<W64∧Nat.gcd y r=g∧g<W64):=by
   have L:=uP (val W64 h) g0
   have T:=nA (val W64 h) g0
   rw[i0] at T
   refine⟨qO,?_,qO⟩
   rw[←er,← i0,sP y,← oG,sP]
  obtain⟨x,ex⟩:=yE h.length
  rw[ex] at n0 ⊢
  have S1:Hid (wr.cell? ⟨b3,0,none⟩=some (.int .u64 (y:Int))):=Q1
  have z2:=zh g0
  have Hn:=zh R1
  have B2:=zh er
  have T1:=zh ex
  clear d B i0 er ex h0 G P1 o g0 R1
  go_wp2_with fail
  go_region_held3 (fun w'=>w'.cell? ⟨b3,0,none⟩=some (.int .u64 (y:Int)))
   (first|exact S1.out|exact (Fr.cell (p:=⟨b3,0,none⟩) (Fr.undrew hFF) x2.out (fun f=>f)).trans S1.out)
   (first
    | (
     go_at_call 147
     refine (eG Aa h x F y _ T1.out y2.out.drew (by have:=T1.out;omega) U.out z2.out Hn.out).mono ?_
     rintro e w4 ⟨rfl,C2,U1⟩
     rw[B2.out]
     have hFF:Ext wr.drew w4:=U1 ▸ (Fr.refl _ wr.drew).drewN C2
     clear U1)
    | (
     go_at_call 146
     refine (ZaD y r g _ (HG.out.ext (a0.out.trans (Fr.undrew hFF))) Hn.out I0.out.1 I0.out.2.1).mono ?_
     rintro e w5 ⟨rfl,rfl⟩)
    | (
     go_at_call 145
     refine (aV g _ I0.out.2.2).mono ?_
     rintro e w6 ⟨v6,rfl,D2,E2⟩
     replace hFF:Ext wr.drew w6:=hFF.trans E2))
  go_wp2
  go_ret
  exact⟨_,rfl,D2,a0.out.trans (Fr.undrew hFF)⟩
theorem Zjs (u v:Value)(m n:Nat)(w:World)(a:Glob w)(b:zF w u m)(c:zF w v n)(d:wl m≤79)(e:wl n≤79):Ζ 112 #[u,v] w (lH w (Nat.gcd m n)):=by
 by_cases f:min m n<W64
 ·exact ZcG u v m n w a b c qO qO f
 rcases vO m n with h|h
 ·exact ZiU v u n m _ w a c b e qO h (sP _ _)
 exact ZiT u v m n _ w a b c d qO h rfl
theorem ZkX (u v:Value)(m n:Nat)(w:World)(a:Glob w)(b:zF w u m)(c:zF w v n)(d:wl m≤4294967296)(e:wl n≤4294967296)(f:min m n<W64∨(wl m≤79∧wl n≤79)):Ζ 112 #[u,v] w (lH w (Nat.gcd m n)):=by
 rcases f with h|h
 ·exact ZcG u v m n w a b c d e h
 exact Zjs u v m n w a b c h.1 h.2
def Zi4 (x y:Int):Prop:=min x.natAbs y.natAbs<W64∨(wl x.natAbs≤79∧wl y.natAbs≤79)
theorem Zi4.words {x y:Int}(a:wl x.natAbs≤79)(b:wl y.natAbs≤79):Zi4 x y:=Or.inr ⟨a,b⟩
theorem Zsd (a b:Value)(x y:Int)(w:World)(B:Glob w)(ha:fS w a x)(C:fS w b y)(D:Fits x)(E:Fits y)(F:Zi4 x y):Ζ 77 #[a,b] w (Zgi w (Int.gcd x y:Int)):=by
 obtain⟨s,A,l,c,rfl,G,I,H⟩:=ha.open
 obtain⟨t,P,R,S,rfl,g,m,n⟩:=C.open
 have J:=zh G
 have o:=zh g
 have K:Hid (wl x.natAbs≤4294967296):=by unfold Fits at D;unfold Hid;omega
 have L:Hid (wl y.natAbs≤4294967296):=by unfold Fits at E;unfold Hid;omega
 have M:=zh B
 have N:=zh F
 obtain⟨z,p⟩:=yE (Int.gcd x y)
 have O:Hid (Nat.gcd x.natAbs y.natAbs=z):=p
 rw[p]
 clear ha C D E G g I m H n B F p
 go_enter func77,ntmps77
 go_wp2_with fail
 generalize h:World.alloc (World.alloc (World.alloc w _) _) _=wb
 obtain⟨q,r,i,Q⟩:=kR h
 have j:=zh i
 have k:=zh Q
 clear h q r i Q
 refine (ZkX _ _ _ _ _ (M.out.ext k.out) (J.out.ext k.out) (o.out.ext k.out) K.out L.out N.out).mono ?_
 rintro e T ⟨U,rfl,d,f⟩
 rw[O.out] at d
 obtain⟨V,W,X,rfl⟩:=d.slice
 obtain⟨H,Y,Z,z3⟩:=(j.out.ext f).cell2
 have u:=zh d
 have v:=zh f
 clear d f
 go_wp2
 exact ZlG (neg:=false) rfl rfl qO k.out j.out v.out u.out rfl rfl
def zX (c:UInt8):Bool:=decide (48≤c.toNat) && decide (c.toNat≤57)
abbrev bytes (s:ByteArray):List UInt8:=s.data.toList
theorem ZbJ {p:UInt8→Bool}:∀ {l:List UInt8} {k:Nat},(l.take k).all p=true→(∀ h:k<l.length,p l[k]=false)→l.takeWhile p=l.take k∧l.dropWhile p=l.drop k
 | [],k,_,_=>qS
 | x :: l,0,_,h=>by
  have:=h qS
  simp at this
  simp[this]
 | x :: l,k+1,h1,h2=>by
  simp only[List.take_succ_cons,rW,sA] at h1
  have:=ZbJ (l:=l) (k:=k) h1.2 (fun h=>by have:=h2 (by simp;omega);simpa using this)
  simp[h1.1,this.1,this.2]
theorem zR (s:ByteArray):(bytes s).length=s.size:=Array.length_toList
theorem kI (s:ByteArray)(a b:Nat):bytes (s.extract a b)=((bytes s).drop a).take (b-a):=Lib.extract_data s a b
theorem Zdf (s:ByteArray){k:Nat}(h:k<s.size):(bytes s)[k]'(by rw[zR];exact h)=s[k]:=rfl
theorem ZaY (s:ByteArray)(k:Nat)(h:k<s.size):(bytes s).take (k+1)=(bytes s).take k ++ [s[k]]:=by
 rw[tO (by rw[zR];exact h)];rfl
theorem ZhE {s:ByteArray}{k:Nat}(a:((bytes s).take k).all zX=true)(b:∀ h:k<s.size,zX s[k]=false) :
 bytes (s.extract 0 k)=(bytes s).takeWhile zX∧bytes (s.extract k s.size)=(bytes s).dropWhile zX:=by
 obtain⟨c,d⟩:=ZbJ a (fun h=>b (by rw[zR] at h;exact h))
 rw[kI,kI,c,d]
 refine⟨qS,?_⟩
 rw[uB (by rw[tB,zR];exact uF _)]
def ZtQ (s:ByteArray) (w:World) (e:Ending) (w':World):Prop :=
 ∃ t u:ByteArray,e=.returned (.tuple #[.string t,.string u])∧bytes t=(bytes s).takeWhile zX∧bytes u=(bytes s).dropWhile zX∧∃ n,w'=w.drewN n
theorem ZdR (s:ByteArray)(w:World)(i:s.size≤1099511627776):Ζ 110 #[.string s] w (ZtQ s w):=by
 go_enter func110,ntmps110
 go_wp2
 go_loop [4] (fun v=>∃ k:Nat,k≤s.size∧v=.int .i64 (k:Int)∧Hid (((bytes s).take k).all zX=true)) (fun v=>s.size-(intOf v).toNat)
 case atStart=>exact⟨0,vS _,rfl,rfl⟩
 case round =>
  obtain⟨k,j,rfl,c⟩:=hrel
  by_cases b:k<s.size
  ·have f:zX s[k]=(decide (48≤s[k].toNat) && decide (s[k].toNat≤57)):=rfl
   have d:=zh f
   have e:=zh (ZaY s k b)
   clear f
   go_wp2_with fail
   ·have g:48≤(s[k].toNat:Int):=by assumption
    have l:(s[k].toNat:Int)≤57:=by assumption
    go_round
    case rel =>
     refine⟨k+1,qO,by go_num,?_⟩
     unfold Hid
     rw[e.out,pH,c.out]
     simp only[rW,List.all_nil,Bool.and_true,mI]
     rw[d.out,vQ qO,vQ qO];rfl
    case measure=>simp[intOf];omega
   ·have g:57<(s[k].toNat:Int):=by assumption
    have a:=zh (ZhE c.out (fun _=>by rw[d.out,uV (p:=s[k].toNat≤57) qO,Bool.and_false]))
    go_quiet (fail)
    go_wp2
    go_ret2
    exact⟨_,_,rfl,a.out.1,a.out.2,_,rfl⟩
   have g:(s[k].toNat:Int)<48:=by assumption
   have a:=zh (ZhE c.out (fun _=>by rw[d.out,uV (p:=48≤s[k].toNat) qO,Bool.false_and]))
   go_quiet (fail)
   go_wp2
   go_ret2
   exact⟨_,_,rfl,a.out.1,a.out.2,_,rfl⟩
  have a:=zh (ZhE c.out (fun h=>absurd h b))
  go_wp2_with fail
  go_quiet (fail)
  go_wp2
  go_ret2
  exact⟨_,_,rfl,a.out.1,a.out.2,_,rfl⟩
def zZ (l:List UInt8):Bool×List UInt8:=if l.head? = some 45 then (true,l.tail) else (false,l)
def ZjH (s:ByteArray) (w:World) (e:Ending) (w':World):Prop:=∃ (r:ByteArray) (neg:Bool),e=.returned (.tuple #[.string r,.bool neg])∧zZ (bytes s)=(neg,bytes r)∧w=w'
theorem Zei (s:ByteArray)(w:World):Ζ 109 #[.string s,.string ⟨#[45]⟩] w (ZjH s w):=by
 refine (Tryz.strings_CutPrefix s ⟨#[45]⟩ w).mono ?_
 rintro e c ⟨rfl,rfl⟩
 refine⟨_,_,rfl,?_,rfl⟩
 unfold zZ
 cases h:s.data.toList with
 | nil=>simp[bytes,h,Lib.trimPrefix,Lib.hasPrefix]
 | cons x l =>
  by_cases a:x=45
  ·subst a;simp[bytes,h,Lib.trimPrefix,Lib.hasPrefix]
  have b:¬ 45=x:=fun e=>a e.symm
  simp[bytes,h,Lib.trimPrefix,Lib.hasPrefix,List.isPrefixOf,a,b]
def lE (l:List UInt8):Bool×List UInt8×List UInt8×Bool :=
 let p:=zZ l
 let num:=p.2.takeWhile zX
 let rest:=p.2.dropWhile zX
 if num=[48] then (p.1,num,[],!p.1 && rest.isEmpty)
 else if num=[]∨num.head? = some 48 then (p.1,num,[],false)
 else if rest=[] then (p.1,num,[],true)
 else if rest.head? ≠ some 47 then (p.1,num,[],false)
 else (p.1,num,rest.tail.takeWhile zX,(rest.tail.dropWhile zX).isEmpty && !(rest.tail.takeWhile zX).isEmpty && (rest.tail.takeWhile zX).head? != some 48 && (rest.tail.takeWhile zX) != [49])
def ZfN (s:ByteArray) (w:World) (e:Ending) (w':World):Prop :=
 ∃ (neg:Bool) (t d:ByteArray) (ok:Bool),e=.returned (.tuple #[.agg #[.bool neg,.string t,.string d],.bool ok])∧lE (bytes s)=(neg,bytes t,bytes d,ok)∧Ext w w'
theorem Zil {l r:List UInt8}{neg:Bool}(h:zZ l=(neg,r)):r.length≤l.length:=by
 unfold zZ at h
 split at h<;>(injection h with _ h;subst h;simp)
theorem Zap {t:ByteArray}(h:bytes t≠[]):0<t.size∧t.toList≠[]∧t.toList.isEmpty=false:=by
 rw[Lib.toList_data]
 have a:0<t.size:=by rw[←zR];exact rQ.2 h
 exact⟨a,h,by simpa using h⟩
theorem ZaZ {t:ByteArray}(h:0<t.size):(bytes t).head? = some t[0]:=by
 have a:0<(bytes t).length:=by rw[zR];exact h
 rw[List.head?_eq_getElem?,uR a,Zdf t h]
theorem ZhF {b:UInt8}{n:Nat}(a:n<256):((b.toNat:Int) == (n:Int))=decide (b=UInt8.ofNat n):=by
 rw[Bool.eq_iff_iff]
 simp
 constructor
 ·intro h
  have:b.toNat=n:=qO
  rw[←this];simp
 rintro rfl
 simp[vL a]
theorem Blk.cell3 {t:TypeId}{w:World}{g:Nat}{x y z:Value}(h:Blk t w g #[x,y,z]):w.cell? ⟨g,0,none⟩=some x∧w.cell? ⟨g,1,none⟩=some y∧w.cell? ⟨g,2,none⟩=some z∧w.frozen? ⟨g,0,none⟩=false∧w.frozen? ⟨g,1,none⟩=false∧w.frozen? ⟨g,2,none⟩=false :=
 ⟨h.cell 0,h.cell 1,h.cell 2,h.frozen 0,h.frozen 1,h.frozen 2⟩
theorem iC {fn:Func}{a:Array Value}{w wz:World}{r:Nat}{neg c:Bool}{s t d:ByteArray}(b:fn.results=#[.cell 2 133,.tmp 3])(e:a[2]? = some (.pointer (some ⟨r,0,none⟩)))(f:a[3]? = some (.bool c))(g:Blk 133 wz r #[.bool neg,.string t,.string d])(Q:Ext w wz)(h:lE (bytes s)=(neg,bytes t,bytes d,c)):bodyPost prog fn (ZfN s w) .ret ⟨a,[]⟩ wz:=by
 obtain⟨i,j,k,_⟩:=g.cell3
 refine bodyPost_ret (v:=.tuple #[.agg #[.bool neg,.string t,.string d],.bool c]) (by simp[results,b,e,f,go_sem,i,j,k]) rfl ⟨neg,t,d,c,rfl,h,Q⟩
theorem Zim (s:ByteArray)(w:World)(hs:s.size≤1099511627776):Ζ 75 #[.string s] w (ZfN s w):=by
 go_enter func75,ntmps75
 go_wp2_with fail
 refine (Zei s _).mono ?_
 rintro e w1 ⟨r,neg,rfl,hr,rfl⟩
 have c0:r.size≤1099511627776:=by
  have:=Zil hr;rw[zR,zR] at this;omega
 have HR:=zh hr
 clear hr
 go_wp2_with fail
 refine (ZdR r _ c0).mono ?_
 rintro e w1 ⟨t,u,rfl,ht,hu,n1,rfl⟩
 have HT:=zh ht
 have HU:=zh hu
 have f0:u.size≤1099511627776:=by
  have h1:=vP List.length hu
  have h2:=(List.dropWhile_suffix zX (l:=bytes r)).sublist.length_le
  rw[zR] at h1
  rw[zR] at h2
  omega
 have k:Hid (∀ (d:List UInt8) (I:Bool),lE (bytes s)=(neg,bytes t,d,I)↔(if bytes t=[48] then (neg,bytes t,[],!neg && (bytes u).isEmpty)
  else if bytes t=[]∨(bytes t).head? = some 48 then (neg,bytes t,[],false)
  else if bytes u=[] then (neg,bytes t,[],true)
  else if (bytes u).head? ≠ some 47 then (neg,bytes t,[],false)
  else (neg,bytes t,(bytes u).tail.takeWhile zX,((bytes u).tail.dropWhile zX).isEmpty && !((bytes u).tail.takeWhile zX).isEmpty && ((bytes u).tail.takeWhile zX).head? != some 48 && ((bytes u).tail.takeWhile zX) != [49]))=(neg,bytes t,d,I)):=by
  intro d I
  unfold lE
  rw[HR.out]
  simp only[←HT.out,← HU.out]
 clear ht hu
 generalize m:World.alloc (World.alloc w _) _=wb0
 obtain⟨T,U,Q⟩:=Zm1 m
 clear m
 generalize m:World.drewN wb0 n1=wb
 have c:Hid (Blk 133 wb w.heap.size #[.bool false,.string ⟨#[]⟩,.string ⟨#[]⟩]):=m ▸ T.drewN n1
 have J:Hid (Blk 133 wb (w.heap.size+1) #[.bool neg,.string ⟨#[]⟩,.string ⟨#[]⟩]):=m ▸ U.drewN n1
 have C:Hid (Ext w wb):=m ▸ Q.drewN n1
 clear m T U Q
 clear wb0
 obtain⟨x0,x1,x2,x3,x4,x5⟩:=c.out.cell3
 obtain⟨y0,y1,y2,y3,y4,y5⟩:=J.out.cell3
 have V:u.toList=bytes u:=Lib.toList_data u
 have W:t.toList=bytes t:=Lib.toList_data t
 have X:=zh V
 have K:=zh W
 clear V W
 by_cases j:bytes t=[48]
 ·have d1:(t.toList == [48])=true:=by rw[K.out,j];rfl
  cases neg with
  | true =>
   have a:Hid (lE (bytes s)=(true,bytes t,bytes ⟨#[]⟩,false)):=by
    unfold Hid;rw[k.out,uM j];rfl
   clear j
   go_wp2
   exact iC rfl rfl rfl ((((c.out.far (p:=⟨w.heap.size+1,1,none⟩) qS (.string t)).set_ 0 (.bool true)).set_ 1 (.string t)).set_ 2 (.string ⟨#[]⟩)) ((((C.out.setCell (Or.inr qS) _).setCell (Or.inr qS) _).setCell (Or.inr qS) _).setCell (Or.inr qS) _) a.out
  | false =>
   by_cases o:bytes u=[]
   ·have d2:u.toList.isEmpty=true:=by rw[X.out,o,List.isEmpty_nil]
    have a:Hid (lE (bytes s)=(false,bytes t,bytes ⟨#[]⟩,true)):=by
     unfold Hid;rw[k.out,uM j,o];rfl
    clear j o
    go_wp2
    exact iC rfl rfl rfl ((((c.out.far (p:=⟨w.heap.size+1,1,none⟩) qS (.string t)).set_ 0 (.bool false)).set_ 1 (.string t)).set_ 2 (.string ⟨#[]⟩)) ((((C.out.setCell (Or.inr qS) _).setCell (Or.inr qS) _).setCell (Or.inr qS) _).setCell (Or.inr qS) _) a.out
   have d2:u.toList.isEmpty=false:=(Zap o).2.2
   have a:Hid (lE (bytes s)=(false,bytes t,bytes ⟨#[]⟩,false)):=by
    unfold Hid;rw[k.out,uM j,show (bytes u).isEmpty=false by simpa using o];rfl
   clear j o
   go_wp2
   exact iC rfl rfl rfl ((((c.out.far (p:=⟨w.heap.size+1,1,none⟩) qS (.string t)).set_ 0 (.bool false)).set_ 1 (.string t)).set_ 2 (.string ⟨#[]⟩)) ((((C.out.setCell (Or.inr qS) _).setCell (Or.inr qS) _).setCell (Or.inr qS) _).setCell (Or.inr qS) _) a.out
 have d1:(t.toList == [48])=false:=by rw[K.out];simpa using j
 by_cases o:bytes t=[]
 ·have d2:t.toList=[]:=K.out.trans o
  have a:Hid (lE (bytes s)=(neg,bytes t,bytes ⟨#[]⟩,false)):=by
   unfold Hid;rw[k.out,uI j,uM (Or.inl o)]
  clear j o
  go_wp2
  exact iC rfl rfl rfl ((((c.out.far (p:=⟨w.heap.size+1,1,none⟩) qS (.string t)).set_ 0 (.bool neg)).set_ 1 (.string t)).set_ 2 (.string ⟨#[]⟩)) ((((C.out.setCell (Or.inr qS) _).setCell (Or.inr qS) _).setCell (Or.inr qS) _).setCell (Or.inr qS) _) a.out
 obtain⟨g1,g2,g3⟩:=Zap o
 have g:=ZhF (b:=t[0]) (n:=48) qO
 have i:=ZaZ g1
 by_cases N:t[0]=48
 ·have d3:((t[0].toNat:Int) == 48)=true:=by rw[show (48:Int)=((48:Nat):Int) from rfl,g];simpa using N
  have a:Hid (lE (bytes s)=(neg,bytes t,bytes ⟨#[]⟩,false)):=by
   unfold Hid;rw[k.out,uI j,uM (Or.inr (by rw[i,N]))]
  clear j o N g i
  go_wp2
  exact iC rfl rfl rfl ((((c.out.far (p:=⟨w.heap.size+1,1,none⟩) qS (.string t)).set_ 0 (.bool neg)).set_ 1 (.string t)).set_ 2 (.string ⟨#[]⟩)) ((((C.out.setCell (Or.inr qS) _).setCell (Or.inr qS) _).setCell (Or.inr qS) _).setCell (Or.inr qS) _) a.out
 have d3:((t[0].toNat:Int) == 48)=false:=by rw[show (48:Int)=((48:Nat):Int) from rfl,g];simpa using N
 have O:¬ (bytes t=[]∨(bytes t).head? = some 48):=by
  rintro (h|h)
  ·exact o h
  rw[i] at h;injection h with h;exact N h
 clear g i N o
 by_cases H:bytes u=[]
 ·have d5:u.toList.isEmpty=true:=by rw[X.out,H];rfl
  have a:Hid (lE (bytes s)=(neg,bytes t,bytes ⟨#[]⟩,true)):=by
   unfold Hid;rw[k.out,uI j,uI O,uM H]
  clear j O H
  go_wp2
  exact iC rfl rfl rfl ((((c.out.far (p:=⟨w.heap.size+1,1,none⟩) qS (.string t)).set_ 0 (.bool neg)).set_ 1 (.string t)).set_ 2 (.string ⟨#[]⟩)) ((((C.out.setCell (Or.inr qS) _).setCell (Or.inr qS) _).setCell (Or.inr qS) _).setCell (Or.inr qS) _) a.out
 obtain⟨k1,k2,k3⟩:=Zap H
 have g:=ZhF (b:=u[0]) (n:=47) qO
 have i:=ZaZ k1
 by_cases P:u[0]=47
 ·have d6:((u[0].toNat:Int) != 47)=false:=by
   have:((u[0].toNat:Int) == 47)=true:=by rw[show (47:Int)=((47:Nat):Int) from rfl,g];simpa using P
   simp[bne,this]
  have H6:Hid (¬ (bytes u).head? ≠ some 47):=by unfold Hid;rw[i,P];simp
  have HC:Hid (bytes t≠[48]∧¬ (bytes t=[]∨(bytes t).head? = some 48)∧bytes u≠[]):=⟨j,O,H⟩
  clear j O H P g i
  go_wp2_with fail
  refine (ZdR (u.extract 1 u.size) _ (by rw[qE];omega)).mono ?_
  rintro e w1 ⟨v,x,rfl,hv,hx,n2,rfl⟩
  have ev:bytes (u.extract 1 u.size)=(bytes u).tail:=by
   rw[kI,uB (by rw[tB,zR];exact uF _),List.drop_one]
  rw[ev] at hv hx
  have Y:Hid (∀ I,(((bytes x).isEmpty && !(bytes v).isEmpty && (bytes v).head? != some 48 && (bytes v) != [49])=I)→lE (bytes s)=(neg,bytes t,bytes v,I)):=by
   intro I h
   rw[k.out,uI HC.out.1,uI HC.out.2.1,uI HC.out.2.2,uI H6.out,← hv,← hx,h]
  have Z:v.toList=bytes v:=Lib.toList_data v
  have a0:x.toList=bytes x:=Lib.toList_data x
  have D:=zh Z
  have d0:=zh a0
  clear hv hx ev Z a0 d6
  generalize E:World.setCell wb _ _=wc0
  generalize F:World.drewN wc0 n2=wd
  have f:Hid (Blk 133 wd w.heap.size #[.bool false,.string ⟨#[]⟩,.string ⟨#[]⟩]):=F ▸ E ▸ (c.out.far (p:=⟨w.heap.size+1,1,none⟩) qS _).drewN n2
  have b0:Hid (Blk 133 wd (w.heap.size+1) #[.bool neg,.string t,.string ⟨#[]⟩]):=F ▸ E ▸ (J.out.set_ 1 _).drewN n2
  have z:Hid (Ext w wd):=F ▸ E ▸ (C.out.setCell (Or.inr qS) _).drewN n2
  clear F E c J C x0 x1 x2 x3 x4 x5 y0 y1 y2 y3 y4 y5
  clear wc0
  obtain⟨x0,x1,x2,x3,x4,x5⟩:=f.out.cell3
  obtain⟨y0,y1,y2,y3,y4,y5⟩:=b0.out.cell3
  go_wp2_with fail
  by_cases y:bytes x=[]
  ·have r1:x.toList.isEmpty=true:=by rw[d0.out,y,List.isEmpty_nil]
   by_cases G:bytes v=[]
   ·have r2:v.toList.isEmpty=true:=by rw[D.out,G,List.isEmpty_nil]
    have g0:v.toList=[]:=D.out.trans G
    have a:=zh (Y.out false (by rw[y,G];rfl))
    clear y G
    go_region
    all_goals go_wp2
    all_goals exact iC rfl rfl rfl (((((f.out.far (p:=⟨w.heap.size+1,2,none⟩) qS (.string v)).set_ 0 (.bool neg)).set_ 1 (.string t)).set_ 2 (.string v)).drewN 1) (((((z.out.setCell (Or.inr qS) _).setCell (Or.inr qS) _).setCell (Or.inr qS) _).setCell (Or.inr qS) _).drewN 1) a.out
   obtain⟨g4,g5,g6⟩:=Zap G
   have A:=ZhF (b:=v[0]) (n:=48) qO
   have B:=ZaZ g4
   have q:(bytes v).isEmpty=false:=by simpa using G
   by_cases L:v[0]=48
   ·have R:((v[0].toNat:Int) == 48)=true:=by rw[show (48:Int)=((48:Nat):Int) from rfl,A];simpa using L
    have e0:((v[0].toNat:Int) != 48)=false:=by rw[bne,R];rfl
    have a:=zh (Y.out false (by rw[y,q,B,L];rfl))
    clear y G L A B q R
    go_region
    all_goals go_wp2
    all_goals exact iC rfl rfl rfl (((((f.out.far (p:=⟨w.heap.size+1,2,none⟩) qS (.string v)).set_ 0 (.bool neg)).set_ 1 (.string t)).set_ 2 (.string v)).drewN 1) (((((z.out.setCell (Or.inr qS) _).setCell (Or.inr qS) _).setCell (Or.inr qS) _).setCell (Or.inr qS) _).drewN 1) a.out
   have R:((v[0].toNat:Int) == 48)=false:=by rw[show (48:Int)=((48:Nat):Int) from rfl,A];simpa using L
   have e0:((v[0].toNat:Int) != 48)=true:=by rw[bne,R];rfl
   have n3:((bytes v).head? != some 48)=true:=by rw[B];simpa using L
   by_cases S:bytes v=[49]
   ·have r4:(v.toList == [49])=true:=by rw[D.out,S];rfl
    have M:(v.toList != [49])=false:=by rw[bne,r4];rfl
    have a:=zh (Y.out false (by rw[y,n3,q,S];rfl))
    clear y G L S A B q n3 R M
    go_region
    all_goals go_wp2
    all_goals exact iC rfl rfl rfl (((((f.out.far (p:=⟨w.heap.size+1,2,none⟩) qS (.string v)).set_ 0 (.bool neg)).set_ 1 (.string t)).set_ 2 (.string v)).drewN 1) (((((z.out.setCell (Or.inr qS) _).setCell (Or.inr qS) _).setCell (Or.inr qS) _).setCell (Or.inr qS) _).drewN 1) a.out
   have r4:(v.toList == [49])=false:=by rw[D.out];simpa using S
   have M:(v.toList != [49])=true:=by rw[bne,r4];rfl
   have a:=zh (Y.out true (by rw[y,n3,q,show (bytes v != [49])=true by rw[bne];simpa using S];rfl))
   clear y G L S A B q n3 R M
   go_region
   all_goals go_wp2
   all_goals exact iC rfl rfl rfl (((((f.out.far (p:=⟨w.heap.size+1,2,none⟩) qS (.string v)).set_ 0 (.bool neg)).set_ 1 (.string t)).set_ 2 (.string v)).drewN 1) (((((z.out.setCell (Or.inr qS) _).setCell (Or.inr qS) _).setCell (Or.inr qS) _).setCell (Or.inr qS) _).drewN 1) a.out
  have r1:x.toList.isEmpty=false:=(Zap y).2.2
  have a:=zh (Y.out false (by rw[show (bytes x).isEmpty=false by simpa using y];rfl))
  clear y
  go_region
  all_goals go_wp2
  all_goals exact iC rfl rfl rfl (((((f.out.far (p:=⟨w.heap.size+1,2,none⟩) qS (.string v)).set_ 0 (.bool neg)).set_ 1 (.string t)).set_ 2 (.string v)).drewN 1) (((((z.out.setCell (Or.inr qS) _).setCell (Or.inr qS) _).setCell (Or.inr qS) _).setCell (Or.inr qS) _).drewN 1) a.out
 have d6:((u[0].toNat:Int) != 47)=true:=by
  have:((u[0].toNat:Int) == 47)=false:=by rw[show (47:Int)=((47:Nat):Int) from rfl,g];simpa using P
  simp[bne,this]
 have a:Hid (lE (bytes s)=(neg,bytes t,bytes ⟨#[]⟩,false)):=by
  unfold Hid;rw[k.out,uI j,uI O,uI H,uM (by rw[i];simpa using P)]
 clear j O H P g i
 go_wp2
 exact iC rfl rfl rfl ((((c.out.far (p:=⟨w.heap.size+1,1,none⟩) qS (.string t)).set_ 0 (.bool neg)).set_ 1 (.string t)).set_ 2 (.string ⟨#[]⟩)) ((((C.out.setCell (Or.inr qS) _).setCell (Or.inr qS) _).setCell (Or.inr qS) _).setCell (Or.inr qS) _) a.out
def zG (l:List UInt8):Nat:=l.foldl (fun n c=>10*n+(c.toNat-48)) 0
theorem dZ (l:List UInt8)(c:UInt8):zG (l ++ [c])=10*zG l+(c.toNat-48):=by simp[zG]
theorem aA (a b:List UInt8):zG (a ++ b)=zG a*10^b.length+zG b:=by
 have d:∀ (b:List UInt8) (n:Nat),b.foldl (fun n c=>10*n+(c.toNat-48)) n=n*10^b.length+b.foldl (fun n c=>10*n+(c.toNat-48)) 0:=by
  intro b
  induction b with
  | nil=>intro n;simp
  | cons c b ih =>
   intro n
   simp only[List.foldl_cons,sS]
   rw[ih,ih (10*0+(c.toNat-48)),uO,tX,vZ,uW,sG]
   congr 1
   rw[uG (10^b.length) 10,← uH,uG n 10]
 unfold zG
 rw[List.foldl_append,d]
theorem cZ {c:UInt8}(h:zX c=true):48≤c.toNat∧c.toNat-48≤9:=by
 unfold zX at h
 simp at h
 omega
theorem Zcy (c:UInt8)(l:List UInt8):zG (c :: l)=(c.toNat-48)*10^l.length+zG l:=by
 have:=aA [c] l
 simpa [zG] using this
theorem kT:∀ (l:List UInt8),l.all zX=true→zG l<10^l.length
 | [],_=>by simp[zG]
 | c :: l,h=>by
  rw[rW,sA] at h
  have b:=kT l h.2
  have a:=cZ h.1
  have d:(c.toNat-48)*10^l.length≤9*10^l.length:=uE _ a.2
  rw[Zcy,sS,uO]
  omega
def gQ (xs:List Nat) (y q k:Nat) (m:List Nat) (c:Nat):Prop :=
 m.length=xs.length∧m.drop k=xs.drop k∧Dig W64 m∧c<W64∧val W64 (m.take k)+W64^k*c=val W64 (xs.take k)*y+q
theorem gQ.start {xs:qN}{y q:Nat}(h:Dig W64 xs)(a:q<W64):gQ xs y q 0 xs q:=⟨rfl,rfl,h,a,qS⟩
theorem gQ.at {xs m:qN}{y q k c:Nat}(h:gQ xs y q k m c):m[k]?.getD 0=xs[k]?.getD 0:=by
 have:=vP (fun l=>l[0]?.getD 0) h.2.1
 simpa [vR] using this
theorem gQ.step {xs m:qN}{y q k c z:Nat}(h:gQ xs y q k m c)(d:k<xs.length)(a:m[k]?.getD 0=z)(e:y<W64):gQ xs y q (k+1) (m.set k (maLo z y c)) (maHi z y c):=by
 have f:xs[k]?.getD 0=z:=h.at.symm.trans a
 obtain⟨g,i,b,j,o⟩:=h
 refine⟨by simpa using g,?_,b.set k (Zhx _ _ _),ZcI (a ▸ b.getD zK k) e j,?_⟩
 ·rw[tN qO,← tA,← tA,i]
 rw[xL _ _ _ _ qO,zV k d,f,uO]
 have l:=ZeZ z y c
 have n:=vP (W64^k * ·) l
 simp only[uL] at n
 rw[uW,uH,uH]
 omega
theorem gQ.done {xs m:qN}{y q c:Nat}(h:gQ xs y q xs.length m c):val W64 m+W64^xs.length*c=val W64 xs*y+q:=by
 obtain⟨b,d,e,f,a⟩:=h
 rwa [uB qO,uB qO] at a
theorem Zm9 {m:qN}(b:Dig W64 m)(h:∀ k,m.length=k+1→W64^k≤val W64 m):Trim m:=by
 intro k c d
 have a:=h k c
 rw[xX (xs:=m) k,xY k qO,d,vF (by omega:m.length≤k+1)] at a
 have e:=wF (b.take k)
 rw[uN,uY qO] at e
 simp at a
 omega
theorem gQ.zero {xs m:qN}{y q:Nat}(h:gQ xs y q xs.length m 0)(b:Trim xs)(c:1≤y):Trim m∧val W64 m=val W64 xs*y+q:=by
 have a:=h.done
 simp at a
 refine⟨Zm9 h.2.2.1 (fun k d=>?_),a⟩
 have e:=Zd0 (B:=W64) b (k:=k) (by rw[←h.1];exact d)
 have f:val W64 xs*1≤val W64 xs*y:=uK _ c
 omega
theorem gQ.more {xs m:qN}{y q c:Nat}(h:gQ xs y q xs.length m c)(a:c≠0):Trim (m ++ [c])∧Dig W64 (m ++ [c])∧val W64 (m ++ [c])=val W64 xs*y+q:=by
 refine⟨?_,h.2.2.1.append (Dig.nil.cons h.2.2.2.1),?_⟩
 ·intro k b
  have:k=m.length:=by simp at b;omega
  subst this
  simpa using a
 rw[kO,h.1,gZ,dW,tX,tP]
 exact h.done
theorem Buf.open_ {k:IntKind}{e:TypeId}{w:World}{A:qA}{cap:Nat}{xs:qN}(h:Buf k e w A cap xs)(a:xs≠[]):∃ b,A=some ⟨b,0,none⟩∧Own k e w b xs∧fI e w b cap∧xs.length≤cap∧cap≤maxLen:=by
 rcases h with ⟨_,h,_⟩|h
 ·exact absurd h a
 exact h
theorem Buf.set_ {k:IntKind}{e:TypeId}{w:World}{b cap:Nat}{xs:qN}(h:Own k e w b xs)(a:fI e w b cap)(c:xs.length≤cap)(d:cap≤maxLen)(i v:Nat)(hi:i<xs.length):Buf k e (w.setCell ⟨b,i,none⟩ (.int k (v:Int))) (some ⟨b,0,none⟩) cap (xs.set i v) :=
 Or.inr ⟨b,rfl,h.set i v hi,a.setCell b i _,by simpa using c,d⟩
def ZgD (w wr:World) (T:Nat) (d:ByteArray) (A:Option Addr) (cap:Nat) (xs:List Nat):Prop :=
 Buf .u64 84 wr A cap xs∧Dig W64 xs∧Trim xs∧val W64 xs*10^d.size+zG (bytes d)=T∧(bytes d).all zX=true∧Ext w wr∧∀ b,xQ A b→w.heap.size≤b
theorem ZgD.len {w wr:World}{T:Nat}{d:ByteArray}{A:qA}{cap:Nat}{xs:qN}(h:ZgD w wr T d A cap xs):xs.length≤wl T:=by
 obtain⟨_,a,b,c,_⟩:=h
 rw[xT a b]
 apply lC
 have:val W64 xs*1≤val W64 xs*10^d.size:=uK _ (uZ qO)
 omega
theorem ZrN {n:Nat}(h:n≤19):10^n≤10000000000000000000:=by
 have:10^n≤10^19:=vC qO h
 exact this
theorem ZgE (d:ByteArray)(w:World)(T:Nat)(hd:(bytes d).all zX=true)(hT:zG (bytes d)=T)(hw:wl T≤1048576)(hl:d.size≤1099511627776) :
 Ζ 169 #[.string d] w (lH w T):=by
 have HD:=zh hd
 have HT:=zh hT
 clear hd hT
 have R0:=fun (w:World) (s:ByteArray)=>Lib.run_convert_string_bytes (P:=prog) w 9 159 5 s underlying9 underlying159 underlying5
 go_enter func169,ntmps169
 go_wp2
 go_loopw [0,3] (fun v0 v3 wr=>∃ (d:ByteArray) (A:Option Addr) (f:Nat) (l:List Nat),v0=.string d∧v3=.slice A l.length f∧d.size≤1099511627776∧Hid (ZgD w wr T d A f l)) (fun v0 _ _=>match v0 with | .string d=>d.size | _=>0)
 case atStart=>exact⟨d,none,0,[],rfl,rfl,hl,Buf.nil,Dig.nil,Trim.nil,by simpa using HT.out,HD.out,Fr.refl _ _,fun b M=>by obtain⟨a,ha,_⟩:=M;cases ha⟩
 case round =>
  obtain⟨d,A,f,l,rfl,rfl,hl,o⟩:=hrel
  by_cases M0:0<d.size
  ·have Y:=o.out.len
   obtain⟨n,hn⟩:=yE d.size
   obtain⟨z,hz⟩:=yE ((n-1)%19)
   have N0:z≤18:=qO
   have u0:z+1≤n:=by have:=mU (n-1) 19;omega
   have e1:((n:Int)-1)%19=(z:Int):=qO
   have S0:(1:Int)≤(n:Int):=qO
   have T0:(0:Int)≤(n:Int)-1:=qO
   have U0:((z:Int)+1)≤(n:Int):=qO
   have V0:((z:Int)+1).toNat=z+1:=qO
   go_wp2_with fail
   have w0:(d.extract 0 (z+1)).size=z+1:=by rw[qE];omega
   have Z:bytes (d.extract 0 (z+1))=(bytes d).take (z+1):=by rw[kI];simp
   have G:Ext wr (Lib.bytesWorld wr 5 (d.extract 0 (z+1))):=⟨rfl,rfl,rfl,by rw[Lib.bytesWorld_size];omega,fun i hi _=>Lib.bytesWorld_at_old _ _ _ i hi⟩
   have H:∀ j,j<z+1→(Lib.bytesWorld wr 5 (d.extract 0 (z+1))).cell? ⟨wr.heap.size,j,none⟩=some (.int .u8 ((bytes d).getD j 0).toNat):=fun j hj=>by
    rw[Lib.bytesWorld_cell _ _ _ j qO]
    have:(d.extract 0 (z+1)).data.toList=(bytes d).take (z+1):=Z
    rw[this]
    simp[tU hj]
   have O0:wr.heap.size<(Lib.bytesWorld wr 5 (d.extract 0 (z+1))).heap.size:=by rw[Lib.bytesWorld_size];omega
   generalize Lib.bytesWorld wr 5 (d.extract 0 (z+1))=wB at *
   have HX:=zh G
   have HC:=zh H
   have Hn:=zh hn
   have Hz:=zh hz
   have x0:Hid ((bytes d).length=n):=by unfold Hid;rw[zR];exact hn
   clear G H w0 Z hn hz
   go_loop [5,6,25] (fun v5 v6 y0=>∃ j c p:Nat,j≤z+1∧y0=.int .i64 (j:Int)∧v5=.int .u64 (c:Int)∧v6=.int .u64 (p:Int)∧c<p∧p≤10000000000000000000∧Hid (c=zG ((bytes d).take j)∧p=10^j)) (fun _ _ v=>z+1-(intOf v).toNat)
   case atStart=>exact⟨0,0,1,qO,rfl,rfl,rfl,qO,qO,by unfold Hid;simp[zG]⟩
   case round =>
    obtain⟨j,c,p,hj,rfl,rfl,rfl,W0,hp,hJ⟩:=hrel
    by_cases N:j<z+1
    ·have X0:=HC.out j N
     have r:j<(bytes d).length:=by rw[x0.out];omega
     have a0:=cZ (c:=(bytes d).getD j 0) (by
      rw[tC,uR r]
      exact vI.1 o.out.2.2.2.2.1 _ (sF r))
     have z0:Hid (zG ((bytes d).take (j+1))=10*zG ((bytes d).take j)+(((bytes d).getD j 0).toNat-48)):=by
      unfold Hid
      rw[tO r,dZ,tC,uR r]
      rfl
     have b0:Hid (zG ((bytes d).take (j+1))<10^(j+1)):=by
      have h:=kT ((bytes d).take (j+1)) (by
       rw[vI];intro x hx
       exact vI.1 o.out.2.2.2.2.1 _ (sU hx))
      rw[uN,uY qO] at h
      exact h
     have t:=ZrN (n:=j+1) qO
     rw[uO,← hJ.out.2] at t
     generalize ((bytes d).getD j 0).toNat=x at *
     have f1:IntKind.u64.wrap (10*(c:Int))=((10*c:Nat):Int):=by
      rw[show 10*(c:Int)=((10*c:Nat):Int) by omega];exact wK _ (by rw[zN];omega)
     have f2:IntKind.u8.wrap ((x:Int)-48)=((x-48:Nat):Int):=by
      rw[show (x:Int)-48=((x-48:Nat):Int) by omega,IntKind.wrap_u8];omega
     have f3:IntKind.u64.wrap ((x-48:Nat):Int)=((x-48:Nat):Int):=wK _ (by rw[zN];omega)
     have f4:IntKind.u64.wrap (((10*c:Nat):Int)+((x-48:Nat):Int))=((10*c+(x-48):Nat):Int):=kY (by rw[zN];omega)
     have f5:IntKind.u64.wrap ((p:Int)*10)=((p*10:Nat):Int):=by
      rw[show (p:Int)*10=((p*10:Nat):Int) by omega];exact wK _ (by rw[zN];omega)
     obtain⟨c1,c0⟩:=yE (10*c)
     obtain⟨y,O⟩:=yE (x-48)
     obtain⟨c2,d0⟩:=yE (c1+y)
     obtain⟨p2,e0⟩:=yE (p*10)
     have HN:Hid (c2=zG ((bytes d).take (j+1))∧p2=10^(j+1)):=by
      unfold Hid
      rw[z0.out,← hJ.out.1,uO,← hJ.out.2]
      omega
     have f0:c2<p2:=by rw[HN.out.1,HN.out.2];exact b0.out
     rw[c0] at f1 f4
     rw[O] at f2 f3 f4
     rw[d0] at f4
     rw[e0] at f5 t
     have Y0:wr.heap.size≠wB.heap.size:=qO
     clear c0 O d0 e0 a0 r
     go_wp2
     go_round
     case rel=>exact⟨j+1,c2,p2,qO,by go_num,rfl,rfl,f0,t,HN.out⟩
     case measure=>simp[intOf];omega
    obtain rfl:j=z+1:=qO
    have Z0:z+1≤d.size:=by rw[Hn.out];exact u0
    have g0:bytes (d.extract (z+1) d.size)=(bytes d).drop (z+1):=by
     rw[kI,uB (by rw[tB,zR];exact uF _)]
    have I:(d.extract (z+1) d.size).size=d.size-(z+1):=by rw[qE];omega
    have i0:=zh g0
    have u:=zh I
    clear g0 I
    go_wp2_with fail
    have A0:=zh o.out.1
    have j0:=zh o.out.2.1
    have R:=zh o.out.2.2.1
    have k0:Hid (∀ m,val W64 m=val W64 l*p+c→val W64 m*10^(d.extract (z+1) d.size).size+zG (bytes (d.extract (z+1) d.size))=T):=by
     intro m hm
     rw[hm,u.out,i0.out,← o.out.2.2.2.1]
     have S:bytes d=(bytes d).take (z+1) ++ (bytes d).drop (z+1):=(qQ _ _).symm
     conv=>rhs;rw[S,aA,← hJ.out.1]
     rw[tB,zR,hJ.out.2,uW,uH,← uU,sG]
     congr 3
     omega
    have J:Hid ((bytes (d.extract (z+1) d.size)).all zX=true):=by
     unfold Hid
     rw[i0.out,vI]
     intro x hx
     exact vI.1 o.out.2.2.2.2.1 _ (pB hx)
    have B0:=zh o.out.2.2.2.2.2.1
    have F:=zh o.out.2.2.2.2.2.2
    have K:(d.extract (z+1) d.size).size≤1099511627776:=by rw[u.out];omega
    have B:Hid ((d.extract (z+1) d.size).size<d.size):=by rw[Hid,u.out];omega
    generalize d.extract (z+1) d.size=d2 at *
    have a1:=Y
    have C0:Hid (c<W64):=by unfold Hid;rw[zN];omega
    have l0:Hid (p<W64):=by unfold Hid;rw[zN];omega
    have D0:Hid (1≤p):=by unfold Hid;omega
    go_loopw [9,44] (fun v9 E0 wx=>∃ (k q:Nat) (m:List Nat),k≤l.length∧E0=.int .i64 (k:Int)∧v9=.int .u64 (q:Int)∧Hid (gQ l p c k m q)∧Hid (Buf .u64 84 wx A f m)∧Hid (Fr (xQ A) wB wx)) (fun _ v _=>l.length-(intOf v).toNat)
    case atStart=>exact⟨0,c,l,qO,rfl,rfl,gQ.start j0.out C0.out,A0.out.ext HX.out,Fr.refl _ _⟩
    case round =>
     obtain⟨k,q,m,hk,rfl,rfl,U,X,hF⟩:=hrel
     have g:m.length=l.length:=U.out.1
     by_cases N:k<l.length
     ·obtain⟨b,rfl,hO,hC,m0,n0⟩:=X.out.open_ (by intro e;rw[e] at g;simp at g;omega)
      obtain⟨y,O⟩:=yE (m[k]?.getD 0)
      have V:=hO.cell (i:=k) qO
      rw[O] at V
      have P0:=hO.frozen k
      have F0:Hid (y<W64):=O ▸ U.out.2.2.1.getD zK k
      have G0:=zh (U.out.step N O l0.out)
      have o0:=fun v=>Buf.set_ hO hC m0 n0 k v qO
      have H0:=zh o0
      have I0:=zh U.out.2.2.2.1
      have J0:=hO.lt
      have Q0:b≠wr.heap.size:=qO
      have C:=zh g
      clear hO hC m0 n0 O o0 g
      go_wp2_with (go_at_call 174;refine (kP y p q _ F0.out l0.out I0.out).mono ?_;rintro e w' ⟨rfl,rfl⟩)
      go_roundw
      case rel=>exact⟨k+1,_,_,qO,by go_num,rfl,G0.out,H0.out _,hF.out.setCell (p:=⟨b,k,none⟩) (Or.inl ⟨_,rfl,rfl⟩) _⟩
      case measure=>simp[intOf];omega
     obtain rfl:k=l.length:=qO
     have W:Hid (Ext w wr):=(B0.out.trans HX.out).next hF.out (fun i hi M=>by have:=F.out i M;omega)
     by_cases hq:q=0
     ·subst hq
      obtain⟨S,h2⟩:=U.out.zero R.out D0.out
      have D:Hid (ZgD w wr T d2 A f m):=⟨X.out,U.out.2.2.1,S,k0.out m h2,J.out,W.out,F.out⟩
      have C:=zh g
      clear S h2 g
      go_wp2
      go_roundw
      case rel=>exact⟨d2,A,f,m,rfl,by rw[C.out],K,D.out⟩
      case measure=>exact B.out
     have b1:((q:Int) != 0)=true:=by simp;omega
     obtain⟨S,h2,h3⟩:=U.out.more hq
     have E:Hid (Trim (m ++ [q])∧Dig W64 (m ++ [q])∧val W64 (m ++ [q])=val W64 l*p+c):=⟨S,h2,h3⟩
     have C:=zh g
     have K0:Hid (zI .u64 (wr.alloc (.cells #[.int .u64 (q:Int)] 84)) (some ⟨wr.heap.size,0,none⟩) [q]):=(Own.new wr 84 .u64 [q] []).shows0
     clear S h2 h3 g hq
     go_wp2_with (at_builtin;refine Hid.out ?_)
     refine zh ?_
     refine lF rfl _ _ _ rfl _ .u64 8 underlying96 dR A (some ⟨wr.heap.size,0,none⟩) l.length 1 f 1 rfl rfl m [q] C.out rfl (X.out.ext ((Fr.refl _ _).alloc _)) K0.out (by simp only[maxLen];omega) qO ?_
     intro A1 L w2 p0 q0 r0
     have D:Hid (ZgD w w2 T d2 A1 L (m ++ [q])):=by
      refine⟨p0,E.out.2.1,E.out.1,k0.out _ E.out.2.2,J.out,?_,?_⟩
      ·exact (W.out.alloc _).next q0 (fun i hi M=>by have:=F.out i M;omega)
      intro b M
      rcases r0 b M with h|h
      ·exact F.out b h
      have:=W.out.size;simp at h;omega
     clear p0 q0 r0
     go_wp2
     go_roundw
     case rel=>exact⟨d2,A1,L,m ++ [q],rfl,by rw[vE,C.out];rfl,K,D.out⟩
     case measure=>exact B.out
  have h0:d.size=0:=qO
  obtain⟨X,hD,s0,hV,_,Q,hN⟩:=o.out
  have t0:bytes d=[]:=tI.1 (by rw[zR];exact h0)
  rw[h0,t0,tH,sH] at hV
  have HB:=zh X
  have L0:=zh hD
  have R:=zh s0
  have HV:Hid (val W64 l=T):=by unfold Hid;rw[←hV];rfl
  have HE:=zh Q
  clear X hD s0 hV Q hN h0 t0
  go_wp2
  go_ret
  exact⟨_,rfl,⟨A,l,f,rfl,HB.out.len,HB.out.shows,L0.out,R.out,HV.out⟩,HE.out⟩
theorem ZhG (d:ByteArray)(w:World)(T:Nat)(a:(bytes d).all zX=true)(b:zG (bytes d)=T)(g:wl T≤1048576)(h:d.size≤1099511627776) :
 Ζ 138 #[.string d,.slice none 0 0] w (lH w T):=by
 have i:=zh a
 have j:=zh b
 clear a b
 go_enter func138,ntmps138
 go_wp2
 go_loop [5] (fun v=>v=.int .i64 (-1)) (fun _=>0)
 case atStart=>rfl
 case round =>
  subst hrel
  go_wp2_with fail
  refine (ZgE d _ T i.out j.out g h).mono ?_
  rintro e m ⟨n,rfl,c,f⟩
  have k:=zh c
  have l:=zh f
  clear c f
  go_wp2
  go_ret
  exact⟨_,rfl,k.out,l.out⟩
theorem ZbK {n k m:Nat}(h:n<10^k)(a:k≤m):wl n≤m:=by
 rw[kK]
 have b:10^k≤W64^k:=rG (by rw[zN];omega) k
 have c:W64^k≤W64^m:=vC zK a
 exact uT h (uA b c)
def Zdg (n:Nat):Prop:=n≤570
theorem ZhH (d:ByteArray)(w:World)(a:(bytes d).all zX=true)(g:Zdg d.size) :
 Ζ 111 #[.string d] w (lH w (zG (bytes d))):=by
 unfold Zdg at g
 have h:wl (zG (bytes d))≤1048576:=ZbK (by have:=kT (bytes d) a;rw[zR] at this;exact this) qO
 generalize b:zG (bytes d)=T at *
 have i:=zh a
 have j:=zh b
 clear a b
 go_enter func111,ntmps111
 go_wp2_with fail
 refine (ZhG d _ T i.out j.out h qO).mono ?_
 rintro e m ⟨n,rfl,c,f⟩
 have k:=zh c
 have l:=zh f
 clear c f
 go_wp2
 go_ret
 exact⟨_,rfl,k.out,l.out⟩
theorem Zej (d:ByteArray)(w:World)(i:(bytes d).all zX=true)(j:Zdg d.size) :
 Ζ 76 #[.string d] w (Zgi w (zG (bytes d):Int)):=by
 generalize k:zG (bytes d)=T
 have l:=zh i
 have m:=zh j
 have n:=zh k
 clear i k j
 go_enter func76,ntmps76
 go_wp2_with fail
 generalize a:World.alloc w _=wb
 have f:Hid (Blk 137 wb w.heap.size #[.bool false,.slice none 0 0]):=a ▸ Blk.new _ _ _
 have o:Hid (Ext w wb):=a ▸ (Fr.refl _ _).alloc _
 clear a
 refine (ZhH d _ l.out m.out).mono ?_
 rw[n.out]
 rintro e p ⟨q,rfl,b,c⟩
 obtain⟨r,s,t,rfl⟩:=b.slice
 obtain⟨u,v,x,y⟩:=(f.out.ext c).cell2
 have g:=zh b
 have h:=zh c
 clear b c
 go_wp2
 exact ZlG (neg:=false) rfl rfl qO o.out f.out h.out g.out rfl rfl
def ZlN (cs:Array Value):Prop:=∀ (i:Nat) (k:Int),cs[i]? ≠ some (.int .u64 k)
theorem zF.other {t:TypeId}{w w':World}{r n:Nat}{u:Value}{cs:Array Value}(h:zF w u n)(d:Blk t w r cs)(f:ZlN cs)(j:Fr (fun i=>i=r) w w'):zF w' u n:=by
 obtain⟨k,xs,l,m,o,c,p⟩:=h
 refine⟨k,xs,l,m,o,?_,p⟩
 cases xs with
 | nil=>exact zI.nil
 | cons x xs =>
  refine c.fr j (fun y b q e=>?_)
  obtain⟨g,s,v,_,a⟩:=c.at (i:=0) qS
  rw[v] at b
  injection b with b
  subst b
  simp at e
  subst e
  rw[d.cell] at a
  exact f _ _ a
theorem Blk.cell4 {t:TypeId}{w:World}{g:Nat}{x y z u:Value}(h:Blk t w g #[x,y,z,u]):w.cell? ⟨g,0,none⟩=some x∧w.cell? ⟨g,1,none⟩=some y∧w.cell? ⟨g,2,none⟩=some z∧w.cell? ⟨g,3,none⟩=some u∧w.frozen? ⟨g,0,none⟩=false∧w.frozen? ⟨g,1,none⟩=false∧w.frozen? ⟨g,2,none⟩=false∧w.frozen? ⟨g,3,none⟩=false :=
 ⟨h.cell 0,h.cell 1,h.cell 2,h.cell 3,h.frozen 0,h.frozen 1,h.frozen 2,h.frozen 3⟩
def denF (q:Rat):Int:=if q.den=1 then 0 else (q.den:Int)
def wA (l:List UInt8):Option Rat :=
 match lE l with
 | (_,_,_,false)=>none
 | (neg,num,den,true) =>
  if den=[] then some ((sg neg (zG num):Int):Rat)
  else if Nat.gcd (zG num) (zG den)=1 then some (mkRat (sg neg (zG num)) (zG den)) else none
theorem iD {p:UInt8→Bool}(l:List UInt8):(l.takeWhile p).all p=true:=by
 induction l with
 | nil=>rfl
 | cons x l ih =>
  rw[nF]
  split
  ·rename_i h;simp[h]
  rfl
theorem aB {l num den:List UInt8}{neg c:Bool}(h:lE l=(neg,num,den,c)):num.all zX=true∧den.all zX=true∧num.length+den.length≤l.length:=by
 have d:(zZ l).2.length≤l.length:=by unfold zZ;split<;>simp
 have a:((zZ l).2.takeWhile zX).length+((zZ l).2.dropWhile zX).length=(zZ l).2.length:=by
  rw[←vE,pW]
 have b:=(List.takeWhile_sublist zX (l:=((zZ l).2.dropWhile zX).tail)).length_le
 have e:((zZ l).2.dropWhile zX).tail.length≤((zZ l).2.dropWhile zX).length:=qS
 unfold lE at h
 simp only[] at h
 split at h
 ·injection h with _ h;injection h with h1 h;injection h with h2 _;subst h1 h2
  exact⟨iD _,rfl,by simp;omega⟩
 split at h
 ·injection h with _ h;injection h with h1 h;injection h with h2 _;subst h1 h2
  exact⟨iD _,rfl,by simp;omega⟩
 split at h
 ·injection h with _ h;injection h with h1 h;injection h with h2 _;subst h1 h2
  exact⟨iD _,rfl,by simp;omega⟩
 split at h
 ·injection h with _ h;injection h with h1 h;injection h with h2 _;subst h1 h2
  exact⟨iD _,rfl,by simp;omega⟩
 injection h with _ h;injection h with h1 h;injection h with h2 _;subst h1 h2
 exact⟨iD _,iD _,qO⟩
theorem Zdh {l:List UInt8}(g:l.all zX=true)(h:l≠[])(f:l.head? ≠ some 48):1≤zG l∧(2≤zG l∨l=[49]):=by
 cases l with
 | nil=>exact absurd rfl h
 | cons c l =>
  rw[rW,sA] at g
  have k:=cZ g.1
  have m:c.toNat≠48:=fun e=>f (by simp;exact UInt8.toNat.inj e)
  rw[Zcy]
  have i:1≤10^l.length:=uZ qO
  have j:1*10^l.length≤(c.toNat-48)*10^l.length:=uE _ qO
  refine⟨qO,?_⟩
  cases l with
  | nil =>
   by_cases e:c.toNat=49
   ·right;rw[UInt8.toNat.inj (a:=c) (b:=49) e]
   left;simp[zG];omega
  | cons d l =>
   left
   rw[sS,uO] at j ⊢
   have i:1≤10^l.length:=uZ qO
   omega
theorem ZgF {l num den:List UInt8}{neg:Bool}(h:lE l=(neg,num,den,true)):(den≠[]→2≤zG den)∧(zG num=0→neg=false∧den=[]):=by
 have b:=aB h
 unfold lE at h
 simp only[] at h
 split at h
 ·rename_i f
  injection h with h0 h;injection h with h1 h;injection h with h2 h3;subst h0 h1 h2
  simp at h3
  exact⟨fun h=>absurd rfl h,fun _=>⟨h3.1,rfl⟩⟩
 rename_i g
 split at h
 ·injection h with _ h;injection h with h1 h;injection h with h2 h3;cases h3
 rename_i d
 have a:zG ((zZ l).2.takeWhile zX)≠0:=by
  have:=(Zdh (iD (p:=zX) (zZ l).2) (fun e=>d (Or.inl e)) (fun e=>d (Or.inr e))).1
  omega
 split at h
 ·injection h with _ h;injection h with h1 h;injection h with h2 _;subst h1 h2
  exact⟨fun h=>absurd rfl h,fun e=>absurd e a⟩
 split at h
 ·injection h with _ h;injection h with h1 h;injection h with h2 h3;cases h3
 injection h with _ h;injection h with h1 h;injection h with h2 h3;subst h1
 rw[h2] at h3
 simp at h3
 refine⟨fun c=>?_,fun e=>absurd e a⟩
 rcases (Zdh b.2.1 c h3.1.2).2 with h|h
 ·exact h
 exact absurd h h3.2
theorem Zk7 {z:Int}{d:Nat}(c:2≤d)(a:Nat.gcd z.natAbs d=1):(mkRat z d).num=z∧denF (mkRat z d)=(d:Int):=by
 have b:mkRat z d=⟨z,d,qO,a⟩:=by
  rw[←Rat.normalize_eq_mkRat qO]
  exact Rat.normalize_eq_mk' z d qO a
 rw[b]
 refine⟨rfl,?_⟩
 unfold denF
 simp
 omega
theorem Zqv {a p:Nat}:(a:Int).tmod (p:Int)=((a%p:Nat):Int):=by
 rw[sE qO,mE]
end Go.Proofs.YtmpffakfhcpjoaaGreatDoor
namespace Go.Proofs.YtmpffakfhcpjoaaGreatDoor
theorem jC {q:Rat}(h:q.den=1):denF q=0:=by unfold denF;rw[uM h]
theorem eE {q:Rat}(h:¬ q.den=1):denF q=(q.den:Int):=by unfold denF;rw[uI h]
theorem denI (q:Rat):((q.den:Nat):Int)≠0:=by have:=q.den_nz;omega
theorem Zem (p q:Rat):Rat.divInt (p.num*q.den+q.num*p.den) (p.den*q.den)=p+q:=by
 have h:=Rat.divInt_add_divInt p.num q.num (denI p) (denI q)
 rw[pN,pN] at h
 exact h.symm
theorem Zen (p q:Rat):Rat.divInt (p.num*q.num) (p.den*q.den)=p*q:=by
 have h:=Rat.divInt_mul_divInt p.num q.num (d₁:=p.den) (d₂:=q.den)
 rw[pN,pN] at h
 exact h.symm
theorem Zcc {p:Rat}(a:p.den=1):p=(p.num:Rat):=by
 apply Rat.ext<;>simp[a]
theorem ZdS {p q:Rat}(a:p.den=1)(b:q.den=1):(p+q).num=p.num+q.num∧(p+q).den=1:=by
 have e:p+q=((p.num+q.num:Int):Rat):=by rw[nI,← Zcc a,← Zcc b]
 rw[e]
 exact⟨rfl,rfl⟩
theorem ZdT {p q:Rat}(a:p.den=1)(b:q.den=1):(p*q).num=p.num*q.num∧(p*q).den=1:=by
 have e:p*q=((p.num*q.num:Int):Rat):=by rw[qL,← Zcc a,← Zcc b]
 rw[e]
 exact⟨rfl,rfl⟩
theorem ZjM (q:Rat):(-q).num = -q.num:=rfl
theorem ZjN (q:Rat):(-q).den=q.den:=rfl
theorem ZqC (q:Rat):denF (-q)=denF q:=by unfold denF;rw[ZjN]
end Go.Proofs.YtmpffakfhcpjoaaGreatDoor
namespace Go.Proofs.YtmpffakfhcpjoaaGreatDoor
open Go.RowKit Tryz
theorem ZeB {c:UInt8}(h:zX c=true):48≤c.toNat∧c.toNat≤57:=by
 unfold zX at h
 simpa using h
theorem Zlf {s:ByteArray}(h:(bytes s).all zX=true){k:Nat}(a:k<s.size):zX s[k]=true:=by
 have b:=vI.1 h ((bytes s)[k]'(by rw[zR];exact a)) (sF _)
 rwa [Zdf s a] at b
theorem Zcl (s:ByteArray)(w:World)(o:(bytes s).all zX=true)(y:s.size≤9) :
 Ζ 107 #[.string s] w fun e w'=>e=.returned (.int .i64 (zG (bytes s):Int))∧w=w':=by
 have p:=zh o
 clear o
 go_enter func107,ntmps107
 go_wp2
 go_loop [3,7] (fun n i=>∃ k m:Nat,k≤s.size∧i=.int .i64 (k:Int)∧n=.int .i64 (m:Int)∧m≤1000000000∧Hid (m=zG ((bytes s).take k))) (fun _ i=>s.size-(intOf i).toNat)
 case atStart=>exact⟨0,0,vS _,rfl,rfl,qO,by unfold Hid;simp[zG]⟩
 case round =>
  obtain⟨k,m,z,rfl,rfl,A,q⟩:=hrel
  by_cases b:k<s.size
  ·have B:=ZeB (Zlf p.out b)
   have c:=ZaY s k b
   have a:Hid (10*m+(s[k].toNat-48)=zG ((bytes s).take (k+1))):=by
    unfold Hid;rw[c,dZ,← q.out]
   have f:zG ((bytes s).take (k+1))<10^((bytes s).take (k+1)).length:=kT _ (by
    rw[vI];intro x r;exact vI.1 p.out x (sU r))
   have j:10^((bytes s).take (k+1)).length≤10^9:=vC qO (by rw[uN,zR];omega)
   have g:10*m+(s[k].toNat-48)≤1000000000:=by
    rw[a.out];omega
   have t:IntKind.u8.wrap ((s[k].toNat:Int)-48)=((s[k].toNat-48:Nat):Int):=by rw[IntKind.wrap_u8];omega
   have l:((s[k].toNat:Int)-48)%256=((s[k].toNat-48:Nat):Int):=qO
   obtain⟨d,u⟩:=yE (s[k].toNat-48)
   rw[u] at a g t l
   clear c f j
   go_wp2
   go_round
   case rel=>exact⟨k+1,10*m+d,qO,by go_num,by go_num,g,a⟩
   case measure=>simp[intOf];omega
  have v:Hid ((m:Nat)=zG (bytes s)):=by
   have h:=q.out
   rw[uB (by rw[zR];omega)] at h
   exact h
  go_wp2
  go_ret
  exact⟨by rw[←v.out];rfl,rfl⟩
theorem Zo5 (a b:Nat)(w:World)(ha:a≤9223372036854775807)(k:b≤9223372036854775807) :
 Ζ 108 #[.int .i64 (a:Int),.int .i64 (b:Int)] w fun e w'=>e=.returned (.int .i64 (Nat.gcd a b:Int))∧∃ n,w'=w.drewN n:=by
 obtain⟨G,d⟩:=yE (Nat.gcd a b)
 rw[d]
 have l:=zh d
 clear d
 go_enter func108,ntmps108
 go_wp2
 go_loopw [0,1] (fun m f wr=>∃ x y n:Nat,m=.int .i64 (x:Int)∧f=.int .i64 (y:Int)∧x≤9223372036854775807∧y≤9223372036854775807∧Hid (Nat.gcd x y=G)∧wr=w.drewN n) (fun _ f _=>(intOf f).toNat)
 case atStart=>exact⟨a,b,0,rfl,rfl,ha,k,l,rfl⟩
 case round =>
  obtain⟨x,y,n,rfl,rfl,t,o,i,rfl⟩:=hrel
  by_cases g:y=0
  ·subst g
   have p:Hid (x=G):=by have:=i.out;rwa [qX] at this
   go_wp2
   go_ret
   exact⟨by rw[←p.out];rfl,n,rfl⟩
  have u:((y:Int) != 0)=true:=by simp;omega
  have v:((y:Int) == 0)=false:=by simp;omega
  have z:y≠0:=g
  have q:(x:Int).tmod (y:Int)=((x%y:Nat):Int):=Zqv
  have s:(x:Int)%(y:Int)=((x%y:Nat):Int):=rfl
  have h:x%y<y:=uP _ qO
  have c:Hid (Nat.gcd y (x%y)=G):=by
   unfold Hid;rw[←i.out,sP x y,oG y x,sP]
  obtain⟨r,j⟩:=yE (x%y)
  rw[j] at q s h c
  clear j g
  go_wp2_with fail
  go_region
  all_goals
   go_wp2
   go_roundw
   case rel=>exact⟨y,r,n+1,rfl,rfl,o,qO,c,rfl⟩
   case measure=>simp[intOf];omega
def Zbu (l:List UInt8) (a b:Int) (ok:Bool):Prop :=
 (ok=true∧∃ q:Rat,wA l=some q∧q.num=a∧(q.den:Int)=b ∧ -1000000000<a∧a<1000000000∧1≤b∧b<1000000000)∨(ok=false∧a=0∧b=0)
def ZfT (w:World) (l:List UInt8) (e:Ending) (w':World):Prop :=
 ∃ a b ok,e=.returned (.tuple #[.agg #[.int .i64 a,.int .i64 b],.bool ok])∧Zbu l a b ok∧Ext w w'
theorem fW {fn:Func}{c:Array Value}{w wz:World}{r:Nat}{a b:Int}{e:Bool}{l:List UInt8}(d:fn.results=#[.cell 2 129,.tmp 3])(f:c[2]? = some (.pointer (some ⟨r,0,none⟩)))(g:c[3]? = some (.bool e))(h:Blk 129 wz r #[.int .i64 a,.int .i64 b])(Q:Ext w wz)(i:Zbu l a b e):bodyPost prog fn (ZfT w l) .ret ⟨c,[]⟩ wz:=by
 obtain⟨j,k,_,_⟩:=h.cell2
 refine bodyPost_ret (v:=.tuple #[.agg #[.int .i64 a,.int .i64 b],.bool e]) (by simp[results,d,f,g,go_sem,j,k]) rfl ⟨a,b,e,rfl,i,Q⟩
theorem Ziz {t:ByteArray}(a:(bytes t).all zX=true)(b:t.size≤9):zG (bytes t)<1000000000:=by
 have c:=kT _ a
 have d:10^(bytes t).length≤10^9:=vC qO (by rw[zR];exact b)
 omega
theorem Zlg {l:List UInt8}{neg:Bool}{t d:ByteArray}(a:lE l=(neg,bytes t,bytes d,true))(b:bytes d=[])(c:zG (bytes t)<1000000000):Zbu l (sg neg (zG (bytes t))) 1 true:=by
 refine Or.inl ⟨rfl,((sg neg (zG (bytes t)):Int):Rat),?_,rfl,rfl,?_,?_,qO,qO⟩
 ·unfold wA;rw[a];simp only[];rw[uM b]
 ·show _<sg neg _
  unfold sg;split<;>omega
 show sg neg _<_
 unfold sg;split<;>omega
theorem Znt {l:List UInt8}{neg:Bool}{t d:ByteArray}(b:lE l=(neg,bytes t,bytes d,true))(c:bytes d≠[])(e:Nat.gcd (zG (bytes t)) (zG (bytes d))=1)(j:zG (bytes t)<1000000000)(f:zG (bytes d)<1000000000) :
 Zbu l (sg neg (zG (bytes t))) (zG (bytes d)) true:=by
 have g:=(ZgF b).1 c
 have h:(sg neg (zG (bytes t))).natAbs=zG (bytes t):=by unfold sg;split<;>omega
 obtain⟨i,a⟩:=Zk7 (z:=sg neg (zG (bytes t))) g (by rw[h];exact e)
 refine Or.inl ⟨rfl,_,?_,i,?_,?_,?_,qO,qO⟩
 ·unfold wA;rw[b];simp only[];rw[uI c,uM e]
 ·unfold denF at a
  split at a
  ·omega
  exact a
 ·unfold sg;split<;>omega
 unfold sg;split<;>omega
theorem aN {T:TypeId}{w c:World}{r0:Nat}{x y:Value}(e:Blk T c r0 #[x,y])(Q:Ext w c)(d:w.heap.size=r0)(a b:Value) :
 Blk T ((c.setCell ⟨r0,0,none⟩ a).setCell ⟨r0,1,none⟩ b) r0 #[a,b]∧Ext w ((c.setCell ⟨r0,0,none⟩ a).setCell ⟨r0,1,none⟩ b) :=
 ⟨(e.set_ 0 _).set_ 1 _,(Q.setCell (Or.inr (by rw[d];exact uF _)) _).setCell (Or.inr (by rw[d];exact uF _)) _⟩
theorem ZiY (s:ByteArray)(w:World)(O:s.size≤1099511627776):Ζ 74 #[.string s] w (ZfT w (bytes s)):=by
 by_cases P:20<s.size
 ·go_enter func74,ntmps74
  go_wp2
  exact fW rfl rfl rfl (Blk.new w _ _) ((Fr.refl _ _).alloc _) (Or.inr ⟨rfl,rfl,rfl⟩)
 have H:decide ((20:Int)<(s.size:Int))=false:=by simp;omega
 go_enter func74,ntmps74
 go_wp2_with fail
 generalize l:World.alloc w _=wb
 have I:Hid (Blk 129 wb w.heap.size #[.int .i64 0,.int .i64 0]):=l ▸ Blk.new _ _ _
 have J:Hid (Ext w wb):=l ▸ (Fr.refl _ _).alloc _
 clear l
 refine (Zim s wb O).mono ?_
 rintro e n ⟨neg,t,d,ok,rfl,x,m⟩
 have a:=zh (I.out.ext m)
 have b:=zh (J.out.trans m)
 have K:=zh x
 obtain⟨g,k,y⟩:=aB x
 rw[zR,zR,zR] at y
 have L:=zh g
 have M:=zh k
 clear I J m x g k
 generalize o:w.heap.size=r0 at *
 have Q:=a.out.lt
 have c:=zh o
 clear o
 obtain⟨Z,x1,x2,x3⟩:=a.out.cell2
 have f:Hid (Blk 129 (((n.setCell ⟨r0,0,none⟩ (.int .i64 0)).setCell ⟨r0,1,none⟩ (.int .i64 0)).alloc (.cells #[.bool neg,.string t,.string d] 133)) r0 #[.int .i64 0,.int .i64 0]∧Ext w (((n.setCell ⟨r0,0,none⟩ (.int .i64 0)).setCell ⟨r0,1,none⟩ (.int .i64 0)).alloc (.cells #[.bool neg,.string t,.string d] 133))) :=
  ⟨((a.out.set_ 0 _).set_ 1 _).alloc _,((b.out.setCell (Or.inr (by rw[c.out];exact uF _)) _).setCell (Or.inr (by rw[c.out];exact uF _)) _).alloc _⟩
 cases ok with
 | false =>
  go_wp2
  exact fW rfl rfl rfl f.out.1 f.out.2 (Or.inr ⟨rfl,rfl,rfl⟩)
 | true =>
  by_cases R:9<t.size
  ·go_wp2
   exact fW rfl rfl rfl f.out.1 f.out.2 (Or.inr ⟨rfl,rfl,rfl⟩)
  have S:decide ((9:Int)<(t.size:Int))=false:=by simp;omega
  by_cases T:9<d.size
  ·go_wp2
   exact fW rfl rfl rfl f.out.1 f.out.2 (Or.inr ⟨rfl,rfl,rfl⟩)
  have U:decide ((9:Int)<(d.size:Int))=false:=by simp;omega
  clear f
  go_wp2_with fail
  have V:=zh (fun W=>Zcl t W L.out qO)
  have z:=zh (fun W=>Zcl d W M.out qO)
  have p:=Ziz L.out qO
  have A:=Ziz M.out qO
  have N:=zh (fun (h:bytes d=[])=>Zlg K.out h p)
  have B:=zh (fun (h:bytes d≠[]) X=>Znt K.out h X p A)
  generalize zG (bytes t)=nt at *
  generalize zG (bytes d)=nd at *
  refine (V.out _).mono ?_
  rintro e w2 ⟨rfl,rfl⟩
  by_cases j:bytes d=[]
  ·have g:d.toList=[]:=by rw[Lib.toList_data];exact j
   have k:(!d.toList.isEmpty)=false:=by rw[g];rfl
   cases neg with
   | false =>
    have q:=aN a.out b.out c.out (.int .i64 (nt:Int)) (.int .i64 1)
    have r:=zh q
    clear q
    go_wp2
    exact fW rfl rfl rfl ((r.out.1.alloc _).alloc _) ((r.out.2.alloc _).alloc _) (N.out j)
   | true =>
    have q:=aN a.out b.out c.out (.int .i64 (-(nt:Int))) (.int .i64 1)
    have r:=zh q
    clear q
    go_wp2
    exact fW rfl rfl rfl ((r.out.1.alloc _).alloc _) ((r.out.2.alloc _).alloc _) (N.out j)
  have g:d.toList≠[]:=by rw[Lib.toList_data];exact j
  have k:d.toList.isEmpty=false:=by simpa using g
  go_wp2_with fail
  refine (z.out _).mono ?_
  rintro e Y ⟨rfl,rfl⟩
  have u:=zh (fun W=>Zo5 nt nd W qO qO)
  obtain⟨G,C⟩:=yE (Nat.gcd nt nd)
  rw[C] at u
  have D:=zh C
  clear C
  go_wp2_with fail
  refine (u.out _).mono ?_
  rintro e Y ⟨rfl,i,rfl⟩
  by_cases E:G=1
  ·have F:((G:Int) != 1)=false:=by simp;omega
   have v:=zh (B.out j (by rw[D.out,E]))
   cases neg with
   | false =>
    go_wp2
    exact fW rfl rfl rfl (aN (((a.out.alloc _).alloc _).drewN i) (((b.out.alloc _).alloc _).drewN i) c.out _ _).1 (aN (((a.out.alloc _).alloc _).drewN i) (((b.out.alloc _).alloc _).drewN i) c.out _ _).2 v.out
   | true =>
    go_wp2
    refine fW rfl rfl rfl (aN (w:=w) ((((a.out.alloc _).alloc _).drewN i).far (by show r0≠n.heap.size+1;omega) _) ?_ c.out _ _).1 (aN ((((a.out.alloc _).alloc _).drewN i).far (by show r0≠n.heap.size+1;omega) _) ?_ c.out _ _).2 v.out
    ·exact (((b.out.alloc _).alloc _).drewN i).setCell (Or.inr (by have:=b.out.size;show _≤n.heap.size+1;omega)) _
    exact (((b.out.alloc _).alloc _).drewN i).setCell (Or.inr (by have:=b.out.size;show _≤n.heap.size+1;omega)) _
  have F:((G:Int) != 1)=true:=by simp;omega
  go_wp2
  exact fW rfl rfl rfl (aN (((a.out.alloc _).alloc _).drewN i) (((b.out.alloc _).alloc _).drewN i) c.out _ _).1 (aN (((a.out.alloc _).alloc _).drewN i) (((b.out.alloc _).alloc _).drewN i) c.out _ _).2 (Or.inr ⟨rfl,rfl,rfl⟩)
theorem pu10:∀ (l:List UInt8) (a:Nat),l.all zX=true→a*10^l.length+zG l<18446744073709551616→Lib.parseUint10 a l=.ok (a*10^l.length+zG l)
 | [],a,_,_=>by simp[Lib.parseUint10,zG]
 | c :: l,a,h,hb=>by
  simp only[rW,sA] at h
  obtain⟨b,g⟩:=cZ h.1
  have d:0<10^l.length:=uZ qD
  have e:a*10^(c :: l).length+zG (c :: l)=(a*10+(c.toNat-48))*10^l.length+zG l:=by
   rw[Zcy,sS,uO,uW,uH,uG 10 (10^l.length),sG]
  rw[e] at hb ⊢
  have i:(a*10+(c.toNat-48))*1≤(a*10+(c.toNat-48))*10^l.length:=uK _ d
  have f:=pu10 l (a*10+(c.toNat-48)) h.2 hb
  rw[Lib.parseUint10,uM ⟨b,qO⟩,uI qO,uI qO]
  exact f
structure PaR (T:Nat) (d:List UInt8) (xs:List Nat):Prop where
 dig:Dig W64 xs
 trim:Trim xs
 eq:val W64 xs*10^d.length+zG d=T
 all:d.all zX=true
 by19:xs=[]∨d.length%19=0
theorem PaR.start {T:Nat}{d:List UInt8}(h:d.all zX=true)(a:zG d=T):PaR T d []:=⟨Dig.nil,Trim.nil,by simpa using a,h,Or.inl rfl⟩
theorem PaR.len {T:Nat}{d:List UInt8}{xs:qN}(h:PaR T d xs):xs.length≤wl T:=by
 rw[xT h.dig h.trim]
 apply lC
 have:val W64 xs*1≤val W64 xs*10^d.length:=uK _ (uZ qD)
 have:=h.eq
 omega
theorem PaR.done {T:Nat}{xs:qN}(h:PaR T [] xs):val W64 xs=T:=by
 have:=h.eq
 simpa [zG] using this
theorem PaR.chunk {T z:Nat}{d:List UInt8}{xs:qN}(h:PaR T d xs)(c:0<d.length)(e:(d.length-1)%19=z):zG (d.take (z+1))<10000000000000000000:=by
 have a:=kT (d.take (z+1)) (by
  rw[vI];intro x b
  exact vI.1 h.all _ (sU b))
 have f:=mU (d.length-1) 19
 rw[uN,uY qO] at a
 have:=ZrN (n:=z+1) qO
 omega
theorem PaR.step {T z c:Nat}{d:List UInt8}{xs m:qN}(h:PaR T d xs)(r:0<d.length)(s:(d.length-1)%19=z)(i:gQ xs 10000000000000000000 (zG (d.take (z+1))) xs.length m c) :
 PaR T (d.drop (z+1)) (if c=0 then m else m ++ [c]):=by
 have t:=mU (d.length-1) 19
 have b:(val W64 xs*10000000000000000000+zG (d.take (z+1)))*10^(d.drop (z+1)).length+zG (d.drop (z+1))=T:=by
  have l:d=d.take (z+1) ++ d.drop (z+1):=(qQ _ _).symm
  have n:=h.eq
  have o:val W64 xs*10000000000000000000=val W64 xs*10^(z+1):=by
   rcases h.by19 with e|e
   ·rw[e];simp
   rw[show z+1=19 by omega]
  rw[o,← n]
  conv=>rhs;rw[l,aA]
  rw[uW,uH,← uU,sG]
  congr 3
  rw[vE,uN,uY qO]
 have a:(d.drop (z+1)).all zX=true:=by
  rw[vI];intro x p
  exact vI.1 h.all _ (pB p)
 have f:(d.drop (z+1)).length%19=0:=by rw[tB];omega
 by_cases g:c=0
 ·rw[uM g]
  subst g
  obtain⟨j,k⟩:=i.zero h.trim qD
  exact⟨i.2.2.1,j,by rw[k];exact b,a,Or.inr f⟩
 rw[uI g]
 obtain⟨j,k,q⟩:=i.more g
 exact⟨k,j,by rw[q];exact b,a,Or.inr f⟩
end Go.Proofs.YtmpffakfhcpjoaaGreatDoor
