/-
 My texts.
-/
import Derived.Test.YtdlgidnkmbklcaaGreatDoorZ10
import Derived.Test.YtdlgidnkmbklcaaGreatDoorZ08
set_option maxRecDepth 100000
set_option maxHeartbeats 8000000
namespace Go.Proofs.YtdlgidnkmbklcaaGreatDoor
open Go.RowKit Tryz
theorem Zj0 (u v:Value)(m n g:Nat)(w:World)(hg:Glob w)(hu:zL w u m)(hv:zL w v n)(hm:wl m≤4294967296)(hn:n<W64)(h0:0<n)(l:n≤m)(eg:Nat.gcd m n=g) :
 yA 109 #[u,v] w (lH w g):=by
 obtain⟨A,a,c,rfl,hc,U,o,s,V⟩:=hu
 obtain⟨A2,ys,c2,rfl,t,k1,k2,k3,k4⟩:=hv
 have z:=xR o s
 have B:=xR k2 k3
 rw[V] at z
 rw[k4] at B
 have C:ys.length=1:=by
  have:=Zaw.2 hn
  have:=Zfw h0
  omega
 obtain⟨y,rfl⟩:∃ y,ys=[y]:=by match ys,C with | [y],_=>exact⟨y,rfl⟩
 simp at k4
 subst k4
 have HU:Hid (zL w (.slice A a.length c) m):=⟨A,a,c,rfl,hc,U,o,s,V⟩
 have HV:Hid (zL w (.slice A2 1 c2) y):=⟨A2,[y],c2,rfl,t,k1,k2,k3,qS⟩
 have HX:=zh U
 have HY:=zh k1
 have Hm:Hid (wl m≤4294967296∧a.length≤4294967296):=⟨hm,qO⟩
 have W:=zh hn
 have a0:=zh l
 have d:=zh h0
 have b0:=zh o
 have D:=zh V
 have E:=zh eg
 have HG:=zh hg
 clear hm hn l U k1 k2 k3 s o hc t z B C V eg hg h0
 go_enter func109,ntmps109
 go_wp2_with fail
 refine (eW _ _ m y w HU.out HV.out Hm.out.1 (by have:=Zaw.2 W.out;omega)).mono ?_
 rintro e w' ⟨rfl,nd,F⟩
 obtain⟨q,hq⟩:=yE (cmpI m y)
 have c0:(0:Int)≤q:=by rw[←hq];exact cY a0.out
 have k0:decide (q<0)=false:=by simp;omega
 rw[hq]
 have G:Hid (Ext w w'):=F ▸ (Fr.refl _ w).drewN nd
 clear hq F c0
 go_wp2_with fail
 refine (gC A a _ c w' rfl (HX.out.ext G.out) Hm.out.2).mono ?_
 rintro e w1 ⟨X,b,rfl,H,I,d0⟩
 have J:Hid (zH .u64 w1 X a):=H.shows
 have K:Hid (Ext w w1):=G.out.trans I
 clear H I d0
 go_wp2_with fail
 refine (gC A2 [y] 1 c2 w1 rfl (HY.out.ext K.out) qO).mono ?_
 rintro e Y ⟨A3,L,rfl,M,h,e0⟩
 have N:Hid (zH .u64 Y A3 [y]):=M.shows
 obtain⟨O,Z,rfl,j,P⟩:=N.out.at (i:=0) qS
 simp at P
 have f0:Hid (zH .u64 Y X a):=J.out.ext h
 have Q:Hid (Ext w Y):=K.out.trans h
 have j:=zh j
 clear M h e0 N J
 obtain⟨x,ex⟩:=yE a.length
 rw[ex]
 go_wp2_with fail
 obtain⟨r,er⟩:=yE (m%y)
 go_loopw [5,6] (fun av bv wr=>av=.slice X x b∧bv=.slice (some ⟨O,Z,none⟩) 1 L∧wr=Y) (fun _ _ _=>0)
 case atStart=>exact⟨rfl,rfl,rfl⟩
 case round =>
  obtain⟨rfl,rfl,rfl⟩:=hrel
  go_wp2_with fail
  have R:Hid (wr.cell? ⟨O,Z,none⟩=some (.int .u64 (y:Int))):=P
  have S:Hid (O<wr.heap.size):=j.out
  have k:Hid (r<W64∧Nat.gcd y r=g∧g<W64):=by
   have U:=uO m d.out
   have o:=W.out
   have s:=oC m d.out
   rw[E.out] at s
   refine⟨qO,?_,qO⟩
   rw[←er,← E.out,sL y,← pS,sL]
  go_region_held3 (fun w'=>w'.cell? ⟨O,Z,none⟩=some (.int .u64 (y:Int)))
   (first|exact R.out|exact (Fr.cell (p:=⟨O,Z,none⟩) (Fr.undrew hFF) S.out (fun f=>f)).trans R.out)
   (first
    | (
     go_at_call 161
     refine (fN X a x b y _ ex f0.out.drew (by have:=Hm.out.2;omega) b0.out d.out W.out).mono ?_
     rintro e w4 ⟨rfl,g0,T⟩
     rw[D.out,er]
     have hFF:Ext wr.drew w4:=T ▸ (Fr.refl _ wr.drew).drewN g0
     clear T)
    | (
     go_at_call 160
     refine (Zag y r g _ (HG.out.ext (Q.out.trans (Fr.undrew hFF))) W.out k.out.1 k.out.2.1).mono ?_
     rintro e w5 ⟨rfl,rfl⟩)
    | (
     go_at_call 159
     refine (aH g _ k.out.2.2).mono ?_
     rintro e w6 ⟨v6,rfl,i0,j0⟩
     replace hFF:Ext wr.drew w6:=hFF.trans j0))
  go_wp2
  go_ret
  exact⟨_,rfl,i0,Q.out.trans (Fr.undrew hFF)⟩
theorem Zj1 (u v:Value)(m n g:Nat)(w:World)(hg:Glob w)(hu:zL w u m)(hv:zL w v n)(hm:wl m≤4294967296)(hn:n<W64)(h0:0<n)(l:n<m)(eg:Nat.gcd m n=g) :
 yA 109 #[v,u] w (lH w g):=by
 obtain⟨A,a,c,rfl,hc,U,o,s,V⟩:=hu
 obtain⟨A2,ys,c2,rfl,t,k1,k2,k3,k4⟩:=hv
 have z:=xR o s
 have B:=xR k2 k3
 rw[V] at z
 rw[k4] at B
 have C:ys.length=1:=by
  have:=Zaw.2 hn
  have:=Zfw h0
  omega
 obtain⟨y,rfl⟩:∃ y,ys=[y]:=by match ys,C with | [y],_=>exact⟨y,rfl⟩
 simp at k4
 subst k4
 have HU:Hid (zL w (.slice A a.length c) m):=⟨A,a,c,rfl,hc,U,o,s,V⟩
 have HV:Hid (zL w (.slice A2 1 c2) y):=⟨A2,[y],c2,rfl,t,k1,k2,k3,qS⟩
 have HX:=zh U
 have HY:=zh k1
 have Hm:Hid (wl m≤4294967296∧a.length≤4294967296):=⟨hm,qO⟩
 have W:=zh hn
 have a0:=zh l
 have d:=zh h0
 have b0:=zh o
 have D:=zh V
 have E:=zh eg
 have HG:=zh hg
 clear hm hn l U k1 k2 k3 s o hc t z B C V eg hg h0
 go_enter func109,ntmps109
 go_wp2_with fail
 refine (eW _ _ y m w HV.out HU.out (by have:=Zaw.2 W.out;omega) Hm.out.1).mono ?_
 rintro e w' ⟨rfl,nd,F⟩
 obtain⟨q,hq⟩:=yE (cmpI y m)
 have c0:q<0:=by rw[←hq];exact fI.2 a0.out
 have k0:decide (q<0)=true:=by simp;omega
 rw[hq]
 have G:Hid (Ext w w'):=F ▸ (Fr.refl _ w).drewN nd
 clear hq F c0
 go_wp2_with fail
 refine (gC A a _ c w' rfl (HX.out.ext G.out) Hm.out.2).mono ?_
 rintro e w1 ⟨X,b,rfl,H,I,d0⟩
 have J:Hid (zH .u64 w1 X a):=H.shows
 have K:Hid (Ext w w1):=G.out.trans I
 clear H I d0
 go_wp2_with fail
 refine (gC A2 [y] 1 c2 w1 rfl (HY.out.ext K.out) qO).mono ?_
 rintro e Y ⟨A3,L,rfl,M,h,e0⟩
 have N:Hid (zH .u64 Y A3 [y]):=M.shows
 obtain⟨O,Z,rfl,j,P⟩:=N.out.at (i:=0) qS
 simp at P
 have f0:Hid (zH .u64 Y X a):=J.out.ext h
 have Q:Hid (Ext w Y):=K.out.trans h
 have j:=zh j
 clear M h e0 N J
 obtain⟨x,ex⟩:=yE a.length
 rw[ex]
 go_wp2_with fail
 obtain⟨r,er⟩:=yE (m%y)
 go_loopw [5,6] (fun av bv wr=>av=.slice X x b∧bv=.slice (some ⟨O,Z,none⟩) 1 L∧wr=Y) (fun _ _ _=>0)
 case atStart=>exact⟨rfl,rfl,rfl⟩
 case round =>
  obtain⟨rfl,rfl,rfl⟩:=hrel
  go_wp2_with fail
  have R:Hid (wr.cell? ⟨O,Z,none⟩=some (.int .u64 (y:Int))):=P
  have S:Hid (O<wr.heap.size):=j.out
  have k:Hid (r<W64∧Nat.gcd y r=g∧g<W64):=by
   have U:=uO m d.out
   have o:=W.out
   have s:=oC m d.out
   rw[E.out] at s
   refine⟨qO,?_,qO⟩
   rw[←er,← E.out,sL y,← pS,sL]
  go_region_held3 (fun w'=>w'.cell? ⟨O,Z,none⟩=some (.int .u64 (y:Int)))
   (first|exact R.out|exact (Fr.cell (p:=⟨O,Z,none⟩) (Fr.undrew hFF) S.out (fun f=>f)).trans R.out)
   (first
    | (
     go_at_call 161
     refine (fN X a x b y _ ex f0.out.drew (by have:=Hm.out.2;omega) b0.out d.out W.out).mono ?_
     rintro e w4 ⟨rfl,g0,T⟩
     rw[D.out,er]
     have hFF:Ext wr.drew w4:=T ▸ (Fr.refl _ wr.drew).drewN g0
     clear T)
    | (
     go_at_call 160
     refine (Zag y r g _ (HG.out.ext (Q.out.trans (Fr.undrew hFF))) W.out k.out.1 k.out.2.1).mono ?_
     rintro e w5 ⟨rfl,rfl⟩)
    | (
     go_at_call 159
     refine (aH g _ k.out.2.2).mono ?_
     rintro e w6 ⟨v6,rfl,i0,j0⟩
     replace hFF:Ext wr.drew w6:=hFF.trans j0))
  go_wp2
  go_ret
  exact⟨_,rfl,i0,Q.out.trans (Fr.undrew hFF)⟩
theorem ZhY (u v:Value)(m:Nat)(w:World)(f:zL w u m)(d:zL w v 0)(i:wl m≤4294967296):yA 109 #[u,v] w (lH w m):=by
 obtain⟨A,l,c,rfl⟩:=f.slice
 obtain⟨s,k,t,rfl⟩:=d.slice
 obtain rfl:k=0:=d.len0
 have j:=zh f
 have n:=zh d
 have o:=zh i
 clear f d i
 go_enter func109,ntmps109
 go_wp2_with fail
 refine (eW _ _ m 0 w j.out n.out o.out (by rw[ZkB];omega)).mono ?_
 rintro e w' ⟨rfl,p,a⟩
 obtain⟨q,g⟩:=yE (cmpI (m:Int) ((0:Nat):Int))
 have h:(0:Int)≤q:=by rw[←g];exact cY (uT _)
 have r:decide (q<0)=false:=by simp;omega
 rw[g]
 have b:Hid (Ext w w'):=a ▸ (Fr.refl _ w).drewN p
 clear g a h
 go_wp2
 go_ret
 exact⟨_,rfl,j.out.ext b.out,b.out⟩
theorem ZgE (u v:Value)(m:Nat)(w:World)(d:zL w u 0)(f:zL w v m)(i:0<m)(j:wl m≤4294967296):yA 109 #[u,v] w (lH w m):=by
 obtain⟨A,l,c,rfl⟩:=d.slice
 obtain⟨t,x,y,rfl⟩:=f.slice
 obtain rfl:l=0:=d.len0
 have n:=zh d
 have k:=zh f
 have o:=zh j
 have p:=zh i
 clear d f j i
 go_enter func109,ntmps109
 go_wp2_with fail
 refine (eW _ _ 0 m w n.out k.out (by rw[ZkB];omega) o.out).mono ?_
 rintro e w' ⟨rfl,r,a⟩
 obtain⟨q,g⟩:=yE (cmpI ((0:Nat):Int) (m:Int))
 have h:q<0:=by rw[←g];exact fI.2 p.out
 have s:decide (q<0)=true:=by simp;omega
 rw[g]
 have b:Hid (Ext w w'):=a ▸ (Fr.refl _ w).drewN r
 clear g a h
 go_wp2
 go_ret
 exact⟨_,rfl,k.out.ext b.out,b.out⟩
theorem Zb3 (u v:Value)(m n:Nat)(w:World)(c:Glob w)(a:zL w u m)(b:zL w v n)(d:wl m≤4294967296)(e:wl n≤4294967296)(i:min m n<W64):yA 109 #[u,v] w (lH w (Nat.gcd m n)):=by
 rcases uJ n with rfl|f
 ·rw[qH];exact ZhY u v m w a b d
 rcases uJ m with rfl|g
 ·rw[Nat.gcd_zero_left];exact ZgE u v n w a b f e
 rcases vM m n with h|h
 ·exact Zj1 v u n m _ w c b a e qO g h (sL _ _)
 exact Zj0 u v m n _ w c a b d qO f h rfl
theorem Buf.openG {k:IntKind}{e:TypeId}{w:World}{A:qA}{cap:Nat}{xs:qN}(h:Buf k e w A cap xs)(a:xs≠[]):∃ b,A=some ⟨b,0,none⟩∧Own k e w b xs∧gT e w b cap∧xs.length≤cap∧cap≤maxLen:=by
 rcases h with ⟨_,h,_⟩|h
 ·exact absurd h a
 exact h
def aL (w wr:World) (G:Nat) (xs ys:List Nat) (Aa:Option Addr) (ca:Nat) (Ab:Option Addr) (cb:Nat):Prop :=
 Buf .u64 207 wr Aa ca xs∧Buf .u64 207 wr Ab cb ys∧Dig W64 xs∧Dig W64 ys∧Trim xs∧Trim ys∧val W64 ys≤val W64 xs∧Nat.gcd (val W64 xs) (val W64 ys)=G∧Ext w wr ∧
  (∀ b,xQ Aa b→w.heap.size≤b)∧(∀ b,xQ Ab b→w.heap.size≤b)∧(∀ b,xQ Aa b→¬ xQ Ab b)∧xs.length≤79
theorem aL.len {w wr:World}{G:Nat}{xs ys:qN}{a:qA}{b:Nat}{c:qA}{d:Nat}(h:aL w wr G xs ys a b c d):ys.length≤xs.length:=by
 obtain⟨_,_,e,g,i,f,j,_⟩:=h
 rcases vM xs.length ys.length with k|k
 ·have:=gK zP e f k;omega
 exact k
theorem Buf.natIs {w:World}{A:qA}{cap:Nat}{xs:qN}(h:Buf .u64 207 w A cap xs)(a:Dig W64 xs)(b:Trim xs):zL w (.slice A xs.length cap) (val W64 xs) :=
 ⟨A,xs,cap,rfl,h.len,h.shows,a,b,rfl⟩
theorem aL.div {w wr c d:World}{G:Nat}{xs ys zs:qN}{p:qA}{q:Nat}{j:qA}{k:Nat}{e:qA}{cc:Nat}(h:aL w wr G xs ys p q j k)(r:0<val W64 ys)(Q:Ext wr c)(s:Dig W64 zs)(tz:Trim zs)(t:val W64 zs=val W64 xs%val W64 ys)(u:Buf .u64 207 d e cc zs)(a:Ext c d)(l:∀ b,xQ e b→c.heap.size≤b):aL w d G ys zs j k e cc:=by
 have m:=h.len
 obtain⟨D,n,E,v,F,x,H,y,o,z,f,A,B⟩:=h
 have C:=uO (val W64 xs) r
 refine⟨n.ext (Q.trans a),u,v,s,x,tz,qO,?_,o.trans (Q.trans a),f,fun b g=>?_,fun b g i=>?_,qO⟩
 ·rw[t,← y,sL (val W64 ys),← pS,sL]
 ·have:=l b g;have:=Q.size;have:=o.size;omega
 have k1:=n.lt g;have I:=l b i;have:=Q.size;omega
def Zcx (w wr:World) (xs ys:List Nat) (bA ca:Nat) (Ab:Option Addr) (cb j gs:Nat) (cs:Array Value):Prop :=
 Own .u64 207 wr bA xs∧gT 207 wr bA ca∧Buf .u64 207 wr Ab cb (ys ++ List.replicate j 0)∧(∀ b,xQ Ab b→w.heap.size≤b∧b≠bA∧b≠gs)∧Blk 253 wr gs cs∧Ext w wr∧w.heap.size≤bA∧gs≠bA∧w.heap.size≤gs
theorem Zcx.next {w wr w3:World}{xs ys:qN}{g l:Nat}{d f:qA}{s m j n:Nat}{cs:Array Value}{o:Obj}(h:Zcx w wr xs ys g l d s j n cs)(t:Buf .u64 207 w3 f m (ys ++ List.replicate j 0 ++ [0]))(u:Fr (xQ d) (wr.alloc o) w3)(v:∀ b,xQ f b→xQ d b∨b=(wr.alloc o).heap.size):Zcx w w3 xs ys g l f m (j+1) n cs:=by
 obtain⟨p,x,B,e,q,r,y,z,A⟩:=h
 have a:Fr (xQ d) wr w3:=((Fr.refl (xQ d) wr).alloc o).trans u
 have C:=p.lt
 have D:=q.lt
 refine⟨p.fr a (fun c=>(e _ c).2.1 rfl),x.fr a (fun c=>(e _ c).2.1 rfl),by rw[pT,← vU];exact t,fun b c=>?_,q.fr a (fun c=>(e _ c).2.2 rfl),r.next a (fun i hi c=>by have:=(e i c).1;omega),y,z,A⟩
 rcases v b c with k|k
 ·exact e b k
 have:=r.size
 simp at k
 exact⟨qO,qO,qO⟩
theorem Buf.takeG {k:IntKind}{e:TypeId}{w:World}{A:qA}{cap:Nat}{xs:qN}(h:Buf k e w A cap xs)(n:Nat):Buf k e w A cap (xs.take n):=by
 rcases h with ⟨a,rfl,c⟩|⟨b,a,d,c,g,f⟩
 ·exact Or.inl ⟨a,qS,c⟩
 exact Or.inr ⟨b,a,d.take n,c,by rw[uM];omega,f⟩
theorem Zh0 (u v:Value)(m n g:Nat)(w:World)(hg:Glob w)(hu:zL w u m)(hv:zL w v n)(hm:wl m≤79)(hn:W64≤n)(o0:n≤m)(eg:Nat.gcd m n=g) :
 yA 109 #[u,v] w (lH w g):=by
 have i0:wl n≤79:=uD (lV o0) hm
 obtain⟨A,h,c,rfl,hc,G,h2,h3,h4⟩:=hu
 obtain⟨A2,ys,c2,rfl,J0,k1,L,S,k4⟩:=hv
 have K0:=xR h2 h3
 have L0:=xR L S
 rw[h4] at K0
 rw[k4] at L0
 have T1:2≤ys.length:=by
  rcases vM ys.length 2 with k|k
  ·have:=Zaw.1 (show wl n≤1 by omega);omega
  exact k
 have HU:Hid (zL w (.slice A h.length c) m):=⟨A,h,c,rfl,hc,G,h2,h3,h4⟩
 have HV:Hid (zL w (.slice A2 ys.length c2) n):=⟨A2,ys,c2,rfl,J0,k1,L,S,k4⟩
 have HX:=zh G
 have HY:=zh k1
 have p0:=zh o0
 have T:=zh h2
 have M0:=zh L
 have N0:=zh h3
 have O0:=zh S
 have q0:=zh h4
 have t0:=zh k4
 have P0:=zh eg
 have HG:=zh hg
 have Hm:=zh hm
 have Hn:=zh i0
 have U:h.length≤79:=qO
 have U1:ys.length≤79:=qO
 clear hm hn o0 G k1 L S h3 h2 hc J0 K0 L0 h4 k4 eg hg i0
 go_enter func109,ntmps109
 go_wp2_with fail
 refine (eW _ _ m n w HU.out HV.out (by have:=Hm.out;omega) (by have:=Hn.out;omega)).mono ?_
 rintro e w' ⟨rfl,nd,Q0⟩
 obtain⟨q,hq⟩:=yE (cmpI m n)
 have V1:(0:Int)≤q:=by rw[←hq];exact cY p0.out
 have W1:decide (q<0)=false:=by simp;omega
 rw[hq]
 have V:Hid (Ext w w'):=Q0 ▸ (Fr.refl _ w).drewN nd
 clear hq Q0 V1
 have R0:((ys.length:Int) == 0)=false:=by rw[tK];omega
 go_wp2_with fail
 refine (gC A h _ c w' rfl (HX.out.ext V.out) qO).mono ?_
 rintro e w1 ⟨A1,j0,rfl,S0,M,T0⟩
 have w0:=zh S0
 have U0:Hid (∀ b,xQ A1 b→w.heap.size≤b):=fun b H=>uD V.out.size (T0 b H)
 have W:Hid (Ext w w1):=V.out.trans M
 clear S0 M T0
 go_wp2_with fail
 refine (gC A2 ys _ c2 w1 rfl (HY.out.ext W.out) qO).mono ?_
 rintro e w2 ⟨A3,l0,rfl,t,l,s⟩
 have V0:Hid (aL w w2 g h ys A1 j0 A3 l0):=⟨w0.out.ext l,t,T.out,M0.out,N0.out,O0.out,by rw[q0.out,t0.out];exact p0.out,by rw[q0.out,t0.out];exact P0.out,W.out.trans l,U0.out,fun b H=>uD W.out.size (s b H),fun b H x0=>by
  have k1:=w0.out.lt H
  have L:=s b x0
  omega,U⟩
 clear t l s w0 U0 W V HX HY HU HV T M0 N0 O0 p0 P0 q0 t0 Hm Hn R0 W1
 go_wp2_with fail
 go_loopg [5,6,7,8,9] (val W64 h+val W64 ys) (fun k av bv _ _ _ wr=>∃ (h ys:List Nat) (Aa:Option Addr) (F:Nat) (Ab:Option Addr) (cb:Nat),k=val W64 h+val W64 ys∧av=.slice Aa h.length F∧bv=.slice Ab ys.length cb∧Hid (aL w wr g h ys Aa F Ab cb))
 case atStart=>exact⟨h,ys,A1,j0,A3,l0,rfl,rfl,rfl,V0⟩
 case round =>
  clear V0 T1 U U1
  obtain⟨h,ys,Aa,F,Ab,cb,hk,rfl,rfl,d⟩:=hrel
  have HK:=zh hk
  clear hk
  have o:=d.out.len
  have m0:=d.out.2.2.2.2.2.2.2.2.2.2.2.2
  by_cases G:1<ys.length
  ·obtain⟨J,rfl,y0,W0,E2,X0⟩:=d.out.1.openG (by intro e;rw[e] at o;simp at o;rw[o] at G;simp at G)
   obtain⟨bB,rfl,B,Y0,F2,C2⟩:=d.out.2.1.openG (by intro e;rw[e] at G;simp at G)
   have N:=zh (Zdv J bB F cb h ys wr y0 B d.out.2.2.1 d.out.2.2.2.1 d.out.2.2.2.2.1 o qO d.out.2.2.2.2.2.2.1 qO)
   have Z0:0<val W64 ys:=aF d.out.2.2.2.2.2.1 zP (by intro e;rw[e] at G;simp at G)
   have z0:=zh Z0
   have a1:=zh (d.out.1.natIs d.out.2.2.1 d.out.2.2.2.2.1)
   have c1:=zh (d.out.2.1.natIs d.out.2.2.2.1 d.out.2.2.2.2.2.1)
   have d1:wl (val W64 h)≤79:=by rw[←xR d.out.2.2.1 d.out.2.2.2.2.1];exact m0
   have e1:wl (val W64 ys)≤79:=by rw[←xR d.out.2.2.2.1 d.out.2.2.2.2.2.1];omega
   have f1:=zh d1
   have X1:=zh e1
   have A0:=zh y0
   have g1:=zh B
   have i1:=zh W0
   have Y1:=zh Y0
   unfold Zaa kC at N
   clear y0 B W0 Y0 Z0 d1 e1
   go_wp2_with fail
   refine N.out.mono ?_
   rintro e w1 ⟨u0,u1,v0,v1,odd,rfl,b0,b1,b2,b3,j1,M⟩
   have X:=zh M
   have Z1:=zh j1
   have Hb:=zh (And.intro b0 (And.intro b1 (And.intro b2 b3)))
   clear M j1 b0 b1 b2 b3 N
   by_cases hv:v0=0
   ·subst hv
    go_wp2_with fail
    generalize I:World.alloc w1 _=wb
    have Y:Hid (Ext wr wb):=I ▸ X.out.alloc _
    clear I X
    refine (Zbq _ _ _ _ _ (a1.out.ext Y.out) (c1.out.ext Y.out) (by have:=f1.out;omega) (by have:=X1.out;omega) z0.out).mono ?_
    rintro e w2 ⟨qv,rv,rfl,l1,a2,m1⟩
    obtain⟨Aq,lq,cq,rfl⟩:=l1.slice
    obtain⟨Ar,C,cr,rfl,d2,n1,B0,C0,D0⟩:=a2
    have Z:=zh (Y.out.trans m1)
    have e2:=zh n1
    have f2:=zh B0
    have g2:=zh C0
    have o1:=zh D0
    have G2:C.length≤79:=by
     rw[xR B0 C0,D0]
     have:wl (val W64 h%val W64 ys)≤wl (val W64 h):=lV (nN _ _)
     have:=f1.out;omega
    clear l1 n1 B0 C0 D0 d2 m1 Y
    go_wp2_with fail
    refine (gC Ar C _ cr w2 rfl e2.out qO).mono ?_
    rintro e w3 ⟨Ac,cc,rfl,t,l,s⟩
    have z:=zh (d.out.div z0.out Z.out f2.out g2.out o1.out t l s)
    have E0:Hid (val W64 ys+val W64 C<val W64 h+val W64 ys):=by
     have G:=uO (val W64 h) z0.out
     have h2:=d.out.2.2.2.2.2.2.1
     have h3:=o1.out
     unfold Hid;omega
    clear t l s d a1 c1 A0 g1 i1 Y1
    go_wp2
    go_roundg (val W64 ys+val W64 C)
    case measure=>rw[HK.out];exact E0.out
    case rel=>exact⟨ys,C,_,cb,Ac,cc,rfl,rfl,rfl,z⟩
   have H2:((v0:Int) == 0)=false:=by simp;omega
   obtain⟨r0,r1,q1,q2,q3,K⟩:=Z1.out.pair hv
   have HQ:=zh (And.intro q1 (And.intro q2 (And.intro q3 K)))
   have i2:J≠bB:=fun e=>d.out.2.2.2.2.2.2.2.2.2.2.2.1 J ⟨_,rfl,rfl⟩ ⟨_,rfl,by simp[e]⟩
   clear q1 q2 q3 K hv
   go_wp2_with fail
   generalize I:World.alloc w1 _=wb
   have I2:=A0.out.lt
   have J2:=g1.out.lt
   have K2:=X.out.size
   have p1:Hid (Zcx w wb h ys J F (some ⟨bB,0,none⟩) cb 0 w1.heap.size #[.int .u64 (u0:Int),.int .u64 (u1:Int),.int .u64 (v0:Int),.int .u64 (v1:Int),.bool odd]):=by
    have a0:Ext wr wb:=I ▸ X.out.alloc _
    refine⟨A0.out.ext a0,i1.out.fr a0 (fun f=>f),by rw[List.replicate_zero,rJ];exact d.out.2.1.ext a0,fun b H=>?_,I ▸ Blk.new _ _ _,d.out.2.2.2.2.2.2.2.2.1.trans a0,d.out.2.2.2.2.2.2.2.2.2.1 J ⟨_,rfl,rfl⟩,qO,?_⟩
    ·obtain⟨a,D,rfl⟩:=H
     injection D with D;subst D
     exact⟨d.out.2.2.2.2.2.2.2.2.2.2.1 bB ⟨_,rfl,rfl⟩,fun e=>i2 e.symm,by show bB≠_;omega⟩
    have:=d.out.2.2.2.2.2.2.2.2.1.size;omega
   clear I
   generalize w1.heap.size=gs at *
   go_loopw [6] (fun bv wq=>∃ (j:Nat) (A6:Option Addr) (R:Nat),ys.length+j≤h.length∧bv=.slice A6 (ys.length+j) R∧Hid (Zcx w wq h ys J F A6 R j gs #[.int .u64 (u0:Int),.int .u64 (u1:Int),.int .u64 (v0:Int),.int .u64 (v1:Int),.bool odd])) (fun bv _=>match bv with | .slice _ k _=>h.length-k | _=>0)
   case atStart=>exact⟨0,_,cb,qO,rfl,p1⟩
   case round =>
    clear p1
    obtain⟨j,A6,R,hj,rfl,E⟩:=hrel
    by_cases L2:ys.length+j<h.length
    ·have x1:Hid (zH .u64 (wr.alloc (.cells #[.int .u64 0] 207)) (some ⟨wr.heap.size,0,none⟩) [0]):=(Own.new wr 207 .u64 [0] []).shows0
     have y1:Hid ((ys ++ List.replicate j 0).length=ys.length+j):=by unfold Hid;simp
     go_wp2_with (at_builtin;refine Hid.out ?_)
     refine zh ?_
     refine lA rfl _ _ _ rfl _ .u64 8 underlying83 eL A6 (some ⟨wr.heap.size,0,none⟩) (ys.length+j) 1 R 1 rfl rfl (ys ++ List.replicate j 0) [0] y1.out rfl (E.out.2.2.1.ext ((Fr.refl _ _).alloc _)) x1.out (by simp only[maxLen];omega) qO ?_
     intro A7 c7 w3 t l s
     have z:=zh (E.out.next t l s)
     clear t l s x1 y1
     go_wp2
     go_roundw
     case rel=>exact⟨j+1,A7,c7,qO,by rw[sD],z⟩
     case measure=>simp;omega
    have ej:ys.length+j=h.length:=qO
    have D2:0<h.length:=qO
    have n0:ys ++ List.replicate j 0≠[]:=fun e=>by have:=uX List.length e;rw[uN,nJ] at this;omega
    obtain⟨bC,rfl,F0,z1,M2,B1⟩:=E.out.2.2.1.openG n0
    have O:=E.out.2.2.2.1 bC ⟨_,rfl,rfl⟩
    have c0:(ys ++ List.replicate j 0).length=h.length:=by simp;omega
    have C1:val W64 (ys ++ List.replicate j 0)=val W64 ys:=by rw[kK,kS];simp
    have G0:Dig W64 (ys ++ List.replicate j 0):=d.out.2.2.2.1.append (Dig.replicate zP _)
    have U:=xZ d.out.2.2.1
    have j2:=d.out.2.2.2.2.2.2.1
    have l2:Hid (yA 157 #[.agg #[.int .u64 (u0:Int),.int .u64 (u1:Int),.int .u64 (v0:Int),.int .u64 (v1:Int),.bool odd],.slice (some ⟨J,0,none⟩) h.length F,.slice (some ⟨bC,0,none⟩) (ys.length+j) R] wr (bS J bC h.length r0 r1 wr)):=by
     obtain⟨q1,q2,q3,K⟩:=HQ.out
     obtain⟨k0,k1,L,S⟩:=Hb.out
     unfold Hid
     rw[ej]
     rw[←C1] at K
     cases odd with
     | false =>
      simp only[qI,nM] at K
      exact ZfF J bC h.length F R u0 u1 v0 v1 r0 r1 h _ wr rfl c0 E.out.1 F0 (fun e=>O.2.1 e.symm) d.out.2.2.1 G0 qO k0 k1 L S K.1 K.2 qO qO
     | true =>
      simp only[if_true] at K
      exact Zg7 J bC h.length F R u0 u1 v0 v1 r0 r1 h _ wr rfl c0 E.out.1 F0 (fun e=>O.2.1 e.symm) d.out.2.2.1 G0 qO k0 k1 L S K.1 K.2 qO qO
    have s0:wr.cell? ⟨gs,0,none⟩=some (.int .u64 (u0:Int)):=E.out.2.2.2.2.1.cell 0
    have s1:wr.cell? ⟨gs,1,none⟩=some (.int .u64 (u1:Int)):=E.out.2.2.2.2.1.cell 1
    have s2:wr.cell? ⟨gs,2,none⟩=some (.int .u64 (v0:Int)):=E.out.2.2.2.2.1.cell 2
    have s3:wr.cell? ⟨gs,3,none⟩=some (.int .u64 (v1:Int)):=E.out.2.2.2.2.1.cell 3
    have s4:wr.cell? ⟨gs,4,none⟩=some (.bool odd):=E.out.2.2.2.2.1.cell 4
    have m2:=zh z1
    have D1:=zh c0
    have n2:=zh ej
    clear F0 z1 c0 C1 G0 U j2 n0 ej
    go_wp2_with fail
    refine l2.out.mono ?_
    rintro e w3 ⟨C,zt,rfl,P,Q,d0,e0,E1,F1,G1,o2,H1,I1,l⟩
    have p2:=n2.out
    have J1:=zh (eC _ C h.length F w3 G1 P.shows0 qO qO)
    have K1:=zh (eC _ zt (ys.length+j) R w3 qO Q.shows0 (by have:=D1.out;omega) qO)
    have z:Hid (aL w w3 g (wL C) (wL zt) (some ⟨J,0,none⟩) F (some ⟨bC,0,none⟩) R):=by
     obtain⟨q1,q2,q3,K⟩:=HQ.out
     have t1:=wM C
     have t2:=iY C C.length
     refine⟨Buf.takeG (Or.inr ⟨J,rfl,P,H1 _ E.out.2.1,qO,X0⟩) _,Buf.takeG (Or.inr ⟨bC,rfl,Q,I1 _ m2.out,by have:=D1.out;omega,B1⟩) _,iD E1,iD F1,iG _,iG _,?_,?_,?_,fun b H=>?_,fun b H=>?_,fun b H x0=>?_,qO⟩
     ·rw[lC,lC,d0,e0];omega
     ·rw[lC,lC,d0,e0,q3];exact d.out.2.2.2.2.2.2.2.1
     ·refine E.out.2.2.2.2.2.1.next l (fun i hi e=>?_)
      rcases e with e|e
      ·have:=E.out.2.2.2.2.2.2.1;omega
      have:=O.1;omega
     ·obtain⟨a,D,rfl⟩:=H
      injection D with D;subst D
      exact E.out.2.2.2.2.2.2.1
     ·obtain⟨a,D,rfl⟩:=H
      injection D with D;subst D
      exact O.1
     obtain⟨a,D,rfl⟩:=H
     injection D with D;subst D
     obtain⟨a',H0,e⟩:=x0
     injection H0 with H0;subst H0
     exact O.2.1 e
    have E0:Hid (val W64 (wL C)+val W64 (wL zt)<val W64 h+val W64 ys):=by
     obtain⟨q1,q2,q3,K⟩:=HQ.out
     have h2:=d.out.2.2.2.2.2.2.1
     unfold Hid
     rw[lC,lC,d0,e0];omega
    have L1:=zh (wM C)
    have M1:=zh (wM zt)
    clear P Q d0 e0 E1 F1 H1 I1 l p2 G1 o2
    go_wp2_with fail
    refine J1.out.mono ?_
    rintro e w4 ⟨rfl,rfl⟩
    go_wp2_with fail
    refine K1.out.mono ?_
    rintro e w4 ⟨rfl,rfl⟩
    go_wp2
    go_roundg (val W64 (wL C)+val W64 (wL zt))
    case measure=>rw[HK.out];exact E0.out
    case rel=>exact⟨wL C,wL zt,_,F,_,R,rfl,by rw[L1.out],by rw[M1.out],z⟩
  have N1:decide ((1:Int)<(ys.length:Int))=false:=by simp;omega
  by_cases h0:ys=[]
  ·subst h0
   have HN:Hid (zL wr (.slice Aa h.length F) g):=by
    have k1:=d.out.1.natIs d.out.2.2.1 d.out.2.2.2.2.1
    have L:=d.out.2.2.2.2.2.2.2.1
    rw[eQ,qH] at L
    rw[L] at k1
    exact k1
   have HE:Hid (Ext w wr):=d.out.2.2.2.2.2.2.2.2.1
   clear d G N1 o
   go_wp2
   go_ret
   exact⟨_,rfl,HN.out,HE.out⟩
  obtain⟨y,rfl⟩:∃ y,ys=[y]:=by
   match ys,(by have:=rO.2 h0;omega:ys.length=1) with
   | [y],_=>exact⟨y,rfl⟩
  obtain⟨b3,rfl,B,_⟩:=d.out.2.1.openG h0
  have O1:=B.cell (i:=0) qS
  simp at O1
  have r2:=zh B.lt
  have Z:Hid (Ext w wr):=d.out.2.2.2.2.2.2.2.2.1
  have u2:Hid (zH .u64 wr Aa h):=d.out.1.shows
  have T:=zh d.out.2.2.1
  have P1:y<W64:=d.out.2.2.2.1 y qS
  have f0:0<y:=by
   have:=d.out.2.2.2.2.2.1 0 rfl
   simp at this;omega
  have g0:=d.out.2.2.2.2.2.2.2.1
  simp only[iP,eQ,tV,tE] at g0
  obtain⟨r,er⟩:=yE (val W64 h%y)
  have I0:Hid (r<W64∧Nat.gcd y r=g∧g<W64):=by
   have k1:=uO (val W64 h) f0
   have S:=oC (val W64 h) f0
   rw[g0] at S
   refine⟨qO,?_,qO⟩
   rw[←er,← g0,sL y,← pS,sL]
  obtain⟨x,ex⟩:=yE h.length
  rw[ex] at m0 ⊢
  have Q1:Hid (wr.cell? ⟨b3,0,none⟩=some (.int .u64 (y:Int))):=O1
  have v2:=zh f0
  have Hn:=zh P1
  have x2:=zh er
  have R1:=zh ex
  clear d B g0 er ex h0 G N1 o f0 P1
  go_wp2_with fail
  go_region_held3 (fun w'=>w'.cell? ⟨b3,0,none⟩=some (.int .u64 (y:Int)))
   (first|exact Q1.out|exact (Fr.cell (p:=⟨b3,0,none⟩) (Fr.undrew hFF) r2.out (fun f=>f)).trans Q1.out)
   (first
    | (
     go_at_call 161
     refine (fN Aa h x F y _ R1.out u2.out.drew (by have:=R1.out;omega) T.out v2.out Hn.out).mono ?_
     rintro e w4 ⟨rfl,y2,S1⟩
     rw[x2.out]
     have hFF:Ext wr.drew w4:=S1 ▸ (Fr.refl _ wr.drew).drewN y2
     clear S1)
    | (
     go_at_call 160
     refine (Zag y r g _ (HG.out.ext (Z.out.trans (Fr.undrew hFF))) Hn.out I0.out.1 I0.out.2.1).mono ?_
     rintro e w5 ⟨rfl,rfl⟩)
    | (
     go_at_call 159
     refine (aH g _ I0.out.2.2).mono ?_
     rintro e w6 ⟨v6,rfl,z2,B2⟩
     replace hFF:Ext wr.drew w6:=hFF.trans B2))
  go_wp2
  go_ret
  exact⟨_,rfl,z2,Z.out.trans (Fr.undrew hFF)⟩
theorem Zh1 (u v:Value)(m n g:Nat)(w:World)(hg:Glob w)(hu:zL w u m)(hv:zL w v n)(hm:wl m≤79)(hn:W64≤n)(I0:n<m)(eg:Nat.gcd m n=g) :
 yA 109 #[v,u] w (lH w g):=by
 have o0:n≤m:=qO
 have i0:wl n≤79:=uD (lV o0) hm
 obtain⟨A,h,c,rfl,hc,G,h2,h3,h4⟩:=hu
 obtain⟨A2,ys,c2,rfl,J0,k1,L,S,k4⟩:=hv
 have K0:=xR h2 h3
 have L0:=xR L S
 rw[h4] at K0
 rw[k4] at L0
 have U1:2≤ys.length:=by
  rcases vM ys.length 2 with k|k
  ·have:=Zaw.1 (show wl n≤1 by omega);omega
  exact k
 have HU:Hid (zL w (.slice A h.length c) m):=⟨A,h,c,rfl,hc,G,h2,h3,h4⟩
 have HV:Hid (zL w (.slice A2 ys.length c2) n):=⟨A2,ys,c2,rfl,J0,k1,L,S,k4⟩
 have HX:=zh G
 have HY:=zh k1
 have M0:=zh o0
 have V1:=zh I0
 have T:=zh h2
 have N0:=zh L
 have O0:=zh h3
 have P0:=zh S
 have p0:=zh h4
 have q0:=zh k4
 have Q0:=zh eg
 have HG:=zh hg
 have Hm:=zh hm
 have Hn:=zh i0
 have U:h.length≤79:=qO
 have W1:ys.length≤79:=qO
 clear hm hn o0 I0 G k1 L S h3 h2 hc J0 K0 L0 h4 k4 eg hg i0
 go_enter func109,ntmps109
 go_wp2_with fail
 refine (eW _ _ n m w HV.out HU.out (by have:=Hn.out;omega) (by have:=Hm.out;omega)).mono ?_
 rintro e w' ⟨rfl,nd,R0⟩
 obtain⟨q,hq⟩:=yE (cmpI n m)
 have X1:q<0:=by
  have h5:(n:Int)<(m:Int):=by have:=V1.out;omega
  rw[←hq];unfold cmpI;rw[uZ h5];omega
 have Y1:decide (q<0)=true:=by simp;omega
 rw[hq]
 have V:Hid (Ext w w'):=R0 ▸ (Fr.refl _ w).drewN nd
 clear hq R0 X1
 have S0:((ys.length:Int) == 0)=false:=by rw[tK];omega
 go_wp2_with fail
 refine (gC A h _ c w' rfl (HX.out.ext V.out) qO).mono ?_
 rintro e w1 ⟨A1,j0,rfl,T0,M,U0⟩
 have t0:=zh T0
 have V0:Hid (∀ b,xQ A1 b→w.heap.size≤b):=fun b H=>uD V.out.size (U0 b H)
 have W:Hid (Ext w w1):=V.out.trans M
 clear T0 M U0
 go_wp2_with fail
 refine (gC A2 ys _ c2 w1 rfl (HY.out.ext W.out) qO).mono ?_
 rintro e w2 ⟨A3,l0,rfl,t,l,s⟩
 have W0:Hid (aL w w2 g h ys A1 j0 A3 l0):=⟨t0.out.ext l,t,T.out,N0.out,O0.out,P0.out,by rw[p0.out,q0.out];exact M0.out,by rw[p0.out,q0.out];exact Q0.out,W.out.trans l,V0.out,fun b H=>uD W.out.size (s b H),fun b H w0=>by
  have k1:=t0.out.lt H
  have L:=s b w0
  omega,U⟩
 clear t l s t0 V0 W V HX HY HU HV T N0 O0 P0 M0 Q0 p0 q0 Hm Hn S0 Y1
 go_wp2_with fail
 go_loopg [5,6,7,8,9] (val W64 h+val W64 ys) (fun k av bv _ _ _ wr=>∃ (h ys:List Nat) (Aa:Option Addr) (F:Nat) (Ab:Option Addr) (cb:Nat),k=val W64 h+val W64 ys∧av=.slice Aa h.length F∧bv=.slice Ab ys.length cb∧Hid (aL w wr g h ys Aa F Ab cb))
 case atStart=>exact⟨h,ys,A1,j0,A3,l0,rfl,rfl,rfl,W0⟩
 case round =>
  clear W0 U1 U W1
  obtain⟨h,ys,Aa,F,Ab,cb,hk,rfl,rfl,d⟩:=hrel
  have HK:=zh hk
  clear hk
  have o:=d.out.len
  have m0:=d.out.2.2.2.2.2.2.2.2.2.2.2.2
  by_cases G:1<ys.length
  ·obtain⟨J,rfl,x0,X0,G2,Y0⟩:=d.out.1.openG (by intro e;rw[e] at o;simp at o;rw[o] at G;simp at G)
   obtain⟨bB,rfl,B,Z0,H2,E2⟩:=d.out.2.1.openG (by intro e;rw[e] at G;simp at G)
   have N:=zh (Zdv J bB F cb h ys wr x0 B d.out.2.2.1 d.out.2.2.2.1 d.out.2.2.2.2.1 o qO d.out.2.2.2.2.2.2.1 qO)
   have a1:0<val W64 ys:=aF d.out.2.2.2.2.2.1 zP (by intro e;rw[e] at G;simp at G)
   have y0:=zh a1
   have c1:=zh (d.out.1.natIs d.out.2.2.1 d.out.2.2.2.2.1)
   have d1:=zh (d.out.2.1.natIs d.out.2.2.2.1 d.out.2.2.2.2.2.1)
   have e1:wl (val W64 h)≤79:=by rw[←xR d.out.2.2.1 d.out.2.2.2.2.1];exact m0
   have f1:wl (val W64 ys)≤79:=by rw[←xR d.out.2.2.2.1 d.out.2.2.2.2.2.1];omega
   have g1:=zh e1
   have Z1:=zh f1
   have z0:=zh x0
   have i1:=zh B
   have j1:=zh X0
   have a2:=zh Z0
   unfold Zaa kC at N
   clear x0 B X0 Z0 a1 e1 f1
   go_wp2_with fail
   refine N.out.mono ?_
   rintro e w1 ⟨u0,u1,v0,v1,odd,rfl,b0,b1,b2,b3,l1,M⟩
   have X:=zh M
   have d2:=zh l1
   have Hb:=zh (And.intro b0 (And.intro b1 (And.intro b2 b3)))
   clear M l1 b0 b1 b2 b3 N
   by_cases hv:v0=0
   ·subst hv
    go_wp2_with fail
    generalize I:World.alloc w1 _=wb
    have Y:Hid (Ext wr wb):=I ▸ X.out.alloc _
    clear I X
    refine (Zbq _ _ _ _ _ (c1.out.ext Y.out) (d1.out.ext Y.out) (by have:=g1.out;omega) (by have:=Z1.out;omega) y0.out).mono ?_
    rintro e w2 ⟨qv,rv,rfl,m1,e2,n1⟩
    obtain⟨Aq,lq,cq,rfl⟩:=m1.slice
    obtain⟨Ar,C,cr,rfl,f2,o1,A0,B0,C0⟩:=e2
    have Z:=zh (Y.out.trans n1)
    have g2:=zh o1
    have i2:=zh A0
    have j2:=zh B0
    have p1:=zh C0
    have I2:C.length≤79:=by
     rw[xR A0 B0,C0]
     have:wl (val W64 h%val W64 ys)≤wl (val W64 h):=lV (nN _ _)
     have:=g1.out;omega
    clear m1 o1 A0 B0 C0 f2 n1 Y
    go_wp2_with fail
    refine (gC Ar C _ cr w2 rfl g2.out qO).mono ?_
    rintro e w3 ⟨Ac,cc,rfl,t,l,s⟩
    have z:=zh (d.out.div y0.out Z.out i2.out j2.out p1.out t l s)
    have D0:Hid (val W64 ys+val W64 C<val W64 h+val W64 ys):=by
     have G:=uO (val W64 h) y0.out
     have h2:=d.out.2.2.2.2.2.2.1
     have h3:=p1.out
     unfold Hid;omega
    clear t l s d c1 d1 z0 i1 j1 a2
    go_wp2
    go_roundg (val W64 ys+val W64 C)
    case measure=>rw[HK.out];exact D0.out
    case rel=>exact⟨ys,C,_,cb,Ac,cc,rfl,rfl,rfl,z⟩
   have J2:((v0:Int) == 0)=false:=by simp;omega
   obtain⟨r0,r1,q1,q2,q3,K⟩:=d2.out.pair hv
   have HQ:=zh (And.intro q1 (And.intro q2 (And.intro q3 K)))
   have l2:J≠bB:=fun e=>d.out.2.2.2.2.2.2.2.2.2.2.2.1 J ⟨_,rfl,rfl⟩ ⟨_,rfl,by simp[e]⟩
   clear q1 q2 q3 K hv
   go_wp2_with fail
   generalize I:World.alloc w1 _=wb
   have K2:=z0.out.lt
   have L2:=i1.out.lt
   have M2:=X.out.size
   have x1:Hid (Zcx w wb h ys J F (some ⟨bB,0,none⟩) cb 0 w1.heap.size #[.int .u64 (u0:Int),.int .u64 (u1:Int),.int .u64 (v0:Int),.int .u64 (v1:Int),.bool odd]):=by
    have a0:Ext wr wb:=I ▸ X.out.alloc _
    refine⟨z0.out.ext a0,j1.out.fr a0 (fun f=>f),by rw[List.replicate_zero,rJ];exact d.out.2.1.ext a0,fun b H=>?_,I ▸ Blk.new _ _ _,d.out.2.2.2.2.2.2.2.2.1.trans a0,d.out.2.2.2.2.2.2.2.2.2.1 J ⟨_,rfl,rfl⟩,qO,?_⟩
    ·obtain⟨a,D,rfl⟩:=H
     injection D with D;subst D
     exact⟨d.out.2.2.2.2.2.2.2.2.2.2.1 bB ⟨_,rfl,rfl⟩,fun e=>l2 e.symm,by show bB≠_;omega⟩
    have:=d.out.2.2.2.2.2.2.2.2.1.size;omega
   clear I
   generalize w1.heap.size=gs at *
   go_loopw [6] (fun bv wq=>∃ (j:Nat) (A6:Option Addr) (R:Nat),ys.length+j≤h.length∧bv=.slice A6 (ys.length+j) R∧Hid (Zcx w wq h ys J F A6 R j gs #[.int .u64 (u0:Int),.int .u64 (u1:Int),.int .u64 (v0:Int),.int .u64 (v1:Int),.bool odd])) (fun bv _=>match bv with | .slice _ k _=>h.length-k | _=>0)
   case atStart=>exact⟨0,_,cb,qO,rfl,x1⟩
   case round =>
    clear x1
    obtain⟨j,A6,R,hj,rfl,E⟩:=hrel
    by_cases N2:ys.length+j<h.length
    ·have y1:Hid (zH .u64 (wr.alloc (.cells #[.int .u64 0] 207)) (some ⟨wr.heap.size,0,none⟩) [0]):=(Own.new wr 207 .u64 [0] []).shows0
     have z1:Hid ((ys ++ List.replicate j 0).length=ys.length+j):=by unfold Hid;simp
     go_wp2_with (at_builtin;refine Hid.out ?_)
     refine zh ?_
     refine lA rfl _ _ _ rfl _ .u64 8 underlying83 eL A6 (some ⟨wr.heap.size,0,none⟩) (ys.length+j) 1 R 1 rfl rfl (ys ++ List.replicate j 0) [0] z1.out rfl (E.out.2.2.1.ext ((Fr.refl _ _).alloc _)) y1.out (by simp only[maxLen];omega) qO ?_
     intro A7 c7 w3 t l s
     have z:=zh (E.out.next t l s)
     clear t l s y1 z1
     go_wp2
     go_roundw
     case rel=>exact⟨j+1,A7,c7,qO,by rw[sD],z⟩
     case measure=>simp;omega
    have ej:ys.length+j=h.length:=qO
    have F2:0<h.length:=qO
    have n0:ys ++ List.replicate j 0≠[]:=fun e=>by have:=uX List.length e;rw[uN,nJ] at this;omega
    obtain⟨bC,rfl,E0,B1,O2,C1⟩:=E.out.2.2.1.openG n0
    have O:=E.out.2.2.2.1 bC ⟨_,rfl,rfl⟩
    have c0:(ys ++ List.replicate j 0).length=h.length:=by simp;omega
    have D1:val W64 (ys ++ List.replicate j 0)=val W64 ys:=by rw[kK,kS];simp
    have F0:Dig W64 (ys ++ List.replicate j 0):=d.out.2.2.2.1.append (Dig.replicate zP _)
    have U:=xZ d.out.2.2.1
    have m2:=d.out.2.2.2.2.2.2.1
    have n2:Hid (yA 157 #[.agg #[.int .u64 (u0:Int),.int .u64 (u1:Int),.int .u64 (v0:Int),.int .u64 (v1:Int),.bool odd],.slice (some ⟨J,0,none⟩) h.length F,.slice (some ⟨bC,0,none⟩) (ys.length+j) R] wr (bS J bC h.length r0 r1 wr)):=by
     obtain⟨q1,q2,q3,K⟩:=HQ.out
     obtain⟨k0,k1,L,S⟩:=Hb.out
     unfold Hid
     rw[ej]
     rw[←D1] at K
     cases odd with
     | false =>
      simp only[qI,nM] at K
      exact ZfF J bC h.length F R u0 u1 v0 v1 r0 r1 h _ wr rfl c0 E.out.1 E0 (fun e=>O.2.1 e.symm) d.out.2.2.1 F0 qO k0 k1 L S K.1 K.2 qO qO
     | true =>
      simp only[if_true] at K
      exact Zg7 J bC h.length F R u0 u1 v0 v1 r0 r1 h _ wr rfl c0 E.out.1 E0 (fun e=>O.2.1 e.symm) d.out.2.2.1 F0 qO k0 k1 L S K.1 K.2 qO qO
    have s0:wr.cell? ⟨gs,0,none⟩=some (.int .u64 (u0:Int)):=E.out.2.2.2.2.1.cell 0
    have s1:wr.cell? ⟨gs,1,none⟩=some (.int .u64 (u1:Int)):=E.out.2.2.2.2.1.cell 1
    have s2:wr.cell? ⟨gs,2,none⟩=some (.int .u64 (v0:Int)):=E.out.2.2.2.2.1.cell 2
    have s3:wr.cell? ⟨gs,3,none⟩=some (.int .u64 (v1:Int)):=E.out.2.2.2.2.1.cell 3
    have s4:wr.cell? ⟨gs,4,none⟩=some (.bool odd):=E.out.2.2.2.2.1.cell 4
    have o2:=zh B1
    have E1:=zh c0
    have p2:=zh ej
    clear E0 B1 c0 D1 F0 U m2 n0 ej
    go_wp2_with fail
    refine n2.out.mono ?_
    rintro e w3 ⟨C,zt,rfl,P,Q,d0,e0,F1,G1,H1,r2,I1,J1,l⟩
    have u2:=p2.out
    have K1:=zh (eC _ C h.length F w3 H1 P.shows0 qO qO)
    have L1:=zh (eC _ zt (ys.length+j) R w3 qO Q.shows0 (by have:=E1.out;omega) qO)
    have z:Hid (aL w w3 g (wL C) (wL zt) (some ⟨J,0,none⟩) F (some ⟨bC,0,none⟩) R):=by
     obtain⟨q1,q2,q3,K⟩:=HQ.out
     have t1:=wM C
     have t2:=iY C C.length
     refine⟨Buf.takeG (Or.inr ⟨J,rfl,P,I1 _ E.out.2.1,qO,Y0⟩) _,Buf.takeG (Or.inr ⟨bC,rfl,Q,J1 _ o2.out,by have:=E1.out;omega,C1⟩) _,iD F1,iD G1,iG _,iG _,?_,?_,?_,fun b H=>?_,fun b H=>?_,fun b H w0=>?_,qO⟩
     ·rw[lC,lC,d0,e0];omega
     ·rw[lC,lC,d0,e0,q3];exact d.out.2.2.2.2.2.2.2.1
     ·refine E.out.2.2.2.2.2.1.next l (fun i hi e=>?_)
      rcases e with e|e
      ·have:=E.out.2.2.2.2.2.2.1;omega
      have:=O.1;omega
     ·obtain⟨a,D,rfl⟩:=H
      injection D with D;subst D
      exact E.out.2.2.2.2.2.2.1
     ·obtain⟨a,D,rfl⟩:=H
      injection D with D;subst D
      exact O.1
     obtain⟨a,D,rfl⟩:=H
     injection D with D;subst D
     obtain⟨a',G0,e⟩:=w0
     injection G0 with G0;subst G0
     exact O.2.1 e
    have D0:Hid (val W64 (wL C)+val W64 (wL zt)<val W64 h+val W64 ys):=by
     obtain⟨q1,q2,q3,K⟩:=HQ.out
     have h2:=d.out.2.2.2.2.2.2.1
     unfold Hid
     rw[lC,lC,d0,e0];omega
    have M1:=zh (wM C)
    have N1:=zh (wM zt)
    clear P Q d0 e0 F1 G1 I1 J1 l u2 H1 r2
    go_wp2_with fail
    refine K1.out.mono ?_
    rintro e w4 ⟨rfl,rfl⟩
    go_wp2_with fail
    refine L1.out.mono ?_
    rintro e w4 ⟨rfl,rfl⟩
    go_wp2
    go_roundg (val W64 (wL C)+val W64 (wL zt))
    case measure=>rw[HK.out];exact D0.out
    case rel=>exact⟨wL C,wL zt,_,F,_,R,rfl,by rw[M1.out],by rw[N1.out],z⟩
  have O1:decide ((1:Int)<(ys.length:Int))=false:=by simp;omega
  by_cases h0:ys=[]
  ·subst h0
   have HN:Hid (zL wr (.slice Aa h.length F) g):=by
    have k1:=d.out.1.natIs d.out.2.2.1 d.out.2.2.2.2.1
    have L:=d.out.2.2.2.2.2.2.2.1
    rw[eQ,qH] at L
    rw[L] at k1
    exact k1
   have HE:Hid (Ext w wr):=d.out.2.2.2.2.2.2.2.2.1
   clear d G O1 o
   go_wp2
   go_ret
   exact⟨_,rfl,HN.out,HE.out⟩
  obtain⟨y,rfl⟩:∃ y,ys=[y]:=by
   match ys,(by have:=rO.2 h0;omega:ys.length=1) with
   | [y],_=>exact⟨y,rfl⟩
  obtain⟨b3,rfl,B,_⟩:=d.out.2.1.openG h0
  have P1:=B.cell (i:=0) qS
  simp at P1
  have v2:=zh B.lt
  have Z:Hid (Ext w wr):=d.out.2.2.2.2.2.2.2.2.1
  have x2:Hid (zH .u64 wr Aa h):=d.out.1.shows
  have T:=zh d.out.2.2.1
  have Q1:y<W64:=d.out.2.2.2.1 y qS
  have f0:0<y:=by
   have:=d.out.2.2.2.2.2.1 0 rfl
   simp at this;omega
  have g0:=d.out.2.2.2.2.2.2.2.1
  simp only[iP,eQ,tV,tE] at g0
  obtain⟨r,er⟩:=yE (val W64 h%y)
  have H0:Hid (r<W64∧Nat.gcd y r=g∧g<W64):=by
   have k1:=uO (val W64 h) f0
   have S:=oC (val W64 h) f0
   rw[g0] at S
   refine⟨qO,?_,qO⟩
   rw[←er,← g0,sL y,← pS,sL]
  obtain⟨x,ex⟩:=yE h.length
  rw[ex] at m0 ⊢
  have R1:Hid (wr.cell? ⟨b3,0,none⟩=some (.int .u64 (y:Int))):=P1
  have y2:=zh f0
  have Hn:=zh Q1
  have z2:=zh er
  have S1:=zh ex
  clear d B g0 er ex h0 G O1 o f0 Q1
  go_wp2_with fail
  go_region_held3 (fun w'=>w'.cell? ⟨b3,0,none⟩=some (.int .u64 (y:Int)))
   (first|exact R1.out|exact (Fr.cell (p:=⟨b3,0,none⟩) (Fr.undrew hFF) v2.out (fun f=>f)).trans R1.out)
   (first
    | (
     go_at_call 161
     refine (fN Aa h x F y _ S1.out x2.out.drew (by have:=S1.out;omega) T.out y2.out Hn.out).mono ?_
     rintro e w4 ⟨rfl,B2,T1⟩
     rw[z2.out]
     have hFF:Ext wr.drew w4:=T1 ▸ (Fr.refl _ wr.drew).drewN B2
     clear T1)
    | (
     go_at_call 160
     refine (Zag y r g _ (HG.out.ext (Z.out.trans (Fr.undrew hFF))) Hn.out H0.out.1 H0.out.2.1).mono ?_
     rintro e w5 ⟨rfl,rfl⟩)
    | (
     go_at_call 159
     refine (aH g _ H0.out.2.2).mono ?_
     rintro e w6 ⟨v6,rfl,C2,D2⟩
     replace hFF:Ext wr.drew w6:=hFF.trans D2))
  go_wp2
  go_ret
  exact⟨_,rfl,C2,Z.out.trans (Fr.undrew hFF)⟩
theorem ZiI (u v:Value)(m n:Nat)(w:World)(a:Glob w)(b:zL w u m)(c:zL w v n)(d:wl m≤79)(e:wl n≤79):yA 109 #[u,v] w (lH w (Nat.gcd m n)):=by
 by_cases f:min m n<W64
 ·exact Zb3 u v m n w a b c qO qO f
 rcases vM m n with h|h
 ·exact Zh1 v u n m _ w a c b e qO h (sL _ _)
 exact Zh0 u v m n _ w a b c d qO h rfl
theorem Zj3 (u v:Value)(m n:Nat)(w:World)(a:Glob w)(b:zL w u m)(c:zL w v n)(d:wl m≤4294967296)(e:wl n≤4294967296)(f:min m n<W64∨(wl m≤79∧wl n≤79)):yA 109 #[u,v] w (lH w (Nat.gcd m n)):=by
 rcases f with h|h
 ·exact Zb3 u v m n w a b c d e h
 exact ZiI u v m n w a b c h.1 h.2
def Zif (x y:Int):Prop:=min x.natAbs y.natAbs<W64∨(wl x.natAbs≤79∧wl y.natAbs≤79)
theorem Zif.words {x y:Int}(a:wl x.natAbs≤79)(b:wl y.natAbs≤79):Zif x y:=Or.inr ⟨a,b⟩
theorem Zqj (a b:Value)(x y:Int)(w:World)(B:Glob w)(ha:fB w a x)(C:fB w b y)(D:Fits x)(E:Fits y)(F:Zif x y):yA 66 #[a,b] w (ZfE w (Int.gcd x y:Int)):=by
 obtain⟨s,A,l,c,rfl,G,I,H⟩:=ha.open
 obtain⟨t,P,R,S,rfl,g,m,n⟩:=C.open
 have J:=zh G
 have o:=zh g
 have K:Hid (wl x.natAbs≤4294967296):=by unfold Fits at D;unfold Hid;omega
 have L:Hid (wl y.natAbs≤4294967296):=by unfold Fits at E;unfold Hid;omega
 have M:=zh B
 have N:=zh F
 obtain⟨z,p⟩:=yE (Int.gcd x y)
 have O:Hid (Nat.gcd x.natAbs y.natAbs=z):=p
 rw[p]
 clear ha C D E G g I m H n B F p
 go_enter func66,ntmps66
 go_wp2_with fail
 generalize h:World.alloc (World.alloc (World.alloc w _) _) _=wb
 obtain⟨q,r,i,Q⟩:=gM h
 have j:=zh i
 have k:=zh Q
 clear h q r i Q
 refine (Zj3 _ _ _ _ _ (M.out.ext k.out) (J.out.ext k.out) (o.out.ext k.out) K.out L.out N.out).mono ?_
 rintro e T ⟨U,rfl,d,f⟩
 rw[O.out] at d
 obtain⟨V,W,X,rfl⟩:=d.slice
 obtain⟨H,Y,Z,z3⟩:=(j.out.ext f).cell2
 have u:=zh d
 have v:=zh f
 clear d f
 go_wp2
 exact ZkD (neg:=false) rfl rfl qO k.out j.out v.out u.out rfl rfl
def zX (c:UInt8):Bool:=decide (48≤c.toNat) && decide (c.toNat≤57)
abbrev bytes (s:ByteArray):List UInt8:=s.data.toList
theorem Zbb {p:UInt8→Bool}:∀ {l:List UInt8} {k:Nat},(l.take k).all p=true→(∀ h:k<l.length,p l[k]=false)→l.takeWhile p=l.take k∧l.dropWhile p=l.drop k
 | [],k,_,_=>qS
 | x :: l,0,_,h=>by
  have:=h qS
  simp at this
  simp[this]
 | x :: l,k+1,h1,h2=>by
  simp only[List.take_succ_cons,rV,tD] at h1
  have:=Zbb (l:=l) (k:=k) h1.2 (fun h=>by have:=h2 (by simp;omega);simpa using this)
  simp[h1.1,this.1,this.2]
theorem zT (s:ByteArray):(bytes s).length=s.size:=Array.length_toList
theorem kF (s:ByteArray)(a b:Nat):bytes (s.extract a b)=((bytes s).drop a).take (b-a):=Lib.extract_data s a b
theorem ZcD (s:ByteArray){k:Nat}(h:k<s.size):(bytes s)[k]'(by rw[zT];exact h)=s[k]:=rfl
theorem Zax (s:ByteArray)(k:Nat)(h:k<s.size):(bytes s).take (k+1)=(bytes s).take k ++ [s[k]]:=by
 rw[vY (by rw[zT];exact h)];rfl
theorem ZgJ {s:ByteArray}{k:Nat}(a:((bytes s).take k).all zX=true)(b:∀ h:k<s.size,zX s[k]=false) :
 bytes (s.extract 0 k)=(bytes s).takeWhile zX∧bytes (s.extract k s.size)=(bytes s).dropWhile zX:=by
 obtain⟨c,d⟩:=Zbb a (fun h=>b (by rw[zT] at h;exact h))
 rw[kF,kF,c,d]
 refine⟨qS,?_⟩
 rw[uA (by rw[tC,zT];exact uF _)]
def ZrN (s:ByteArray) (w:World) (e:Ending) (w':World):Prop :=
 ∃ t u:ByteArray,e=.returned (.tuple #[.string t,.string u])∧bytes t=(bytes s).takeWhile zX∧bytes u=(bytes s).dropWhile zX∧∃ n,w'=w.drewN n
theorem Zda (s:ByteArray)(w:World)(i:s.size≤1099511627776):yA 107 #[.string s] w (ZrN s w):=by
 go_enter func107,ntmps107
 go_wp2
 go_loop [4] (fun v=>∃ k:Nat,k≤s.size∧v=.int .i64 (k:Int)∧Hid (((bytes s).take k).all zX=true)) (fun v=>s.size-(intOf v).toNat)
 case atStart=>exact⟨0,uT _,rfl,rfl⟩
 case round =>
  obtain⟨k,j,rfl,c⟩:=hrel
  by_cases b:k<s.size
  ·have f:zX s[k]=(decide (48≤s[k].toNat) && decide (s[k].toNat≤57)):=rfl
   have d:=zh f
   have e:=zh (Zax s k b)
   clear f
   go_wp2_with fail
   ·have g:48≤(s[k].toNat:Int):=by assumption
    have l:(s[k].toNat:Int)≤57:=by assumption
    go_round
    case rel =>
     refine⟨k+1,qO,by go_num,?_⟩
     unfold Hid
     rw[e.out,qX,c.out]
     simp only[rV,List.all_nil,Bool.and_true,Bool.true_and]
     rw[d.out,vP qO,vP qO];rfl
    case measure=>simp[intOf];omega
   ·have g:57<(s[k].toNat:Int):=by assumption
    have a:=zh (ZgJ c.out (fun _=>by rw[d.out,uR (p:=s[k].toNat≤57) qO,Bool.and_false]))
    go_quiet (fail)
    go_wp2
    go_ret2
    exact⟨_,_,rfl,a.out.1,a.out.2,_,rfl⟩
   have g:(s[k].toNat:Int)<48:=by assumption
   have a:=zh (ZgJ c.out (fun _=>by rw[d.out,uR (p:=48≤s[k].toNat) qO,Bool.false_and]))
   go_quiet (fail)
   go_wp2
   go_ret2
   exact⟨_,_,rfl,a.out.1,a.out.2,_,rfl⟩
  have a:=zh (ZgJ c.out (fun h=>absurd h b))
  go_wp2_with fail
  go_quiet (fail)
  go_wp2
  go_ret2
  exact⟨_,_,rfl,a.out.1,a.out.2,_,rfl⟩
def xE (l:List UInt8):Bool×List UInt8:=if l.head? = some 45 then (true,l.tail) else (false,l)
def ZiX (s:ByteArray) (w:World) (e:Ending) (w':World):Prop:=∃ (r:ByteArray) (neg:Bool),e=.returned (.tuple #[.string r,.bool neg])∧xE (bytes s)=(neg,bytes r)∧w=w'
theorem ZdD (s:ByteArray)(w:World):yA 106 #[.string s,.string ⟨#[45]⟩] w (ZiX s w):=by
 refine (Tryz.strings_CutPrefix s ⟨#[45]⟩ w).mono ?_
 rintro e c ⟨rfl,rfl⟩
 refine⟨_,_,rfl,?_,rfl⟩
 unfold xE
 cases h:s.data.toList with
 | nil=>simp[bytes,h,Lib.trimPrefix,Lib.hasPrefix]
 | cons x l =>
  by_cases a:x=45
  ·subst a;simp[bytes,h,Lib.trimPrefix,Lib.hasPrefix]
  have b:¬ 45=x:=fun e=>a e.symm
  simp[bytes,h,Lib.trimPrefix,Lib.hasPrefix,List.isPrefixOf,a,b]
def wZ (l:List UInt8):Bool×List UInt8×List UInt8×Bool :=
 let p:=xE l
 let num:=p.2.takeWhile zX
 let rest:=p.2.dropWhile zX
 if num=[48] then (p.1,num,[],!p.1 && rest.isEmpty)
 else if num=[]∨num.head? = some 48 then (p.1,num,[],false)
 else if rest=[] then (p.1,num,[],true)
 else if rest.head? ≠ some 47 then (p.1,num,[],false)
 else (p.1,num,rest.tail.takeWhile zX,(rest.tail.dropWhile zX).isEmpty && !(rest.tail.takeWhile zX).isEmpty && (rest.tail.takeWhile zX).head? != some 48 && (rest.tail.takeWhile zX) != [49])
def Ze8 (s:ByteArray) (w:World) (e:Ending) (w':World):Prop :=
 ∃ (neg:Bool) (t d:ByteArray) (ok:Bool),e=.returned (.tuple #[.agg #[.bool neg,.string t,.string d],.bool ok])∧wZ (bytes s)=(neg,bytes t,bytes d,ok)∧Ext w w'
theorem Zhh {l r:List UInt8}{neg:Bool}(h:xE l=(neg,r)):r.length≤l.length:=by
 unfold xE at h
 split at h<;>(injection h with _ h;subst h;simp)
theorem bW {t:ByteArray}(h:bytes t≠[]):0<t.size∧t.toList≠[]∧t.toList.isEmpty=false:=by
 rw[Lib.toList_data]
 have a:0<t.size:=by rw[←zT];exact rO.2 h
 exact⟨a,h,by simpa using h⟩
theorem bX {t:ByteArray}(h:0<t.size):(bytes t).head? = some t[0]:=by
 have a:0<(bytes t).length:=by rw[zT];exact h
 rw[List.head?_eq_getElem?,uV a,ZcD t h]
theorem ZgK {b:UInt8}{n:Nat}(a:n<256):((b.toNat:Int) == (n:Int))=decide (b=UInt8.ofNat n):=by
 rw[Bool.eq_iff_iff]
 simp
 constructor
 ·intro h
  have:b.toNat=n:=qO
  rw[←this];simp
 rintro rfl
 simp[vH a]
theorem Blk.cell3 {t:TypeId}{w:World}{g:Nat}{x y z:Value}(h:Blk t w g #[x,y,z]):w.cell? ⟨g,0,none⟩=some x∧w.cell? ⟨g,1,none⟩=some y∧w.cell? ⟨g,2,none⟩=some z∧w.frozen? ⟨g,0,none⟩=false∧w.frozen? ⟨g,1,none⟩=false∧w.frozen? ⟨g,2,none⟩=false :=
 ⟨h.cell 0,h.cell 1,h.cell 2,h.frozen 0,h.frozen 1,h.frozen 2⟩
theorem jQ {fn:Func}{a:Array Value}{w wz:World}{r:Nat}{neg c:Bool}{s t d:ByteArray}(b:fn.results=#[.cell 2 152,.tmp 3])(e:a[2]? = some (.pointer (some ⟨r,0,none⟩)))(f:a[3]? = some (.bool c))(g:Blk 152 wz r #[.bool neg,.string t,.string d])(Q:Ext w wz)(h:wZ (bytes s)=(neg,bytes t,bytes d,c)):bodyPost prog fn (Ze8 s w) .ret ⟨a,[]⟩ wz:=by
 obtain⟨i,j,k,_⟩:=g.cell3
 refine bodyPost_ret (v:=.tuple #[.agg #[.bool neg,.string t,.string d],.bool c]) (by simp[results,b,e,f,go_sem,i,j,k]) rfl ⟨neg,t,d,c,rfl,h,Q⟩
theorem Zhi (s:ByteArray)(w:World)(hs:s.size≤1099511627776):yA 64 #[.string s] w (Ze8 s w):=by
 go_enter func64,ntmps64
 go_wp2_with fail
 refine (ZdD s _).mono ?_
 rintro e w1 ⟨r,neg,rfl,hr,rfl⟩
 have c0:r.size≤1099511627776:=by
  have:=Zhh hr;rw[zT,zT] at this;omega
 have HR:=zh hr
 clear hr
 go_wp2_with fail
 refine (Zda r _ c0).mono ?_
 rintro e w1 ⟨t,u,rfl,ht,hu,n1,rfl⟩
 have HT:=zh ht
 have HU:=zh hu
 have f0:u.size≤1099511627776:=by
  have h1:=uX List.length hu
  have h2:=(List.dropWhile_suffix zX (l:=bytes r)).sublist.length_le
  rw[zT] at h1
  rw[zT] at h2
  omega
 have k:Hid (∀ (d:List UInt8) (I:Bool),wZ (bytes s)=(neg,bytes t,d,I)↔(if bytes t=[48] then (neg,bytes t,[],!neg && (bytes u).isEmpty)
  else if bytes t=[]∨(bytes t).head? = some 48 then (neg,bytes t,[],false)
  else if bytes u=[] then (neg,bytes t,[],true)
  else if (bytes u).head? ≠ some 47 then (neg,bytes t,[],false)
  else (neg,bytes t,(bytes u).tail.takeWhile zX,((bytes u).tail.dropWhile zX).isEmpty && !((bytes u).tail.takeWhile zX).isEmpty && ((bytes u).tail.takeWhile zX).head? != some 48 && ((bytes u).tail.takeWhile zX) != [49]))=(neg,bytes t,d,I)):=by
  intro d I
  unfold wZ
  rw[HR.out]
  simp only[←HT.out,← HU.out]
 clear ht hu
 generalize m:World.alloc (World.alloc w _) _=wb0
 obtain⟨T,U,Q⟩:=ZlK m
 clear m
 generalize m:World.drewN wb0 n1=wb
 have c:Hid (Blk 152 wb w.heap.size #[.bool false,.string ⟨#[]⟩,.string ⟨#[]⟩]):=m ▸ T.drewN n1
 have J:Hid (Blk 152 wb (w.heap.size+1) #[.bool neg,.string ⟨#[]⟩,.string ⟨#[]⟩]):=m ▸ U.drewN n1
 have C:Hid (Ext w wb):=m ▸ Q.drewN n1
 clear m T U Q
 clear wb0
 obtain⟨x0,x1,x2,x3,x4,x5⟩:=c.out.cell3
 obtain⟨y0,y1,y2,y3,y4,y5⟩:=J.out.cell3
 have V:u.toList=bytes u:=Lib.toList_data u
 have W:t.toList=bytes t:=Lib.toList_data t
 have X:=zh V
 have K:=zh W
 clear V W
 by_cases j:bytes t=[48]
 ·have d1:(t.toList == [48])=true:=by rw[K.out,j];rfl
  cases neg with
  | true =>
   have a:Hid (wZ (bytes s)=(true,bytes t,bytes ⟨#[]⟩,false)):=by
    unfold Hid;rw[k.out,uZ j];rfl
   clear j
   go_wp2
   exact jQ rfl rfl rfl ((((c.out.far (p:=⟨w.heap.size+1,1,none⟩) qS (.string t)).set_ 0 (.bool true)).set_ 1 (.string t)).set_ 2 (.string ⟨#[]⟩)) ((((C.out.setCell (Or.inr qS) _).setCell (Or.inr qS) _).setCell (Or.inr qS) _).setCell (Or.inr qS) _) a.out
  | false =>
   by_cases o:bytes u=[]
   ·have d2:u.toList.isEmpty=true:=by rw[X.out,o,List.isEmpty_nil]
    have a:Hid (wZ (bytes s)=(false,bytes t,bytes ⟨#[]⟩,true)):=by
     unfold Hid;rw[k.out,uZ j,o];rfl
    clear j o
    go_wp2
    exact jQ rfl rfl rfl ((((c.out.far (p:=⟨w.heap.size+1,1,none⟩) qS (.string t)).set_ 0 (.bool false)).set_ 1 (.string t)).set_ 2 (.string ⟨#[]⟩)) ((((C.out.setCell (Or.inr qS) _).setCell (Or.inr qS) _).setCell (Or.inr qS) _).setCell (Or.inr qS) _) a.out
   have d2:u.toList.isEmpty=false:=(bW o).2.2
   have a:Hid (wZ (bytes s)=(false,bytes t,bytes ⟨#[]⟩,false)):=by
    unfold Hid;rw[k.out,uZ j,show (bytes u).isEmpty=false by simpa using o];rfl
   clear j o
   go_wp2
   exact jQ rfl rfl rfl ((((c.out.far (p:=⟨w.heap.size+1,1,none⟩) qS (.string t)).set_ 0 (.bool false)).set_ 1 (.string t)).set_ 2 (.string ⟨#[]⟩)) ((((C.out.setCell (Or.inr qS) _).setCell (Or.inr qS) _).setCell (Or.inr qS) _).setCell (Or.inr qS) _) a.out
 have d1:(t.toList == [48])=false:=by rw[K.out];simpa using j
 by_cases o:bytes t=[]
 ·have d2:t.toList=[]:=K.out.trans o
  have a:Hid (wZ (bytes s)=(neg,bytes t,bytes ⟨#[]⟩,false)):=by
   unfold Hid;rw[k.out,uQ j,uZ (Or.inl o)]
  clear j o
  go_wp2
  exact jQ rfl rfl rfl ((((c.out.far (p:=⟨w.heap.size+1,1,none⟩) qS (.string t)).set_ 0 (.bool neg)).set_ 1 (.string t)).set_ 2 (.string ⟨#[]⟩)) ((((C.out.setCell (Or.inr qS) _).setCell (Or.inr qS) _).setCell (Or.inr qS) _).setCell (Or.inr qS) _) a.out
 obtain⟨g1,g2,g3⟩:=bW o
 have g:=ZgK (b:=t[0]) (n:=48) qO
 have i:=bX g1
 by_cases N:t[0]=48
 ·have d3:((t[0].toNat:Int) == 48)=true:=by rw[show (48:Int)=((48:Nat):Int) from rfl,g];simpa using N
  have a:Hid (wZ (bytes s)=(neg,bytes t,bytes ⟨#[]⟩,false)):=by
   unfold Hid;rw[k.out,uQ j,uZ (Or.inr (by rw[i,N]))]
  clear j o N g i
  go_wp2
  exact jQ rfl rfl rfl ((((c.out.far (p:=⟨w.heap.size+1,1,none⟩) qS (.string t)).set_ 0 (.bool neg)).set_ 1 (.string t)).set_ 2 (.string ⟨#[]⟩)) ((((C.out.setCell (Or.inr qS) _).setCell (Or.inr qS) _).setCell (Or.inr qS) _).setCell (Or.inr qS) _) a.out
 have d3:((t[0].toNat:Int) == 48)=false:=by rw[show (48:Int)=((48:Nat):Int) from rfl,g];simpa using N
 have O:¬ (bytes t=[]∨(bytes t).head? = some 48):=by
  rintro (h|h)
  ·exact o h
  rw[i] at h;injection h with h;exact N h
 clear g i N o
 by_cases H:bytes u=[]
 ·have d5:u.toList.isEmpty=true:=by rw[X.out,H];rfl
  have a:Hid (wZ (bytes s)=(neg,bytes t,bytes ⟨#[]⟩,true)):=by
   unfold Hid;rw[k.out,uQ j,uQ O,uZ H]
  clear j O H
  go_wp2
  exact jQ rfl rfl rfl ((((c.out.far (p:=⟨w.heap.size+1,1,none⟩) qS (.string t)).set_ 0 (.bool neg)).set_ 1 (.string t)).set_ 2 (.string ⟨#[]⟩)) ((((C.out.setCell (Or.inr qS) _).setCell (Or.inr qS) _).setCell (Or.inr qS) _).setCell (Or.inr qS) _) a.out
 obtain⟨k1,k2,k3⟩:=bW H
 have g:=ZgK (b:=u[0]) (n:=47) qO
 have i:=bX k1
 by_cases P:u[0]=47
 ·have d6:((u[0].toNat:Int) != 47)=false:=by
   have:((u[0].toNat:Int) == 47)=true:=by rw[show (47:Int)=((47:Nat):Int) from rfl,g];simpa using P
   simp[bne,this]
  have H6:Hid (¬ (bytes u).head? ≠ some 47):=by unfold Hid;rw[i,P];simp
  have HC:Hid (bytes t≠[48]∧¬ (bytes t=[]∨(bytes t).head? = some 48)∧bytes u≠[]):=⟨j,O,H⟩
  clear j O H P g i
  go_wp2_with fail
  refine (Zda (u.extract 1 u.size) _ (by rw[rX];omega)).mono ?_
  rintro e w1 ⟨v,x,rfl,hv,hx,n2,rfl⟩
  have ev:bytes (u.extract 1 u.size)=(bytes u).tail:=by
   rw[kF,uA (by rw[tC,zT];exact uF _),List.drop_one]
  rw[ev] at hv hx
  have Y:Hid (∀ I,(((bytes x).isEmpty && !(bytes v).isEmpty && (bytes v).head? != some 48 && (bytes v) != [49])=I)→wZ (bytes s)=(neg,bytes t,bytes v,I)):=by
   intro I h
   rw[k.out,uQ HC.out.1,uQ HC.out.2.1,uQ HC.out.2.2,uQ H6.out,← hv,← hx,h]
  have Z:v.toList=bytes v:=Lib.toList_data v
  have a0:x.toList=bytes x:=Lib.toList_data x
  have D:=zh Z
  have d0:=zh a0
  clear hv hx ev Z a0 d6
  generalize E:World.setCell wb _ _=wc0
  generalize F:World.drewN wc0 n2=wd
  have f:Hid (Blk 152 wd w.heap.size #[.bool false,.string ⟨#[]⟩,.string ⟨#[]⟩]):=F ▸ E ▸ (c.out.far (p:=⟨w.heap.size+1,1,none⟩) qS _).drewN n2
  have b0:Hid (Blk 152 wd (w.heap.size+1) #[.bool neg,.string t,.string ⟨#[]⟩]):=F ▸ E ▸ (J.out.set_ 1 _).drewN n2
  have z:Hid (Ext w wd):=F ▸ E ▸ (C.out.setCell (Or.inr qS) _).drewN n2
  clear F E c J C x0 x1 x2 x3 x4 x5 y0 y1 y2 y3 y4 y5
  clear wc0
  obtain⟨x0,x1,x2,x3,x4,x5⟩:=f.out.cell3
  obtain⟨y0,y1,y2,y3,y4,y5⟩:=b0.out.cell3
  go_wp2_with fail
  by_cases y:bytes x=[]
  ·have r1:x.toList.isEmpty=true:=by rw[d0.out,y,List.isEmpty_nil]
   by_cases G:bytes v=[]
   ·have r2:v.toList.isEmpty=true:=by rw[D.out,G,List.isEmpty_nil]
    have g0:v.toList=[]:=D.out.trans G
    have a:=zh (Y.out false (by rw[y,G];rfl))
    clear y G
    go_region
    all_goals go_wp2
    all_goals exact jQ rfl rfl rfl (((((f.out.far (p:=⟨w.heap.size+1,2,none⟩) qS (.string v)).set_ 0 (.bool neg)).set_ 1 (.string t)).set_ 2 (.string v)).drewN 1) (((((z.out.setCell (Or.inr qS) _).setCell (Or.inr qS) _).setCell (Or.inr qS) _).setCell (Or.inr qS) _).drewN 1) a.out
   obtain⟨g4,g5,g6⟩:=bW G
   have A:=ZgK (b:=v[0]) (n:=48) qO
   have B:=bX g4
   have q:(bytes v).isEmpty=false:=by simpa using G
   by_cases L:v[0]=48
   ·have R:((v[0].toNat:Int) == 48)=true:=by rw[show (48:Int)=((48:Nat):Int) from rfl,A];simpa using L
    have e0:((v[0].toNat:Int) != 48)=false:=by rw[bne,R];rfl
    have a:=zh (Y.out false (by rw[y,q,B,L];rfl))
    clear y G L A B q R
    go_region
    all_goals go_wp2
    all_goals exact jQ rfl rfl rfl (((((f.out.far (p:=⟨w.heap.size+1,2,none⟩) qS (.string v)).set_ 0 (.bool neg)).set_ 1 (.string t)).set_ 2 (.string v)).drewN 1) (((((z.out.setCell (Or.inr qS) _).setCell (Or.inr qS) _).setCell (Or.inr qS) _).setCell (Or.inr qS) _).drewN 1) a.out
   have R:((v[0].toNat:Int) == 48)=false:=by rw[show (48:Int)=((48:Nat):Int) from rfl,A];simpa using L
   have e0:((v[0].toNat:Int) != 48)=true:=by rw[bne,R];rfl
   have n3:((bytes v).head? != some 48)=true:=by rw[B];simpa using L
   by_cases S:bytes v=[49]
   ·have r4:(v.toList == [49])=true:=by rw[D.out,S];rfl
    have M:(v.toList != [49])=false:=by rw[bne,r4];rfl
    have a:=zh (Y.out false (by rw[y,n3,q,S];rfl))
    clear y G L S A B q n3 R M
    go_region
    all_goals go_wp2
    all_goals exact jQ rfl rfl rfl (((((f.out.far (p:=⟨w.heap.size+1,2,none⟩) qS (.string v)).set_ 0 (.bool neg)).set_ 1 (.string t)).set_ 2 (.string v)).drewN 1) (((((z.out.setCell (Or.inr qS) _).setCell (Or.inr qS) _).setCell (Or.inr qS) _).setCell (Or.inr qS) _).drewN 1) a.out
   have r4:(v.toList == [49])=false:=by rw[D.out];simpa using S
   have M:(v.toList != [49])=true:=by rw[bne,r4];rfl
   have a:=zh (Y.out true (by rw[y,n3,q,show (bytes v != [49])=true by rw[bne];simpa using S];rfl))
   clear y G L S A B q n3 R M
   go_region
   all_goals go_wp2
   all_goals exact jQ rfl rfl rfl (((((f.out.far (p:=⟨w.heap.size+1,2,none⟩) qS (.string v)).set_ 0 (.bool neg)).set_ 1 (.string t)).set_ 2 (.string v)).drewN 1) (((((z.out.setCell (Or.inr qS) _).setCell (Or.inr qS) _).setCell (Or.inr qS) _).setCell (Or.inr qS) _).drewN 1) a.out
  have r1:x.toList.isEmpty=false:=(bW y).2.2
  have a:=zh (Y.out false (by rw[show (bytes x).isEmpty=false by simpa using y];rfl))
  clear y
  go_region
  all_goals go_wp2
  all_goals exact jQ rfl rfl rfl (((((f.out.far (p:=⟨w.heap.size+1,2,none⟩) qS (.string v)).set_ 0 (.bool neg)).set_ 1 (.string t)).set_ 2 (.string v)).drewN 1) (((((z.out.setCell (Or.inr qS) _).setCell (Or.inr qS) _).setCell (Or.inr qS) _).setCell (Or.inr qS) _).drewN 1) a.out
 have d6:((u[0].toNat:Int) != 47)=true:=by
  have:((u[0].toNat:Int) == 47)=false:=by rw[show (47:Int)=((47:Nat):Int) from rfl,g];simpa using P
  simp[bne,this]
 have a:Hid (wZ (bytes s)=(neg,bytes t,bytes ⟨#[]⟩,false)):=by
  unfold Hid;rw[k.out,uQ j,uQ O,uQ H,uZ (by rw[i];simpa using P)]
 clear j O H P g i
 go_wp2
 exact jQ rfl rfl rfl ((((c.out.far (p:=⟨w.heap.size+1,1,none⟩) qS (.string t)).set_ 0 (.bool neg)).set_ 1 (.string t)).set_ 2 (.string ⟨#[]⟩)) ((((C.out.setCell (Or.inr qS) _).setCell (Or.inr qS) _).setCell (Or.inr qS) _).setCell (Or.inr qS) _) a.out
def zK (l:List UInt8):Nat:=l.foldl (fun n c=>10*n+(c.toNat-48)) 0
theorem eY (l:List UInt8)(c:UInt8):zK (l ++ [c])=10*zK l+(c.toNat-48):=by simp[zK]
theorem bJ (a b:List UInt8):zK (a ++ b)=zK a*10^b.length+zK b:=by
 have d:∀ (b:List UInt8) (n:Nat),b.foldl (fun n c=>10*n+(c.toNat-48)) n=n*10^b.length+b.foldl (fun n c=>10*n+(c.toNat-48)) 0:=by
  intro b
  induction b with
  | nil=>intro n;simp
  | cons c b ih =>
   intro n
   simp only[List.foldl_cons,sB]
   rw[ih,ih (10*0+(c.toNat-48)),uP,tV,tA,vC,sD]
   congr 1
   rw[uG (10^b.length) 10,← uH,uG n 10]
 unfold zK
 rw[List.foldl_append,d]
theorem dP {c:UInt8}(h:zX c=true):48≤c.toNat∧c.toNat-48≤9:=by
 unfold zX at h
 simp at h
 omega
theorem ZbT (c:UInt8)(l:List UInt8):zK (c :: l)=(c.toNat-48)*10^l.length+zK l:=by
 have:=bJ [c] l
 simpa [zK] using this
theorem kJ:∀ (l:List UInt8),l.all zX=true→zK l<10^l.length
 | [],_=>by simp[zK]
 | c :: l,h=>by
  rw[rV,tD] at h
  have b:=kJ l h.2
  have a:=dP h.1
  have d:(c.toNat-48)*10^l.length≤9*10^l.length:=uE _ a.2
  rw[ZbT,sB,uP]
  omega
def iZ (xs:List Nat) (y q k:Nat) (m:List Nat) (c:Nat):Prop :=
 m.length=xs.length∧m.drop k=xs.drop k∧Dig W64 m∧c<W64∧val W64 (m.take k)+W64^k*c=val W64 (xs.take k)*y+q
theorem iZ.start {xs:qN}{y q:Nat}(h:Dig W64 xs)(a:q<W64):iZ xs y q 0 xs q:=⟨rfl,rfl,h,a,qS⟩
theorem iZ.at {xs m:qN}{y q k c:Nat}(h:iZ xs y q k m c):m[k]?.getD 0=xs[k]?.getD 0:=by
 have:=uX (fun l=>l[0]?.getD 0) h.2.1
 simpa [vJ] using this
theorem iZ.step {xs m:qN}{y q k c z:Nat}(h:iZ xs y q k m c)(d:k<xs.length)(a:m[k]?.getD 0=z)(e:y<W64):iZ xs y q (k+1) (m.set k (maLo z y c)) (maHi z y c):=by
 have f:xs[k]?.getD 0=z:=h.at.symm.trans a
 obtain⟨g,i,b,j,o⟩:=h
 refine⟨by simpa using g,?_,b.set k (ZgF _ _ _),Zb5 (a ▸ b.getD zP k) e j,?_⟩
 ·rw[tJ qO,← vV,← vV,i]
 rw[xN _ _ _ _ qO,zU k d,f,uP]
 have l:=Zeb z y c
 have n:=uX (W64^k * ·) l
 simp only[uK] at n
 rw[vC,uH,uH]
 omega
theorem iZ.done {xs m:qN}{y q c:Nat}(h:iZ xs y q xs.length m c):val W64 m+W64^xs.length*c=val W64 xs*y+q:=by
 obtain⟨b,d,e,f,a⟩:=h
 rwa [uA qO,uA qO] at a
theorem ZlS {m:qN}(b:Dig W64 m)(h:∀ k,m.length=k+1→W64^k≤val W64 m):Trim m:=by
 intro k c d
 have a:=h k c
 rw[xS (xs:=m) k,xT k qO,d,vA (by omega:m.length≤k+1)] at a
 have e:=xZ (b.take k)
 rw[uM,uU qO] at e
 simp at a
 omega
theorem iZ.zero {xs m:qN}{y q:Nat}(h:iZ xs y q xs.length m 0)(b:Trim xs)(c:1≤y):Trim m∧val W64 m=val W64 xs*y+q:=by
 have a:=h.done
 simp at a
 refine⟨ZlS h.2.2.1 (fun k d=>?_),a⟩
 have e:=Zdl (B:=W64) b (k:=k) (by rw[←h.1];exact d)
 have f:val W64 xs*1≤val W64 xs*y:=uI _ c
 omega
theorem iZ.more {xs m:qN}{y q c:Nat}(h:iZ xs y q xs.length m c)(a:c≠0):Trim (m ++ [c])∧Dig W64 (m ++ [c])∧val W64 (m ++ [c])=val W64 xs*y+q:=by
 refine⟨?_,h.2.2.1.append (Dig.nil.cons h.2.2.2.1),?_⟩
 ·intro k b
  have:k=m.length:=by simp at b;omega
  subst this
  simpa using a
 rw[kK,h.1,iP,eQ,tV,tE]
 exact h.done
theorem Buf.open_ {k:IntKind}{e:TypeId}{w:World}{A:qA}{cap:Nat}{xs:qN}(h:Buf k e w A cap xs)(a:xs≠[]):∃ b,A=some ⟨b,0,none⟩∧Own k e w b xs∧gT e w b cap∧xs.length≤cap∧cap≤maxLen:=by
 rcases h with ⟨_,h,_⟩|h
 ·exact absurd h a
 exact h
theorem Buf.set_ {k:IntKind}{e:TypeId}{w:World}{b cap:Nat}{xs:qN}(h:Own k e w b xs)(a:gT e w b cap)(c:xs.length≤cap)(d:cap≤maxLen)(i v:Nat)(hi:i<xs.length):Buf k e (w.setCell ⟨b,i,none⟩ (.int k (v:Int))) (some ⟨b,0,none⟩) cap (xs.set i v) :=
 Or.inr ⟨b,rfl,h.set i v hi,a.setCell b i _,by simpa using c,d⟩
def ZfX (w wr:World) (T:Nat) (d:ByteArray) (A:Option Addr) (cap:Nat) (xs:List Nat):Prop :=
 Buf .u64 207 wr A cap xs∧Dig W64 xs∧Trim xs∧val W64 xs*10^d.size+zK (bytes d)=T∧(bytes d).all zX=true∧Ext w wr∧∀ b,xQ A b→w.heap.size≤b
theorem ZfX.len {w wr:World}{T:Nat}{d:ByteArray}{A:qA}{cap:Nat}{xs:qN}(h:ZfX w wr T d A cap xs):xs.length≤wl T:=by
 obtain⟨_,a,b,c,_⟩:=h
 rw[xR a b]
 apply lV
 have:val W64 xs*1≤val W64 xs*10^d.size:=uI _ (uY qO)
 omega
theorem ZpP {n:Nat}(h:n≤19):10^n≤10000000000000000000:=by
 have:10^n≤10^19:=vE qO h
 exact this
theorem ZfY (d:ByteArray)(w:World)(T:Nat)(hd:(bytes d).all zX=true)(hT:zK (bytes d)=T)(hw:wl T≤1048576)(hl:d.size≤1099511627776) :
 yA 196 #[.string d] w (lH w T):=by
 have HD:=zh hd
 have HT:=zh hT
 clear hd hT
 have R0:=fun (w:World) (s:ByteArray)=>Lib.run_convert_string_bytes (P:=prog) w 9 187 5 s underlying9 underlying187 underlying5
 go_enter func196,ntmps196
 go_wp2
 go_loopw [0,3] (fun v0 v3 wr=>∃ (d:ByteArray) (A:Option Addr) (f:Nat) (l:List Nat),v0=.string d∧v3=.slice A l.length f∧d.size≤1099511627776∧Hid (ZfX w wr T d A f l)) (fun v0 _ _=>match v0 with | .string d=>d.size | _=>0)
 case atStart=>exact⟨d,none,0,[],rfl,rfl,hl,Buf.nil,Dig.nil,Trim.nil,by simpa using HT.out,HD.out,Fr.refl _ _,fun b M=>by obtain⟨a,ha,_⟩:=M;cases ha⟩
 case round =>
  obtain⟨d,A,f,l,rfl,rfl,hl,o⟩:=hrel
  by_cases M0:0<d.size
  ·have Y:=o.out.len
   obtain⟨n,hn⟩:=yE d.size
   obtain⟨z,hz⟩:=yE ((n-1)%19)
   have N0:z≤18:=qO
   have u0:z+1≤n:=by have:=nN (n-1) 19;omega
   have e1:((n:Int)-1)%19=(z:Int):=qO
   have S0:(1:Int)≤(n:Int):=qO
   have T0:(0:Int)≤(n:Int)-1:=qO
   have U0:((z:Int)+1)≤(n:Int):=qO
   have V0:((z:Int)+1).toNat=z+1:=qO
   go_wp2_with fail
   have w0:(d.extract 0 (z+1)).size=z+1:=by rw[rX];omega
   have Z:bytes (d.extract 0 (z+1))=(bytes d).take (z+1):=by rw[kF];simp
   have G:Ext wr (Lib.bytesWorld wr 5 (d.extract 0 (z+1))):=⟨rfl,rfl,rfl,by rw[Lib.bytesWorld_size];omega,fun i hi _=>Lib.bytesWorld_at_old _ _ _ i hi⟩
   have H:∀ j,j<z+1→(Lib.bytesWorld wr 5 (d.extract 0 (z+1))).cell? ⟨wr.heap.size,j,none⟩=some (.int .u8 ((bytes d).getD j 0).toNat):=fun j hj=>by
    rw[Lib.bytesWorld_cell _ _ _ j qO]
    have:(d.extract 0 (z+1)).data.toList=(bytes d).take (z+1):=Z
    rw[this]
    simp[tP hj]
   have O0:wr.heap.size<(Lib.bytesWorld wr 5 (d.extract 0 (z+1))).heap.size:=by rw[Lib.bytesWorld_size];omega
   generalize Lib.bytesWorld wr 5 (d.extract 0 (z+1))=wB at *
   have HX:=zh G
   have HC:=zh H
   have Hn:=zh hn
   have Hz:=zh hz
   have x0:Hid ((bytes d).length=n):=by unfold Hid;rw[zT];exact hn
   clear G H w0 Z hn hz
   go_loop [5,6,25] (fun v5 v6 y0=>∃ j c p:Nat,j≤z+1∧y0=.int .i64 (j:Int)∧v5=.int .u64 (c:Int)∧v6=.int .u64 (p:Int)∧c<p∧p≤10000000000000000000∧Hid (c=zK ((bytes d).take j)∧p=10^j)) (fun _ _ v=>z+1-(intOf v).toNat)
   case atStart=>exact⟨0,0,1,qO,rfl,rfl,rfl,qO,qO,by unfold Hid;simp[zK]⟩
   case round =>
    obtain⟨j,c,p,hj,rfl,rfl,rfl,W0,hp,hJ⟩:=hrel
    by_cases N:j<z+1
    ·have X0:=HC.out j N
     have r:j<(bytes d).length:=by rw[x0.out];omega
     have a0:=dP (c:=(bytes d).getD j 0) (by
      rw[rI,uV r]
      exact vI.1 o.out.2.2.2.2.1 _ (tZ r))
     have z0:Hid (zK ((bytes d).take (j+1))=10*zK ((bytes d).take j)+(((bytes d).getD j 0).toNat-48)):=by
      unfold Hid
      rw[vY r,eY,rI,uV r]
      rfl
     have b0:Hid (zK ((bytes d).take (j+1))<10^(j+1)):=by
      have h:=kJ ((bytes d).take (j+1)) (by
       rw[vI];intro x hx
       exact vI.1 o.out.2.2.2.2.1 _ (sR hx))
      rw[uM,uU qO] at h
      exact h
     have t:=ZpP (n:=j+1) qO
     rw[uP,← hJ.out.2] at t
     generalize ((bytes d).getD j 0).toNat=x at *
     have f1:IntKind.u64.wrap (10*(c:Int))=((10*c:Nat):Int):=by
      rw[show 10*(c:Int)=((10*c:Nat):Int) by omega];exact wK _ (by rw[zR];omega)
     have f2:IntKind.u8.wrap ((x:Int)-48)=((x-48:Nat):Int):=by
      rw[show (x:Int)-48=((x-48:Nat):Int) by omega,IntKind.wrap_u8];omega
     have f3:IntKind.u64.wrap ((x-48:Nat):Int)=((x-48:Nat):Int):=wK _ (by rw[zR];omega)
     have f4:IntKind.u64.wrap (((10*c:Nat):Int)+((x-48:Nat):Int))=((10*c+(x-48):Nat):Int):=kT (by rw[zR];omega)
     have f5:IntKind.u64.wrap ((p:Int)*10)=((p*10:Nat):Int):=by
      rw[show (p:Int)*10=((p*10:Nat):Int) by omega];exact wK _ (by rw[zR];omega)
     obtain⟨c1,c0⟩:=yE (10*c)
     obtain⟨y,O⟩:=yE (x-48)
     obtain⟨c2,d0⟩:=yE (c1+y)
     obtain⟨p2,e0⟩:=yE (p*10)
     have HN:Hid (c2=zK ((bytes d).take (j+1))∧p2=10^(j+1)):=by
      unfold Hid
      rw[z0.out,← hJ.out.1,uP,← hJ.out.2]
      omega
     have f0:c2<p2:=by rw[HN.out.1,HN.out.2];exact b0.out
     rw[c0] at f1 f4
     rw[O] at f2 f3 f4
     rw[d0] at f4
     rw[e0] at f5 t
     have Y0:wr.heap.size≠wB.heap.size:=qO
     clear c0 O d0 e0 a0 r
     go_wp2
     go_round
     case rel=>exact⟨j+1,c2,p2,qO,by go_num,rfl,rfl,f0,t,HN.out⟩
     case measure=>simp[intOf];omega
    obtain rfl:j=z+1:=qO
    have Z0:z+1≤d.size:=by rw[Hn.out];exact u0
    have g0:bytes (d.extract (z+1) d.size)=(bytes d).drop (z+1):=by
     rw[kF,uA (by rw[tC,zT];exact uF _)]
    have I:(d.extract (z+1) d.size).size=d.size-(z+1):=by rw[rX];omega
    have i0:=zh g0
    have u:=zh I
    clear g0 I
    go_wp2_with fail
    have A0:=zh o.out.1
    have j0:=zh o.out.2.1
    have R:=zh o.out.2.2.1
    have k0:Hid (∀ m,val W64 m=val W64 l*p+c→val W64 m*10^(d.extract (z+1) d.size).size+zK (bytes (d.extract (z+1) d.size))=T):=by
     intro m hm
     rw[hm,u.out,i0.out,← o.out.2.2.2.1]
     have S:bytes d=(bytes d).take (z+1) ++ (bytes d).drop (z+1):=(qE _ _).symm
     conv=>rhs;rw[S,bJ,← hJ.out.1]
     rw[tC,zT,hJ.out.2,vC,uH,← uW,sD]
     congr 3
     omega
    have J:Hid ((bytes (d.extract (z+1) d.size)).all zX=true):=by
     unfold Hid
     rw[i0.out,vI]
     intro x hx
     exact vI.1 o.out.2.2.2.2.1 _ (pC hx)
    have B0:=zh o.out.2.2.2.2.2.1
    have F:=zh o.out.2.2.2.2.2.2
    have K:(d.extract (z+1) d.size).size≤1099511627776:=by rw[u.out];omega
    have B:Hid ((d.extract (z+1) d.size).size<d.size):=by rw[Hid,u.out];omega
    generalize d.extract (z+1) d.size=d2 at *
    have a1:=Y
    have C0:Hid (c<W64):=by unfold Hid;rw[zR];omega
    have l0:Hid (p<W64):=by unfold Hid;rw[zR];omega
    have D0:Hid (1≤p):=by unfold Hid;omega
    go_loopw [9,44] (fun v9 E0 wx=>∃ (k q:Nat) (m:List Nat),k≤l.length∧E0=.int .i64 (k:Int)∧v9=.int .u64 (q:Int)∧Hid (iZ l p c k m q)∧Hid (Buf .u64 207 wx A f m)∧Hid (Fr (xQ A) wB wx)) (fun _ v _=>l.length-(intOf v).toNat)
    case atStart=>exact⟨0,c,l,qO,rfl,rfl,iZ.start j0.out C0.out,A0.out.ext HX.out,Fr.refl _ _⟩
    case round =>
     obtain⟨k,q,m,hk,rfl,rfl,U,X,hF⟩:=hrel
     have g:m.length=l.length:=U.out.1
     by_cases N:k<l.length
     ·obtain⟨b,rfl,hO,hC,m0,n0⟩:=X.out.open_ (by intro e;rw[e] at g;simp at g;omega)
      obtain⟨y,O⟩:=yE (m[k]?.getD 0)
      have V:=hO.cell (i:=k) qO
      rw[O] at V
      have P0:=hO.frozen k
      have F0:Hid (y<W64):=O ▸ U.out.2.2.1.getD zP k
      have G0:=zh (U.out.step N O l0.out)
      have o0:=fun v=>Buf.set_ hO hC m0 n0 k v qO
      have H0:=zh o0
      have I0:=zh U.out.2.2.2.1
      have J0:=hO.lt
      have Q0:b≠wr.heap.size:=qO
      have C:=zh g
      clear hO hC m0 n0 O o0 g
      go_wp2_with (go_at_call 201;refine (kN y p q _ F0.out l0.out I0.out).mono ?_;rintro e w' ⟨rfl,rfl⟩)
      go_roundw
      case rel=>exact⟨k+1,_,_,qO,by go_num,rfl,G0.out,H0.out _,hF.out.setCell (p:=⟨b,k,none⟩) (Or.inl ⟨_,rfl,rfl⟩) _⟩
      case measure=>simp[intOf];omega
     obtain rfl:k=l.length:=qO
     have W:Hid (Ext w wr):=(B0.out.trans HX.out).next hF.out (fun i hi M=>by have:=F.out i M;omega)
     by_cases hq:q=0
     ·subst hq
      obtain⟨S,h2⟩:=U.out.zero R.out D0.out
      have D:Hid (ZfX w wr T d2 A f m):=⟨X.out,U.out.2.2.1,S,k0.out m h2,J.out,W.out,F.out⟩
      have C:=zh g
      clear S h2 g
      go_wp2
      go_roundw
      case rel=>exact⟨d2,A,f,m,rfl,by rw[C.out],K,D.out⟩
      case measure=>exact B.out
     have b1:((q:Int) != 0)=true:=by simp;omega
     obtain⟨S,h2,h3⟩:=U.out.more hq
     have E:Hid (Trim (m ++ [q])∧Dig W64 (m ++ [q])∧val W64 (m ++ [q])=val W64 l*p+c):=⟨S,h2,h3⟩
     have C:=zh g
     have K0:Hid (zH .u64 (wr.alloc (.cells #[.int .u64 (q:Int)] 207)) (some ⟨wr.heap.size,0,none⟩) [q]):=(Own.new wr 207 .u64 [q] []).shows0
     clear S h2 h3 g hq
     go_wp2_with (at_builtin;refine Hid.out ?_)
     refine zh ?_
     refine lA rfl _ _ _ rfl _ .u64 8 underlying83 eL A (some ⟨wr.heap.size,0,none⟩) l.length 1 f 1 rfl rfl m [q] C.out rfl (X.out.ext ((Fr.refl _ _).alloc _)) K0.out (by simp only[maxLen];omega) qO ?_
     intro A1 L w2 p0 q0 r0
     have D:Hid (ZfX w w2 T d2 A1 L (m ++ [q])):=by
      refine⟨p0,E.out.2.1,E.out.1,k0.out _ E.out.2.2,J.out,?_,?_⟩
      ·exact (W.out.alloc _).next q0 (fun i hi M=>by have:=F.out i M;omega)
      intro b M
      rcases r0 b M with h|h
      ·exact F.out b h
      have:=W.out.size;simp at h;omega
     clear p0 q0 r0
     go_wp2
     go_roundw
     case rel=>exact⟨d2,A1,L,m ++ [q],rfl,by rw[uN,C.out];rfl,K,D.out⟩
     case measure=>exact B.out
  have h0:d.size=0:=qO
  obtain⟨X,hD,s0,hV,_,Q,hN⟩:=o.out
  have t0:bytes d=[]:=tG.1 (by rw[zT];exact h0)
  rw[h0,t0,tX,sU] at hV
  have HB:=zh X
  have L0:=zh hD
  have R:=zh s0
  have HV:Hid (val W64 l=T):=by unfold Hid;rw[←hV];rfl
  have HE:=zh Q
  clear X hD s0 hV Q hN h0 t0
  go_wp2
  go_ret
  exact⟨_,rfl,⟨A,l,f,rfl,HB.out.len,HB.out.shows,L0.out,R.out,HV.out⟩,HE.out⟩
theorem ZgL (d:ByteArray)(w:World)(T:Nat)(a:(bytes d).all zX=true)(b:zK (bytes d)=T)(g:wl T≤1048576)(h:d.size≤1099511627776) :
 yA 152 #[.string d,.slice none 0 0] w (lH w T):=by
 have i:=zh a
 have j:=zh b
 clear a b
 go_enter func152,ntmps152
 go_wp2
 go_loop [5] (fun v=>v=.int .i64 (-1)) (fun _=>0)
 case atStart=>rfl
 case round =>
  subst hrel
  go_wp2_with fail
  refine (ZfY d _ T i.out j.out g h).mono ?_
  rintro e m ⟨n,rfl,c,f⟩
  have k:=zh c
  have l:=zh f
  clear c f
  go_wp2
  go_ret
  exact⟨_,rfl,k.out,l.out⟩
theorem Zbc {n k m:Nat}(h:n<10^k)(a:k≤m):wl n≤m:=by
 rw[jC]
 have b:10^k≤W64^k:=sZ (by rw[zR];omega) k
 have c:W64^k≤W64^m:=vE zP a
 exact uS h (uD b c)
def ZcE (n:Nat):Prop:=n≤570
theorem ZgM (d:ByteArray)(w:World)(a:(bytes d).all zX=true)(g:ZcE d.size) :
 yA 108 #[.string d] w (lH w (zK (bytes d))):=by
 unfold ZcE at g
 have h:wl (zK (bytes d))≤1048576:=Zbc (by have:=kJ (bytes d) a;rw[zT] at this;exact this) qO
 generalize b:zK (bytes d)=T at *
 have i:=zh a
 have j:=zh b
 clear a b
 go_enter func108,ntmps108
 go_wp2_with fail
 refine (ZgL d _ T i.out j.out h qO).mono ?_
 rintro e m ⟨n,rfl,c,f⟩
 have k:=zh c
 have l:=zh f
 clear c f
 go_wp2
 go_ret
 exact⟨_,rfl,k.out,l.out⟩
theorem ZdE (d:ByteArray)(w:World)(i:(bytes d).all zX=true)(j:ZcE d.size) :
 yA 65 #[.string d] w (ZfE w (zK (bytes d):Int)):=by
 generalize k:zK (bytes d)=T
 have l:=zh i
 have m:=zh j
 have n:=zh k
 clear i k j
 go_enter func65,ntmps65
 go_wp2_with fail
 generalize a:World.alloc w _=wb
 have f:Hid (Blk 156 wb w.heap.size #[.bool false,.slice none 0 0]):=a ▸ Blk.new _ _ _
 have o:Hid (Ext w wb):=a ▸ (Fr.refl _ _).alloc _
 clear a
 refine (ZgM d _ l.out m.out).mono ?_
 rw[n.out]
 rintro e p ⟨q,rfl,b,c⟩
 obtain⟨r,s,t,rfl⟩:=b.slice
 obtain⟨u,v,x,y⟩:=(f.out.ext c).cell2
 have g:=zh b
 have h:=zh c
 clear b c
 go_wp2
 exact ZkD (neg:=false) rfl rfl qO o.out f.out h.out g.out rfl rfl
def ZkL (cs:Array Value):Prop:=∀ (i:Nat) (k:Int),cs[i]? ≠ some (.int .u64 k)
theorem zL.other {t:TypeId}{w w':World}{r n:Nat}{u:Value}{cs:Array Value}(h:zL w u n)(d:Blk t w r cs)(f:ZkL cs)(j:Fr (fun i=>i=r) w w'):zL w' u n:=by
 obtain⟨k,xs,l,m,o,c,p⟩:=h
 refine⟨k,xs,l,m,o,?_,p⟩
 cases xs with
 | nil=>exact zH.nil
 | cons x xs =>
  refine c.fr j (fun y b q e=>?_)
  obtain⟨g,s,v,_,a⟩:=c.at (i:=0) qS
  rw[v] at b
  injection b with b
  subst b
  simp at e
  subst e
  rw[d.cell] at a
  exact f _ _ a
theorem Blk.cell4 {t:TypeId}{w:World}{g:Nat}{x y z u:Value}(h:Blk t w g #[x,y,z,u]):w.cell? ⟨g,0,none⟩=some x∧w.cell? ⟨g,1,none⟩=some y∧w.cell? ⟨g,2,none⟩=some z∧w.cell? ⟨g,3,none⟩=some u∧w.frozen? ⟨g,0,none⟩=false∧w.frozen? ⟨g,1,none⟩=false∧w.frozen? ⟨g,2,none⟩=false∧w.frozen? ⟨g,3,none⟩=false :=
 ⟨h.cell 0,h.cell 1,h.cell 2,h.cell 3,h.frozen 0,h.frozen 1,h.frozen 2,h.frozen 3⟩
def denF (q:Rat):Int:=if q.den=1 then 0 else (q.den:Int)
def xW (l:List UInt8):Option Rat :=
 match wZ l with
 | (_,_,_,false)=>none
 | (neg,num,den,true) =>
  if den=[] then some ((sg neg (zK num):Int):Rat)
  else if Nat.gcd (zK num) (zK den)=1 then some (mkRat (sg neg (zK num)) (zK den)) else none
theorem jR {p:UInt8→Bool}(l:List UInt8):(l.takeWhile p).all p=true:=by
 induction l with
 | nil=>rfl
 | cons x l ih =>
  rw[oK]
  split
  ·rename_i h;simp[h]
  rfl
theorem bK {l num den:List UInt8}{neg c:Bool}(h:wZ l=(neg,num,den,c)):num.all zX=true∧den.all zX=true∧num.length+den.length≤l.length:=by
 have d:(xE l).2.length≤l.length:=by unfold xE;split<;>simp
 have a:((xE l).2.takeWhile zX).length+((xE l).2.dropWhile zX).length=(xE l).2.length:=by
  rw[←uN,pG]
 have b:=(List.takeWhile_sublist zX (l:=((xE l).2.dropWhile zX).tail)).length_le
 have e:((xE l).2.dropWhile zX).tail.length≤((xE l).2.dropWhile zX).length:=qS
 unfold wZ at h
 simp only[] at h
 split at h
 ·injection h with _ h;injection h with h1 h;injection h with h2 _;subst h1 h2
  exact⟨jR _,rfl,by simp;omega⟩
 split at h
 ·injection h with _ h;injection h with h1 h;injection h with h2 _;subst h1 h2
  exact⟨jR _,rfl,by simp;omega⟩
 split at h
 ·injection h with _ h;injection h with h1 h;injection h with h2 _;subst h1 h2
  exact⟨jR _,rfl,by simp;omega⟩
 split at h
 ·injection h with _ h;injection h with h1 h;injection h with h2 _;subst h1 h2
  exact⟨jR _,rfl,by simp;omega⟩
 injection h with _ h;injection h with h1 h;injection h with h2 _;subst h1 h2
 exact⟨jR _,jR _,qO⟩
theorem ZcF {l:List UInt8}(g:l.all zX=true)(h:l≠[])(f:l.head? ≠ some 48):1≤zK l∧(2≤zK l∨l=[49]):=by
 cases l with
 | nil=>exact absurd rfl h
 | cons c l =>
  rw[rV,tD] at g
  have k:=dP g.1
  have m:c.toNat≠48:=fun e=>f (by simp;exact UInt8.toNat.inj e)
  rw[ZbT]
  have i:1≤10^l.length:=uY qO
  have j:1*10^l.length≤(c.toNat-48)*10^l.length:=uE _ qO
  refine⟨qO,?_⟩
  cases l with
  | nil =>
   by_cases e:c.toNat=49
   ·right;rw[UInt8.toNat.inj (a:=c) (b:=49) e]
   left;simp[zK];omega
  | cons d l =>
   left
   rw[sB,uP] at j ⊢
   have i:1≤10^l.length:=uY qO
   omega
theorem ZfZ {l num den:List UInt8}{neg:Bool}(h:wZ l=(neg,num,den,true)):(den≠[]→2≤zK den)∧(zK num=0→neg=false∧den=[]):=by
 have b:=bK h
 unfold wZ at h
 simp only[] at h
 split at h
 ·rename_i f
  injection h with h0 h;injection h with h1 h;injection h with h2 h3;subst h0 h1 h2
  simp at h3
  exact⟨fun h=>absurd rfl h,fun _=>⟨h3.1,rfl⟩⟩
 rename_i g
 split at h
 ·injection h with _ h;injection h with h1 h;injection h with h2 h3;cases h3
 rename_i d
 have a:zK ((xE l).2.takeWhile zX)≠0:=by
  have:=(ZcF (jR (p:=zX) (xE l).2) (fun e=>d (Or.inl e)) (fun e=>d (Or.inr e))).1
  omega
 split at h
 ·injection h with _ h;injection h with h1 h;injection h with h2 _;subst h1 h2
  exact⟨fun h=>absurd rfl h,fun e=>absurd e a⟩
 split at h
 ·injection h with _ h;injection h with h1 h;injection h with h2 h3;cases h3
 injection h with _ h;injection h with h1 h;injection h with h2 h3;subst h1
 rw[h2] at h3
 simp at h3
 refine⟨fun c=>?_,fun e=>absurd e a⟩
 rcases (ZcF b.2.1 c h3.1.2).2 with h|h
 ·exact h
 exact absurd h h3.2
theorem Zkc {z:Int}{d:Nat}(c:2≤d)(a:Nat.gcd z.natAbs d=1):(mkRat z d).num=z∧denF (mkRat z d)=(d:Int):=by
 have b:mkRat z d=⟨z,d,qO,a⟩:=by
  rw[←Rat.normalize_eq_mkRat qO]
  exact Rat.normalize_eq_mk' z d qO a
 rw[b]
 refine⟨rfl,?_⟩
 unfold denF
 simp
 omega
theorem ZoN {a p:Nat}:(a:Int).tmod (p:Int)=((a%p:Nat):Int):=by
 rw[tY qO,nG]
end Go.Proofs.YtdlgidnkmbklcaaGreatDoor
namespace Go.Proofs.YtdlgidnkmbklcaaGreatDoor
theorem dS {q:Rat}(h:q.den=1):denF q=0:=by unfold denF;rw[uZ h]
theorem fJ {q:Rat}(h:¬ q.den=1):denF q=(q.den:Int):=by unfold denF;rw[uQ h]
end Go.Proofs.YtdlgidnkmbklcaaGreatDoor
namespace Go.Proofs.YtdlgidnkmbklcaaGreatDoor
open Go.RowKit Tryz
theorem ZdS {c:UInt8}(h:zX c=true):48≤c.toNat∧c.toNat≤57:=by
 unfold zX at h
 simpa using h
theorem Zkk {s:ByteArray}(h:(bytes s).all zX=true){k:Nat}(a:k<s.size):zX s[k]=true:=by
 have b:=vI.1 h ((bytes s)[k]'(by rw[zT];exact a)) (tZ _)
 rwa [ZcD s a] at b
theorem ZbE (s:ByteArray)(w:World)(o:(bytes s).all zX=true)(y:s.size≤9) :
 yA 104 #[.string s] w fun e w'=>e=.returned (.int .i64 (zK (bytes s):Int))∧w=w':=by
 have p:=zh o
 clear o
 go_enter func104,ntmps104
 go_wp2
 go_loop [3,7] (fun n i=>∃ k m:Nat,k≤s.size∧i=.int .i64 (k:Int)∧n=.int .i64 (m:Int)∧m≤1000000000∧Hid (m=zK ((bytes s).take k))) (fun _ i=>s.size-(intOf i).toNat)
 case atStart=>exact⟨0,0,uT _,rfl,rfl,qO,by unfold Hid;simp[zK]⟩
 case round =>
  obtain⟨k,m,z,rfl,rfl,A,q⟩:=hrel
  by_cases b:k<s.size
  ·have B:=ZdS (Zkk p.out b)
   have c:=Zax s k b
   have a:Hid (10*m+(s[k].toNat-48)=zK ((bytes s).take (k+1))):=by
    unfold Hid;rw[c,eY,← q.out]
   have f:zK ((bytes s).take (k+1))<10^((bytes s).take (k+1)).length:=kJ _ (by
    rw[vI];intro x r;exact vI.1 p.out x (sR r))
   have j:10^((bytes s).take (k+1)).length≤10^9:=vE qO (by rw[uM,zT];omega)
   have g:10*m+(s[k].toNat-48)≤1000000000:=by
    rw[a.out];omega
   have t:IntKind.u8.wrap ((s[k].toNat:Int)-48)=((s[k].toNat-48:Nat):Int):=by rw[IntKind.wrap_u8];omega
   have l:((s[k].toNat:Int)-48)%256=((s[k].toNat-48:Nat):Int):=qO
   obtain⟨d,u⟩:=yE (s[k].toNat-48)
   rw[u] at a g t l
   clear c f j
   go_wp2
   go_round
   case rel=>exact⟨k+1,10*m+d,qO,by go_num,by go_num,g,a⟩
   case measure=>simp[intOf];omega
  have v:Hid ((m:Nat)=zK (bytes s)):=by
   have h:=q.out
   rw[uA (by rw[zT];omega)] at h
   exact h
  go_wp2
  go_ret
  exact⟨by rw[←v.out];rfl,rfl⟩
theorem ZnH (a b:Nat)(w:World)(ha:a≤9223372036854775807)(k:b≤9223372036854775807) :
 yA 105 #[.int .i64 (a:Int),.int .i64 (b:Int)] w fun e w'=>e=.returned (.int .i64 (Nat.gcd a b:Int))∧∃ n,w'=w.drewN n:=by
 obtain⟨G,d⟩:=yE (Nat.gcd a b)
 rw[d]
 have l:=zh d
 clear d
 go_enter func105,ntmps105
 go_wp2
 go_loopw [0,1] (fun m f wr=>∃ x y n:Nat,m=.int .i64 (x:Int)∧f=.int .i64 (y:Int)∧x≤9223372036854775807∧y≤9223372036854775807∧Hid (Nat.gcd x y=G)∧wr=w.drewN n) (fun _ f _=>(intOf f).toNat)
 case atStart=>exact⟨a,b,0,rfl,rfl,ha,k,l,rfl⟩
 case round =>
  obtain⟨x,y,n,rfl,rfl,t,o,i,rfl⟩:=hrel
  by_cases g:y=0
  ·subst g
   have p:Hid (x=G):=by have:=i.out;rwa [qH] at this
   go_wp2
   go_ret
   exact⟨by rw[←p.out];rfl,n,rfl⟩
  have u:((y:Int) != 0)=true:=by simp;omega
  have v:((y:Int) == 0)=false:=by simp;omega
  have z:y≠0:=g
  have q:(x:Int).tmod (y:Int)=((x%y:Nat):Int):=ZoN
  have s:(x:Int)%(y:Int)=((x%y:Nat):Int):=rfl
  have h:x%y<y:=uO _ qO
  have c:Hid (Nat.gcd y (x%y)=G):=by
   unfold Hid;rw[←i.out,sL x y,pS y x,sL]
  obtain⟨r,j⟩:=yE (x%y)
  rw[j] at q s h c
  clear j g
  go_wp2_with fail
  go_region
  all_goals
   go_wp2
   go_roundw
   case rel=>exact⟨y,r,n+1,rfl,rfl,o,qO,c,rfl⟩
   case measure=>simp[intOf];omega
def ZaU (l:List UInt8) (a b:Int) (ok:Bool):Prop :=
 (ok=true∧∃ q:Rat,xW l=some q∧q.num=a∧(q.den:Int)=b ∧ -1000000000<a∧a<1000000000∧1≤b∧b<1000000000)∨(ok=false∧a=0∧b=0)
def Zfi (w:World) (l:List UInt8) (e:Ending) (w':World):Prop :=
 ∃ a b ok,e=.returned (.tuple #[.agg #[.int .i64 a,.int .i64 b],.bool ok])∧ZaU l a b ok∧Ext w w'
theorem fF {fn:Func}{c:Array Value}{w wz:World}{r:Nat}{a b:Int}{e:Bool}{l:List UInt8}(d:fn.results=#[.cell 2 148,.tmp 3])(f:c[2]? = some (.pointer (some ⟨r,0,none⟩)))(g:c[3]? = some (.bool e))(h:Blk 148 wz r #[.int .i64 a,.int .i64 b])(Q:Ext w wz)(i:ZaU l a b e):bodyPost prog fn (Zfi w l) .ret ⟨c,[]⟩ wz:=by
 obtain⟨j,k,_,_⟩:=h.cell2
 refine bodyPost_ret (v:=.tuple #[.agg #[.int .i64 a,.int .i64 b],.bool e]) (by simp[results,d,f,g,go_sem,j,k]) rfl ⟨a,b,e,rfl,i,Q⟩
theorem ZhA {t:ByteArray}(a:(bytes t).all zX=true)(b:t.size≤9):zK (bytes t)<1000000000:=by
 have c:=kJ _ a
 have d:10^(bytes t).length≤10^9:=vE qO (by rw[zT];exact b)
 omega
theorem Zkl {l:List UInt8}{neg:Bool}{t d:ByteArray}(a:wZ l=(neg,bytes t,bytes d,true))(b:bytes d=[])(c:zK (bytes t)<1000000000):ZaU l (sg neg (zK (bytes t))) 1 true:=by
 refine Or.inl ⟨rfl,((sg neg (zK (bytes t)):Int):Rat),?_,rfl,rfl,?_,?_,qO,qO⟩
 ·unfold xW;rw[a];simp only[];rw[uZ b]
 ·show _<sg neg _
  unfold sg;split<;>omega
 show sg neg _<_
 unfold sg;split<;>omega
theorem Zmd {l:List UInt8}{neg:Bool}{t d:ByteArray}(b:wZ l=(neg,bytes t,bytes d,true))(c:bytes d≠[])(e:Nat.gcd (zK (bytes t)) (zK (bytes d))=1)(j:zK (bytes t)<1000000000)(f:zK (bytes d)<1000000000) :
 ZaU l (sg neg (zK (bytes t))) (zK (bytes d)) true:=by
 have g:=(ZfZ b).1 c
 have h:(sg neg (zK (bytes t))).natAbs=zK (bytes t):=by unfold sg;split<;>omega
 obtain⟨i,a⟩:=Zkc (z:=sg neg (zK (bytes t))) g (by rw[h];exact e)
 refine Or.inl ⟨rfl,_,?_,i,?_,?_,?_,qO,qO⟩
 ·unfold xW;rw[b];simp only[];rw[uQ c,uZ e]
 ·unfold denF at a
  split at a
  ·omega
  exact a
 ·unfold sg;split<;>omega
 unfold sg;split<;>omega
theorem aE {T:TypeId}{w c:World}{r0:Nat}{x y:Value}(e:Blk T c r0 #[x,y])(Q:Ext w c)(d:w.heap.size=r0)(a b:Value) :
 Blk T ((c.setCell ⟨r0,0,none⟩ a).setCell ⟨r0,1,none⟩ b) r0 #[a,b]∧Ext w ((c.setCell ⟨r0,0,none⟩ a).setCell ⟨r0,1,none⟩ b) :=
 ⟨(e.set_ 0 _).set_ 1 _,(Q.setCell (Or.inr (by rw[d];exact uF _)) _).setCell (Or.inr (by rw[d];exact uF _)) _⟩
theorem Zh6 (s:ByteArray)(w:World)(O:s.size≤1099511627776):yA 63 #[.string s] w (Zfi w (bytes s)):=by
 by_cases P:20<s.size
 ·go_enter func63,ntmps63
  go_wp2
  exact fF rfl rfl rfl (Blk.new w _ _) ((Fr.refl _ _).alloc _) (Or.inr ⟨rfl,rfl,rfl⟩)
 have H:decide ((20:Int)<(s.size:Int))=false:=by simp;omega
 go_enter func63,ntmps63
 go_wp2_with fail
 generalize l:World.alloc w _=wb
 have I:Hid (Blk 148 wb w.heap.size #[.int .i64 0,.int .i64 0]):=l ▸ Blk.new _ _ _
 have J:Hid (Ext w wb):=l ▸ (Fr.refl _ _).alloc _
 clear l
 refine (Zhi s wb O).mono ?_
 rintro e n ⟨neg,t,d,ok,rfl,x,m⟩
 have a:=zh (I.out.ext m)
 have b:=zh (J.out.trans m)
 have K:=zh x
 obtain⟨g,k,y⟩:=bK x
 rw[zT,zT,zT] at y
 have L:=zh g
 have M:=zh k
 clear I J m x g k
 generalize o:w.heap.size=r0 at *
 have Q:=a.out.lt
 have c:=zh o
 clear o
 obtain⟨Z,x1,x2,x3⟩:=a.out.cell2
 have f:Hid (Blk 148 (((n.setCell ⟨r0,0,none⟩ (.int .i64 0)).setCell ⟨r0,1,none⟩ (.int .i64 0)).alloc (.cells #[.bool neg,.string t,.string d] 152)) r0 #[.int .i64 0,.int .i64 0]∧Ext w (((n.setCell ⟨r0,0,none⟩ (.int .i64 0)).setCell ⟨r0,1,none⟩ (.int .i64 0)).alloc (.cells #[.bool neg,.string t,.string d] 152))) :=
  ⟨((a.out.set_ 0 _).set_ 1 _).alloc _,((b.out.setCell (Or.inr (by rw[c.out];exact uF _)) _).setCell (Or.inr (by rw[c.out];exact uF _)) _).alloc _⟩
 cases ok with
 | false =>
  go_wp2
  exact fF rfl rfl rfl f.out.1 f.out.2 (Or.inr ⟨rfl,rfl,rfl⟩)
 | true =>
  by_cases R:9<t.size
  ·go_wp2
   exact fF rfl rfl rfl f.out.1 f.out.2 (Or.inr ⟨rfl,rfl,rfl⟩)
  have S:decide ((9:Int)<(t.size:Int))=false:=by simp;omega
  by_cases T:9<d.size
  ·go_wp2
   exact fF rfl rfl rfl f.out.1 f.out.2 (Or.inr ⟨rfl,rfl,rfl⟩)
  have U:decide ((9:Int)<(d.size:Int))=false:=by simp;omega
  clear f
  go_wp2_with fail
  have V:=zh (fun W=>ZbE t W L.out qO)
  have z:=zh (fun W=>ZbE d W M.out qO)
  have p:=ZhA L.out qO
  have A:=ZhA M.out qO
  have N:=zh (fun (h:bytes d=[])=>Zkl K.out h p)
  have B:=zh (fun (h:bytes d≠[]) X=>Zmd K.out h X p A)
  generalize zK (bytes t)=nt at *
  generalize zK (bytes d)=nd at *
  refine (V.out _).mono ?_
  rintro e w2 ⟨rfl,rfl⟩
  by_cases j:bytes d=[]
  ·have g:d.toList=[]:=by rw[Lib.toList_data];exact j
   have k:(!d.toList.isEmpty)=false:=by rw[g];rfl
   cases neg with
   | false =>
    have q:=aE a.out b.out c.out (.int .i64 (nt:Int)) (.int .i64 1)
    have r:=zh q
    clear q
    go_wp2
    exact fF rfl rfl rfl ((r.out.1.alloc _).alloc _) ((r.out.2.alloc _).alloc _) (N.out j)
   | true =>
    have q:=aE a.out b.out c.out (.int .i64 (-(nt:Int))) (.int .i64 1)
    have r:=zh q
    clear q
    go_wp2
    exact fF rfl rfl rfl ((r.out.1.alloc _).alloc _) ((r.out.2.alloc _).alloc _) (N.out j)
  have g:d.toList≠[]:=by rw[Lib.toList_data];exact j
  have k:d.toList.isEmpty=false:=by simpa using g
  go_wp2_with fail
  refine (z.out _).mono ?_
  rintro e Y ⟨rfl,rfl⟩
  have u:=zh (fun W=>ZnH nt nd W qO qO)
  obtain⟨G,C⟩:=yE (Nat.gcd nt nd)
  rw[C] at u
  have D:=zh C
  clear C
  go_wp2_with fail
  refine (u.out _).mono ?_
  rintro e Y ⟨rfl,i,rfl⟩
  by_cases E:G=1
  ·have F:((G:Int) != 1)=false:=by simp;omega
   have v:=zh (B.out j (by rw[D.out,E]))
   cases neg with
   | false =>
    go_wp2
    exact fF rfl rfl rfl (aE (((a.out.alloc _).alloc _).drewN i) (((b.out.alloc _).alloc _).drewN i) c.out _ _).1 (aE (((a.out.alloc _).alloc _).drewN i) (((b.out.alloc _).alloc _).drewN i) c.out _ _).2 v.out
   | true =>
    go_wp2
    refine fF rfl rfl rfl (aE (w:=w) ((((a.out.alloc _).alloc _).drewN i).far (by show r0≠n.heap.size+1;omega) _) ?_ c.out _ _).1 (aE ((((a.out.alloc _).alloc _).drewN i).far (by show r0≠n.heap.size+1;omega) _) ?_ c.out _ _).2 v.out
    ·exact (((b.out.alloc _).alloc _).drewN i).setCell (Or.inr (by have:=b.out.size;show _≤n.heap.size+1;omega)) _
    exact (((b.out.alloc _).alloc _).drewN i).setCell (Or.inr (by have:=b.out.size;show _≤n.heap.size+1;omega)) _
  have F:((G:Int) != 1)=true:=by simp;omega
  go_wp2
  exact fF rfl rfl rfl (aE (((a.out.alloc _).alloc _).drewN i) (((b.out.alloc _).alloc _).drewN i) c.out _ _).1 (aE (((a.out.alloc _).alloc _).drewN i) (((b.out.alloc _).alloc _).drewN i) c.out _ _).2 (Or.inr ⟨rfl,rfl,rfl⟩)
theorem pu10:∀ (l:List UInt8) (a:Nat),l.all zX=true→a*10^l.length+zK l<18446744073709551616→Lib.parseUint10 a l=.ok (a*10^l.length+zK l)
 | [],a,_,_=>by simp[Lib.parseUint10,zK]
 | c :: l,a,h,hb=>by
  simp only[rV,tD] at h
  obtain⟨b,g⟩:=dP h.1
  have d:0<10^l.length:=uY qD
  have e:a*10^(c :: l).length+zK (c :: l)=(a*10+(c.toNat-48))*10^l.length+zK l:=by
   rw[ZbT,sB,uP,vC,uH,uG 10 (10^l.length),sD]
  rw[e] at hb ⊢
  have i:(a*10+(c.toNat-48))*1≤(a*10+(c.toNat-48))*10^l.length:=uI _ d
  have f:=pu10 l (a*10+(c.toNat-48)) h.2 hb
  rw[Lib.parseUint10,uZ ⟨b,qO⟩,uQ qO,uQ qO]
  exact f
structure PaR (T:Nat) (d:List UInt8) (xs:List Nat):Prop where
 dig:Dig W64 xs
 trim:Trim xs
 eq:val W64 xs*10^d.length+zK d=T
 all:d.all zX=true
 by19:xs=[]∨d.length%19=0
theorem PaR.start {T:Nat}{d:List UInt8}(h:d.all zX=true)(a:zK d=T):PaR T d []:=⟨Dig.nil,Trim.nil,by simpa using a,h,Or.inl rfl⟩
theorem PaR.len {T:Nat}{d:List UInt8}{xs:qN}(h:PaR T d xs):xs.length≤wl T:=by
 rw[xR h.dig h.trim]
 apply lV
 have:val W64 xs*1≤val W64 xs*10^d.length:=uI _ (uY qD)
 have:=h.eq
 omega
theorem PaR.done {T:Nat}{xs:qN}(h:PaR T [] xs):val W64 xs=T:=by
 have:=h.eq
 simpa [zK] using this
theorem PaR.chunk {T z:Nat}{d:List UInt8}{xs:qN}(h:PaR T d xs)(c:0<d.length)(e:(d.length-1)%19=z):zK (d.take (z+1))<10000000000000000000:=by
 have a:=kJ (d.take (z+1)) (by
  rw[vI];intro x b
  exact vI.1 h.all _ (sR b))
 have f:=nN (d.length-1) 19
 rw[uM,uU qO] at a
 have:=ZpP (n:=z+1) qO
 omega
theorem PaR.step {T z c:Nat}{d:List UInt8}{xs m:qN}(h:PaR T d xs)(q:0<d.length)(r:(d.length-1)%19=z)(i:iZ xs 10000000000000000000 (zK (d.take (z+1))) xs.length m c) :
 PaR T (d.drop (z+1)) (if c=0 then m else m ++ [c]):=by
 have s:=nN (d.length-1) 19
 have b:(val W64 xs*10000000000000000000+zK (d.take (z+1)))*10^(d.drop (z+1)).length+zK (d.drop (z+1))=T:=by
  have k:d=d.take (z+1) ++ d.drop (z+1):=(qE _ _).symm
  have l:=h.eq
  have n:val W64 xs*10000000000000000000=val W64 xs*10^(z+1):=by
   rcases h.by19 with e|e
   ·rw[e];simp
   rw[show z+1=19 by omega]
  rw[n,← l]
  conv=>rhs;rw[k,bJ]
  rw[vC,uH,← uW,sD]
  congr 3
  rw[uN,uM,uU qO]
 have a:(d.drop (z+1)).all zX=true:=by
  rw[vI];intro x o
  exact vI.1 h.all _ (pC o)
 have f:(d.drop (z+1)).length%19=0:=by rw[tC];omega
 by_cases g:c=0
 ·rw[uZ g]
  subst g
  obtain⟨k1,j⟩:=i.zero h.trim qD
  exact⟨i.2.2.1,k1,by rw[j];exact b,a,Or.inr f⟩
 rw[uQ g]
 obtain⟨k1,j,p⟩:=i.more g
 exact⟨j,k1,by rw[p];exact b,a,Or.inr f⟩
end Go.Proofs.YtdlgidnkmbklcaaGreatDoor
