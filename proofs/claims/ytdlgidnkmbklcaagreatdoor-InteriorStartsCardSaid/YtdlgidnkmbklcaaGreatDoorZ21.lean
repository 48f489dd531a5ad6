/-
 My texts.
-/
import Derived.Test.YtdlgidnkmbklcaaGreatDoorZ19
set_option maxRecDepth 100000
set_option maxHeartbeats 8000000
namespace Go.Proofs.YtdlgidnkmbklcaaGreatDoor
open Go.RowKit Tryz
theorem wC.le {x y:Int}(h:wC x)(a:y.natAbs≤x.natAbs):wC y:=uD (iM a) h
theorem wC.gcd {x y:Int}(h:wC y)(a:y≠0):wC (Int.gcd x y:Int):=h.le (by
 have:Int.gcd x y≤y.natAbs:=oC _ qO
 omega)
theorem wC.tdiv {x y:Int}(h:wC x):wC (x.tdiv y):=h.le (by rw[Int.natAbs_tdiv];exact vG _ _)
theorem ZcR {x y:Int}(h:0<y):0<Int.gcd x y:=by
 rcases uJ (Int.gcd x y) with e|e
 ·have:=(Int.gcd_eq_zero_iff.1 e).2;omega
 exact e
theorem dX {w w':World}{e:Ending}{a b:Int}(h:Zef w a b e w'):lG Zay (fun x w=>zN w (wN x.1) a∧zN w (wN x.2) b) w e w':=by
 obtain⟨u,v,rfl,d,f,Q⟩:=h
 obtain⟨s,A,l,c,rfl⟩:=d.shp
 obtain⟨j,k,m,n,rfl⟩:=f.shp
 exact⟨((s,A,l,c),(j,k,m,n)),rfl,Q,boxn Q (fun S o g i=>⟨d.nrb g i,f.nrb g i⟩)⟩
theorem nfit {z:Int}{k:Nat}(h:ml z.natAbs≤k)(a:Nat.ble k 17592186044416=true):wC z:=uD h (vS a)
theorem mlc {n k:Nat}(h:ml n≤k):ml ((n:Nat):Int).natAbs≤k:=by rw[tQ];exact h
theorem ZhB {x y:Int}{q:Rat}(a:Rat.divInt x y=q)(b:0<y)(_:1<((Int.gcd x y:Nat):Int).natAbs):q.num=x.tdiv ((Int.gcd x y:Nat):Int)∧(q.den:Int)=y.tdiv ((Int.gcd x y:Nat):Int):=by
 rw[←a];exact Zjg b
theorem ZhC {x y:Int}{q:Rat}(b:Rat.divInt x y=q)(a:0<y)(h:¬ 1<((Int.gcd x y:Nat):Int).natAbs):q.num=x∧(q.den:Int)=y:=by
 have c:=ZcR (x:=x) a
 rw[←b];exact ZdQ a qO
theorem Zas {n:Nat}(h:(((n:Nat):Int) == 1)=true):n=1:=by have:=eq_of_beq h;omega
theorem Zat {n:Nat}(h:(((n:Nat):Int) == 1)=false):n≠1:=fun e=>by subst e;cases h
theorem ZnM (a b:Value)(x y:Int)(q:Rat)(w:World)(ha:zN w a x)(X:zN w b y)(hx:wC x)(hy:wC y)(h0:y<0)(hq:Rat.divInt x y=q) :
 yA 36 #[a,b] w (Zcc w q):=by
 obtain⟨O,P,S,T,rfl⟩:=ha.shp
 obtain⟨s1,U,V,W,rfl⟩:=X.shp
 obtain rfl:s1=true:=X.sneg h0
 have M:wC (-(x)):=hx.neg
 have t:wC (-(y)):=hy.neg
 have Y:0 < -(y):=qO
 have K:wC ((Int.gcd (-(x)) (-(y)):Nat):Int):=wC.gcd t qO
 have N:((Int.gcd (-(x)) (-(y)):Nat):Int)≠0:=by have:=ZcR (x := -(x)) Y;omega
 have Z:Rat.divInt (-(x)) (-(y))=q:=by rw[Rat.neg_divInt_neg];exact hq
 refine zV (Φ:=fun w=>(zN w (vI2 O P S T) (x)∧zN w (vI2 true U V W) (y))) func36 rfl qK (fun w' hf=>⟨ha.ext hf,X.ext hf⟩) ?_
 refine yY (xq 3 [Δ 2,Δ 3,Δ 4] [Θ 4 43,bI2 3 41 true U V W,bI2 2 41 O P S T] ?_)
 refine yZ (zD (yY (xq 2 [yB 7 true] [] ?_)))
 refine yZ (xa ?_)
 refine yO 6 zQ ?_
 refine xqg 1 [eI2 8 O P S T] ?_
 refine xqd _ _ 9 wN _ (fun w R Q=>yM kE (Zfc _ (x) _ Q.1)) fun⟨e,f,g,i⟩=>?_
 refine xqg 1 [eI2 10 true U V W] ?_
 refine xqd _ _ 11 wN _ (fun w R Q=>yM kE (Zfc _ (y) _ Q.1.2)) fun⟨j,k,l,m⟩=>?_
 refine xqf 2 [] [bI2 3 41 j k l m,bI2 2 41 e f g i,Θ 4 43,bI2 3 41 true U V W,bI2 2 41 O P S T] ?_
 refine xz (yZ (yY (xq 2 [eI2 12 e f g i,eI2 13 j k l m] [bI2 3 41 j k l m,bI2 2 41 e f g i] ?_)))
 refine xqc _ _ 14 wN _ (fun w R Q=>yM kE (Zi8 _ _ (-(x)) (-(y)) _ Q.1.2 Q.2 M t)) fun⟨C,D,E,F⟩=>?_
 refine xq 2 [Δ 5] [bI2 5 41 C D E F] ?_
 refine yZ (zD (yY (xq 1 [eI2 15 C D E F] [] ?_)))
 refine xqc _ _ 16 (fun _:Unit=>yI ((blen (((Int.gcd (-(x)) (-(y)):Nat):Int)).natAbs:Nat):Int)) _ (fun w R Q=>yN (gG _ (((Int.gcd (-(x)) (-(y)):Nat):Int)) _ Q.2 K)) fun L=>?_
 refine xq 1 [(17,.v (.bool (decide (((blen (((Int.gcd (-(x)) (-(y)):Nat):Int)).natAbs:Nat):Int)>1))))] [] ?_
 refine xe (zB ?_)
 refine zS ((decide (((blen (((Int.gcd (-(x)) (-(y)):Nat):Int)).natAbs:Nat):Int)>1))) qK (fun u=>?_) fun u=>?_
 ·have z:=ZhB Z Y (Zan.1 (by have:=uB u;omega))
  refine yY (xq 2 [eI2 19 e f g i,eI2 20 C D E F] [] ?_)
  refine xqc _ _ 21 Zay _ (fun w R Q=>yM dX (bF _ _ (-(x)) (((Int.gcd (-(x)) (-(y)):Nat):Int)) _ Q.1.1.1.2 Q.1.2 M K N)) fun L=>?_
  obtain⟨⟨n,o,r,s⟩,⟨a0,b0,d0,e0⟩⟩:=L
  refine xq 4 [] [bI2 2 41 n o r s] ?_
  refine yZ (zC (xq 2 [eI2 25 j k l m,eI2 26 C D E F] [] ?_))
  refine xqc _ _ 27 Zay _ (fun w R Q=>yM dX (bF _ _ (-(y)) (((Int.gcd (-(x)) (-(y)):Nat):Int)) _ Q.1.1.1.2 Q.1.1.2 t K N)) fun L=>?_
  obtain⟨⟨G,H,I,J⟩,⟨f0,g0,i0,j0⟩⟩:=L
  refine xr 4 [Δ 2,Δ 3,Δ 4] [bI2 2 41 n o r s,bI2 3 41 G H I J,Θ 4 43] ?_
  refine yZ (zD (yY (xq 1 [eI2 30 G H I J] [] ?_)))
  refine xqc _ _ 31 (fun _:Unit=>yI ((blen ((-(y)).tdiv (((Int.gcd (-(x)) (-(y)):Nat):Int))).natAbs:Nat):Int)) _ (fun w R Q=>yN (gG _ ((-(y)).tdiv (((Int.gcd (-(x)) (-(y)):Nat):Int))) _ Q.2.1 (wC.tdiv t))) fun L=>?_
  refine xq 1 [(32,.v (.bool ((((blen ((-(y)).tdiv (((Int.gcd (-(x)) (-(y)):Nat):Int))).natAbs:Nat):Int):Int) == 1)))] [] ?_
  refine xe (zB ?_)
  refine zS (((((blen ((-(y)).tdiv (((Int.gcd (-(x)) (-(y)):Nat):Int))).natAbs:Nat):Int):Int) == 1)) qK (fun A=>?_) fun A=>?_
  ·have c:=gF.1 (Zas A)
   refine zC (xq 2 [] [bI2 3 41 false none 0 0] ?_)
   refine yZ (yY (xq 4 [] [bR4 4 43 n o r s false none 0 0] ?_))
   refine yZ (zJ ?_)
   refine yR (.agg #[.bool n,.slice o r s,.bool false,Ξ]) fun w' R Q=>?_
   exact⟨_,rfl,xD.of (by rw[z.1];exact Q.1.1.2.1) (by rw[dS (by have:=c;have:=z.2;have:=q.den_nz;omega)];exact (zN.nil _)),R⟩
  have c:=fun h=>Zat A (gF.2 h)
  refine zG (zB (yY (xq 4 [] [bR4 4 43 n o r s G H I J] ?_)))
  refine yZ (zJ ?_)
  refine yR (vR4 n o r s G H I J) fun w' R Q=>?_
  exact⟨_,rfl,xD.of (by rw[z.1];exact Q.1.1.2.1) (by rw[fJ (fun h=>c (by have:=z.2;omega)),z.2];exact Q.1.2.1),R⟩
 have z:=ZhC Z Y (fun h=>absurd (Zan.2 h) (by have:=uC u;omega))
 refine zG (zB (zD (yY (xq 1 [eI2 30 j k l m] [] ?_))))
 refine xqc _ _ 31 (fun _:Unit=>yI (blen (-(y)).natAbs:Nat)) _ (fun w R Q=>yN (gG _ (-(y)) _ Q.1.1.2 t)) fun L=>?_
 refine xq 1 [(32,.v (.bool ((((blen (-(y)).natAbs:Nat):Int):Int) == 1)))] [] ?_
 refine xe (zB ?_)
 refine yQ (((((blen (-(y)).natAbs:Nat):Int):Int) == 1)) (fun B=>?_) fun B=>?_
 ·have d:=gF.1 (Zas B)
  refine zC (xq 2 [] [bI2 3 41 false none 0 0] ?_)
  refine yZ (yY (xr 4 [Δ 4] [bR4 4 43 e f g i false none 0 0] ?_))
  refine yZ (zJ ?_)
  refine yR (.agg #[.bool e,.slice f g i,.bool false,Ξ]) fun w' R Q=>?_
  exact⟨_,rfl,xD.of (by rw[z.1];exact Q.1.1.1.1.2) (by rw[dS (by have:=d;have:=z.2;have:=q.den_nz;omega)];exact (zN.nil _)),R⟩
 have d:=fun h=>Zat B (gF.2 h)
 refine zG (zB (yY (xq 4 [] [bR4 4 43 e f g i j k l m] ?_)))
 refine yZ (zJ ?_)
 refine yR (vR4 e f g i j k l m) fun w' R Q=>?_
 exact⟨_,rfl,xD.of (by rw[z.1];exact Q.1.1.1.1.2) (by rw[fJ (fun h=>d (by have:=z.2;omega)),z.2];exact Q.1.1.1.2),R⟩
theorem ZnN (a b:Value)(x y:Int)(q:Rat)(w:World)(ha:zN w a x)(N:zN w b y)(T:wC x)(U:wC y)(h0:0<y)(V:Rat.divInt x y=q) :
 yA 36 #[a,b] w (Zcc w q):=by
 obtain⟨C,D,E,F,rfl⟩:=ha.shp
 obtain⟨W,G,H,I,rfl⟩:=N.shp
 obtain rfl:W=false:=N.spos qO
 have L:wC (x):=T
 have j:wC (y):=U
 have O:0<y:=qO
 have J:wC ((Int.gcd (x) (y):Nat):Int):=wC.gcd j qO
 have M:((Int.gcd (x) (y):Nat):Int)≠0:=by have:=ZcR (x:=x) O;omega
 have P:Rat.divInt (x) (y)=q:=V
 refine zV (Φ:=fun w=>(zN w (vI2 C D E F) (x)∧zN w (vI2 false G H I) (y))) func36 rfl qK (fun w' S=>⟨ha.ext S,N.ext S⟩) ?_
 refine yY (xq 3 [Δ 2,Δ 3,Δ 4] [Θ 4 43,bI2 3 41 false G H I,bI2 2 41 C D E F] ?_)
 refine yZ (zD (yY (xq 2 [yB 7 false] [] ?_)))
 refine yZ (xb (zG (zB (yY (xq 2 [eI2 12 C D E F,eI2 13 false G H I] [] ?_)))))
 refine xqc _ _ 14 wN _ (fun w R Q=>yM kE (Zi8 _ _ (x) (y) _ Q.1 Q.2 L j)) fun⟨o,r,s,t⟩=>?_
 refine xq 2 [Δ 5] [bI2 5 41 o r s t] ?_
 refine yZ (zD (yY (xq 1 [eI2 15 o r s t] [] ?_)))
 refine xqc _ _ 16 (fun _:Unit=>yI ((blen (((Int.gcd (x) (y):Nat):Int)).natAbs:Nat):Int)) _ (fun w R Q=>yN (gG _ (((Int.gcd (x) (y):Nat):Int)) _ Q.2 J)) fun K=>?_
 refine xq 1 [(17,.v (.bool (decide (((blen (((Int.gcd (x) (y):Nat):Int)).natAbs:Nat):Int)>1))))] [] ?_
 refine xe (zB ?_)
 refine zS ((decide (((blen (((Int.gcd (x) (y):Nat):Int)).natAbs:Nat):Int)>1))) qK (fun k=>?_) fun k=>?_
 ·have l:=ZhB P O (Zan.1 (by have:=uB k;omega))
  refine yY (xq 2 [eI2 19 C D E F,eI2 20 o r s t] [] ?_)
  refine xqc _ _ 21 Zay _ (fun w R Q=>yM dX (bF _ _ (x) (((Int.gcd (x) (y):Nat):Int)) _ Q.1.1.1 Q.1.2 L J M)) fun K=>?_
  obtain⟨⟨e,f,g,i⟩,⟨X,Y,Z,a0⟩⟩:=K
  refine xq 4 [] [bI2 2 41 e f g i] ?_
  refine yZ (zC (xq 2 [eI2 25 false G H I,eI2 26 o r s t] [] ?_))
  refine xqc _ _ 27 Zay _ (fun w R Q=>yM dX (bF _ _ (y) (((Int.gcd (x) (y):Nat):Int)) _ Q.1.1.1.2 Q.1.1.2 j J M)) fun K=>?_
  obtain⟨⟨u,z,A,B⟩,⟨b0,d0,e0,f0⟩⟩:=K
  refine xq 4 [] [bI2 3 41 u z A B] ?_
  refine yZ (zD (yY (xq 1 [eI2 30 u z A B] [] ?_)))
  refine xqc _ _ 31 (fun _:Unit=>yI ((blen ((y).tdiv (((Int.gcd (x) (y):Nat):Int))).natAbs:Nat):Int)) _ (fun w R Q=>yN (gG _ ((y).tdiv (((Int.gcd (x) (y):Nat):Int))) _ Q.2.1 (wC.tdiv j))) fun K=>?_
  refine xq 1 [(32,.v (.bool ((((blen ((y).tdiv (((Int.gcd (x) (y):Nat):Int))).natAbs:Nat):Int):Int) == 1)))] [] ?_
  refine xe (zB ?_)
  refine zS (((((blen ((y).tdiv (((Int.gcd (x) (y):Nat):Int))).natAbs:Nat):Int):Int) == 1)) qK (fun m=>?_) fun m=>?_
  ·have c:=gF.1 (Zas m)
   refine zC (xr 2 [Δ 2,Δ 3,Δ 4] [bI2 3 41 false none 0 0,bI2 2 41 e f g i,Θ 4 43] ?_)
   refine yZ (yY (xq 4 [] [bR4 4 43 e f g i false none 0 0] ?_))
   refine yZ (zJ ?_)
   refine yR (.agg #[.bool e,.slice f g i,.bool false,Ξ]) fun w' R Q=>?_
   exact⟨_,rfl,xD.of (by rw[l.1];exact Q.1.1.2.1) (by rw[dS (by have:=c;have:=l.2;have:=q.den_nz;omega)];exact (zN.nil _)),R⟩
  have c:=fun h=>Zat m (gF.2 h)
  refine zG (zB (yY (xr 4 [Δ 4] [bR4 4 43 e f g i u z A B] ?_)))
  refine yZ (zJ ?_)
  refine yR (vR4 e f g i u z A B) fun w' R Q=>?_
  exact⟨_,rfl,xD.of (by rw[l.1];exact Q.1.1.2.1) (by rw[fJ (fun h=>c (by have:=l.2;omega)),l.2];exact Q.1.2.1),R⟩
 have l:=ZhC P O (fun h=>absurd (Zan.2 h) (by have:=uC k;omega))
 refine zG (zB (zD (yY (xq 1 [eI2 30 false G H I] [] ?_))))
 refine xqc _ _ 31 (fun _:Unit=>yI (blen (y).natAbs:Nat)) _ (fun w R Q=>yN (gG _ (y) _ Q.1.1.2 j)) fun K=>?_
 refine xq 1 [(32,.v (.bool ((((blen (y).natAbs:Nat):Int):Int) == 1)))] [] ?_
 refine xe (zB ?_)
 refine yQ (((((blen (y).natAbs:Nat):Int):Int) == 1)) (fun n=>?_) fun n=>?_
 ·have d:=gF.1 (Zas n)
  refine zC (xq 2 [] [bI2 3 41 false none 0 0] ?_)
  refine yZ (yY (xq 4 [] [bR4 4 43 C D E F false none 0 0] ?_))
  refine yZ (zJ ?_)
  refine yR (.agg #[.bool C,.slice D E F,.bool false,Ξ]) fun w' R Q=>?_
  exact⟨_,rfl,xD.of (by rw[l.1];exact Q.1.1.1.1) (by rw[dS (by have:=d;have:=l.2;have:=q.den_nz;omega)];exact (zN.nil _)),R⟩
 have d:=fun h=>Zat n (gF.2 h)
 refine zG (zB (yY (xq 4 [] [bR4 4 43 C D E F false G H I] ?_)))
 refine yZ (zJ ?_)
 refine yR (vR4 C D E F false G H I) fun w' R Q=>?_
 exact⟨_,rfl,xD.of (by rw[l.1];exact Q.1.1.1.1) (by rw[fJ (fun h=>d (by have:=l.2;omega)),l.2];exact Q.1.1.1.2),R⟩
theorem ZnO (a b:Value)(x y:Int)(w:World)(ha:zN w a x)(c:zN w b y)(d:wC x)(e:wC y)(f:y≠0):yA 36 #[a,b] w (Zcc w (Rat.divInt x y)):=by
 rcases Int.lt_or_gt_of_ne f with h|h
 ·exact ZnM a b x y _ w ha c d e h rfl
 exact ZnN a b x y _ w ha c d e h rfl
theorem cS (a:Value)(q:Rat)(w:World)(ha:xD w a q) :
 yA 10 #[a] w (RetV w (.int .i64 q.num.sign)):=by
 obtain⟨b,c,d,e,f,g,h,i,rfl⟩:=ha.shp
 refine zV (Φ:=fun w=>xD w (vR4 b c d e f g h i) (q)) func10 rfl qK (fun w' j=>ha.ext j) ?_
 refine yY (xq 2 [Δ 1,yJ 2 0] [bR4 1 43 b c d e f g h i] ?_)
 refine yZ (yY (xq 2 [eI2 4 b c d e] [] ?_))
 refine xqc _ _ 5 (fun _:Unit=>yI ((q).num).sign) _ (fun w R Q=>yN (dU _ ((q).num) _ Q.num)) fun k=>?_
 refine xq 1 [(2,.v (yI ((q).num).sign))] [] ?_
 refine yZ (zJ ?_)
 refine yR (yI ((q).num).sign) fun w' R Q=>?_
 exact⟨rfl,R⟩
def eJ (n:Nat) (xs:List Nat) (m:Nat):Prop:=Dig 1000000000 xs∧n=val 1000000000 xs+1000000000^xs.length*m
theorem eJ.start (n:Nat):eJ n [] n:=⟨Dig.nil,qS⟩
theorem eJ.step {n m:Nat}{xs:qN}(h:eJ n xs m):eJ n (xs ++ [m%1000000000]) (m/1000000000):=by
 obtain⟨a,b⟩:=h
 refine⟨a.append (Dig.nil.cons (uO _ qO)),?_⟩
 rw[kK,uN,rR,uP,sD,uH,← uK,iP,eQ,tV,tE,sH]
 exact b
theorem eJ.len {n m C:Nat}{xs:qN}(h:eJ n xs m)(b:0<m)(c:n<1000000000^C):xs.length<C:=by
 obtain⟨_,d⟩:=h
 rcases vM xs.length C with a|a
 ·exact a
 have e:1000000000^C≤1000000000^xs.length:=vE qO a
 have f:1000000000^xs.length*1≤1000000000^xs.length*m:=uI _ b
 generalize 1000000000^xs.length=P at *
 generalize 1000000000^C=Q at *
 omega
theorem Zpi {n C:Nat}(a:n<1000000000^C):ml n≤C:=lD.2 (uS a (sZ (by rw[zW];omega) _))
theorem zY.len {w:World}{A:qA}{l c n:Nat}(h:zY w (.slice A l c) n):l=ml n:=by
 obtain⟨f,g,i,a,j,k,b,d,e⟩:=h
 injection a with e1 e2 e3
 rw[e2,kO b d,e]
theorem ZcS (b:Nat):¬ xQ none b:=fun c=>by obtain⟨a,ha,_⟩:=c;cases ha
theorem ZqQ {a:Nat}(h:a<4294967296):(a:Int)%4294967296=(a:Int):=qO
def dive (e:Nat):Nat:=100000000/10^e
theorem ZnP:dive 0=100000000:=by simp[dive]
theorem ZnQ:dive 9=0:=qD
theorem ZdU (e:Nat):dive e/10=dive (e+1):=by unfold dive;rw[sS,uP]
theorem Zk6 {e:Nat}(h:e<9):dive e=10^(9-1-e):=by
 have:e=0∨e=1∨e=2∨e=3∨e=4∨e=5∨e=6∨e=7∨e=8:=qO
 rcases this with rfl|rfl|rfl|rfl|rfl|rfl|rfl|rfl|rfl<;>decide
theorem ZqR (e:Nat):dive e≤100000000:=vG _ _
theorem Zpj {e:Nat}(h:e<9):0<dive e:=by rw[Zk6 h];exact uY qO
def Zk7 (C:Nat) (w wr:World) (n m:Nat) (xs:List Nat) (A:Option Addr) (cap:Nat) (mv:Value):Prop :=
 eJ n xs m∧Buf .u32 166 wr A cap xs∧zY wr mv m∧Ext w wr∧ml m≤ml n∧(∀ b,xQ A b→w.heap.size≤b)∧xs.length≤C
theorem zY.fr {S:Nat→Prop}{w w':World}{v:Value}{n:Nat}(h:zY w v n)(d:Fr S w w')(e:∀ A l c,v=.slice A l c→0<l→∀ a,A=some a→¬ S a.block):zY w' v n:=by
 obtain⟨A,xs,c,b,f,g,i⟩:=h
 refine⟨A,xs,c,b,f,?_,i⟩
 cases xs with
 | nil=>exact zH.nil
 | cons x xs=>exact g.fr d (fun a j _=>e A _ c b qS a j)
def ZaN (w wr:World) (xs:List Nat) (A:Option Addr) (cap h t:Nat) (A3:Option Addr) (cap3:Nat):Prop :=
 Buf .u32 166 wr A cap xs∧TBuf wr A3 cap3 (wP h)∧(wP h).length=t∧Ext w wr∧(∀ b,xQ A b→w.heap.size≤b)∧(∀ b,xQ A3 b→w.heap.size≤b)∧(∀ b,xQ A b→¬ xQ A3 b)
theorem Zjj {w wr w2:World}{xs:qN}{A:qA}{cap h g t c:Nat}{d j:qA}{e cap4:Nat}{o:Obj}(s:ZaN w wr xs A cap h t d e)(l:wP g=wP h ++ [UInt8.ofNat (48+c)])(z:c<10)(u:Buf .u8 5 w2 j cap4 (nats (wP h) ++ [48+c]))(v:Fr (xQ d) (wr.alloc o) w2)(m:∀ b,xQ j b→xQ d b∨b=(wr.alloc o).heap.size):ZaN w w2 xs A cap g (t+1) j cap4:=by
 obtain⟨n,B,x,p,y,q,r⟩:=s
 have f:Fr (xQ d) wr w2:=((Fr.refl (xQ d) wr).alloc o).trans (v.mono (fun _ _ h=>h))
 refine⟨n.fr f r,?_,by rw[l];simp[x],p.next f (fun i hi a=>by have:=q i a;omega),y,?_,?_⟩
 ·show Buf _ _ _ _ _ (nats (wP g))
  rw[l,ZjX]
  have:nats [UInt8.ofNat (48+c)]=[48+c]:=by
   simp[nats];omega
  rw[this];exact u
 ·intro b a
  rcases m b a with h|h
  ·exact q b h
  have:=p.size;simp at h;omega
 intro b a k
 rcases m b k with h|h
 ·exact r b a h
 have:=n.lt a;simp at h;omega
theorem Zmi (s:Bool)(A0:qA)(l0 c0:Nat)(n:Nat)(w:World)(hN:zY w (.slice A0 l0 c0) n)(h0:0<n)(C:Nat)(hn:n<1000000000^C)(hC:C≤15637498706141) :
 yA 54 #[vI2 s A0 l0 c0] w (RetV w (.string ⟨(Lib.decDigits n).toArray⟩)):=by
 have HN:=zh hN
 have H0:=zh h0
 have Hn:=zh hn
 have o0:Hid (C≤15637498706141):=hC
 have E0:Hid (ml n≤17592186044416):=by have:=Zpi hn;unfold Hid;omega
 have V0:((l0:Int) == 0)=false:=by
  obtain⟨A,o,c,h1,h2,h3,h4,h5,h6⟩:=hN
  injection h1 with e1 e2 e3
  subst e2
  have k1:=kO h4 h5
  rw[h6] at k1
  have k2:=ZfT h0
  simp
  intro e
  rw[e] at k1
  simp at k1
  omega
 clear hN h0 hn hC
 go_enter func54,ntmps54
 go_wp2
 obtain⟨wb,Z⟩:=yE (w.alloc (.cells #[.bool s,.slice A0 l0 c0] 41))
 rw[Z]
 have p0:Hid (Ext w wb):=Z ▸ (Fr.refl _ _).alloc _
 clear Z
 go_loopw [3,4,5,6] (fun pv mv _ _ wr=>∃ (o:List Nat) (m:Nat) (A:Option Addr) (u:Nat) (A1:Option Addr) (l c:Nat),pv=.slice A o.length u∧mv=.slice A1 l c∧Hid (Zk7 C w wr n m o A u (.slice A1 l c))) (fun pv _ _ _ _=>match pv with | .slice _ k _=>C-k | _=>0)
 case atStart=>exact⟨[],n,none,0,A0,l0,c0,rfl,rfl,eJ.start n,Buf.nil,HN.out.ext p0.out,p0.out,uF _,fun b I=>(ZcS b I).elim,qS⟩
 case round =>
  obtain⟨o,m,A,u,A1,l,c,rfl,rfl,g⟩:=hrel
  have hl:=g.out.2.2.1.len
  by_cases hm:0<m
  ·have G:=g.out.1.len hm Hn.out
   have W0:0<l:=by rw[hl];exact ZfT hm
   have F0:=E0.out
   have G0:=o0.out
   have I0:ml m≤17592186044416:=by have:=g.out.2.2.2.2.1;omega
   have HD:=zh (ZdA _ m 1000000000 wr g.out.2.2.1 I0 qO (by rw[zW];omega))
   obtain⟨k2,ek⟩:=yE C
   rw[ek] at G
   have X0:k2≤15637498706141:=qO
   clear F0 G0
   have hr:=uO m (y:=1000000000) qO
   have T:=zh g.out.1.step
   have q0:ml (m/1000000000)≤ml m:=iM (vG _ _)
   have r0:Hid (ml (m/1000000000)≤ml n):=uD q0 g.out.2.2.2.2.1
   obtain⟨r,er⟩:=yE (m%1000000000)
   obtain⟨m2,em⟩:=yE (m/1000000000)
   rw[er] at T
   rw[em] at T r0
   clear hl q0 hr
   go_wp2_with fail
   refine HD.out.mono ?_
   rintro e w1 ⟨l2,c2,rfl,a0,s0⟩
   rw[er]
   rw[em] at a0
   have t0:=zh a0
   have b0:=zh s0
   clear HD a0 s0 er em
   go_wp2_with (at_builtin;refine Hid.out ?_)
   refine zh ?_
   have E:Hid (zH .u32 (w1.alloc (.cells #[.int .u32 (r:Int)] 166)) (some ⟨w1.heap.size,0,none⟩) [r]):=(Own.new w1 166 .u32 [r] []).shows0
   have u0:Hid (Buf .u32 166 w1 A u o):=g.out.2.1.ext b0.out
   refine lA rfl _ _ _ rfl _ .u32 4 underlying39 dN A (some ⟨w1.heap.size,0,none⟩) o.length 1 u 1 rfl rfl o [r] rfl rfl (u0.out.ext ((Fr.refl _ _).alloc _)) E.out (by simp only[maxLen];omega) qO ?_
   intro A2 W w2 v0 d0 w0
   have v:Hid (Zk7 C w w2 n m2 (o ++ [r]) A2 W (.slice (some ⟨wr.heap.size,0,none⟩) l2 c2)):=by
    have X:=g.out.2.2.2.2.2.1
    have x0:Ext w w1:=g.out.2.2.2.1.trans b0.out
    refine⟨T.out,v0,(t0.out.ext ((Fr.refl _ _).alloc _)).fr d0 ?_,(x0.alloc _).next d0 (fun i hi I=>by have:=X i I;omega),r0.out,?_,by rw[uN,rR];omega⟩
    ·intro A' l' F e _ a ha I
     injection e with e1 e2 e3
     rw[←e1] at ha
     injection ha with ha
     subst ha
     have:wr.heap.size<wr.heap.size:=g.out.2.1.lt I
     omega
    intro b I
    rcases w0 b I with h|h
    ·exact X b h
    have:=x0.size;simp at h;omega
   clear v0 d0 w0 E u0 t0 b0 T g
   have J0:=zh ek
   clear ek
   go_wp2
   go_roundw
   case rel=>exact⟨o ++ [r],m2,A2,W,_,l2,c2,by rw[uN];rfl,rfl,v⟩
   case measure =>
    simp
    rw[J0.out]
    omega
  obtain rfl:m=0:=qO
  obtain⟨hC,hB,hM,Q,_,hA,K0⟩:=g.out
  have U0:o.length≤15637498706141:=by have:=o0.out;omega
  obtain rfl:l=0:=by rw[hl];rfl
  have HC:Hid (Dig 1000000000 o∧n=val 1000000000 o):=by
   obtain⟨c1,c2⟩:=hC
   exact⟨c1,by simpa using c2⟩
  have HB:=zh hB
  have HE:=zh Q
  have HA:=zh hA
  clear hC hB hM Q hA g hl hm K0
  go_wp2
  obtain⟨wo,rfl⟩:∃ wo:World,wo=wr:=⟨_,rfl⟩
  go_loopw [7,8,9,10] (fun ov iv _ _ wr=>∃ (k t:Nat) (B:Option Addr) (d:Nat),k≤o.length∧iv=.int .i64 ((k:Int)-1)∧ov=.slice B t d∧t≤9*(o.length-k)∧Hid (ZaN w wr o A u (val 1000000000 (o.drop k)) t B d)) (fun _ iv _ _ _=>(intOf iv+1).toNat)
  case atStart=>exact⟨o.length,0,none,0,uF _,rfl,rfl,qO,HB.out,by rw[List.drop_length];exact Buf.nil,by rw[List.drop_length];rfl,HE.out,HA.out,fun b I=>(ZcS b I).elim,fun b _ I=>ZcS b I⟩
  case round =>
   obtain⟨k,t,B,d,hk,rfl,rfl,ht,g⟩:=hrel
   by_cases Y0:0<k
   ·obtain⟨k,rfl⟩:∃ j,k=j+1:=⟨k-1,qO⟩
    have hi:((k+1:Nat):Int)-1=(k:Int):=qO
    rw[hi]
    clear hi
    have y0:k<o.length:=qO
    obtain⟨p,ep⟩:=yE (o[k]?.getD 0)
    have hp:p<1000000000:=ep ▸ HC.out.1.getD qO k
    obtain⟨H,eH⟩:=yE (val 1000000000 (o.drop (k+1)))
    have e0:Hid (topE H p 9 9=val 1000000000 (o.drop k)):=by
     unfold Hid
     rw[Zoy,xT k y0,ep,eH,uG]
     omega
    have HP:=zh ep
    rw[eH] at g
    have z0:Hid (ZaN w wr o A u (topE H p 9 0) t B d):=by rw[ZlG qO];exact g
    have L0:((100000000:Nat):Int)=((dive 0:Nat):Int):=by rw[ZnP]
    clear ep eH g
    go_wp2
    obtain⟨Z0,rfl⟩:∃ wo:World,wo=wr:=⟨_,rfl⟩
    obtain⟨T0,eT⟩:=yE (9*(o.length-(k+1)))
    rw[eT] at ht
    go_loopw [7,9,10] (fun ov dv _ wr=>∃ (e t:Nat) (B:Option Addr) (d:Nat),e≤9∧dv=.int .u32 (dive e:Nat)∧ov=.slice B t d∧t≤T0+e∧Hid (ZaN w wr o A u (topE H p 9 e) t B d)) (fun _ dv _ _=>(intOf dv).toNat)
    case atStart=>exact⟨0,t,B,d,qO,by rw[←L0];rfl,rfl,qO,z0⟩
    case round =>
     clear ht z0
     obtain⟨e,t,B,d,he,rfl,rfl,ht,g⟩:=hrel
     by_cases f0:e<9
     ·have M0:=Zpj f0
      have N0:=ZqR e
      have a1:T0≤140737488355260:=qO
      obtain⟨b2,J,hA,_,O0⟩:=g.out.1.shows.at y0
      rw[HP.out] at O0
      have f:=zh (ZmQ (H:=H) (p:=p) (k:=9) f0)
      rw[←Zk6 f0] at f
      have x:p/dive e%10<10:=uO _ qO
      have q1:(p:Int).tdiv (dive e:Int)=((p/dive e:Nat):Int):=by rw[rA qO];rfl
      have B0:(p:Int)/(dive e:Int)=((p/dive e:Nat):Int):=rfl
      have q2:((p/dive e:Nat):Int).tmod 10=((p/dive e%10:Nat):Int):=by rw[tY (pL _)];rfl
      have g0:((p/dive e:Nat):Int)%10=((p/dive e%10:Nat):Int):=rfl
      have i0:p/dive e≤p:=vG _ _
      have q3:((p/dive e:Nat):Int)%4294967296=((p/dive e:Nat):Int):=ZqQ (vN i0 qO)
      have q5:(dive e:Int).tdiv 10=((dive (e+1):Nat):Int):=by rw[rA qO,← ZdU];rfl
      have C0:(dive e:Int)/10=((dive (e+1):Nat):Int):=by rw[←ZdU];rfl
      have K:dive (e+1)<dive e:=by rw[←ZdU];omega
      have q6:((dive (e+1):Nat):Int)%4294967296=((dive (e+1):Nat):Int):=qO
      obtain⟨D,eD⟩:=yE (dive e)
      obtain⟨D2,j0⟩:=yE (dive (e+1))
      have k0:=zh j0
      rw[eD] at M0 N0 f x q1 B0 q2 g0 i0 q3 q5 C0 K ⊢
      rw[j0] at q5 C0 K q6
      obtain⟨q,eq⟩:=yE (p/D)
      rw[eq] at q1 B0 q2 g0 f x q3 i0
      obtain⟨F,ec⟩:=yE (q%10)
      rw[ec] at q2 g0 f x
      have G:(0<t)↔0<topE H p 9 e:=by rw[←g.out.2.2.1];exact ZjY
      have q7:((48:Int)+(F:Int))%4294967296=((48+F:Nat):Int):=qO
      have q8:((48+F:Nat):Int)%256=((48+F:Nat):Int):=qO
      subst hA
      clear eD j0 eq ec
      by_cases m0:0<t∨F≠0
      ·have L:=g.out.2.2.1
       have M:=zh (Za5 (h:=topE H p 9 e) x qO)
       rw[←f.out] at M
       have E:Hid (zH .u8 (wr.alloc (.cells #[.int .u8 (48+(F:Int))] 5)) (some ⟨wr.heap.size,0,none⟩) [48+F]):=(Own.new wr 5 .u8 [48+F] []).shows0
       have U:Hid (TBuf wr B d (wP (topE H p 9 e))):=g.out.2.1
       have Y:(decide (0<t) || ((48+F:Nat):Int) != 48)=true:=by
        rcases m0 with h|h
        ·simp[h]
        have:(((48+F:Nat):Int) != 48)=true:=by simp;omega
        rw[this,Bool.or_true]
       have N:=zh L
       have V:=zh g.out
       clear G L f g
       by_cases b1:0<t
       ·clear m0 Y
        go_wp2_with (at_builtin;refine Hid.out ?_)
        refine zh ?_
        refine lA rfl _ _ _ rfl _ .u8 1 underlying187 ZpL B (some ⟨wr.heap.size,0,none⟩) t 1 d 1 rfl rfl (nats (wP (topE H p 9 e))) [48+F] (by rw[ZbQ];exact N.out) rfl (U.out.ext ((Fr.refl _ _).alloc _)) E.out (by simp only[maxLen];omega) qO ?_
        intro A4 z w2 O R S
        have v:Hid (ZaN w w2 o (some ⟨b2,J,none⟩) u (topE H p 9 (e+1)) (t+1) A4 z):=Zjj V.out M.out x O R S
        clear O R S E U V M
        go_wp2
        go_roundw
        case rel=>exact⟨e+1,t+1,A4,z,qO,by rw[k0.out],rfl,qO,v⟩
        case measure=>simp[intOf];omega
       have d1:(((48+F:Nat):Int) != 48)=true:=by simp;omega
       clear m0 Y
       go_wp2_with (at_builtin;refine Hid.out ?_)
       refine zh ?_
       refine lA rfl _ _ _ rfl _ .u8 1 underlying187 ZpL B (some ⟨wr.heap.size,0,none⟩) t 1 d 1 rfl rfl (nats (wP (topE H p 9 e))) [48+F] (by rw[ZbQ];exact N.out) rfl (U.out.ext ((Fr.refl _ _).alloc _)) E.out (by simp only[maxLen];omega) qO ?_
       intro A4 z w2 O R S
       have v:Hid (ZaN w w2 o (some ⟨b2,J,none⟩) u (topE H p 9 (e+1)) (t+1) A4 z):=Zjj V.out M.out x O R S
       clear O R S E U V M
       go_wp2
       go_roundw
       case rel=>exact⟨e+1,t+1,A4,z,qO,by rw[k0.out],rfl,qO,v⟩
       case measure=>simp[intOf];omega
      obtain rfl:t=0:=qO
      obtain rfl:F=0:=qO
      have v:Hid (ZaN w wr o (some ⟨b2,J,none⟩) u (topE H p 9 (e+1)) 0 B d):=by
       have h0:topE H p 9 e=0:=qO
       unfold Hid
       rw[f.out,h0]
       have:=g.out
       rw[h0] at this
       exact this
      clear g G f
      go_wp2
      go_roundw
      case rel=>exact⟨e+1,0,B,d,qO,by rw[k0.out],rfl,qO,v⟩
      case measure=>simp[intOf];omega
     obtain rfl:e=9:=qO
     have P0:Hid (ZaN w wr o A u (val 1000000000 (o.drop k)) t B d):=by
      rw[←e0.out];exact g
     have Q0:t≤9*(o.length-k):=qO
     rw[ZnQ]
     clear g
     go_wp2
     go_roundw
     case rel=>exact⟨k,t,B,d,qO,by go_num,rfl,Q0,P0⟩
     case measure=>simp[intOf]
   obtain rfl:k=0:=qO
   obtain⟨_,n0,_,D0,_,_,_⟩:=g.out
   rw[sE,← HC.out.2,jG H0.out] at n0
   have K:(Lib.decDigits n).length=t:=by
    have:=g.out.2.2.1
    rwa [sE,← HC.out.2,jG H0.out] at this
   obtain⟨b,rfl,hc⟩:=TBuf.bytes n0 (lI n)
   have R0:=run_convert_bytes_back (P:=prog) wr 187 9 5 ⟨b,0,none⟩ d (Lib.decDigits n) underlying187 underlying5 underlying9 hc
   rw[K] at R0
   have S0:=zh D0
   generalize Lib.decDigits n=txt at *
   clear n0 D0 hc g K
   go_wp2
   go_ret
   exact⟨rfl,S0.out⟩
theorem Zkm (s:Bool)(b:qA)(c0:Nat)(w:World) :
 yA 54 #[vI2 s b 0 c0] w (RetV w (.string ⟨(Lib.decDigits 0).toArray⟩)):=by
 have a:Lib.decDigits 0=[48]:=Lib.decDigits_one qO
 have c:=zh a
 clear a
 go_enter func54,ntmps54
 go_wp2
 go_ret
 exact⟨by rw[c.out];rfl,(Fr.refl _ _).alloc _⟩
theorem Zkn (s:Bool)(a:qA)(b c0:Nat)(n:Nat)(w:World)(c:zY w (.slice a b c0) n)(C:Nat)(e:n<1000000000^C)(f:C≤15637498706141) :
 yA 54 #[vI2 s a b c0] w (RetV w (.string ⟨(Lib.decDigits n).toArray⟩)):=by
 rcases uJ n with h|h
 ·subst h
  have d:=c.len
  rw[Zee] at d
  subst d
  exact Zkm s a c0 w
 exact Zmi s a b c0 n w c h C e f
theorem Zel (a b:List UInt8):(⟨a.toArray⟩:ByteArray) ++ ⟨b.toArray⟩=⟨(a ++ b).toArray⟩:=by
 apply ByteArray.ext
 simp
theorem ZaV {n j:Nat}(h:n<10^j∧j≤140737488355000):(Lib.decDigits n).length≤140737488355000:=by
 rcases uJ n with e|e
 ·rw[e,Lib.decDigits_one qO];simp
 have:=ZlH _ _ h.1
 rw[jG e] at this
 omega
theorem cU (s:Bool)(a:qA)(b c0:Nat)(n:Nat)(w:World)(c:zY w (.slice a b c0) n){j:Nat}(h:n<10^j∧j≤140737488355000) :
 yA 54 #[vI2 s a b c0] w (RetV w (.string ⟨(Lib.decDigits n).toArray⟩)):=by
 refine Zkn s a b c0 n w c ((j+8)/9) ?_ (by have:=h.2;omega)
 refine uS h.1 ?_
 rw[show (1000000000:Nat)=10^9 by decide,← rU]
 exact vE qO qO
theorem Zjk {n k:Nat}(h:ml n≤k):n<10^(10*k):=by
 refine uS (Zed n) (uD (vE zZ h) ?_)
 rw[rU]
 exact sZ (by rw[zW];decide) _
theorem Zh7 (a:Value)(q:Rat)(w:World)(ha:xD w a q)(j k:Nat)(B:q.num.natAbs<10^j∧j≤140737488355000)(_:q.den<10^k∧k≤140737488355000)(x:q.num<0)(y:q.den=1) :
 yA 22 #[a] w (RetV w (.string ⟨(xF q).toArray⟩)):=by
 obtain⟨C,t,u,v,t1,H,D,I,rfl⟩:=ha.shp
 have F2:Hid (xD w (vR4 C t u v t1 H D I) (q)):=ha
 clear ha
 obtain rfl:C=true:=F2.out.num.sneg x
 have E:Hid (q.num.natAbs<10^j∧j≤140737488355000):=B
 obtain rfl:D=0:=F2.out.den.len0 (dS y)
 have F:Hid (xF q=45 :: Lib.decDigits q.num.natAbs):=by unfold Hid xF Lib.itoa;rw[uZ y,uZ x]
 obtain⟨J,g⟩:=yE (xF q)
 rw[g] at F ⊢
 clear x y B g
 go_enter func22,ntmps22
 go_wp2_with fail
 generalize h:World.alloc w _=w4
 obtain⟨c,d⟩:=gW h
 clear h
 have B3:=zh c
 clear c
 replace F2:=zh (F2.out.ext d)
 have HE:=zh d
 clear d
 have F5:Hid (zN w4 (vI2 true t u v) ((q).num)):=F2.out.num
 have F8:Hid (zY w4 (.slice t u v) (((q).num).natAbs)):=F5.out.mag
 refine (cU true t u v _ _ F8.out E.out).mono ?_
 obtain⟨G,b⟩:=yE (Lib.decDigits (((q).num).natAbs))
 rw[b];have z:G.length≤140737488355000:=by rw[←b];exact ZaV E.out
 have A:=zh b;clear b
 rintro e K ⟨rfl,f⟩
 replace B3:=zh (B3.out.ext f)
 replace F2:=zh (F2.out.ext f)
 replace F5:=zh (F5.out.ext f)
 replace F8:=zh (F8.out.ext f)
 replace HE:=zh (HE.out.trans f)
 clear f
 obtain⟨i,l,m,n,o,p,r,s⟩:=B3.out.cell4
 go_wp2
 clear i l m n o p r s
 go_ret
 refine⟨?_,HE.out⟩
 rw[F.out,A.out]
 show Ending.returned (.string ((⟨#[45]⟩:ByteArray) ++ ⟨G.toArray⟩))=_
 simp only[Zel]
 rfl
theorem Zh8 (a:Value)(q:Rat)(w:World)(ha:xD w a q)(j k:Nat)(N:q.num.natAbs<10^j∧j≤140737488355000)(O:q.den<10^k∧k≤140737488355000)(P:q.num<0)(s:¬ q.den=1) :
 yA 22 #[a] w (RetV w (.string ⟨(xF q).toArray⟩)):=by
 obtain⟨Q,F,G,H,t1,I,m1,J,rfl⟩:=ha.shp
 have F2:Hid (xD w (vR4 Q F G H t1 I m1 J) (q)):=ha
 clear ha
 obtain rfl:Q=true:=F2.out.num.sneg P
 have R:Hid (q.num.natAbs<10^j∧j≤140737488355000):=N
 have Y:0<m1:=F2.out.den.lenp (ZgR s)
 have W:decide ((0:Int)<(m1:Int))=true:=by rw[vZ];omega
 have S:Hid ((denF q).natAbs<10^k∧k≤140737488355000):=by unfold Hid;rw[fJ s,tQ];exact O
 have T:Hid (xF q=(45 :: Lib.decDigits q.num.natAbs) ++ (47 :: Lib.decDigits (denF q).natAbs)):=by
  unfold Hid xF
  rw[uQ s,fJ s,tQ,Lib.itoa_nonneg]
  unfold Lib.itoa
  rw[uZ (show q.num<0 by omega)]
  simp
 obtain⟨Z,t⟩:=yE (xF q)
 rw[t] at T ⊢
 clear P s N O t
 go_enter func22,ntmps22
 go_wp2_with fail
 generalize u:World.alloc w _=w4
 obtain⟨f,g⟩:=gW u
 clear u
 have B3:=zh f
 clear f
 replace F2:=zh (F2.out.ext g)
 have HE:=zh g
 clear g
 have F5:Hid (zN w4 (vI2 true F G H) ((q).num)):=F2.out.num
 have F8:Hid (zY w4 (.slice F G H) (((q).num).natAbs)):=F5.out.mag
 refine (cU true F G H _ _ F8.out R.out).mono ?_
 obtain⟨U,d⟩:=yE (Lib.decDigits (((q).num).natAbs))
 rw[d];have L:U.length≤140737488355000:=by rw[←d];exact ZaV R.out
 have M:=zh d;clear d
 rintro e V ⟨rfl,b⟩
 replace B3:=zh (B3.out.ext b)
 replace F2:=zh (F2.out.ext b)
 replace F5:=zh (F5.out.ext b)
 replace F8:=zh (F8.out.ext b)
 replace HE:=zh (HE.out.trans b)
 clear b
 obtain⟨v,x,y,z,A,B,C,D⟩:=B3.out.cell4
 go_wp2_with fail
 clear v x y z A B C D
 have F10:Hid (zN V (vI2 t1 I m1 J) (denF (q))):=F2.out.den
 have F13:Hid (zY V (.slice I m1 J) ((denF (q)).natAbs)):=F10.out.mag
 refine (cU t1 I m1 J _ _ F13.out S.out).mono ?_
 obtain⟨t12,c⟩:=yE (Lib.decDigits ((denF (q)).natAbs))
 rw[c];have K:t12.length≤140737488355000:=by rw[←c];exact ZaV S.out
 have E:=zh c;clear c
 rintro e X ⟨rfl,b⟩
 replace B3:=zh (B3.out.ext b)
 replace F2:=zh (F2.out.ext b)
 replace F5:=zh (F5.out.ext b)
 replace F8:=zh (F8.out.ext b)
 replace F10:=zh (F10.out.ext b)
 replace F13:=zh (F13.out.ext b)
 replace HE:=zh (HE.out.trans b)
 clear b
 obtain⟨h,i,l,m,n,o,p,r⟩:=B3.out.cell4
 go_wp2
 clear h i l m n o p r
 go_ret
 refine⟨?_,HE.out⟩
 rw[T.out,M.out,E.out]
 show Ending.returned (.string (((⟨#[45]⟩:ByteArray) ++ ⟨U.toArray⟩) ++ ((⟨#[47]⟩:ByteArray) ++ ⟨t12.toArray⟩)))=_
 simp only[Zel]
 rfl
theorem Zh9 (a:Value)(q:Rat)(w:World)(ha:xD w a q)(j k:Nat)(A:q.num.natAbs<10^j∧j≤140737488355000)(_:q.den<10^k∧k≤140737488355000)(B:0≤q.num)(x:q.den=1) :
 yA 22 #[a] w (RetV w (.string ⟨(xF q).toArray⟩)):=by
 obtain⟨C,t,u,v,t1,H,D,I,rfl⟩:=ha.shp
 have F2:Hid (xD w (vR4 C t u v t1 H D I) (q)):=ha
 clear ha
 obtain rfl:C=false:=F2.out.num.spos B
 have E:Hid (q.num.natAbs<10^j∧j≤140737488355000):=A
 obtain rfl:D=0:=F2.out.den.len0 (dS x)
 have F:Hid (xF q=Lib.decDigits q.num.natAbs):=by unfold Hid xF Lib.itoa;rw[uZ x,uQ (show ¬ q.num<0 by omega)];rw[show q.num.toNat=q.num.natAbs by omega]
 obtain⟨J,g⟩:=yE (xF q)
 rw[g] at F ⊢
 clear B x A g
 go_enter func22,ntmps22
 go_wp2_with fail
 generalize h:World.alloc w _=w4
 obtain⟨c,d⟩:=gW h
 clear h
 have B3:=zh c
 clear c
 replace F2:=zh (F2.out.ext d)
 have HE:=zh d
 clear d
 have F5:Hid (zN w4 (vI2 false t u v) ((q).num)):=F2.out.num
 have F8:Hid (zY w4 (.slice t u v) (((q).num).natAbs)):=F5.out.mag
 refine (cU false t u v _ _ F8.out E.out).mono ?_
 obtain⟨G,b⟩:=yE (Lib.decDigits (((q).num).natAbs))
 rw[b];have y:G.length≤140737488355000:=by rw[←b];exact ZaV E.out
 have z:=zh b;clear b
 rintro e K ⟨rfl,f⟩
 replace B3:=zh (B3.out.ext f)
 replace F2:=zh (F2.out.ext f)
 replace F5:=zh (F5.out.ext f)
 replace F8:=zh (F8.out.ext f)
 replace HE:=zh (HE.out.trans f)
 clear f
 obtain⟨i,l,m,n,o,p,r,s⟩:=B3.out.cell4
 go_wp2
 clear i l m n o p r s
 go_ret
 refine⟨?_,HE.out⟩
 rw[F.out,z.out]
 show Ending.returned (.string (⟨G.toArray⟩:ByteArray))=_
 rfl
theorem Zia (a:Value)(q:Rat)(w:World)(ha:xD w a q)(j k:Nat)(N:q.num.natAbs<10^j∧j≤140737488355000)(O:q.den<10^k∧k≤140737488355000)(P:0≤q.num)(s:¬ q.den=1) :
 yA 22 #[a] w (RetV w (.string ⟨(xF q).toArray⟩)):=by
 obtain⟨Q,F,G,H,t1,I,m1,J,rfl⟩:=ha.shp
 have F2:Hid (xD w (vR4 Q F G H t1 I m1 J) (q)):=ha
 clear ha
 obtain rfl:Q=false:=F2.out.num.spos P
 have R:Hid (q.num.natAbs<10^j∧j≤140737488355000):=N
 have Y:0<m1:=F2.out.den.lenp (ZgR s)
 have W:decide ((0:Int)<(m1:Int))=true:=by rw[vZ];omega
 have S:Hid ((denF q).natAbs<10^k∧k≤140737488355000):=by unfold Hid;rw[fJ s,tQ];exact O
 have T:Hid (xF q=(Lib.decDigits q.num.natAbs) ++ (47 :: Lib.decDigits (denF q).natAbs)):=by
  unfold Hid xF
  rw[uQ s,fJ s,tQ,Lib.itoa_nonneg]
  unfold Lib.itoa
  rw[uQ (show ¬ q.num<0 by omega)]
  rw[show q.num.toNat=q.num.natAbs by omega]
  simp
 obtain⟨Z,t⟩:=yE (xF q)
 rw[t] at T ⊢
 clear P s N O t
 go_enter func22,ntmps22
 go_wp2_with fail
 generalize u:World.alloc w _=w4
 obtain⟨f,g⟩:=gW u
 clear u
 have B3:=zh f
 clear f
 replace F2:=zh (F2.out.ext g)
 have HE:=zh g
 clear g
 have F5:Hid (zN w4 (vI2 false F G H) ((q).num)):=F2.out.num
 have F8:Hid (zY w4 (.slice F G H) (((q).num).natAbs)):=F5.out.mag
 refine (cU false F G H _ _ F8.out R.out).mono ?_
 obtain⟨U,d⟩:=yE (Lib.decDigits (((q).num).natAbs))
 rw[d];have L:U.length≤140737488355000:=by rw[←d];exact ZaV R.out
 have M:=zh d;clear d
 rintro e V ⟨rfl,b⟩
 replace B3:=zh (B3.out.ext b)
 replace F2:=zh (F2.out.ext b)
 replace F5:=zh (F5.out.ext b)
 replace F8:=zh (F8.out.ext b)
 replace HE:=zh (HE.out.trans b)
 clear b
 obtain⟨v,x,y,z,A,B,C,D⟩:=B3.out.cell4
 go_wp2_with fail
 clear v x y z A B C D
 have F10:Hid (zN V (vI2 t1 I m1 J) (denF (q))):=F2.out.den
 have F13:Hid (zY V (.slice I m1 J) ((denF (q)).natAbs)):=F10.out.mag
 refine (cU t1 I m1 J _ _ F13.out S.out).mono ?_
 obtain⟨t12,c⟩:=yE (Lib.decDigits ((denF (q)).natAbs))
 rw[c];have K:t12.length≤140737488355000:=by rw[←c];exact ZaV S.out
 have E:=zh c;clear c
 rintro e X ⟨rfl,b⟩
 replace B3:=zh (B3.out.ext b)
 replace F2:=zh (F2.out.ext b)
 replace F5:=zh (F5.out.ext b)
 replace F8:=zh (F8.out.ext b)
 replace F10:=zh (F10.out.ext b)
 replace F13:=zh (F13.out.ext b)
 replace HE:=zh (HE.out.trans b)
 clear b
 obtain⟨h,i,l,m,n,o,p,r⟩:=B3.out.cell4
 go_wp2
 clear h i l m n o p r
 go_ret
 refine⟨?_,HE.out⟩
 rw[T.out,M.out,E.out]
 show Ending.returned (.string ((⟨U.toArray⟩:ByteArray) ++ ((⟨#[47]⟩:ByteArray) ++ ⟨t12.toArray⟩)))=_
 simp only[Zel]
 rfl
theorem eK (a:Value)(q:Rat)(w:World)(ha:xD w a q)(j k:Nat)(c:q.num.natAbs<10^j∧j≤140737488355000)(d:q.den<10^k∧k≤140737488355000):yA 22 #[a] w (RetV w (.string ⟨(xF q).toArray⟩)):=by
 by_cases e:q.num<0
 ·by_cases b:q.den=1
  ·exact Zh7 a q w ha j k c d e b
  exact Zh8 a q w ha j k c d e b
 by_cases b:q.den=1
 ·exact Zh9 a q w ha j k c d qO b
 exact Zia a q w ha j k c d qO b
theorem ZnR (a:Value)(q:Rat)(w:World)(ha:xD w a q)(b:ml q.num.natAbs≤65536)(c:ml q.den≤65536):yA 22 #[a] w (RetV w (.string ⟨(xF q).toArray⟩)) :=
 eK a q w ha _ _ ⟨Zjk b,qO⟩ ⟨Zjk c,qO⟩
def Zgh (w:World) (l:List UInt8) (e:Ending) (w':World):Prop :=
 ∃ v b,e=.returned (.tuple #[v,.bool b])∧b=(l.all zX && !l.isEmpty)∧zN w' v (if l.all zX then (zK l:Int) else 0)∧Ext w w'
theorem Zjl {fn:Func}{t e:Tmp}{a:Array Value}{w w':World}{r:Nat}{x y:Value}{b:Bool}{l:List UInt8}(c:fn.results=#[.cell t 41,.tmp e])(f:a[t]? = some (.pointer (some ⟨r,0,none⟩)))(d:a[e]? = some (.bool b))(g:Blk 41 w' r #[x,y])(h:zN w' (.agg #[x,y]) (if l.all zX then (zK l:Int) else 0))(i:b=(l.all zX && !l.isEmpty))(Q:Ext w w'):bodyPost prog fn (Zgh w l) .ret ⟨a,[]⟩ w':=by
 obtain⟨j,k,_⟩:=g.cell2
 exact bodyPost_ret (v:=.tuple #[.agg #[x,y],.bool b]) (by simp[results,c,f,d,go_sem,j,k]) rfl ⟨_,_,rfl,i,h,Q⟩
theorem zY.one_pos {w:World}{b r:Nat}(h:Own .u32 166 w b [r])(c:r<W32)(d:0<r):zY w (.slice (some ⟨b,0,none⟩) 1 1) r :=
 ⟨_,[r],1,rfl,uF _,h.shows0,Dig.cons c Dig.nil,fun k a=>by simp at a;subst a;simp;omega,qS⟩
theorem Zr6 {n k:Nat}(h:n<10^k):ml n≤k:=lD.2 (uS h (sZ (by rw[zW];omega) _))
theorem ZnS {n k:Nat}(h:n<10^k):n<1000000000^((k+8)/9):=by
 refine uS h ?_
 rw[show (1000000000:Nat)=10^9 by decide,← rU]
 exact vE qO qO
theorem Zem {n k:Nat}(h:n<10^k):ml n≤(k+8)/9:=lD.2 (uS (ZnS h) (sZ (by rw[zW];omega) _))
theorem Zjm (s:ByteArray):s.toList.isEmpty=(bytes s).isEmpty:=by
 rw[Lib.toList_data]
def FdIn (l:List UInt8) (i k v f:Nat):Prop:=k≤9∧i+k≤l.length∧(l.take (i+k)).all zX=true∧v=zK ((l.drop i).take k)∧f=10^k
theorem FdIn.bounds {l:List UInt8}{i k v f:Nat}(h:FdIn l i k v f):v<10^k∧v<1000000000∧f≤1000000000∧0<f:=by
 obtain⟨c,g,b,d,j⟩:=h
 have a:((l.drop i).take k).all zX=true:=by
  rw[vI] at b ⊢
  intro x e
  refine b x ?_
  rw[List.take_add]
  exact List.mem_append_right _ e
 have:=kJ _ a
 rw[uM,tC,uU qO,← d] at this
 have m:10^k≤10^9:=vE qO c
 have n:0<10^k:=uY qO
 exact⟨this,qO,qO,qO⟩
theorem FdIn.step {l:List UInt8}{i k v f:Nat}{c:UInt8}(h:FdIn l i k v f)(m:k<9)(a:i+k<l.length)(b:l[i+k]=c)(d:zX c=true):FdIn l i (k+1) (v*10+(c.toNat-48)) (f*10):=by
 obtain⟨n,o,e,g,j⟩:=h
 refine⟨qO,qO,?_,?_,by rw[j,uP]⟩
 ·rw[←sD,vY a,qX,e,b]
  simp[d]
 rw[vY (by simp;omega),eY,← g,List.getElem_drop,b]
 omega
theorem FdIn.done {l:List UInt8}{i k v f:Nat}(h:FdIn l i k v f):zK (l.take i)*f+v=zK (l.take (i+k)):=by
 obtain⟨c,d,e,a,b⟩:=h
 have:l.take (i+k)=l.take i ++ (l.drop i).take k:=by rw[List.take_add]
 rw[this,bJ,uM,tC,uU qO,← a,b]
theorem ZqS {l:List UInt8}{i:Nat}(h:i<l.length)(a:zX l[i]=false):l.all zX=false:=by
 rw[List.all_eq_false]
 exact⟨l[i],tZ h,by simp[a]⟩
theorem dE (s:ByteArray)(w:World)(hs:s.size≤140737488351232):yA 33 #[.string s] w (Zgh w (bytes s)):=by
 have j:=zh (zT s)
 go_enter func33,ntmps33
 go_wp2_with fail
 generalize a:World.alloc w _=w1
 obtain⟨b0,c0⟩:=gW a
 have HB:=zh b0
 have HE:=zh c0
 clear a b0 c0
 go_loopw [4,5,6,7,8] (fun mv iv _ _ _ wr=>∃ (i:Nat) (A:Option Addr) (ln c:Nat),i≤s.size∧iv=.int .i64 (i:Int)∧mv=.slice A ln c∧Hid (((bytes s).take i).all zX=true)∧Hid (zY wr (.slice A ln c) (zK ((bytes s).take i)))∧Hid (Ext w1 wr)) (fun _ iv _ _ _ _=>s.size-(intOf iv).toNat)
 case atStart=>exact⟨0,none,0,0,qO,rfl,rfl,by unfold Hid;simp,by unfold Hid;simpa [zK] using zY.zero _,Fr.refl _ _⟩
 case round =>
  obtain⟨i,A,ln,c,hi,rfl,rfl,t,hM,hF⟩:=hrel
  by_cases m0:i<s.size
  ·go_wp2
   go_loop [5,6,7,8] (fun iv vv fv kv=>∃ (k v f:Nat),k≤9∧i+k≤s.size∧v<1000000000∧f≤1000000000∧0<f∧iv=.int .i64 ((i+k:Nat):Int)∧vv=.int .u32 (v:Int)∧fv=.int .u32 (f:Int)∧kv=.int .i64 (k:Int)∧Hid (FdIn (bytes s) i k v f)) (fun _ _ _ kv=>9-(intOf kv).toNat)
   case atStart=>exact⟨0,0,1,qO,qO,qO,qO,qO,rfl,rfl,rfl,rfl,⟨qO,by rw[j.out];omega,t.out,by simp[zK],rfl⟩⟩
   case round =>
    obtain⟨k,v,f,hk,n0,hv,hf,f0,rfl,rfl,rfl,rfl,E⟩:=hrel
    by_cases F:k<9∧i+k<s.size
    ·obtain⟨g1,g2⟩:=F
     have d0:decide ((k:Int)<9)=true:=by rw[vZ];omega
     have x:(bytes s)[i+k]'(by rw[j.out];exact g2)=s[i+k]:=ZcD s g2
     by_cases Q:zX s[i+k]=true
     ·have R:=zh (E.out.step g1 (by rw[j.out];exact g2) x Q)
      have hb:=ZdS Q
      have G:=R.out.bounds
      have e1:IntKind.u8.wrap ((s[i+k].toNat:Int)-48)=((s[i+k].toNat-48:Nat):Int):=by rw[IntKind.wrap_u8];omega
      have g0:((s[i+k].toNat:Int)-48)%256=((s[i+k].toNat-48:Nat):Int):=qO
      obtain⟨d,ed⟩:=yE (s[i+k].toNat-48)
      have o0:d≤9:=qO
      rw[ed] at R e1 g0 G
      have h0:=G.2.1
      have i0:=G.2.2.1
      have x1:(i:Int)+(k:Int)<(s.size:Int):=qO
      have x2:(0:Int)≤(i:Int)+(k:Int):=qO
      have x3:(48:Int)≤(s[i+k].toNat:Int):=qO
      have x4:¬ ((s[i+k].toNat:Int)<48):=qO
      have x5:¬ ((57:Int)<(s[i+k].toNat:Int)):=qO
      have x6:decide ((s[i+k].toNat:Int)<48)=false:=by rw[vF];omega
      have x7:decide ((57:Int)<(s[i+k].toNat:Int))=false:=by rw[vF];omega
      have x8:((i:Int)+(k:Int)).toNat=i+k:=qO
      clear G x ed Q
      go_wp2
      go_round
      case rel=>exact⟨k+1,v*10+d,f*10,qO,qO,h0,i0,qO,by go_num,by go_num,by go_num,by go_num,R⟩
      case measure=>simp[intOf];omega
     have H:Hid ((bytes s).all zX=false):=ZqS (by rw[j.out];exact g2) (by rw[x];simpa using Q)
     have I:=zh (HB.out.ext hF.out)
     have S:=zh (HE.out.trans hF.out)
     obtain⟨z0,z1,z2,z3⟩:=I.out.cell2
     have x1:(i:Int)+(k:Int)<(s.size:Int):=qO
     have x2:(0:Int)≤(i:Int)+(k:Int):=qO
     have x8:((i:Int)+(k:Int)).toNat=i+k:=qO
     have L:Hid (∀ u:Array Value,u[2]? = some (.pointer (some ⟨w.heap.size,0,none⟩))→u[3]? = some (.bool false)→bodyPost prog Tryz.f33 (Zgh w (bytes s)) .ret ⟨u,[]⟩ ((wr.setCell ⟨w.heap.size,0,none⟩ (.bool false)).setCell ⟨w.heap.size,1,none⟩ (.slice none 0 0))):=by
      intro u h2 h3
      have J:Fr (fun i=>i=w.heap.size) wr ((wr.setCell ⟨w.heap.size,0,none⟩ (.bool false)).setCell ⟨w.heap.size,1,none⟩ (.slice none 0 0)):=((Fr.refl (fun i=>i=w.heap.size) _).setCell (p:=⟨w.heap.size,0,none⟩) (Or.inl rfl) _).setCell (p:=⟨w.heap.size,1,none⟩) (Or.inl rfl) _
      refine Zjl rfl h2 h3 ((I.out.set_ 0 _).set_ 1 _) ?_ (by rw[H.out];rfl) (S.out.next J (fun i hi e=>qO))
      rw[H.out];exact zN.nil _
     by_cases p0:s[i+k].toNat < 48
     ·have x3:(s[i+k].toNat:Int)<48:=qO
      have x6:decide ((s[i+k].toNat:Int)<48)=true:=by rw[vZ];omega
      clear x Q H
      go_wp2
      exact L.out _ rfl rfl
     have q0:57<s[i+k].toNat:=by
      have:zX s[i+k]=false:=by simpa using Q
      unfold zX at this
      simp at this
      omega
     have x3:¬ ((s[i+k].toNat:Int)<48):=qO
     have x4:(57:Int)<(s[i+k].toNat:Int):=qO
     have x6:decide ((s[i+k].toNat:Int)<48)=false:=by rw[vF];omega
     have x7:decide ((57:Int)<(s[i+k].toNat:Int))=true:=by rw[vZ];omega
     clear x Q H
     go_wp2
     exact L.out _ rfl rfl
    have r0:1≤k:=by
     rcases uJ k with e|e
     ·subst e;exact absurd ⟨qO,qO⟩ F
     exact e
    have T:Hid (f<W32):=by unfold Hid;rw[zW];omega
    have U:Hid (v<W32):=by unfold Hid;rw[zW];omega
    have M:Hid (ml (zK ((bytes s).take i))≤17592186044416):=by
     have h1:=Zem (kJ _ t.out)
     rw[uM,j.out] at h1
     unfold Hid;omega
    have N:Hid (ml f≤17592186044416):=by
     have:=lD (n:=f) (k:=1)
     rw[Nat.pow_one] at this
     have:=this.2 T.out
     unfold Hid;omega
    have O:Hid (ml v≤17592186044416):=by
     have:=lD (n:=v) (k:=1)
     rw[Nat.pow_one] at this
     have:=this.2 U.out
     unfold Hid;omega
    have l:=zh E.out.done
    have m:Hid (((bytes s).take (i+k)).all zX=true):=E.out.2.2.1
    have P:Hid (ml (zK ((bytes s).take i)*f)≤17592186044416):=by
     have h1:=Zem (kJ _ m.out)
     rw[uM,j.out] at h1
     have h2:=iM (show zK ((bytes s).take i)*f≤zK ((bytes s).take (i+k)) by have:=l.out;omega)
     unfold Hid;omega
    have e0:Hid (0<f):=f0
    by_cases h9:k<9
    ·have g2:¬ ((i:Int)+(k:Int)<(s.size:Int)):=qO
     have d0:decide ((k:Int)<9)=true:=by rw[vZ];omega
     have s0:decide ((i:Int)+(k:Int)<(s.size:Int))=false:=by rw[vF];omega
     clear F E
     go_wp2_with fail
     generalize a:World.alloc wr _=w2
     have y:Own .u32 166 w2 wr.heap.size [f]:=a ▸ Own.new wr 166 .u32 [f] []
     have g:Ext wr w2:=a ▸ (Fr.refl _ _).alloc _
     clear a
     refine (ZfU _ _ (zK ((bytes s).take i)) f _ (hM.out.ext g) (zY.one_pos y T.out e0.out) M.out N.out).mono ?_
     rintro e K ⟨_,rfl,o,z⟩
     obtain⟨A3,l3,c3,rfl⟩:=o.slice
     have B:=zh o
     have C:=zh ((hF.out.trans g).trans z)
     clear o z g y
     go_wp2_with fail
     generalize a:World.alloc K _=w4
     have q:Own .u32 166 w4 K.heap.size [v]:=a ▸ Own.new K 166 .u32 [v] []
     have r:Ext K w4:=a ▸ (Fr.refl _ _).alloc _
     clear a
     refine (kD _ [v] 1 1 _ rfl q.shows0 qS qS).mono ?_
     rintro e w5 ⟨rfl,rfl⟩
     have V:=zh (zY.one q U.out)
     have W:=zh (B.out.ext r)
     have X:=zh (C.out.trans r)
     clear q r B C
     go_wp2_with fail
     refine (ZaJ _ _ _ _ _ W.out V.out P.out O.out).mono ?_
     rintro e w6 ⟨_,rfl,h,D⟩
     rw[l.out] at h
     obtain⟨A6,l6,c6,rfl⟩:=h.slice
     have Y:=zh h
     have Z:=zh (X.out.trans D)
     clear h D
     go_wp2
     go_roundw
     case rel=>exact⟨i+k,A6,l6,c6,qO,by go_num,rfl,m,Y,Z⟩
     case measure=>simp[intOf];omega
    have g2:¬ ((k:Int)<9):=qO
    have d0:decide ((k:Int)<9)=false:=by rw[vF];omega
    clear F E
    go_wp2_with fail
    generalize a:World.alloc wr _=w2
    have y:Own .u32 166 w2 wr.heap.size [f]:=a ▸ Own.new wr 166 .u32 [f] []
    have g:Ext wr w2:=a ▸ (Fr.refl _ _).alloc _
    clear a
    refine (ZfU _ _ (zK ((bytes s).take i)) f _ (hM.out.ext g) (zY.one_pos y T.out e0.out) M.out N.out).mono ?_
    rintro e K ⟨_,rfl,o,z⟩
    obtain⟨A3,l3,c3,rfl⟩:=o.slice
    have B:=zh o
    have C:=zh ((hF.out.trans g).trans z)
    clear o z g y
    go_wp2_with fail
    generalize a:World.alloc K _=w4
    have q:Own .u32 166 w4 K.heap.size [v]:=a ▸ Own.new K 166 .u32 [v] []
    have r:Ext K w4:=a ▸ (Fr.refl _ _).alloc _
    clear a
    refine (kD _ [v] 1 1 _ rfl q.shows0 qS qS).mono ?_
    rintro e w5 ⟨rfl,rfl⟩
    have V:=zh (zY.one q U.out)
    have W:=zh (B.out.ext r)
    have X:=zh (C.out.trans r)
    clear q r B C
    go_wp2_with fail
    refine (ZaJ _ _ _ _ _ W.out V.out P.out O.out).mono ?_
    rintro e w6 ⟨_,rfl,h,D⟩
    rw[l.out] at h
    obtain⟨A6,l6,c6,rfl⟩:=h.slice
    have Y:=zh h
    have Z:=zh (X.out.trans D)
    clear h D
    go_wp2
    go_roundw
    case rel=>exact⟨i+k,A6,l6,c6,qO,by go_num,rfl,m,Y,Z⟩
    case measure=>simp[intOf];omega
  obtain rfl:i=s.size:=qO
  have e1:(bytes s).take s.size=bytes s:=uA (by rw[j.out];exact uF _)
  have HA:Hid ((bytes s).all zX=true):=by have:=t.out;rw[e1] at this;exact this
  have HM:Hid (zY wr (.slice A ln c) (zK (bytes s))):=by have:=hM.out;rw[e1] at this;exact this
  have I:=zh (HB.out.ext hF.out)
  have S:=zh (HE.out.trans hF.out)
  have j0:=zh (Zjm s)
  clear e1 t hM
  go_wp2_with fail
  refine (fW false _ _ _ HM.out).mono ?_
  rintro e w2 ⟨_,rfl,E,g⟩
  obtain⟨s2,A2,l2,c2,rfl⟩:=E.shp
  have HI:=zh E
  have a0:=zh (I.out.ext g)
  have l0:=zh (S.out.trans g)
  obtain⟨k0,k1,k2,k3⟩:=a0.out.cell2
  clear E g
  go_wp2
  have J:Fr (fun i=>i=w.heap.size) w2 ((w2.setCell ⟨w.heap.size,0,none⟩ (.bool s2)).setCell ⟨w.heap.size,1,none⟩ (.slice A2 l2 c2)):=((Fr.refl (fun i=>i=w.heap.size) _).setCell (p:=⟨w.heap.size,0,none⟩) (Or.inl rfl) _).setCell (p:=⟨w.heap.size,1,none⟩) (Or.inl rfl) _
  refine Zjl (b := !s.toList.isEmpty) rfl rfl rfl ((a0.out.set_ 0 _).set_ 1 _) ?_ (by rw[HA.out,j0.out];rfl) (l0.out.next J (fun i hi e=>qO))
  rw[HA.out]
  exact HI.out.oth a0.out lQ J
def xB (c:UInt8):Bool:=c != 47
def iI (l:List UInt8):Option Rat :=
 if (((xE l).2.takeWhile xB).all zX && !((xE l).2.takeWhile xB).isEmpty)=false then none
 else if (xE l).2.drop ((xE l).2.takeWhile xB).length=[] then
  (if xF (((sg (xE l).1 (zK ((xE l).2.takeWhile xB)):Int)):Rat)=l then some (((sg (xE l).1 (zK ((xE l).2.takeWhile xB)):Int)):Rat) else none)
 else if (((xE l).2.drop (((xE l).2.takeWhile xB).length+1)).all zX && !((xE l).2.drop (((xE l).2.takeWhile xB).length+1)).isEmpty)=false∨zK ((xE l).2.drop (((xE l).2.takeWhile xB).length+1))=0 then none
 else (if xF (Rat.divInt (sg (xE l).1 (zK ((xE l).2.takeWhile xB))) (zK ((xE l).2.drop (((xE l).2.takeWhile xB).length+1)):Int))=l then some (Rat.divInt (sg (xE l).1 (zK ((xE l).2.takeWhile xB))) (zK ((xE l).2.drop (((xE l).2.takeWhile xB).length+1)):Int)) else none)
theorem Zmj {l:List UInt8}{q:Rat}(h:iI l=some q):xF q=l:=by
 unfold iI at h
 split at h
 ·cases h
 split at h
 ·split at h
  ·rename_i e;injection h with h;rw[←h];exact e
  cases h
 split at h
 ·cases h
 split at h
 ·rename_i e;injection h with h;rw[←h];exact e
 cases h
theorem aQ {l:List UInt8}(h:l.all zX=true):l.all xB=true:=by
 rw[vI] at *
 intro x a
 have:=h x a
 unfold xB
 simp
 rintro rfl
 exact absurd this qD
theorem Zmk (q:Rat):iI (xF q)=some q:=by
 by_cases h:q.den=1
 ·have e:xF q=Lib.itoa q.num ++ []:=by unfold xF;rw[uZ h,rJ]
  have a:=Zar q.num []
  rw[←e,rJ] at a
  obtain⟨f,g⟩:=eP (aQ (kY q.num.natAbs))
  unfold iI
  rw[a]
  simp only[]
  rw[f,kY,iA,ZdR,Zgf h]
  rw[uQ (by simp[lI]),vA (uF _),uZ rfl,uZ rfl]
 have e:xF q=Lib.itoa q.num ++ 47 :: Lib.decDigits q.den:=by unfold xF;rw[uQ h,iB];simp
 have a:=Zar q.num (47 :: Lib.decDigits q.den)
 rw[←e] at a
 obtain⟨f,g⟩:=Zad (p:=xB) (r:=Lib.decDigits q.den) (c:=47) (aQ (kY q.num.natAbs)) qD
 have i:=q.den_nz
 have b:(Lib.decDigits q.num.natAbs ++ 47 :: Lib.decDigits q.den).drop (Lib.decDigits q.num.natAbs).length=47 :: Lib.decDigits q.den:=qS
 have d:(Lib.decDigits q.num.natAbs ++ 47 :: Lib.decDigits q.den).drop ((Lib.decDigits q.num.natAbs).length+1)=Lib.decDigits q.den:=by
  rw[←vV,b];rfl
 unfold iI
 rw[a]
 simp only[]
 rw[f,b,d,kY,kY,iA,iA,ZdR,Rat.num_divInt_den]
 rw[uQ (by simp[lI]),uQ qS,uQ (by simp[lI];exact i),uZ rfl]
theorem ZcT (l:List UInt8):iI l=xW l:=by
 cases h:iI l with
 | some q=>rw[←Zmj h];exact (Zhw q).symm
 | none =>
  cases k:xW l with
  | none=>rfl
  | some q =>
   have:=gR k
   rw[←this,Zmk] at h
   cases h
def Zfj (w:World) (l:List UInt8) (e:Ending) (w':World):Prop :=
 ∃ v ok q,e=.returned (.tuple #[v,.bool ok])∧Ext w w'∧xD w' v q∧((ok=true∧xW l=some q)∨(ok=false∧xW l=none))
theorem Zjn {q:Rat}{s:ByteArray}{b:Bool}(a:iI (bytes s)=if xF q=bytes s then some q else none)(c:b=decide (xF q=bytes s)):(b=true∧xW (bytes s)=some q)∨(b=false∧xW (bytes s)=none):=by
 rw[ZcT] at a
 by_cases h:xF q=bytes s
 ·rw[uZ h] at a;left;exact⟨by rw[c,vP h],a⟩
 rw[uQ h] at a;right;exact⟨by rw[c,uR h],a⟩
theorem Zgi (t:ByteArray)(a b:Nat):(t.extract a b).size≤t.size:=by
 rw[←zT,kF,uM,tC,zT];omega
theorem Zdb {l:List UInt8}{k:Nat}(h:(l.take k).all xB=true)(a:∀ h:k<l.length,xB l[k]=false)(b:k≤l.length):k=(l.takeWhile xB).length:=by
 rw[(Zbb h a).1,uM];omega
theorem Zgj {t:ByteArray}{p:Nat}(a:p=((bytes t).takeWhile xB).length):bytes (t.extract 0 p)=(bytes t).takeWhile xB∧bytes (t.extract (p+1) t.size)=(bytes t).drop (p+1):=by
 rw[kF,kF]
 refine⟨?_,?_⟩
 ·rw[sE,Nat.sub_zero,a]
  have:=List.takeWhile_prefix xB (l:=bytes t)
  exact (List.prefix_iff_eq_take.1 this).symm
 rw[uA (by rw[tC,zT];exact uF _)]
theorem Zml {l t:List UInt8}{neg:Bool}(a:xE l=(neg,t))(b:(((t.takeWhile xB)).all zX && !(t.takeWhile xB).isEmpty)=false):iI l=none:=by
 unfold iI;rw[a];simp only[];rw[uZ b]
theorem Zko {l t:List UInt8}{neg:Bool}(a:xE l=(neg,t))(b:(((t.takeWhile xB)).all zX && !(t.takeWhile xB).isEmpty)=true)(c:t.length≤(t.takeWhile xB).length) :
 iI l=if xF ((sg neg (zK (t.takeWhile xB)):Int):Rat)=l then some ((sg neg (zK (t.takeWhile xB)):Int):Rat) else none:=by
 unfold iI;rw[a];simp only[];rw[uQ (by rw[b];simp),uZ (vA c)]
theorem Zgk {l t:List UInt8}{neg:Bool}(a:xE l=(neg,t))(b:(((t.takeWhile xB)).all zX && !(t.takeWhile xB).isEmpty)=true)(d:(t.takeWhile xB).length<t.length)(c:((t.drop ((t.takeWhile xB).length+1)).all zX && !(t.drop ((t.takeWhile xB).length+1)).isEmpty)=false∨zK (t.drop ((t.takeWhile xB).length+1))=0):iI l=none:=by
 unfold iI;rw[a];simp only[];rw[uQ (by rw[b];simp),uQ (fun e=>by have:=uX List.length e;simp at this;omega),uZ c]
theorem Zmm {l t:List UInt8}{neg:Bool}(a:xE l=(neg,t))(b:(((t.takeWhile xB)).all zX && !(t.takeWhile xB).isEmpty)=true)(d:(t.takeWhile xB).length<t.length)(c:((t.drop ((t.takeWhile xB).length+1)).all zX && !(t.drop ((t.takeWhile xB).length+1)).isEmpty)=true)(h3:zK (t.drop ((t.takeWhile xB).length+1))≠0) :
 iI l=if xF (Rat.divInt (sg neg (zK (t.takeWhile xB))) (zK (t.drop ((t.takeWhile xB).length+1)):Int))=l then some (Rat.divInt (sg neg (zK (t.takeWhile xB))) (zK (t.drop ((t.takeWhile xB).length+1)):Int)) else none:=by
 unfold iI;rw[a];simp only[];rw[uQ (by rw[b];simp),uQ (fun e=>by have:=uX List.length e;simp at this;omega),uQ (fun e=>e.elim (fun e=>by rw[c] at e;cases e) h3)]
theorem Zk8 {x:List UInt8}{s:ByteArray}:((⟨x.toArray⟩:ByteArray).toList == s.toList)=decide (x=bytes s):=by
 rw[Lib.toList_data,Lib.toList_data]
 by_cases h:x=bytes s
 ·rw[vP h];simp[h]
 rw[uR h];simpa using h
theorem Zk9 {t:ByteArray}(h:(bytes t).all zX=true):zK (bytes t)<10^t.size:=by
 have:=kJ _ h
 rwa [zT] at this
theorem Zio {neg:Bool}{n:Nat}:(sg neg n).natAbs=n:=by cases neg<;>simp[sg]
theorem Zjo {s:ByteArray}(h:¬ bytes s=[]):∃ c,(bytes s).head? = some c∧s[0]? = some c:=by
 obtain⟨a,_⟩:=bW h
 exact⟨s[0],bX a,by simp[a]⟩
theorem Zfk {s:ByteArray}(h:¬ bytes s=[]):1≤s.size:=(bW h).1
theorem Zjp {s:ByteArray}{c:UInt8}(h:(bytes s).head? = some c)(a:c=45):xE (bytes s)=(true,bytes (s.extract 1 s.size)):=by
 unfold xE
 rw[h,a,uZ rfl,kF,uA (by rw[tC,zT];exact uF _),List.drop_one]
theorem Zkp {s:ByteArray}{c:UInt8}(h:(bytes s).head? = some c)(a:¬ c=45):xE (bytes s)=(false,bytes s):=by
 unfold xE
 rw[h,uQ (by simpa using a)]
theorem ZpS {c b:UInt8}(h:c=b):((c.toNat:Int) == (b.toNat:Int))=true:=by subst h;simp
theorem ZpT {c b:UInt8}(h:¬ c=b):((c.toNat:Int) == (b.toNat:Int))=false:=by
 have:c.toNat≠b.toNat:=fun e=>h (UInt8.toNat_inj.1 e)
 simp;omega
theorem Zr7 {a b:Nat}(h:a<b):decide (((a:Nat):Int)<((b:Nat):Int))=true:=vP qO
theorem ZqT {a b:Nat}(h:¬ a<b):decide (((a:Nat):Int)<((b:Nat):Int))=false:=uR qO
theorem ZdV {a:Nat}(h:a≤140737488351232):IntKind.i64.wrap (((a:Nat):Int)+1)=((a+1:Nat):Int):=by rw[IntKind.wrap_i64];omega
theorem Zpk {n:Nat}(h:n=0):(((n:Int).sign:Int) == 0)=true:=by subst h;rfl
theorem ZnT {n:Nat}(h:¬ n=0):(((n:Int).sign:Int) == 0)=false:=by
 rw[tK];exact fun e=>h (by have:=sO.1 e;omega)
theorem Zla {w w':World}{e:Ending}{l:List UInt8}(h:Zgh w l e w')(f:l.all zX=true)(a:l≠[]):lG (fun x:ShI=>.tuple #[wN x,.bool true]) (fun x w=>zN w (wN x) (zK l:Int)) w e w':=by
 obtain⟨v,b,rfl,rfl,d,Q⟩:=h
 rw[uZ f] at d
 obtain⟨s,A,g,c,rfl⟩:=d.shp
 refine⟨(s,A,g,c),?_,Q,boxn Q (fun S i j k=>d.nrb j k)⟩
 rw[f,show l.isEmpty=false by simpa using a];rfl
theorem ZaO {P:Program}{o:Oper}{ρ:Operand→Value}{w:World}{t:TypeId}{x i:Operand}{b:ByteArray}{k:Nat}{c:UInt8}(a:o.op=Op.index t x i)(d:P.underlying t=some .string)(e:ρ x=.string b)(hi:ρ i=.int .i64 (k:Int))(f:b[k]? = some c):(execOp ρ o).run P w=.ok (.value (.int .u8 (c.toNat:Int))) w:=by
 simp[execOp,a,Instr.index,asIntOf,underlying,d,e,hi,f,Result.andThen]
theorem Zjq {w w':World}{e:Ending}{l:List UInt8}(h:Zgh w l e w')(a:¬ (l.all zX && !l.isEmpty)=true):lG (fun x:ShI=>.tuple #[wN x,.bool false]) (fun _ _=>True) w e w':=by
 obtain⟨v,b,rfl,rfl,d,Q⟩:=h
 obtain⟨s,A,f,c,rfl⟩:=d.shp
 exact⟨(s,A,f,c),by rw[qU.2 a];rfl,Q,BoxN.pure trivial⟩
theorem ZhD {l:List UInt8}(h:(l.all zX && !l.isEmpty)=true):l.all zX=true∧l≠[]:=by
 rw[tD] at h
 exact⟨h.1,fun e=>by rw[e] at h;simp at h⟩
theorem xD.whole {w:World}{s:Bool}{A:qA}{l c:Nat}{z:Int}(h:zN w (vI2 s A l c) z):xD w (.agg #[.bool s,.slice A l c,.bool false,Ξ]) ((z:Int):Rat) :=
 xD.of h (by rw[dS (by rfl)];exact zN.nil _)
theorem Zr8 {n k:Nat}(h:n<10^k)(a:k≤140737488351232):wC ((n:Nat):Int):=by
 have:=Zem h
 unfold wC
 rw[tQ];omega
theorem ZqU {s:Bool}{n k:Nat}(h:n<10^k)(a:k≤140737488351232):wC (sg s n):=by
 have:=Zem h
 unfold wC
 rw[Zio];omega
theorem Zlb {x y:Int}{a b j:Nat}(c:y≠0)(d:x.natAbs<a)(e:y.natAbs<b)(f:j≤140737488351232){k:Nat}(g:k≤140737488351232):((Rat.divInt x y).num.natAbs<a∧j≤140737488355000)∧((Rat.divInt x y).den<b∧k≤140737488355000):=by
 refine⟨⟨vN ?_ d,qO⟩,vN ?_ e,qO⟩
 ·rw[Rat.num_divInt,Int.natAbs_ediv_of_dvd]
  ·refine uD (vG _ _) ?_
   rw[Int.natAbs_mul]
   rcases Int.lt_or_gt_of_ne c with h|h
   ·rw[pA h];simp
   rw[qB h];simp
  exact Int.dvd_mul_of_dvd_right (Int.gcd_dvd_right _ _)
 rw[Rat.den_divInt,uQ c]
 exact vG _ _
theorem Zmn {n:Nat}(h:¬ n=0):((n:Nat):Int)≠0:=qO
theorem ZqV:(1:Nat)<10^1∧1≤140737488355000:=qD
theorem ZqW {t:ByteArray}{i:Nat}{c:UInt8}(d:((bytes t).take i).all xB=true)(hc:t[i]? = some c)(h:¬ c=47):((bytes t).take (i+1)).all xB=true:=by
 have hi:i<t.size:=by
  rcases vM i t.size with b|b
  ·exact b
  rw[getElem?_neg t i qO] at hc;cases hc
 have a:t[i]=c:=by
  rw[nA t i hi] at hc;exact rT hc
 rw[Zax t i hi,qX,d,a]
 simp[xB,h]
theorem Zr9 {t:ByteArray}{i:Nat}{c:UInt8}(e:((bytes t).take i).all xB=true)(d:t[i]? = some c)(h:c=47)(hi:i≤t.size):i=((bytes t).takeWhile xB).length:=by
 refine Zdb e (fun a=>?_) (by rw[zT];exact hi)
 have b:i<t.size:=by rw[←zT];exact a
 rw[nA t i b] at d
 have:(bytes t)[i]=47:=(rT d).trans h
 rw[this];rfl
theorem Zsa {t:ByteArray}(a:((bytes t).take t.size).all xB=true):t.size=((bytes t).takeWhile xB).length :=
 Zdb a (fun h=>by rw[zT] at h;omega) (by rw[zT];exact uF _)
theorem ZbF (s:ByteArray)(w:World)(hs:s.size≤140737488351232) :
 yA 9 #[.string s] w (Zfj w (bytes s)):=by
 refine zV (Φ:=fun w=>True) func9 rfl qK (fun w' hf=>trivial) ?_
 refine yY (xq 2 [Δ 2,yB 3 false] [Θ 2 43] ?_)
 refine yZ (yY (xq 2 [yT 4 s] [] ?_))
 refine xe (zB ?_)
 refine Zcd (fun z A=>∃ (b:Bool),z=ofL [yT 0 s,Δ 2,yB 3 false,yT 4 s,yB 5 b] [(2,43,[.v (.bool false),Ω,.v (.bool false),Ω])]∧A=(fun w=>True)∧((b=true→xE (bytes s)=(true,bytes (s.extract 1 s.size))∧1≤s.size)∧(b=false→xE (bytes s)=(false,bytes s)))) ?_ ?_
 ·by_cases N:bytes s=[]
  ·have a0:s.size=0:=by rw[←zT,N];rfl
   refine zC (xq 3 [yB 16 (decide (((s).size:Int)>0))] [] ?_)
   rw[(show decide (((s).size:Int)>0)=false from uR qO)]
   refine xq 6 [yB 5 false] [] ?_
   refine xe ?_
   exact kW ⟨false,rfl,rfl,⟨fun h=>(by cases h),fun _=>(by unfold xE;rw[N];rfl)⟩⟩ (fun w Q=>trivial)
  obtain⟨O,h0,P⟩:=Zjo N
  have a0:=Zfk N
  by_cases hm:O=45
  ·refine zC (xq 3 [yB 16 (decide (((s).size:Int)>0))] [] ?_)
   rw[(show decide (((s).size:Int)>0)=true from vP qO)]
   refine xq 2 [yB 17 true,yT 18 s] [] ?_
   refine xqk 19 _ (fun w R Q=>ZaO (t:=9) (x:=.tmp 18) (i:=.const (yI 0)) qK qK qK (by rfl) P) ?_
   refine xq 1 [yB 20 (((O.toNat:Int):Int) == 45)] [] ?_
   rw[(show ((O.toNat:Int) == 45)=true from ZpS hm)]
   refine xq 2 [yB 5 true] [] ?_
   refine xe ?_
   exact kW ⟨true,rfl,rfl,⟨fun _=>⟨Zjp h0 hm,Zfk N⟩,fun h=>(by cases h)⟩⟩ (fun w Q=>trivial)
  refine zC (xq 3 [yB 16 (decide (((s).size:Int)>0))] [] ?_)
  rw[(show decide (((s).size:Int)>0)=true from vP qO)]
  refine xq 2 [yB 17 true,yT 18 s] [] ?_
  refine xqk 19 _ (fun w R Q=>ZaO (t:=9) (x:=.tmp 18) (i:=.const (yI 0)) qK qK qK (by rfl) P) ?_
  refine xq 1 [yB 20 (((O.toNat:Int):Int) == 45)] [] ?_
  rw[(show ((O.toNat:Int) == 45)=false from ZpT (b:=45) hm)]
  refine xq 2 [yB 5 false] [] ?_
  refine xe ?_
  exact kW ⟨false,rfl,rfl,⟨fun h=>(by cases h),fun _=>Zkp h0 hm⟩⟩ (fun w Q=>trivial)
 rintro z A ⟨b,rfl,rfl,HB⟩
 refine Zcd (fun z A=>∃ (t:ByteArray) (d:Bool),z=ofL [yT 0 s,Δ 2,yB 3 false,yT 4 t,yB 5 d] [(2,43,[.v (.bool false),Ω,.v (.bool false),Ω])]∧A=(fun w=>True)∧(xE (bytes s)=(d,bytes t))∧(t.size≤140737488351232)) ?_ ?_
 ·refine yY (xq 1 [yB 22 b] [] ?_)
  refine xe (zB ?_)
  refine yQ (b) (fun B=>?_) fun B=>?_
  ·have C:=B
   obtain⟨S,b0⟩:=HB.1 C
   obtain⟨t,ht⟩:=yE (s.extract 1 s.size)
   rw[ht] at S
   have lt:t.size≤140737488351232:=by rw[←ht,rX];omega
   refine zC (xq 1 [yT 23 s] [] ?_)
   refine xqk 24 _ (fun w R Q=>gQ 1 _ (t:=9) (x:=.tmp 23) (lo:=(some (Operand.const (Value.int IntKind.i64 1)))) (hi:=none) qK qK qK (Or.inr rfl) (Or.inl ⟨rfl,rfl⟩) b0 (uF _) ht) ?_
   refine xq 1 [yT 4 t] [] ?_
   refine xe ?_
   exact kW ⟨t,b,rfl,rfl,(by rw[C];exact S),lt⟩ (fun w Q=>trivial)
  have C:=B
  refine zG ?_
  exact kW ⟨s,b,rfl,rfl,(by rw[C];exact HB.2 C),hs⟩ (fun w Q=>trivial)
 rintro z A ⟨t,d,rfl,rfl,T,lt⟩
 refine yY (xq 3 [yJ 6 ((t).size:Int)] [] ?_)
 refine xe (zB ?_)
 refine Zcd (fun z A=>∃ (p:Nat),z=ofL [yT 0 s,Δ 2,yB 3 false,yT 4 t,yB 5 d,yJ 6 p] [(2,43,[.v (.bool false),Ω,.v (.bool false),Ω])]∧A=(fun w=>True)∧(p=((bytes t).takeWhile xB).length)∧(p≤t.size)) ?_ ?_
 ·refine yY (xq 1 [yJ 7 0] [] ?_)
  refine yZ (zO ?_)
  refine xI (fun nn z A=>∃ (i:Nat),z=ofL [yT 0 s,Δ 2,yB 3 false,yT 4 t,yB 5 d,yJ 6 ((t).size:Int),yJ 7 i] [(2,43,[.v (.bool false),Ω,.v (.bool false),Ω])]∧A=(fun w=>True)∧(i≤t.size)∧(((bytes t).take i).all xB=true)∧nn=t.size-i) _ ⟨0,rfl,rfl,(uT _),rfl,rfl⟩ (fun w Q=>trivial) ?_
  rintro nn z A ⟨i,rfl,rfl,hi,hI,rfl⟩
  refine zD (yY (xq 4 [yB 30 (decide ((i:Int)<((t).size:Int)))] [] ?_))
  refine xe (zB ?_)
  refine yQ ((decide ((i:Int)<((t).size:Int)))) (fun D=>?_) fun D=>?_
  ·have U:i<t.size:=by have:=uB D;omega
   obtain⟨c,hc⟩:∃ c,t[i]? = some c:=⟨t[i],by simp[U]⟩
   refine zG (zB (zD (zO (zD ?_))))
   by_cases F:c=47
   ·refine zC (xq 2 [yT 33 t,yJ 34 i] [] ?_)
    refine xqk 35 _ (fun w R Q=>ZaO (t:=9) (x:=.tmp 33) (i:=.tmp 34) qK qK qK qK hc) ?_
    refine xq 1 [yB 36 (((c.toNat:Int):Int) == 47)] [] ?_
    rw[(show ((c.toNat:Int) == 47)=true from ZpS F)]
    refine yZ (xa (yY (xq 2 [yJ 6 i] [] ?_)))
    refine yZ (xJ ?_)
    refine Zca qK ?_
    refine zE (zE (xL ?_))
    exact kW ⟨i,rfl,rfl,Zr9 hI hc F hi,hi⟩ (fun w Q=>trivial)
   refine zC (xq 2 [yT 33 t,yJ 34 i] [] ?_)
   refine xqk 35 _ (fun w R Q=>ZaO (t:=9) (x:=.tmp 33) (i:=.tmp 34) qK qK qK qK hc) ?_
   refine xq 1 [yB 36 (((c.toNat:Int):Int) == 47)] [] ?_
   rw[(show ((c.toNat:Int) == 47)=false from ZpT (b:=47) F)]
   refine yZ (xb (zG (xK (zB (zC (xq 2 [yJ 32 (IntKind.i64.wrap ((i:Int)+1))] [] ?_))))))
   rw[ZdV (a:=i) qO]
   refine xq 1 [yJ 7 (i+1:Nat)] [] ?_
   refine xe ?_
   exact xC _ qO ⟨(i+1),rfl,rfl,U,ZqW hI hc F,rfl⟩ (fun w Q=>trivial)
  have d0:i=t.size:=by have:=uC D;omega
  refine xJ (zE (zE (xL ?_)))
  exact kW ⟨t.size,rfl,rfl,Zsa (d0 ▸ hI),(uF _)⟩ (fun w Q=>trivial)
 rintro z A ⟨p,rfl,rfl,E,V⟩
 refine zD ?_
 obtain⟨x,hx⟩:=yE (t.extract 0 p)
 have K:bytes x=(bytes t).takeWhile xB:=by rw[←hx];exact (Zgj E).1
 have lx:x.size≤140737488351232:=uD (by rw[←hx];exact Zgi _ _ _) lt
 by_cases L:((bytes x).all zX && !(bytes x).isEmpty)=true
 ·obtain⟨dx,nx⟩:=ZhD L
  have MX:=Zk9 dx
  refine zC (xq 2 [yT 39 t,yJ 40 p] [] ?_)
  refine xqk 41 _ (fun w R Q=>gQ 0 p (t:=9) (x:=.tmp 39) (lo:=none) (hi:=(some (Operand.tmp 40))) qK qK qK (Or.inl ⟨rfl,rfl⟩) (Or.inr qK) qO V hx) ?_
  refine xqc _ _ 42 (fun x:ShI=>.tuple #[wN x,.bool true]) _ (fun w R Q=>(dE x _ qO).mono (fun _ _ h=>Zla h dx nx)) fun⟨e0,W,X,Y⟩=>?_
  refine xq 6 [Δ 8,yB 9 true] [bI2 8 41 e0 W X Y] ?_
  refine yZ (zD (yY (xq 2 [yB 46 false] [] ?_)))
  refine yZ (xb (zG (zB (yY (xq 3 [yB 48 d,eS1 50 W X Y] [] ?_)))))
  refine xqc _ _ 51 wN _ (fun w R Q=>(fW _ _ _ _ Q.2.mag).mono (fun _ _ h=>kE (by rw[show sg d ((zK (bytes x):Int)).natAbs=sg d (zK (bytes x)) by rw[tQ]] at h;exact h))) fun⟨e,f,g,j⟩=>?_
  refine xq 3 [Δ 10] [bR4 10 43 e f g j false none 0 0] ?_
  refine yZ (zD (zD ?_))
  by_cases Z:p<t.size
  ·obtain⟨q,hq⟩:=yE (t.extract (p+1) t.size)
   have HQ:bytes q=(bytes t).drop (p+1):=by rw[←hq];exact (Zgj E).2
   have lq:q.size≤140737488351232:=uD (by rw[←hq];exact Zgi _ _ _) lt
   refine zC (xq 4 [yB 56 (decide ((p:Int)<((t).size:Int)))] [] ?_)
   rw[Zr7 Z]
   refine yZ (xa (zD ?_))
   by_cases hQ:((bytes q).all zX && !(bytes q).isEmpty)=true
   ·obtain⟨dq,nq⟩:=ZhD hQ
    have MQ:=Zk9 dq
    refine zC (xq 3 [yT 58 t,yJ 60 (IntKind.i64.wrap ((p:Int)+1))] [] ?_)
    rw[ZdV (a:=p) qO]
    refine xqk 61 _ (fun w R Q=>gQ (p+1) _ (t:=9) (x:=.tmp 58) (lo:=(some (Operand.tmp 60))) (hi:=none) qK qK qK (Or.inr qK) (Or.inl ⟨rfl,rfl⟩) qO (uF _) hq) ?_
    refine xqc _ _ 62 (fun x:ShI=>.tuple #[wN x,.bool true]) _ (fun w R Q=>(dE q _ qO).mono (fun _ _ h=>Zla h dq nq)) fun⟨G,H,I,J⟩=>?_
    refine xq 6 [Δ 11,yB 12 true] [bI2 11 41 G H I J] ?_
    refine yZ (zD (zD ?_))
    by_cases M:zK (bytes q)=0
    ·refine zC (xq 4 [yB 67 false,eI2 68 G H I J] [] ?_)
     refine xqc _ _ 69 (fun _:Unit=>yI ((zK (bytes q):Int)).sign) _ (fun w R Q=>yN (dU _ ((zK (bytes q):Int)) _ Q.2)) fun xx=>?_
     refine xq 1 [(70,.v (.bool ((((zK (bytes q):Int)).sign:Int) == 0)))] [] ?_
     rw[Zpk M]
     refine xq 1 [yB 71 true] [] ?_
     refine yZ (xa (yY (xq 3 [yB 3 false] [] ?_)))
     refine yZ (zJ (zM (zM ?_)))
     refine yR (.tuple #[.agg #[.bool false,Ξ,.bool false,Ξ],.bool false]) fun w' R Q=>?_
     exact⟨_,false,0,rfl,R,xD.nil _,Or.inr ⟨rfl,by rw[←ZcT];exact Zgk T (by rw[←K];exact L) (by rw[←E,zT];exact Z) (by rw[←E,← HQ];exact Or.inr M)⟩⟩
    refine zC (xq 4 [yB 67 false,eI2 68 G H I J] [] ?_)
    refine xqc _ _ 69 (fun _:Unit=>yI ((zK (bytes q):Int)).sign) _ (fun w R Q=>yN (dU _ ((zK (bytes q):Int)) _ Q.2)) fun xx=>?_
    refine xq 1 [(70,.v (.bool ((((zK (bytes q):Int)).sign:Int) == 0)))] [] ?_
    rw[ZnT M]
    refine xq 1 [yB 71 false] [] ?_
    refine yZ (xb (zG (zB (zC (xq 3 [eI2 74 e f g j,eI2 75 G H I J] [] ?_)))))
    refine xqc _ _ 76 iF _ (fun w R Q=>yM Zhk (ZnO _ _ (sg d (zK (bytes x))) ((zK (bytes q):Int)) _ Q.1.1.2 Q.1.2 (ZqU MX lx) (Zr8 MQ lq) (Zmn M))) fun⟨k,l,m,n,o,r,u,y⟩=>?_
    refine xr 1 [yT 0 s,Δ 2,yB 3 false,Δ 10] [bR4 10 43 k l m n o r u y,Θ 2 43] ?_
    refine yZ (zD ?_)
    refine yO 7 zQ ?_
    refine xqg 2 [eR4 77 k l m n o r u y,eR4 78 k l m n o r u y] ?_
    refine xqd _ _ 79 (fun _:Unit=>.string ⟨(xF (Rat.divInt (sg d (zK (bytes x))) ((zK (bytes q):Int)))).toArray⟩) _ (fun w R Q=>yN (eK _ (Rat.divInt (sg d (zK (bytes x))) ((zK (bytes q):Int))) _ Q.2 x.size q.size (Zlb (Zmn M) (by rw[Zio];exact MX) MQ lx lq).1 (Zlb (Zmn M) (by rw[Zio];exact MX) MQ lx lq).2)) fun xx=>?_
    refine xqf 4 [(3,.v (.bool ((⟨(xF (Rat.divInt (sg d (zK (bytes x))) ((zK (bytes q):Int)))).toArray⟩:ByteArray).toList == (s:ByteArray).toList)))] [bR4 2 43 k l m n o r u y,bR4 10 43 k l m n o r u y,Θ 2 43] ?_
    refine xz (yZ (zJ ?_))
    refine yR (.tuple #[vR4 k l m n o r u y,.bool ((⟨(xF (Rat.divInt (sg d (zK (bytes x))) ((zK (bytes q):Int)))).toArray⟩:ByteArray).toList == (s:ByteArray).toList)]) fun w' R Q=>?_
    exact⟨_,_,_,rfl,R,Q.1.2,Zjn (by rw[Zmm T (by rw[←K];exact L) (by rw[←E,zT];exact Z) (by rw[←E,← HQ];exact hQ) (by rw[←E,← HQ];exact M),← E,← HQ,← K]) Zk8⟩
   refine zC (xq 3 [yT 58 t,yJ 60 (IntKind.i64.wrap ((p:Int)+1))] [] ?_)
   rw[ZdV (a:=p) qO]
   refine xqk 61 _ (fun w R Q=>gQ (p+1) _ (t:=9) (x:=.tmp 58) (lo:=(some (Operand.tmp 60))) (hi:=none) qK qK qK (Or.inr qK) (Or.inl ⟨rfl,rfl⟩) qO (uF _) hq) ?_
   refine xqc _ _ 62 (fun x:ShI=>.tuple #[wN x,.bool false]) _ (fun w R Q=>(dE q _ qO).mono (fun _ _ h=>Zjq h hQ)) fun⟨f0,g0,i0,j0⟩=>?_
   refine xq 6 [Δ 11,yB 12 false] [bI2 11 41 f0 g0 i0 j0] ?_
   refine yZ (zD (yY (xq 7 [yB 71 true] [] ?_)))
   refine yZ (xa (yY (xq 3 [yB 3 false] [] ?_)))
   refine yZ (zJ (zM (zM ?_)))
   refine yR (.tuple #[.agg #[.bool false,Ξ,.bool false,Ξ],.bool false]) fun w' R Q=>?_
   exact⟨_,false,0,rfl,R,xD.nil _,Or.inr ⟨rfl,by rw[←ZcT];exact Zgk T (by rw[←K];exact L) (by rw[←E,zT];exact Z) (by rw[←E,← HQ];exact Or.inl (qU.2 hQ))⟩⟩
  refine zC (xq 4 [yB 56 (decide ((p:Int)<((t).size:Int)))] [] ?_)
  rw[ZqT Z]
  refine yZ (xb (zG (zB (zD ?_))))
  refine SXc.weak [yT 0 s,Δ 2,yB 3 false,Δ 10] [(10,43,[.v (.bool e),Λ f g j,.v (.bool false),Ω]),(2,43,[.v (.bool false),Ω,.v (.bool false),Ω])] (kQ.of qK) qK (fun _ h=>h) ?_
  refine yO 7 zQ ?_
  refine xqg 2 [eR4 77 e f g j false none 0 0,eR4 78 e f g j false none 0 0] ?_
  refine xqd _ _ 79 (fun _:Unit=>.string ⟨(xF (((sg d (zK (bytes x)):Int):Rat))).toArray⟩) _ (fun w R Q=>yN (eK _ (((sg d (zK (bytes x)):Int):Rat)) _ (xD.whole Q.2) x.size 1 ⟨by show (sg d (zK (bytes x))).natAbs<_;rw[Zio];exact MX,qO⟩ ZqV)) fun xx=>?_
  refine xqf 4 [(3,.v (.bool ((⟨(xF (((sg d (zK (bytes x)):Int):Rat))).toArray⟩:ByteArray).toList == (s:ByteArray).toList)))] [bR4 2 43 e f g j false none 0 0,bR4 10 43 e f g j false none 0 0,Θ 2 43] ?_
  refine xz (yZ (zJ ?_))
  refine zF (v:=.tuple #[.agg #[.bool e,.slice f g j,.bool false,Ξ],.bool ((⟨(xF (((sg d (zK (bytes x)):Int):Rat))).toArray⟩:ByteArray).toList == (s:ByteArray).toList)]) qK fun w' R Q=>?_
  exact⟨_,_,_,rfl,R,(xD.whole Q.1.2),Zjn (by rw[Zko T (by rw[←K];exact L) (by rw[←E,zT];omega),← K]) Zk8⟩
 refine zC (xq 2 [yT 39 t,yJ 40 p] [] ?_)
 refine xqk 41 _ (fun w R Q=>gQ 0 p (t:=9) (x:=.tmp 39) (lo:=none) (hi:=(some (Operand.tmp 40))) qK qK qK (Or.inl ⟨rfl,rfl⟩) (Or.inr qK) qO V hx) ?_
 refine xqc _ _ 42 (fun x:ShI=>.tuple #[wN x,.bool false]) _ (fun w R Q=>(dE x _ qO).mono (fun _ _ h=>Zjq h L)) fun⟨k0,l0,m0,n0⟩=>?_
 refine xq 6 [Δ 8,yB 9 false] [bI2 8 41 k0 l0 m0 n0] ?_
 refine yZ (zD (yY (xq 2 [yB 46 true] [] ?_)))
 refine yZ (xa (yY (xq 3 [yB 3 false] [] ?_)))
 refine yZ (zJ (zM ?_))
 refine yR (.tuple #[.agg #[.bool false,Ξ,.bool false,Ξ],.bool false]) fun w' R Q=>?_
 exact⟨_,false,0,rfl,R,xD.nil _,Or.inr ⟨rfl,by rw[←ZcT];exact Zml T (by rw[←K];exact qU.2 L)⟩⟩
section
variable {w w':World} {e:Ending} {l:List UInt8}
theorem Zgl (h:Zfj w l e w')(b:xW l=none):lG (fun x:ShQ=>.tuple #[iF x,.bool false]) (fun x w=>∃ q,xD w (iF x) q) w e w':=by
 obtain⟨v,j,q,rfl,Q,a,⟨rfl,h1⟩|⟨rfl,h1⟩⟩:=h
 ·rw[b] at h1;cases h1
 obtain⟨s,A,l,c,t,B,m,d,rfl⟩:=a.shp
 exact⟨(s,A,l,c,t,B,m,d),rfl,Q,boxn Q (fun S f g i=>⟨q,a.nrb g i⟩)⟩
theorem aR {q:Rat}(h:Zfj w l e w')(a:xW l=some q):lG (fun x:ShQ=>.tuple #[iF x,.bool true]) (fun x w=>xD w (iF x) q) w e w':=by
 obtain⟨v,j,k,rfl,Q,b,⟨rfl,h1⟩|⟨rfl,h1⟩⟩:=h
 ·rw[a] at h1;injection h1 with h1;subst h1
  obtain⟨s,A,l,c,t,B,m,d,rfl⟩:=b.shp
  exact⟨(s,A,l,c,t,B,m,d),rfl,Q,boxn Q (fun S f g i=>b.nrb g i)⟩
 rw[a] at h1;cases h1
end
theorem ZbU:∀ l:List UInt8,Lib.indexByte l 47=if (l.takeWhile xB).length<l.length then ((l.takeWhile xB).length:Int) else -1
 | []=>by simp[Lib.indexByte]
 | b :: l=>by
  have e:=ZbU l
  unfold Lib.indexByte
  by_cases a:b=47
  ·subst a;simp[xB]
  have f:(b == (47:UInt8))=false:=by simpa using a
  have g:xB b=true:=by simp[xB,a]
  rw[f,e]
  simp only[oK,g,sB,if_true,qI,nM]
  generalize (l.takeWhile xB).length=k
  generalize l.length=n
  by_cases d:k<n
  ·have c:k+1<n+1:=qO
   have h:((k:Int) == -1)=false:=qS
   rw[uZ c,uZ d]
   simp only[h,qI,nM]
   omega
  have c:¬ k+1<n+1:=qO
  rw[uQ c,uQ d]
  rfl
theorem Zsb {s:ByteArray}(h:bytes s=[47]):(0:Int)=Lib.indexByte (bytes s) 47:=by rw[h];rfl
theorem ZqX {s:ByteArray}(h:bytes s=[47]):((⟨#[47]⟩:ByteArray).toList == s.toList)=true:=by
 rw[Lib.toList_data,Lib.toList_data,show s.data.toList=[47] from h];rfl
theorem ZqY {s:ByteArray}(h:¬ bytes s=[47]):((⟨#[47]⟩:ByteArray).toList == s.toList)=false:=by
 rw[Lib.toList_data,Lib.toList_data];exact tK.2 (fun e=>h e.symm)
theorem ZqZ {p:Nat}(h:p≤1000000):IntKind.i64.wrap (((p:Nat):Int)+((⟨#[47]⟩:ByteArray).size:Int))=((p+1:Nat):Int):=by
 rw[show (((⟨#[47]⟩:ByteArray).size:Nat):Int)=1 from rfl,IntKind.wrap_i64];omega
theorem Zlc (z:Int):(Lib.itoa z).all xB=true:=by
 rcases oW z 0 with h|h
 ·rw[Zbf h,qX,aQ (kY _)];rfl
 rw[show z=((z.toNat:Nat):Int) by omega,iB];exact aQ (kY _)
theorem ZhE {l:List UInt8}{q:Rat}(h:xW l=some q)(a:q.den=1):l=Lib.itoa q.num∧l.length≤(l.takeWhile xB).length:=by
 have b:xF q=l:=gR h
 have e:l=Lib.itoa q.num:=by rw[←b];unfold xF;rw[uZ a]
 refine⟨e,?_⟩
 have:=Zlc q.num
 rw[←e] at this
 rw[(eP this).1]
 exact uF _
theorem ZnU {l:List UInt8}{q:Rat}(h:xW l=some q)(b:¬ q.den=1):l.takeWhile xB=Lib.itoa q.num∧l.drop ((l.takeWhile xB).length+1)=Lib.itoa (q.den:Int)∧(l.takeWhile xB).length<l.length:=by
 have d:xF q=l:=gR h
 have e:l=Lib.itoa q.num ++ 47 :: Lib.itoa (q.den:Int):=by rw[←d];unfold xF;rw[uQ b];simp
 obtain⟨a,f⟩:=Zad (p:=xB) (r:=Lib.itoa (q.den:Int)) (c:=47) (Zlc q.num) qD
 rw[←e] at a f
 refine⟨a,?_,?_⟩
 ·rw[a,e,← vV,List.drop_left];rfl
 rw[a,e];simp
theorem Zmo:Ending.returned (.tuple #[.string ⟨#[48]⟩,.string ⟨#[49]⟩])=Ending.returned (.tuple #[.string ⟨(Lib.itoa (0:Rat).num).toArray⟩,.string ⟨(Lib.itoa ((0:Rat).den:Int)).toArray⟩]):=by
 rw[show (0:Rat).num=((0:Nat):Int) from rfl,show ((0:Rat).den:Int)=((1:Nat):Int) from rfl,Zae qD,Zae qD];rfl
theorem Zkq (s:ByteArray):Ending.returned (.tuple #[.string s,.string ⟨#[49]⟩])=Ending.returned (.tuple #[.string ⟨(bytes s).toArray⟩,.string ⟨(Lib.itoa ((1:Nat):Int)).toArray⟩]):=by
 rw[Zae qD];rfl
theorem Zpl (x:Int):xF ((x:Int):Rat)=Lib.itoa x:=by unfold xF;exact uZ rfl
theorem ZnV (s:ByteArray)(w:World):yA 232 #[.string s,.int .u8 (((47:UInt8).toNat:Nat):Int)] w (RetV w (.int .i64 (Lib.indexByte (bytes s) 47))):=by
 refine (Tryz.stringslite_IndexByte s (((47:UInt8).toNat:Nat):Int) w).mono ?_
 rintro e w' ⟨rfl,rfl⟩
 exact⟨rfl,Fr.refl _ _⟩
theorem Zci (s:ByteArray)(w:World) :
 yA 203 #[.string s,.string ⟨#[47]⟩] w (RetV w (.int .i64 (Lib.indexByte (bytes s) 47))):=by
 refine zV (Φ:=fun w=>True) func203 rfl qK (fun w' c=>trivial) ?_
 refine yY (xq 1 [yJ 4 0] [] ?_)
 refine yZ (yY (xq 2 [yJ 15 ((⟨#[47]⟩:ByteArray).size:Int)] [] ?_))
 rw[(show (((⟨#[47]⟩:ByteArray).size:Nat):Int)=1 from rfl)]
 refine xq 1 [yJ 5 1] [] ?_
 refine yZ (zD (zO (zD ?_)))
 by_cases a:bytes s=[47]
 ·refine zC (xq 6 [yB 19 false,yB 22 ((⟨#[47]⟩:ByteArray).toList == (s:ByteArray).toList)] [] ?_)
  rw[ZqX a]
  refine xq 2 [yB 16 true] [] ?_
  refine yZ (xa (yY (xq 1 [yJ 4 0] [] ?_)))
  refine yZ (zJ (wY (zM ?_)))
  refine yR (yI 0) fun w' R Q=>?_
  exact⟨by rw[←Zsb a],R⟩
 refine zC (xq 6 [yB 19 false,yB 22 ((⟨#[47]⟩:ByteArray).toList == (s:ByteArray).toList)] [] ?_)
 rw[ZqY a]
 refine xq 2 [yB 16 false] [] ?_
 refine yZ (xb (yY (xq 3 [yB 24 true] [] ?_)))
 refine yZ (xa (yY (xq 2 [yT 27 s,yT 28 ⟨#[47]⟩] [] ?_)))
 refine xqk 29 _ (fun w R Q=>fL (b:=⟨#[47]⟩) (t:=9) (x:=.tmp 28) (i:=.const (yI 0)) qK qK qK (by rfl) (by rfl)) ?_
 refine xqc _ _ 30 (fun _:Unit=>yI (Lib.indexByte (bytes s) 47)) _ (fun w R Q=>yN (ZnV s _)) fun d=>?_
 refine xq 1 [yJ 4 (Lib.indexByte (bytes s) 47)] [] ?_
 refine yZ (zJ (wY (zM ?_)))
 refine yR (yI (Lib.indexByte (bytes s) 47)) fun w' R Q=>?_
 exact⟨rfl,R⟩
theorem Zjr (s x y:ByteArray)(p:Nat)(w:World)(f:s.size≤100000)(c:p=((bytes s).takeWhile xB).length)(b:p<s.size)(d:s.extract 0 p=x)(e:s.extract (p+1) s.size=y) :
 yA 162 #[.string s,.string ⟨#[47]⟩] w (RetV w (.tuple #[.string x,.string y,.bool true])):=by
 have a:((bytes s).takeWhile xB).length<(bytes s).length:=by rw[←c,zT];exact b
 refine zV (Φ:=fun w=>True) func162 rfl qK (fun w' g=>trivial) ?_
 refine yY (xq 3 [yT 4 ⟨#[]⟩,yT 5 ⟨#[]⟩,yB 6 false] [] ?_)
 refine yZ (zD (yY (xq 2 [yT 8 s,yT 9 ⟨#[47]⟩] [] ?_)))
 refine xqc _ _ 10 (fun _:Unit=>yI p) _ (fun w R Q=>(Zci s _).mono (fun _ _ h=>zI h (by rw[ZbU,uZ a,← c]))) fun i=>?_
 refine xq 1 [yJ 7 p] [] ?_
 refine yZ (yY (xq 2 [yB 12 (decide ((p:Int)≥0))] [] ?_))
 rw[(show decide ((p:Int)≥0)=true from vP qO)]
 refine yZ (xa (zD ?_))
 refine yO 12 zQ ?_
 refine xqg 2 [yT 13 s,yJ 14 p] ?_
 refine xqj 15 _ (fun w Q=>gQ 0 p (t:=9) (x:=.tmp 13) (lo:=none) (hi:=(some (Operand.tmp 14))) qK qK qK (Or.inl ⟨rfl,rfl⟩) (Or.inr qK) qO qO d) ?_
 refine xqg 5 [yT 16 s,yJ 20 (IntKind.i64.wrap ((p:Int)+((⟨#[47]⟩:ByteArray).size:Int)))] ?_
 rw[ZqZ (p:=p) qO]
 refine xqj 21 _ (fun w Q=>gQ (p+1) _ (t:=9) (x:=.tmp 16) (lo:=(some (Operand.tmp 20))) (hi:=none) qK qK qK (Or.inr qK) (Or.inl ⟨rfl,rfl⟩) qO (uF _) e) ?_
 refine xqg 3 [yT 4 x,yT 5 y,yB 6 true] ?_
 refine xz (yZ (zJ (zM ?_)))
 refine yR (.tuple #[.string x,.string y,.bool true]) fun w' R Q=>?_
 exact⟨rfl,R⟩
theorem Zkr (s:ByteArray)(w:World)(a:¬ ((bytes s).takeWhile xB).length<(bytes s).length) :
 yA 162 #[.string s,.string ⟨#[47]⟩] w (RetV w (.tuple #[.string s,.string ⟨#[]⟩,.bool false])):=by
 refine zV (Φ:=fun w=>True) func162 rfl qK (fun w' b=>trivial) ?_
 refine yY (xq 3 [yT 4 ⟨#[]⟩,yT 5 ⟨#[]⟩,yB 6 false] [] ?_)
 refine yZ (zD (yY (xq 2 [yT 8 s,yT 9 ⟨#[47]⟩] [] ?_)))
 refine xqc _ _ 10 (fun _:Unit=>yI (-1)) _ (fun w R Q=>(Zci s _).mono (fun _ _ h=>zI h (by rw[ZbU,uQ a]))) fun c=>?_
 refine xq 1 [yJ 7 (-1)] [] ?_
 refine yZ (yY (xq 2 [yB 12 false] [] ?_))
 refine yZ (xb (zG (zB (yY (xq 4 [yT 4 s,yT 5 ⟨#[]⟩,yB 6 false] [] ?_)))))
 refine yZ (zJ ?_)
 refine yR (.tuple #[.string s,.string ⟨#[]⟩,.bool false]) fun w' R Q=>?_
 exact⟨rfl,R⟩
theorem Zmp (s x y:ByteArray)(p:Nat)(w:World)(b:s.size≤100000)(c:p=((bytes s).takeWhile xB).length)(a:p<s.size)(d:s.extract 0 p=x)(e:s.extract (p+1) s.size=y) :
 yA 110 #[.string s,.string ⟨#[47]⟩] w (RetV w (.tuple #[.string x,.string y,.bool true])):=by
 refine zV (Φ:=fun w=>True) func110 rfl qK (fun w' f=>trivial) ?_
 refine yY (xq 3 [yT 4 ⟨#[]⟩,yT 5 ⟨#[]⟩,yB 6 false] [] ?_)
 refine yZ (yY (xq 2 [yT 7 s,yT 8 ⟨#[47]⟩] [] ?_))
 refine xqc _ _ 9 (fun _:Unit=>.tuple #[.string x,.string y,.bool true]) _ (fun w R Q=>yN (Zjr s x y p _ b c a d e)) fun g=>?_
 refine xq 6 [yT 4 x,yT 5 y,yB 6 true] [] ?_
 refine yZ (zJ ?_)
 refine yR (.tuple #[.string x,.string y,.bool true]) fun w' R Q=>?_
 exact⟨rfl,R⟩
theorem ZnW (s:ByteArray)(w:World)(a:¬ ((bytes s).takeWhile xB).length<(bytes s).length) :
 yA 110 #[.string s,.string ⟨#[47]⟩] w (RetV w (.tuple #[.string s,.string ⟨#[]⟩,.bool false])):=by
 refine zV (Φ:=fun w=>True) func110 rfl qK (fun w' b=>trivial) ?_
 refine yY (xq 3 [yT 4 ⟨#[]⟩,yT 5 ⟨#[]⟩,yB 6 false] [] ?_)
 refine yZ (yY (xq 2 [yT 7 s,yT 8 ⟨#[47]⟩] [] ?_))
 refine xqc _ _ 9 (fun _:Unit=>.tuple #[.string s,.string ⟨#[]⟩,.bool false]) _ (fun w R Q=>yN (Zkr s _ a)) fun c=>?_
 refine xq 6 [yT 4 s,yT 5 ⟨#[]⟩,yB 6 false] [] ?_
 refine yZ (zJ ?_)
 refine yR (.tuple #[.string s,.string ⟨#[]⟩,.bool false]) fun w' R Q=>?_
 exact⟨rfl,R⟩
theorem Zmq (s:ByteArray)(w:World)(n:Glob w)(i:(bytes s).length≤570) :
 yA 68 #[.string s] w (RetV w (.tuple #[.string ⟨(Lib.itoa (valF (bytes s)).num).toArray⟩,.string ⟨(Lib.itoa ((valF (bytes s)).den:Int)).toArray⟩])):=by
 refine zV (Φ:=fun w=>Glob w) func68 rfl qK (fun w' o=>n.ext o) ?_
 refine yY (xq 2 [yT 2 ⟨#[]⟩,yT 3 ⟨#[]⟩] [] ?_)
 refine yZ (zD (yY (xq 1 [yT 7 s] [] ?_)))
 by_cases b:(xW (bytes s)).isSome=true
 ·obtain⟨q,c⟩:=sX.1 b
  have d:=jS c
  refine xqc _ _ 8 (fun _:Unit=>.bool true) _ (fun w R Q=>(jT s _ Q i).mono (fun _ _ h=>zI h (by rw[b]))) fun f=>?_
  refine xq 1 [yB 9 false] [] ?_
  refine yZ (xb (zG (zB (yY (xq 1 [yT 11 s] [] ?_)))))
  by_cases a:q.den=1
  ·refine xqc _ _ 12 (fun _:Unit=>.tuple #[.string s,.string ⟨#[]⟩,.bool false]) _ (fun w R Q=>yN (ZnW s _ (by have:=(ZhE c a).2;omega))) fun f=>?_
   refine xq 7 [yT 4 s,yT 5 ⟨#[]⟩,yB 6 false] [] ?_
   refine yZ (zD (yY (xq 2 [yB 17 true] [] ?_)))
   refine yZ (xa (yY (xq 3 [yT 2 s,yT 3 ⟨#[49]⟩] [] ?_)))
   refine yZ (zJ (zM ?_))
   refine yR (.tuple #[.string s,.string ⟨#[49]⟩]) fun w' R Q=>?_
   exact⟨by rw[d,a,← (ZhE c a).1];exact Zkq s,R⟩
  obtain⟨r,j,k⟩:=ZnU c a
  obtain⟨p,e⟩:∃ p,p=((bytes s).takeWhile xB).length:=⟨_,rfl⟩
  rw[←e] at j k
  have g:p<s.size:=by rw[←zT];exact k
  obtain⟨x,l⟩:=yE (s.extract 0 p)
  obtain⟨y,m⟩:=yE (s.extract (p+1) s.size)
  have t:x=⟨(Lib.itoa (q.num)).toArray⟩:=Zk4 (by rw[←l,(Zgj e).1,r,dV])
  have u:y=⟨(Lib.itoa (q.den:Int)).toArray⟩:=Zk4 (by rw[←m,(Zgj e).2,j,dV])
  refine xqc _ _ 12 (fun _:Unit=>.tuple #[.string x,.string y,.bool true]) _ (fun w R Q=>yN (Zmp s x y p _ (by rw[←zT];omega) e g l m)) fun f=>?_
  refine xq 7 [yT 4 x,yT 5 y,yB 6 true] [] ?_
  refine yZ (zD (yY (xq 2 [yB 17 false] [] ?_)))
  refine yZ (xb (zG (zB (yY (xq 4 [yT 2 x,yT 3 y] [] ?_)))))
  refine yZ (zJ ?_)
  refine yR (.tuple #[.string x,.string y]) fun w' R Q=>?_
  exact⟨by rw[d,t,u],R⟩
 have d:valF (bytes s)=0:=Zhz (by cases h:xW (bytes s) with|none=>rfl|some q=>rw[h] at b;exact absurd rfl b)
 refine xqc _ _ 8 (fun _:Unit=>.bool false) _ (fun w R Q=>(jT s _ Q i).mono (fun _ _ h=>zI h (by rw[qU.2 b]))) fun f=>?_
 refine xq 1 [yB 9 true] [] ?_
 refine yZ (xa (yY (xq 2 [yT 2 ⟨#[48]⟩,yT 3 ⟨#[49]⟩] [] ?_)))
 refine yZ (zJ (zM ?_))
 refine yR (.tuple #[.string ⟨#[48]⟩,.string ⟨#[49]⟩]) fun w' R Q=>?_
 exact⟨by rw[d];exact Zmo,R⟩
def Zld (s:ByteArray) (w:World) (e:Ending) (w':World):Prop:=∃ (r:ByteArray) (neg:Bool),e=.returned (.tuple #[.bool neg,.string r])∧xE (bytes s)=(neg,bytes r)∧Ext w w'
def Zgm (x:ByteArray×Bool):Value:=.tuple #[.bool x.2,.string x.1]
theorem ZdW {s:ByteArray}{w w':World}{e:Ending}(h:Zld s w e w'):lG Zgm (fun x _=>xE (bytes s)=(x.2,bytes x.1)) w e w':=by
 obtain⟨r,neg,rfl,h,Q⟩:=h
 exact⟨(r,neg),rfl,Q,BoxN.pure h⟩
theorem Zpm {t:ByteArray}{i:Nat}{c:UInt8}(d:((bytes t).take i).all zX=true)(hc:t[i]? = some c)(e:¬ (c.toNat:Int)<48)(f:¬ (c.toNat:Int)>57):((bytes t).take (i+1)).all zX=true:=by
 have hi:i<t.size:=by
  rcases vM i t.size with b|b
  ·exact b
  rw[getElem?_neg t i qO] at hc;cases hc
 have a:t[i]=c:=by
  rw[nA t i hi] at hc
  injection hc
 rw[Zax _ _ hi,qX,d,a]
 have:zX c=true:=by unfold zX;simp;omega
 simp[this]
theorem Zle {t:ByteArray}{i:Nat}{c:UInt8}(hc:t[i]? = some c)(h:(c.toNat:Int)<48∨(c.toNat:Int)>57):¬ (bytes t).all zX=true:=by
 have hi:i<t.size:=by
  rcases vM i t.size with b|b
  ·exact b
  rw[getElem?_neg t i qO] at hc;cases hc
 have a:t[i]=c:=by
  rw[nA t i hi] at hc
  injection hc
 intro d
 have e:t[i]∈bytes t:=by
  rw[←ZcD t hi];exact tZ _
 have:=dP (vI.1 d _ e)
 rw[a] at this
 unfold zX at *
 have f:=vI.1 d _ e
 rw[a] at f
 simp at f
 omega
section
variable {s r:ByteArray} {neg:Bool} {x:Int}
theorem ZsE (h:bytes s=[48]):fvB (bytes s) x=(x == 0):=by unfold fvB;rw[uZ h];rfl
theorem Zcj (h:¬ bytes s=[48])(b:xE (bytes s)=(neg,bytes r))(a:bytes r=[]∨(bytes r).head? = some 48∨¬ okE x∨¬ (bytes r).all zX=true):fvB (bytes s) x=false:=by
 unfold fvB
 rw[uQ h,b]
 refine uR ?_
 rintro⟨c,d,e,f,_⟩
 rcases a with a|a|a|a
 ·exact c a
 ·exact d a
 ·exact a e
 exact a f
theorem Zq0 {c c0:UInt8}(h:¬ bytes s=[48])(i:xE (bytes s)=(neg,bytes r))(b:r[0]? = some c0)(o:¬ (c0.toNat:Int)=48)(p:¬ x < -1048576)(t:¬ x>1048576)(f:(bytes r).all zX=true){k:Nat}(u:r.size=k+1)(d:r[k]? = some c):fvB (bytes s) x=(((c.toNat % 2:Nat):Int) == 1):=by
 have e:bytes r=(bytes r).take k ++ [c]:=by
  have a:k<r.size:=qO
  have:=Zax r k a
  rw[uA (by rw[zT];omega)] at this
  rw[nA r k a] at d
  injection d with d
  rw[d] at this
  exact this
 have g:zK (bytes r)%2=c.toNat % 2:=by
  rw[e] at f ⊢
  exact Zpg f
 have j:(bytes r).head? = some c0:=by
  have a:0<r.size:=qO
  rw[nA r 0 a] at b
  injection b with b
  rw[←b];exact bX a
 unfold fvB
 rw[uQ h,i]
 have l:c0.toNat≠48:=qO
 show decide _=decide _
 refine oE.2 ⟨fun q=>?_,fun q=>⟨?_,?_,⟨qO,qO⟩,f,?_⟩⟩
 ·have:=q.2.2.2.2
  show ((c.toNat % 2:Nat):Int)=1
  rw[g] at this;omega
 ·intro m
  have n:bytes r=[]:=m
  have:(bytes r).length=0:=by rw[n];rfl
  rw[zT] at this;omega
 ·rw[j];intro e;injection e with e;exact l (by rw[e];rfl)
 have v:((c.toNat % 2:Nat):Int)=1:=q
 show zK (bytes r)%2=1
 rw[g];omega
end
theorem Zpn {P:Program}{o:Oper}{ρ:Operand→Value}{w:World}{t k:TypeId}{x y:Operand}{c:UInt8}(a:o.op=Op.binOp .and t x y k)(b:ρ x=.int .u8 (c.toNat:Int))(d:ρ y=.int .u8 1):(execOp ρ o).run P w=.ok (.value (.int .u8 ((c.toNat % 2:Nat):Int))) w:=by
 have h:bits .and .u8 (c.toNat:Int) 1=((c.toNat % 2:Nat):Int):=by
  have f:=c.toNat_lt
  have e:(BitVec.ofInt 8 (c.toNat:Int)).toNat=c.toNat:=by
   rw[pR,oQ];exact vH qO
  show IntKind.u8.wrap ((BitVec.ofInt 8 (c.toNat:Int) &&& BitVec.ofInt 8 1).toNat:Int)=_
  rw[BitVec.toNat_and,e,show (BitVec.ofInt 8 1).toNat=1 from rfl,oP,IntKind.wrap_u8];omega
 rw[←h]
 simp only[execOp,a,b,d,eqGuard,binOp]
 rfl
theorem ZdX (s:ByteArray)(w:World) :
 yA 69 #[.string s] w (Zld s w):=by
 refine zV (Φ:=fun w=>True) func69 rfl qK (fun w' a=>trivial) ?_
 refine yY (xr 2 [yT 0 s,yB 2 false,yT 3 ⟨#[]⟩] [] ?_)
 refine yZ (yY (xr 1 [yB 2 false,yT 3 ⟨#[]⟩,yT 7 s] [] ?_))
 refine xc _ _ 8 (fun x:ByteArray×Bool=>.tuple #[.string x.1,.bool x.2]) _ (fun w R Q=>yM Zmh (ZdD s _)) fun⟨r,neg⟩=>?_
 refine xr 5 [yB 2 false,yT 3 ⟨#[]⟩,yT 4 r,yB 5 neg] [] ?_
 refine yZ (yY (xr 4 [yB 2 neg,yT 3 r] [] ?_))
 refine yZ (zJ ?_)
 refine yR (.tuple #[.bool neg,.string r]) fun w' R Q=>?_
 exact⟨r,neg,rfl,Q.2,R⟩
theorem ZaP (s:ByteArray)(x:Int)(w:World)(P:(bytes s).length≤1000000) :
 yA 44 #[yS s x] w (RetV w (.bool (fvB (bytes s) x))):=by
 refine zV (Φ:=fun w=>True) func44 rfl qK (fun w' S=>trivial) ?_
 refine yY (xq 2 [Δ 1,yB 2 false] [yG 1 61 s x] ?_)
 refine yZ (zD (zD ?_))
 by_cases a:bytes s=[48]
 ·refine zC (xq 3 [yB 8 ((s:ByteArray).toList == (⟨#[48]⟩:ByteArray).toList)] [] ?_)
  rw[ZgU a]
  refine yZ (xa (yY (xq 4 [yB 2 ((x:Int) == 0)] [] ?_)))
  refine yZ (zJ (zM ?_))
  refine yR (.bool ((x:Int) == 0)) fun w' R Q=>?_
  exact⟨by rw[ZsE a],R⟩
 refine zC (xq 3 [yB 8 ((s:ByteArray).toList == (⟨#[48]⟩:ByteArray).toList)] [] ?_)
 rw[Zch a]
 refine yZ (xb (zG (zB (yY (xq 2 [yT 14 s] [] ?_)))))
 refine xqc _ _ 15 Zgm _ (fun w R Q=>yM ZdW (ZdX s _)) fun⟨r,neg⟩=>?_
 refine xq 5 [yT 4 r] [] ?_
 refine yZ (zD (zD ?_))
 refine SXc.know (p:=xE (bytes s)=(neg,bytes r)) (fun w _ Q=>Q.2) fun l=>?_
 have K:r.size≤1000000:=by have:=Zhh l;rw[zT] at this;omega
 by_cases A:bytes r=[]
 ·refine zC (xq 2 [yB 19 ((r:ByteArray).toList == (⟨#[]⟩:ByteArray).toList)] [] ?_)
  rw[Zk1 A]
  refine xq 15 [yB 34 true] [] ?_
  refine yZ (xa (yY (xq 1 [yB 2 false] [] ?_)))
  refine yZ (zJ (zM ?_))
  refine yR (.bool false) fun w' R Q=>?_
  exact⟨by rw[Zcj a l (Or.inl A)],R⟩
 obtain⟨F,L,B⟩:=Zjo A
 have M:=Zfk A
 refine zC (xq 2 [yB 19 ((r:ByteArray).toList == (⟨#[]⟩:ByteArray).toList)] [] ?_)
 rw[Zk2 A]
 refine xq 2 [yB 20 false,yT 21 r] [] ?_
 refine xqk 22 _ (fun w R Q=>fL (t:=9) (x:=.tmp 21) (i:=.const (yI 0)) qK qK qK (by rfl) B) ?_
 refine xq 3 [yB 25 (((F.toNat:Int):Int) == 48)] [] ?_
 rcases bl2 ((((F.toNat:Int):Int) == 48)) with b|b
 ·rw[b]
  have n:=sK.1 b
  refine xq 9 [yB 34 true] [] ?_
  refine yZ (xa (yY (xq 1 [yB 2 false] [] ?_)))
  refine yZ (zJ (zM ?_))
  refine yR (.bool false) fun w' R Q=>?_
  exact⟨by rw[Zcj a l (Or.inr (Or.inl (by rw[L,show F=48 from UInt8.toNat_inj.1 (by show F.toNat=48;omega)])))],R⟩
 rw[b]
 have n:=lU b
 refine xq 5 [yB 30 (decide (x<(-1048576)))] [] ?_
 rcases bl2 ((decide (x<(-1048576)))) with d|d
 ·rw[d]
  have o:=uB d
  refine xq 4 [yB 34 true] [] ?_
  refine yZ (xa (yY (xq 1 [yB 2 false] [] ?_)))
  refine yZ (zJ (zM ?_))
  refine yR (.bool false) fun w' R Q=>?_
  exact⟨by rw[Zcj a l (Or.inr (Or.inr (Or.inl (by rintro⟨N,O⟩;omega))))],R⟩
 rw[d]
 have o:=uC d
 refine xq 4 [yB 34 (decide (x>1048576))] [] ?_
 refine xe (zB ?_)
 refine yQ ((decide (x>1048576))) (fun f=>?_) fun f=>?_
 ·have q:=uB f
  refine yY (xq 1 [yB 2 false] [] ?_)
  refine yZ (zJ (zM ?_))
  refine yR (.bool false) fun w' R Q=>?_
  exact⟨by rw[Zcj a l (Or.inr (Or.inr (Or.inl (by rintro⟨N,O⟩;omega))))],R⟩
 have q:=uC f
 refine zG (zB (zD (yY (xq 3 [yJ 36 ((r).size:Int),yJ 37 0] [] ?_))))
 refine yZ (zO ?_)
 refine xI (fun G H I=>∃ (k:Nat),H=ofL [yB 2 false,yT 4 r,yJ 36 ((r).size:Int),yJ 37 k] []∧I=(fun w=>True)∧(k≤r.size)∧(((bytes r).take k).all zX=true)∧G=(r.size-k)) _ ⟨0,rfl,rfl,(uT _),rfl,rfl⟩ (fun w Q=>trivial) ?_
 rintro G H I ⟨k,rfl,rfl,T,J,rfl⟩
 refine yY (xq 1 [yB 38 (decide ((k:Int)<((r).size:Int)))] [] ?_)
 refine yZ (zD ?_)
 refine yQ ((decide ((k:Int)<((r).size:Int)))) (fun g=>?_) fun g=>?_
 ·have u:=uB g
  have C:k<r.size:=qO
  obtain⟨c,m⟩:∃ c,r[k]? = some c:=⟨r[k],by simp[C]⟩
  refine zG (zB (zD (zO (yY (xq 2 [yJ 5 k] [] ?_)))))
  refine yZ (yY (xq 2 [yT 40 r,yJ 41 k] [] ?_))
  refine xqk 42 _ (fun w R Q=>fL (t:=9) (x:=.tmp 40) (i:=.tmp 41) qK qK qK qK m) ?_
  refine xq 2 [yB 44 (decide ((c.toNat:Int)<48))] [] ?_
  rcases bl2 ((decide ((c.toNat:Int)<48))) with e|e
  ·rw[e]
   have v:=uB e
   refine xq 5 [yB 49 true] [] ?_
   refine yZ (xa (yY (xq 1 [yB 2 false] [] ?_)))
   refine yZ (zJ (wY (zM (zM (wY (zM ?_))))))
   refine yR (.bool false) fun w' R Q=>?_
   exact⟨by rw[Zcj a l (Or.inr (Or.inr (Or.inr (Zle m qO))))],R⟩
  rw[e]
  have v:=uC e
  refine xq 2 [yT 45 r,yJ 46 k] [] ?_
  refine xqk 47 _ (fun w R Q=>fL (t:=9) (x:=.tmp 45) (i:=.tmp 46) qK qK qK qK m) ?_
  refine xq 2 [yB 49 (decide ((c.toNat:Int)>57))] [] ?_
  refine xe (zB ?_)
  refine yQ ((decide ((c.toNat:Int)>57))) (fun j=>?_) fun j=>?_
  ·have z:=uB j
   refine yY (xq 1 [yB 2 false] [] ?_)
   refine yZ (zJ (wY (zM (zM (wY (zM ?_))))))
   refine yR (.bool false) fun w' R Q=>?_
   exact⟨by rw[Zcj a l (Or.inr (Or.inr (Or.inr (Zle m qO))))],R⟩
  have z:=uC j
  refine zG (xK (zB (zC (xq 1 [yJ 50 (IntKind.i64.wrap ((k:Int)+1))] [] ?_))))
  rw[yW ((k:Int)+1) (((k+1:Nat):Int)) qO]
  refine xq 1 [yJ 37 (k+1:Nat)] [] ?_
  refine xe ?_
  exact xC _ qO ⟨(k+1),rfl,rfl,C,(Zpm J m qO qO),rfl⟩ (fun w Q=>trivial)
 have u:=uC g
 have D:(bytes r).all zX=true:=by have h:=J;rw[uA (by rw[zT];omega)] at h;exact h
 refine xJ (zE (zE (xL (zB (zD ?_)))))
 obtain⟨k1,E⟩:∃ k1,r.size=k1+1:=⟨r.size-1,qO⟩
 obtain⟨c,m⟩:∃ c,r[k1]? = some c:=⟨r[k1],by simp[E]⟩
 refine zC (xq 4 [yT 51 r,yJ 54 (IntKind.i64.wrap (((r).size:Int)-1))] [] ?_)
 rw[yW ((r.size:Int)-1) ((k1:Int)) qO]
 refine xqk 55 _ (fun w R Q=>fL (t:=9) (x:=.tmp 51) (i:=.tmp 54) qK qK qK qK m) ?_
 refine xqk 56 (.int .u8 ((c.toNat % 2:Nat):Int)) (fun w R Q=>Zpn (t:=5) (k:=5) (x:=.tmp 55) (y:=.const (.int .u8 1)) qK qK qK) ?_
 refine xq 2 [yB 2 ((((c.toNat % 2:Nat):Int):Int) == 1)] [] ?_
 refine yZ (zJ ?_)
 refine yR (.bool ((((c.toNat % 2:Nat):Int):Int) == 1)) fun w' R Q=>?_
 exact⟨by rw[Zq0 a l B qO qO qO D E m],R⟩
section
open Go.RowKit Go.Sort
def Zbh (w:World) (l:List UInt8) (e:Ending) (w':World):Prop:=e=.returned (.string ⟨l.toArray⟩)∧Ext w w'
theorem Zdf (u:Nat)(w:World)(a:u<100) :
 yA 184 #[.int .u64 (u:Int),.int .i64 10] w (Zbh w (Lib.decDigits u)):=by
 have b:(u:Int)<100:=qO
 go_enter func184,ntmps184
 go_wp2_with (go_at_call 213;refine (Tryz.internal_strconv_small u a _).mono ?_;rintro e w' ⟨rfl,rfl⟩)
 go_ret
 exact⟨rfl,Fr.refl _ _⟩
theorem Zey (u i:Nat)(w:World)(v:Glob w)(C:100≤u)(a:u<18446744073709551616)(c:Lib.nDigits u=i) :
 yA 184 #[.int .u64 (u:Int),.int .i64 10] w (Zbh w (Lib.decDigits u)):=by
 have n:=ZiA u (by rw[zR];exact a)
 have g:=Lib.decDigits_length u
 rw[c] at g
 rw[g] at n
 have o:prog.arrayLen 287=24:=by simp[Program.arrayLen,underlying287]
 have z:∀ W,(Instr.sliceAt 287 (.pointer (some ⟨w.heap.size,0,none⟩)) none (some (.int .i64 (i:Int))) none).run prog W=.ok (.slice (some ⟨w.heap.size,0,none⟩) i 24) W:=fun W=>by
  rw[run_sliceAt_array_h W 287 ⟨w.heap.size,0,none⟩ (by simp[Program.arrayLen,Program.elem,underlying287]) .i64 (i:Int) qO (by rw[o];omega)]
  go_simp
 have l:=Lib.holds_zero0 w 287 i qO
 have d:=Tryz.internal_strconv_formatBase10 w.heap.size 0 24 u (Array.replicate i 0) (w.alloc (.cells Lib.zeros24 287)) l (by rw[pY,← c];exact Lib.lt_pow_nDigits u) a (by rw[pY];omega)
 have f:=Tryz.internal_strconv_numDigits u qO a (w.alloc (.cells Lib.zeros24 287)) (Lib.tabIs_alloc v.1 _)
 rw[pY] at d
 rw[c] at f
 have q:=zh l
 have x:=zh g
 have r:=zh c
 have D:(100:Int)≤(u:Int):=qO
 clear l o g c v
 go_enter func184,ntmps184
 go_wp2_with (go_at_call 214;refine f.mono ?_;rintro e w' ⟨rfl,rfl⟩)
 go_at_call 215
 refine d.mono ?_
 rintro e w' ⟨rfl,k,E,m,rfl,p⟩
 have s:(convert 187 9 (.slice (some ⟨w.heap.size,0,none⟩) i 24)).run prog ((putRow (fun (b:UInt8)=>Value.int .u8 (b.toNat:Int)) (w.alloc (.cells Lib.zeros24 287)) w.heap.size 0 m).drewN k)=.ok (.string ⟨(Lib.decDigits u).toArray⟩) ((putRow (fun (b:UInt8)=>Value.int .u8 (b.toNat:Int)) (w.alloc (.cells Lib.zeros24 287)) w.heap.size 0 m).drewN k):=by
  have h:=run_convert_bytes_back (P:=prog) ((putRow (fun (b:UInt8)=>Value.int .u8 (b.toNat:Int)) (w.alloc (.cells Lib.zeros24 287)) w.heap.size 0 m).drewN k) 187 9 5 ⟨w.heap.size,0,none⟩ 24 (Lib.decDigits u) underlying187 underlying5 underlying9 (fun j t=>by
   rw[Lib.row_is_numeral (by rw[r.out];exact p) j t,Lib.add_plain,World.cell?_drewN]
   exact cell?_putRow (fun (b:UInt8)=>Value.int .u8 (b.toNat:Int)) _ w.heap.size 0 _ m q.out (by rw[p.size,pY]) j (by rw[p.size];rw[x.out] at t;exact t))
  rw[x.out] at h
  exact h
 obtain⟨A,y⟩:=Lib.fin_at w (.cells Lib.zeros24 287) m k 0
 have Q:Ext w ((putRow (fun (b:UInt8)=>Value.int .u8 (b.toNat:Int)) (w.alloc (.cells Lib.zeros24 287)) w.heap.size 0 m).drewN k):=by
  rw[y];exact Fr.ofBelow (Lib.below_grow _ w (uF _) k A)
 generalize (putRow (fun (b:UInt8)=>Value.int .u8 (b.toNat:Int)) (w.alloc (.cells Lib.zeros24 287)) w.heap.size 0 m).drewN k=w1 at Q s ⊢
 have B:=zh Q
 clear Q y p d f
 go_wp2
 go_ret
 exact⟨rfl,B.out⟩
theorem ZgV (u:Nat)(w:World)(b:Glob w)(a:u<W64) :
 yA 146 #[.int .u64 (u:Int),.int .i64 10] w (Zbh w (Lib.decDigits u)):=by
 have h:yA 184 #[.int .u64 (u:Int),.int .i64 10] w (Zbh w (Lib.decDigits u)):=by
  rcases vM u 100 with h|h
  ·exact Zdf u w h
  exact Zey u _ w b h (by rw[zR] at a;exact a) rfl
 have H:=zh h
 clear h b a
 go_enter func146,ntmps146
 go_wp2_with fail
 refine H.out.mono ?_
 rintro e w' ⟨rfl,Q⟩
 have c:=zh Q
 clear Q
 go_wp2
 go_ret
 exact⟨rfl,c.out⟩
end
def chV:List Nat→Nat
 | []=>0
 | c :: cs=>c+10^19*chV cs
theorem ZcV (c:Nat):∀ a:List Nat,chV (a ++ [c])=chV a+(10^19)^a.length*c
 | []=>by simp[chV]
 | d :: a=>by
  show d+10^19*chV (a ++ [c])=d+10^19*chV a+(10^19)^(a.length+1)*c
  rw[ZcV c a,uP (m:=a.length) (n:=10^19),uK,← uH,uG (10^19) ((10^19)^a.length),sD]
structure ChR (n:Nat) (cs:List Nat) (r:Nat):Prop where
 eq:n=chV cs+(10^19)^cs.length*r
 lt:∀ c∈cs,c<10^19
 top:r=0→cs≠[]→∃ l c,cs=l ++ [c]∧0<c
theorem ChR.start (n:Nat):ChR n [] n:=⟨by simp[chV],fun c h=>by simp at h,fun _ h=>absurd rfl h⟩
theorem ChR.step {n r:Nat}{cs:qN}(h:ChR n cs r)(e:0<r):ChR n (cs ++ [r%10^19]) (r/10^19):=by
 refine⟨?_,fun c b=>?_,fun d _=>⟨cs,_,rfl,?_⟩⟩
 ·rw[ZcV,uN,rR,uP (m:=cs.length) (n:=10^19),uH,sD,← uK,sH]
  exact h.eq
 ·rcases tI.1 b with a|a
  ·exact h.lt c a
  rw[vX.1 a];exact uO _ qD
 have a:=sH r (10^19)
 rw[d,tV,tE] at a
 omega
theorem Zlf {cs:qN}(h:∃ l c,cs=l ++ [c]∧0<c):0<chV cs:=by
 obtain⟨l,c,rfl,a⟩:=h
 rw[ZcV]
 have:=rC (uY (n:=l.length) (show 0<10^19 by decide)) a
 omega
theorem Zju {cs:qN}{i:Nat}(hi:i<cs.length)(h:∃ l c,cs=l ++ [c]∧0<c):∃ l c,cs.drop i=l ++ [c]∧0<c:=by
 obtain⟨l,c,rfl,a⟩:=h
 rw[uN,rR] at hi
 exact⟨l.drop i,c,List.drop_append_of_le_length qO,a⟩
theorem Zpo {cs:qN}{i c:Nat}(hi:i<cs.length)(a:cs[i]?.getD 0=c)(d:∀ c∈cs,c<10^19)(e:∃ l c,cs=l ++ [c]∧0<c) :
 wP (chV (cs.drop i))=if i+1<cs.length then wP (chV (cs.drop (i+1))) ++ (List.replicate (19-(Lib.decDigits c).length) 48 ++ Lib.decDigits c) else Lib.decDigits c:=by
 have f:cs.drop i=c :: cs.drop (i+1):=by
  rw[tR hi]
  rw[uV hi] at a
  simp only[qG] at a
  rw[a]
 have b:c<10^19:=by
  rw[uV hi] at a
  simp only[qG] at a
  rw[←a];exact d _ (tZ hi)
 rw[f]
 show wP (c+10^19*chV (cs.drop (i+1)))=_
 by_cases h:i+1<cs.length
 ·rw[uZ h,vO,uG,ZhX (Zlf (Zju h e)) 19 c b,Zoz qO b]
 rw[uQ h,vA qO]
 show wP (c+10^19*0)=_
 have g:=Zlf (Zju hi e)
 rw[f,vA qO] at g
 rw[tV,tE]
 exact jG (by simp[chV] at g;omega)
theorem Zjz (t:ByteArray)(v:Nat)(w:World)(b:(bytes t).all zX=true)(a:zK (bytes t)=v)(g:t.size≠0)(k:t.size≤1099511627776)(c:v<18446744073709551616) :
 yA 116 #[.string t,.int .i64 10,.int .i64 64] w fun e w'=>e=.returned (.tuple #[.int .u64 (v:Int),.nilIface])∧Ext w w':=by
 have d:Lib.parseUint10 0 t.data.toList=.ok v:=by
  have h:=pu10 (bytes t) 0 b (by rw[sY,tA,a];exact c)
  rw[sY,tA,a] at h
  exact h
 have h:=Tryz.internal_strconv_ParseUint_10_b64 t g qO w
 rw[d] at h
 have f:yA 169 #[.string t,.int .i64 10,.int .i64 64] w fun e w'=>e=.returned (.tuple #[.int .u64 (v:Int),.nilIface])∧Ext w w':=by
  refine h.mono ?_
  rintro e w' ⟨rfl,rfl⟩
  exact⟨rfl,rfl,rfl,rfl,by rw[Lib.bytesWorld_size];omega,fun i hi _=>Lib.bytesWorld_at_old _ _ _ i hi⟩
 have H:=zh f
 clear h f d b a c
 go_enter func116,ntmps116
 go_wp2_with fail
 refine H.out.mono ?_
 rintro e w' ⟨rfl,Q⟩
 have j:=zh Q
 clear Q
 go_wp2
 go_ret2
 exact⟨rfl,j.out⟩
def Zmr (w wr:World) (T:Nat) (d:ByteArray) (A:Option Addr) (cap:Nat) (xs:List Nat):Prop :=
 Buf .u64 207 wr A cap xs∧PaR T (bytes d) xs∧Ext w wr∧∀ b,xQ A b→w.heap.size≤b
theorem ZcX (d:ByteArray)(w:World)(T:Nat)(hd:(bytes d).all zX=true)(hT:zK (bytes d)=T)(hw:wl T≤1048576)(hl:d.size≤1099511627776) :
 yA 71 #[.string d] w (lH w T):=by
 have HS:=zh (PaR.start hd hT)
 clear hd hT
 have ha:=Za1
 go_enter func71,ntmps71
 go_wp2
 go_loopw [0,3] (fun v0 v3 wr=>∃ (d:ByteArray) (A:Option Addr) (f:Nat) (j:List Nat),v0=.string d∧v3=.slice A j.length f∧d.size≤1099511627776∧Hid (Zmr w wr T d A f j)) (fun v0 _ _=>match v0 with | .string d=>d.size | _=>0)
 case atStart=>exact⟨d,none,0,[],rfl,rfl,hl,Buf.nil,HS.out,Fr.refl _ _,fun b t=>by obtain⟨a,ha,_⟩:=t;cases ha⟩
 case round =>
  obtain⟨d,A,f,j,rfl,rfl,hl,B⟩:=hrel
  by_cases t0:0<d.size
  ·have u0:=B.out.2.1.len
   obtain⟨n,hn⟩:=yE d.size
   obtain⟨z,hz⟩:=yE ((n-1)%19)
   have w0:z≤18:=qO
   have c0:z+1≤n:=by have:=nN (n-1) 19;omega
   have e1:((n:Int)-1)%19=(z:Int):=qO
   have y0:(1:Int)≤(n:Int):=qO
   have z0:(0:Int)≤(n:Int)-1:=qO
   have A0:((z:Int)+1)≤(n:Int):=qO
   have B0:((z:Int)+1).toNat=z+1:=qO
   have I:(bytes d).length=n:=by rw[zT];exact hn
   have J:(d.extract 0 (z+1)).size=z+1:=by rw[rX];omega
   have K:bytes (d.extract 0 (z+1))=(bytes d).take (z+1):=by rw[kF];simp
   obtain⟨c,hc⟩:=yE (zK ((bytes d).take (z+1)))
   have d0:=B.out.2.1.chunk (z:=z) qO (by rw[I];exact hz)
   rw[hc] at d0
   have P:∀ W,yA 116 #[.string (d.extract 0 (z+1)),.int .i64 10,.int .i64 64] W fun e w'=>e=.returned (.tuple #[.int .u64 (c:Int),.nilIface])∧Ext W w':=fun W =>
    Zjz _ c W (by
     rw[K,vI];intro x hx
     exact vI.1 B.out.2.1.all _ (sR hx)) (by rw[K];exact hc) (by rw[J];omega) (by rw[J];omega) qO
   have Q:bytes (d.extract (z+1) d.size)=(bytes d).drop (z+1):=by
    rw[kF,uA (by rw[tC,zT];exact uF _)]
   have C:(d.extract (z+1) d.size).size=d.size-(z+1):=by rw[rX];omega
   have e0:=zh Q
   have D:=zh C
   have f0:=zh P
   have g0:Hid (((bytes d).length-1)%19=z):=by unfold Hid;rw[I];exact hz
   have i0:Hid (0<(bytes d).length):=by unfold Hid;omega
   have Hc:=zh hc
   have Hn:=zh hn
   clear Q C P K J I hc hz
   go_wp2_with fail
   refine (f0.out _).mono ?_
   rintro e wB ⟨rfl,E⟩
   have HX:=zh E
   clear E
   have C0:z+1≤d.size:=by rw[Hn.out];exact c0
   clear hn
   go_wp2_with fail
   have j0:=zh B.out.1
   have HP:=zh B.out.2.1
   have k0:=zh B.out.2.2.1
   have u:=zh B.out.2.2.2
   have F:(d.extract (z+1) d.size).size≤1099511627776:=by rw[D.out];omega
   have l:Hid ((d.extract (z+1) d.size).size<d.size):=by rw[Hid,D.out];omega
   have o:Hid (∀ m q,iZ j 10000000000000000000 c j.length m q→PaR T (bytes (d.extract (z+1) d.size)) (if q=0 then m else m ++ [q])):=by
    intro m q G
    rw[e0.out]
    exact HP.out.step i0.out g0.out (by rw[Hc.out];exact G)
   generalize d.extract (z+1) d.size=d2 at *
   have l0:Hid (c<W64):=by unfold Hid;rw[zR];omega
   have L:Hid (10000000000000000000<W64):=by unfold Hid;rw[zR];omega
   go_loopw [5,32] (fun v9 m0 wx=>∃ (k q:Nat) (m:List Nat),k≤j.length∧m0=.int .i64 (k:Int)∧v9=.int .u64 (q:Int)∧Hid (iZ j 10000000000000000000 c k m q)∧Hid (Buf .u64 207 wx A f m)∧Hid (Fr (xQ A) wB wx)) (fun _ v _=>j.length-(intOf v).toNat)
   case atStart=>exact⟨0,c,j,qO,rfl,rfl,iZ.start HP.out.dig l0.out,j0.out.ext HX.out,Fr.refl _ _⟩
   case round =>
    obtain⟨k,q,m,hk,rfl,rfl,G,hB,hF⟩:=hrel
    have g:m.length=j.length:=G.out.1
    by_cases n0:k<j.length
    ·obtain⟨b,rfl,R,hC,S,U⟩:=hB.out.open_ (by intro e;rw[e] at g;simp at g;omega)
     obtain⟨y,hy⟩:=yE (m[k]?.getD 0)
     have M:=R.cell (i:=k) qO
     rw[hy] at M
     have x0:=R.frozen k
     have V:Hid (y<W64):=hy ▸ G.out.2.2.1.getD zP k
     have o0:=zh (G.out.step n0 hy L.out)
     have X:=fun v=>Buf.set_ R hC S U k v qO
     have p0:=zh X
     have q0:=zh G.out.2.2.2.1
     have HW:Hid (IntKind.u64.wrap ((wQ y 10000000000000000000:Int)+(xU (xH y 10000000000000000000) q 0:Int))=(maHi y 10000000000000000000 q:Int)):=by
      have h:=Zb5 V.out L.out q0.out
      unfold Hid maHi at *
      rw[←rS,wK _ h]
     have r0:=R.lt
     have r:=zh g
     clear R hC S U hy X g
     go_wp2_with (go_at_call 117;refine (Zav _ _ V.out L.out _).mono ?_;rintro e w' ⟨rfl,rfl⟩)
     go_roundw
     case rel=>exact⟨k+1,_,_,qO,by go_num,by rw[HW.out],o0.out,p0.out _,hF.out.setCell (p:=⟨b,k,none⟩) (Or.inl ⟨_,rfl,rfl⟩) _⟩
     case measure=>simp[intOf];omega
    obtain rfl:k=j.length:=qO
    have N:Hid (Ext w wr):=(k0.out.trans HX.out).next hF.out (fun i hi t=>by have:=u.out i t;omega)
    by_cases hq:q=0
    ·subst hq
     have O:=o.out m 0 G.out
     rw[uZ rfl] at O
     have s:Hid (Zmr w wr T d2 A f m):=⟨hB.out,O,N.out,u.out⟩
     have r:=zh g
     clear O g
     go_wp2
     go_roundw
     case rel=>exact⟨d2,A,f,m,rfl,by rw[r.out],F,s.out⟩
     case measure=>exact l.out
    have D0:(0:Int)<(q:Int):=qO
    have O:=o.out m q G.out
    rw[uQ hq] at O
    have Y:=zh O
    have r:=zh g
    have s0:Hid (zH .u64 (wr.alloc (.cells #[.int .u64 (q:Int)] 207)) (some ⟨wr.heap.size,0,none⟩) [q]):=(Own.new wr 207 .u64 [q] []).shows0
    clear O g hq
    go_wp2_with (at_builtin;refine Hid.out ?_)
    refine zh ?_
    refine lA rfl _ _ _ rfl _ .u64 8 underlying84 eL A (some ⟨wr.heap.size,0,none⟩) j.length 1 f 1 rfl rfl m [q] r.out rfl (hB.out.ext ((Fr.refl _ _).alloc _)) s0.out (by simp only[maxLen];omega) qO ?_
    intro A1 H w2 Z a0 b0
    have s:Hid (Zmr w w2 T d2 A1 H (m ++ [q])):=by
     refine⟨Z,Y.out,?_,?_⟩
     ·exact (N.out.alloc _).next a0 (fun i hi t=>by have:=u.out i t;omega)
     intro b t
     rcases b0 b t with h|h
     ·exact u.out b h
     have:=N.out.size;simp at h;omega
    clear Z a0 b0
    go_wp2
    go_roundw
    case rel=>exact⟨d2,A1,H,m ++ [q],rfl,by rw[uN,r.out];rfl,F,s.out⟩
    case measure=>exact l.out
  have h0:d.size=0:=qO
  obtain⟨h1,h2,h3,h4⟩:=B.out
  have hN:Hid (lH w T (.returned (.slice A j.length f)) wr):=by
   refine⟨_,rfl,?_,h3⟩
   have t:bytes d=[]:=qQ (by rw[zT];exact h0)
   rw[t] at h2
   exact⟨A,j,f,rfl,h1.len,h1.shows,h2.dig,h2.trim,h2.done⟩
  clear h1 h2 h3 h4
  go_wp2
  go_ret
  exact hN.out
def RowD (w:World) (v:Value) (m:Nat):Prop:=∃ xs,fO w v xs∧Dig W32 xs∧val W32 xs=m
theorem RowD.nrb {S:Nat→Prop}{w w':World}{v:Value}{m:Nat}(h:RowD w v m)(a:∀ i,S i→NRB w i)(b:Fr S w w'):RowD w' v m:=by
 obtain⟨c,d,e⟩:=h
 exact⟨c,d.nrb a b,e⟩
theorem ZjC {w w':World}{e:Ending}{m:Nat}(h:dO w m e w'):lG wE (fun x w=>zY w (wE x) m) w e w':=by
 obtain⟨v,rfl,b,Q⟩:=h
 obtain⟨A,a,c,rfl,h⟩:=b
 exact⟨(A,a.length,c),rfl,Q,boxn Q (fun S d f g=>zY.nrb ⟨A,a,c,rfl,h⟩ f g)⟩
theorem Zn6 {A:qA}{l c m s:Nat}(w:World)(h:zY w (.slice A l c) m)(x:l≤17592186044416)(a:s≤31) :
 yA 172 #[.slice A l c,.int .u64 (s:Int)] w (lG (fun b:Nat=>.slice (some ⟨b,0,none⟩) (l+1) (l+1)) (fun b w=>RowD w (.slice (some ⟨b,0,none⟩) (l+1) (l+1)) (m*2^s)) w):=by
 obtain⟨d,f,g,_,i⟩:=h.row
 obtain⟨j,y,k⟩:=f.shows
 refine (ZdI A d l c s w j k qO g a).mono ?_
 rintro e w' ⟨n,rfl,o,p,q,r,Q⟩
 refine⟨w.heap.size,rfl,Q,boxn Q (fun S t u v=>RowD.nrb ⟨n,?_,q,by rw[r,i]⟩ u v)⟩
 have:=p.row (c:=l+1) qO
 rw[o] at this;exact this
theorem Zfn {P:Program}{o:Oper}{ρ:Operand→Value}{w:World}{x y:Operand}{t e:TypeId}(u:o.op=.call { callee:=.builtin .append,args:=#[x,y],argTypes:=#[t,t] })(B:P.underlying t=some (.slice e))(a:(P.info? e).map (fun i=>(i.zero,i.size,i.bytes))=some (some (.int .u32 0),1,4)){b:Addr}{A:qA}{n k cap c m:Nat}(C:ρ x=.slice (some b) n cap)(D:ρ y=.slice A k c)(E:fO w (.slice (some b) n cap) (List.replicate n 0))(F:RowD w (.slice A k c) m)(G:cap<n+k)(h:n+k≤35184372088832) :
 Does P o ρ w (DoR (fun z:Option Addr×Nat=>.slice z.1 (n+k) z.2) (fun z w=>RowD w (.slice z.1 (n+k) z.2) (W32^n*m)) w):=by
 obtain⟨r,s,H,I⟩:=F
 have g:∀ {w:World} {z:ShN},z.2.1=n+k→fO w (wE z) (List.replicate n 0 ++ r)→RowD w (.slice z.1 (n+k) z.2.2) (W32^n*m):=fun {w z} e hR =>
  ⟨_,by rw[←e];exact hR,(Dig.replicate zZ n).append H,by rw[kK,kS,tH,I,tA]⟩
 have len:∀ {w:World} {z:ShN},fO w (wE z) (List.replicate n 0 ++ r)→z.2.1=n+k:=fun {w z} hR=>by
  have J:=hR.shows.1
  have M:=s.shows.1
  simp at J;omega
 rcases Zh4 u B a C D E s G h with ⟨v,w',l,z,rfl,Q,j⟩|⟨f,args,K,l,L⟩
 ·have e:=len (j (fun _=>False) (fun _ f=>f.elim) w' (Fr.refl _ _))
  exact Or.inl ⟨_,w',l,(z.1,z.2.2),by simp[wE,e],Q,fun S p d q=>g e (j S p d q)⟩
 exact Or.inr ⟨f,args,K,l,L.mono (fun N w' h=>by
  obtain⟨v,rfl,z,rfl,Q,j⟩:=h
  have e:=len (j (fun _=>False) (fun _ f=>f.elim) w' (Fr.refl _ _))
  exact⟨_,rfl,(z.1,z.2.2),by simp[wE,e],Q,fun S p d q=>g e (j S p d q)⟩)⟩
theorem ZhM {A:qA}{l c m:Nat}(w:World)(h:RowD w (.slice A l c) m)(k:l≤70368744177664):yA 75 #[.slice A l c] w (dO w m):=by
 obtain⟨a,f,g,i⟩:=h
 obtain⟨j,b,d⟩:=f.shows
 refine (kD A a l c w j d b qO).mono ?_
 rintro e w' ⟨rfl,rfl⟩
 exact⟨_,rfl,⟨A,wL a,c,by rw[wM],by rw[wM];exact uD (iY _ _) b,d.take _,iD g,iG a,by rw[lC,i]⟩,Fr.refl _ _⟩
theorem Zpt {w:World}{s:Bool}{A:qA}{l c k:Nat}{z:Int}(h:zN w (vI2 s A l c) z):sg s (W32^(k/32)*(z.natAbs*2^(k%32)))=z*2^k:=by
 obtain⟨_,h2,_⟩:=h.opn
 have e:W32^(k/32)*(z.natAbs*2^(k%32))=z.natAbs*2^k:=by
  rw[zW,show (4294967296:Nat)=2^32 from rfl,← rU,tL,← uW,tB]
 rw[e]
 have b:(z.natAbs:Int)=z∧s=false∨(z.natAbs:Int) = -z∧s=true:=by
  cases s<;>simp[sg] at h2 ⊢<;>omega
 rcases b with ⟨a,rfl⟩|⟨a,rfl⟩
 ·simp only[sg,nM,qI,tU,a,tM];rfl
 simp only[sg,if_true,tU,a,tM];rw[Int.neg_mul,Int.neg_neg];rfl
theorem ZsH {k:Nat}(a:k≤1099511627776):IntKind.i64.wrap ((k:Int).tdiv 32)=((k/32:Nat):Int):=by
 rw[rA qO,IntWalk.i64_in _ qO];omega
theorem ZsI {k:Nat}:(k:Int).tmod 32=((k%32:Nat):Int):=by
 rw[tY qO];omega
theorem Zsc {k:Nat}:IntKind.u64.wrap ((k%32:Nat):Int)=((k%32:Nat):Int):=by
 rw[IntKind.wrap_u64];omega
theorem ZbI (a:Value)(x:Int)(k:Nat)(w:World)(ha:zN w a x)(D:wC x)(E:k≤1099511627776) :
 yA 120 #[a,.int .i64 (k:Int)] w (lZ w (x*2^k)):=by
 obtain⟨f,g,e,i,rfl⟩:=ha.shp
 have F:e≤17592186044416:=by obtain⟨M,G,H,I,J⟩:=ha.mag.row;have N:=G.shows.1;have K:=kO H I;rw[J] at K;unfold wC at D;omega
 have r:decide ((k:Int)≥0)=true:=vP qO
 refine zV (Φ:=fun w=>zN w (vI2 f g e i) (x)) func120 rfl qK (fun w' L=>ha.ext L) ?_
 refine yY (xr 2 [yJ 1 k,Δ 2,Δ 4] [bI2 4 41 false none 0 0,bI2 2 41 f g e i] ?_)
 refine yZ (zD (yY (xr 2 [yJ 1 k,Δ 2,Δ 4,yB 11 (decide ((k:Int)≥0))] [bI2 4 41 false none 0 0,bI2 2 41 f g e i] ?_)))
 rw[r]
 refine xr 0 [yJ 1 k,Δ 2,Δ 4,yB 11 true] [bI2 4 41 false none 0 0,bI2 2 41 f g e i] ?_
 refine yZ (xa (yY (xr 2 [yJ 1 k,Δ 2,Δ 4,yJ 13 (IntKind.i64.wrap (((k:Int)).tdiv 32))] [bI2 4 41 false none 0 0,bI2 2 41 f g e i] ?_)))
 rw[ZsH E]
 refine yD (d:=14) (fun b:Nat=>Υ b (k/32)) (fun b w=>fO w (Υ b (k/32)) (List.replicate (k/32) 0)) (fun w R Q=>Zkd (l:=.tmp 13) (c:=.tmp 13) (kl:=.i64) (kc:=.i64) qK underlying39 dN qK qK qO) fun j=>?_
 refine xr 1 [yJ 1 k,Δ 2,Δ 4,eS1 5 (yL j) (k/32) (k/32)] [bI2 4 41 false none 0 0,bI2 2 41 f g e i] ?_
 refine yZ (zD ?_)
 refine yO 13 zQ ?_
 refine xf 7 [yJ 1 k,Δ 2,Δ 4,yB 16 f,eS1 17 (yL j) (k/32) (k/32),eS1 19 g e i,yJ 21 (((k:Int)).tmod 32)] [bI2 4 41 false none 0 0,bI2 2 41 f g e i] ?_
 rw[ZsI]
 refine xf 1 [yJ 1 k,Δ 2,Δ 4,yB 16 f,eS1 17 (yL j) (k/32) (k/32),eS1 19 g e i,yU 22 (IntKind.u64.wrap (((k%32:Nat):Int)))] [bI2 4 41 false none 0 0,bI2 2 41 f g e i] ?_
 rw[Zsc]
 refine xd _ _ 23 (fun b:Nat=>Υ b (e+1)) _ (fun w R Q=>Zn6 (s:=k%32) _ Q.1.mag F qO) fun t=>?_
 refine xf 0 [yJ 1 k,Δ 2,Δ 4,yB 16 f,eS1 17 (yL j) (k/32) (k/32),eS1 23 (yL t) (e+1) (e+1)] [bI2 4 41 false none 0 0,bI2 2 41 f g e i] ?_
 refine gI 24 (fun z:Option Addr×Nat=>.slice z.1 (k/32+(e+1)) z.2) (fun z w=>RowD w (.slice z.1 (k/32+(e+1)) z.2) (W32^(k/32)*((x).natAbs*2^(k%32)))) qK qK qK qK qK qK qK (fun w R Q=>Zfn (x:=.tmp 17) (y:=.tmp 23) qK underlying39 dN qK qK Q.1.2 Q.2 qO qO) fun⟨u,v⟩=>?_
 refine xf 0 [yJ 1 k,Δ 2,Δ 4,yB 16 f,eS1 24 u (k/32+(e+1)) v] [bI2 4 41 false none 0 0,bI2 2 41 f g e i] ?_
 refine xd _ _ 25 wE _ (fun w R Q=>yM ZjC (ZhM _ Q.2 qO)) fun⟨A,B,C⟩=>?_
 refine xf 0 [yJ 1 k,Δ 2,Δ 4,yB 16 f,eS1 25 A B C] [bI2 4 41 false none 0 0,bI2 2 41 f g e i] ?_
 refine xd _ _ 26 wN _ (fun w R Q=>(fW _ _ (W32^(k/32)*((x).natAbs*2^(k%32))) _ Q.2).mono (fun _ _ h=>kE (by rw[Zpt Q.1.1.1.1] at h;exact h))) fun⟨m,n,o,q⟩=>?_
 refine xf 1 [yJ 1 k,Δ 2,Δ 4] [bI2 4 41 m n o q,bI2 4 41 false none 0 0,bI2 2 41 f g e i] ?_
 refine xz (yZ (zJ (zM ?_)))
 refine yR (vI2 m n o q) fun w' R Q=>?_
 exact⟨_,rfl,Q.2,R⟩
theorem rw1 {k:Nat}(h:k≤100000):IntKind.i64.wrap ((k:Int)+1)=((k+1:Nat):Int):=by rw[IntKind.wrap_i64];omega
theorem Zq7 (n:Nat):blen n≤32*ml n:=by
 refine kI.2 ?_
 have:=Zed n
 rwa [bU] at this
section
variable {a b:Value} {x r k:Nat} {w:World}
theorem Zfo (ha:zN w a ((x:Nat):Int))(c:zN w b ((r:Nat):Int))(d:ml x≤100000)(e:ml r≤100000)(f:0<r):yA 79 #[a,b] w (Zef w ((x/r:Nat):Int) ((x%r:Nat):Int)):=by
 have h:=bF a b x r w ha c (nfit (mlc d) qD) (nfit (mlc e) qD) qO
 rwa [←Int.ofNat_tdiv,← Int.ofNat_tmod] at h
theorem ZjD (ha:zN w a ((x:Nat):Int))(c:zN w b ((r:Nat):Int))(d:ml x≤100000)(e:ml r≤100000):yA 126 #[a,b] w (lZ w ((x+r:Nat):Int)) :=
 ZiU a b x r w ha c (nfit (mlc d) qD) (nfit (mlc e) qD)
end
inductive RootIs (p:Rat):ByteArray→Bool→Prop
 | neg (h:p.num<0):RootIs p ⟨#[]⟩ false
 | no1 (n d:Nat) (h0:0≤p.num) (hn1:n*n≤p.num.natAbs) (hn2:p.num.natAbs<(n+1)*(n+1)) (hd1:d*d≤(p.den:Int).natAbs) (hd2:(p.den:Int).natAbs<(d+1)*(d+1)) (h:¬ n*n=p.num.natAbs):RootIs p ⟨#[]⟩ false
 | no2 (n d:Nat) (h0:0≤p.num) (hn1:n*n≤p.num.natAbs) (hn2:p.num.natAbs<(n+1)*(n+1)) (hd1:d*d≤(p.den:Int).natAbs) (hd2:(p.den:Int).natAbs<(d+1)*(d+1)) (hnn:n*n=p.num.natAbs) (h:¬ d*d=(p.den:Int).natAbs):RootIs p ⟨#[]⟩ false
 | yes (n d:Nat) (Q:Rat) (h0:0≤p.num) (hn1:n*n≤p.num.natAbs) (hn2:p.num.natAbs<(n+1)*(n+1)) (hd1:d*d≤(p.den:Int).natAbs) (hd2:(p.den:Int).natAbs<(d+1)*(d+1)) (hnn:n*n=p.num.natAbs) (hdd:d*d=(p.den:Int).natAbs) (hQn:Q.num=(n:Int)) (hQd:(Q.den:Int)=(d:Int)):RootIs p ⟨(xF Q).toArray⟩ true
theorem ZhN {xs:qN}{i x:Nat}(b:Dig W32 xs)(c:i/32<xs.length)(d:xs[i/32]?.getD 0=x):x/2^(i%32)%2=val W32 xs/2^i%2:=by
 have a:=Zhn xs (i/32) (i%32) b qO
 rw[show 32*(i/32)+i%32=i by omega] at a
 rw[←a,xT _ c,d]
 have g:i%32<32:=uO _ qD
 generalize i%32=t at *
 generalize val W32 (xs.drop (i/32+1))=r
 have e:W32*r=2^t*(2^(32-t)*r):=by rw[←uH,← uW,show t+(32-t)=32 by omega,zW]
 have f:2^(32-t)=2*2^(31-t):=by rw[show 32-t=(31-t)+1 by omega,uP,uG]
 rw[e,Nat.add_mul_div_left _ _ (p2 t),f,uH,rD]
theorem Zob {n k:Nat}(a:0<n)(b:k≤tzn n):n/2^k=oddM n*2^(tzn n-k):=by
 obtain⟨d,c⟩:=jY a
 have e:n=oddM n*2^(tzn n-k)*2^k:=by rw[uH,← uW,pM b];exact c
 have:=uX (· / 2^k) e
 simp only[oR _ (p2 k)] at this
 exact this
theorem Zrh {n k:Nat}(a:0<n)(b:k≤tzn n)(h:n/2^k%2=0):k+1≤tzn n:=by
 rcases vM k (tzn n) with c|c
 ·omega
 have:=jY a
 rw[Zob a b,show tzn n-k=0 by omega,tX,sU] at h
 omega
theorem Zri {n k:Nat}(a:0<n)(b:k≤tzn n)(h:n/2^k%2≠0):k=tzn n:=by
 rcases vM k (tzn n) with c|c
 ·rw[Zob a b,show tzn n-k=(tzn n-k-1)+1 by omega,uP,← uH] at h
  omega
 omega
theorem Zoc {xs:qN}(a:Dig W32 xs)(b:0<val W32 xs){k:Nat}(c:k≤tzn (val W32 xs)):k/32<xs.length:=by
 obtain⟨d,e⟩:=jY b
 have f:=xZ a
 refine oD fun g=>?_
 have h:2^(32*xs.length)≤2^tzn (val W32 xs):=vE qD qO
 have i:1*2^tzn (val W32 xs)≤oddM (val W32 xs)*2^tzn (val W32 xs):=uE _ qO
 have j:W32^xs.length=2^(32*xs.length):=by rw[show W32=2^32 by rw[zW],← rU]
 omega
theorem Zlm (n d bits:Nat):rndK n d bits=rk0 n d bits∨rndK n d bits=rk0 n d bits+1:=by
 unfold rndK;split
 ·exact Or.inl rfl
 exact Or.inr rfl
theorem Zln {n d bits:Nat}(b:0<n)(c:0<d)(f:0<bits){k:Int}(g:k=rk0 n d bits∨k=rndK n d bits)(h:bits<blen (fq n d k)):k+1=rndK n d bits∧(rndK n d bits-k).toNat=1:=by
 have i:=ZaB b c f
 have a:k≠rndK n d bits:=fun e=>by rw[e,i] at h;omega
 have j:k=rk0 n d bits:=g.resolve_right a
 rcases Zlm n d bits with e|e
 ·exact absurd (j.trans e.symm) a
 omega
theorem Zlo {n d bits:Nat}(a:0<n)(b:0<d)(c:0<bits){k:Int}(f:k=rk0 n d bits∨k=rndK n d bits)(h:¬ bits<blen (fq n d k)):k=rndK n d bits:=by
 rcases f with e|e
 ·have g:=(Zfd a b c).1
  unfold rndK
  rw[e] at h
  rw[uZ qO];exact e
 exact e
theorem Zlp {n d bits:Nat}{k:Int}(a:k=rk0 n d bits∨k=rndK n d bits):(blen n:Int)-blen d-bits≤k∧k≤(blen n:Int)-blen d-bits+1:=by
 have h:=Zlm n d bits
 unfold rk0 at *
 omega
theorem Zsh {n:Nat}{k:Int}(h:0≤k):fa n k=n:=by unfold fa;rw[show (-k).toNat=0 by omega];simp
theorem Zsi {d:Nat}{k:Int}(h:¬ 0≤k):fb d k=d:=by unfold fb;rw[show k.toNat=0 by omega];simp
theorem Zlq {a b:Nat}(h:0<((2*(a%b):Nat):Int)-(b:Int)∨((2*(a%b):Nat):Int)-(b:Int)=0∧a/b%2=1):kX a b=a/b+1:=uZ qO
theorem ZgY {a b:Nat}(h:¬ (0<((2*(a%b):Nat):Int)-(b:Int)∨((2*(a%b):Nat):Int)-(b:Int)=0∧a/b%2=1)):kX a b=a/b:=uQ qO
end Go.Proofs.YtdlgidnkmbklcaaGreatDoor
