/-
 My texts.
-/
import Derived.Test.YtmpffakfhcpjoaaGreatDoorF17
set_option maxRecDepth 100000
set_option maxHeartbeats 8000000
namespace Go.Proofs.YtmpffakfhcpjoaaGreatDoor
open Go.RowKit Tryz
theorem wI.le {x y:Int}(h:wI x)(a:y.natAbs≤x.natAbs):wI y:=uA (Zao a) h
theorem wI.gcd {x y:Int}(h:wI y)(a:y≠0):wI (Int.gcd x y:Int):=h.le (by
 have:Int.gcd x y≤y.natAbs:=nA _ qO
 omega)
theorem wI.tdiv {x y:Int}(h:wI x):wI (x.tdiv y):=h.le (by rw[Int.natAbs_tdiv];exact vJ _ _)
theorem Zds {x y:Int}(h:0<y):0<Int.gcd x y:=by
 rcases uJ (Int.gcd x y) with e|e
 ·have:=(Int.gcd_eq_zero_iff.1 e).2;omega
 exact e
def wO (q:Rat):Prop:=ml q.num.natAbs≤100000∧ml q.den≤100000
theorem mlm {x y:Int}{a b:Nat}(c:ml x.natAbs≤a)(d:ml y.natAbs≤b):ml (x*y).natAbs≤a+b:=by
 have h:=ZtO x.natAbs y.natAbs
 rw[←oE] at h
 omega
theorem mla {x y:Int}{a:Nat}(b:ml x.natAbs≤a)(c:ml y.natAbs≤a):ml (x+y).natAbs≤a+1 :=
 uA (Zao (Int.natAbs_add_le x y)) (ZtP b c)
theorem wO.neg {q:Rat}(h:wO q):wO (-q):=by
 unfold wO at *
 rw[ZjM,ZjN,Int.natAbs_neg]
 exact h
theorem Zcm {w w':World}{e:Ending}{a b:Int}(h:ZhM w a b e w'):lD Zek (fun x w=>xB w (wC x.1) a∧xB w (wC x.2) b) w e w':=by
 obtain⟨u,v,rfl,d,f,Q⟩:=h
 obtain⟨s,A,l,c,rfl⟩:=d.shp
 obtain⟨j,k,m,n,rfl⟩:=f.shp
 exact⟨((s,A,l,c),(j,k,m,n)),rfl,Q,boxn Q (fun S o g i=>⟨d.nrb g i,f.nrb g i⟩)⟩
theorem nfit {z:Int}{k:Nat}(h:ml z.natAbs≤k)(a:Nat.ble k 17592186044416=true):wI z:=uA h (tT a)
theorem mlc {n k:Nat}(h:ml n≤k):ml ((n:Nat):Int).natAbs≤k:=by rw[sO];exact h
theorem ZiA {x y:Int}{q:Rat}(a:Rat.divInt x y=q)(b:0<y)(_:1<((Int.gcd x y:Nat):Int).natAbs):q.num=x.tdiv ((Int.gcd x y:Nat):Int)∧(q.den:Int)=y.tdiv ((Int.gcd x y:Nat):Int):=by
 rw[←a];exact Zj0 b
theorem ZiB {x y:Int}{q:Rat}(b:Rat.divInt x y=q)(a:0<y)(h:¬ 1<((Int.gcd x y:Nat):Int).natAbs):q.num=x∧(q.den:Int)=y:=by
 have c:=Zds (x:=x) a
 rw[←b];exact Zez a qO
theorem ZaR {n:Nat}(h:(((n:Nat):Int) == 1)=true):n=1:=by have:=eq_of_beq h;omega
theorem ZaS {n:Nat}(h:(((n:Nat):Int) == 1)=false):n≠1:=fun e=>by subst e;cases h
theorem Zo9 (a b:Value)(x y:Int)(q:Rat)(w:World)(ha:xB w a x)(X:xB w b y)(hx:wI x)(hy:wI y)(h0:y<0)(hq:Rat.divInt x y=q) :
 Ζ 16 #[a,b] w (kQ w q):=by
 obtain⟨M,N,O,P,rfl⟩:=ha.shp
 obtain⟨s1,S,T,U,rfl⟩:=X.shp
 obtain rfl:s1=true:=X.sneg h0
 have V:wI (-(x)):=hx.neg
 have B:wI (-(y)):=hy.neg
 have Y:0 < -(y):=qO
 have K:wI ((Int.gcd (-(x)) (-(y)):Nat):Int):=wI.gcd B qO
 have W:((Int.gcd (-(x)) (-(y)):Nat):Int)≠0:=by have:=Zds (x := -(x)) Y;omega
 have Z:Rat.divInt (-(x)) (-(y))=q:=by rw[Rat.neg_divInt_neg];exact hq
 refine zU (Φ:=fun w=>(xB w (vI2 M N O P) (x)∧xB w (vI2 true S T U) (y))) func16 rfl qK (fun w' hf=>⟨ha.ext hf,X.ext hf⟩) ?_
 refine yY (xq 3 [Δ 2,Δ 3,Δ 4] [Θ 4 32,bI2 3 30 true S T U,bI2 2 30 M N O P] ?_)
 refine yZ (zC (yY (xq 2 [yB 7 true] [] ?_)))
 refine yZ (xa ?_)
 refine yO 6 zM ?_
 refine xqg 1 [eI2 8 M N O P] ?_
 refine xqd 37 [vI2 M N O P] 9 wC _ (fun w R Q=>yM xV (ZfR _ (x) _ Q.1)) fun⟨c,d,e,f⟩=>?_
 refine xqg 1 [eI2 10 true S T U] ?_
 refine xqd 37 [vI2 true S T U] 11 wC _ (fun w R Q=>yM xV (ZfR _ (y) _ Q.1.2)) fun⟨g,i,j,k⟩=>?_
 refine xqf 2 [] [bI2 3 30 g i j k,bI2 2 30 c d e f,Θ 4 32,bI2 3 30 true S T U,bI2 2 30 M N O P] ?_
 refine xz (yZ (yY (xq 2 [eI2 12 c d e f,eI2 13 g i j k] [bI2 3 30 g i j k,bI2 2 30 c d e f] ?_)))
 refine xqc 38 [vI2 c d e f,vI2 g i j k] 14 wC _ (fun w R Q=>yM xV (ZjP _ _ (-(x)) (-(y)) _ Q.1.2 Q.2 V B)) fun⟨n,o,r,s⟩=>?_
 refine xq 2 [Δ 5] [bI2 5 30 n o r s] ?_
 refine yZ (zC (yY (xq 1 [eI2 15 n o r s] [] ?_)))
 refine xqc 39 [vI2 n o r s] 16 (fun _:Unit=>yI ((blen (((Int.gcd (-(x)) (-(y)):Nat):Int)).natAbs:Nat):Int)) _ (fun w R Q=>yN (aL _ (((Int.gcd (-(x)) (-(y)):Nat):Int)) _ Q.2 K)) fun L=>?_
 refine xq 1 [(17,.v (.bool (decide (((blen (((Int.gcd (-(x)) (-(y)):Nat):Int)).natAbs:Nat):Int)>1))))] [] ?_
 refine xe (zA ?_)
 refine zS ((decide (((blen (((Int.gcd (-(x)) (-(y)):Nat):Int)).natAbs:Nat):Int)>1))) qK (fun C=>?_) fun C=>?_
 ·have D:=ZiA Z Y (ZaN.1 (by have:=uC C;omega))
  refine yY (xq 2 [eI2 19 c d e f,eI2 20 n o r s] [] ?_)
  refine xqc 40 [vI2 c d e f,vI2 n o r s] 21 Zek _ (fun w R Q=>yM Zcm (ZaM _ _ (-(x)) (((Int.gcd (-(x)) (-(y)):Nat):Int)) _ Q.1.1.1.2 Q.1.2 V K W)) fun L=>?_
  obtain⟨⟨t,u,z,A⟩,⟨a0,b0,d0,e0⟩⟩:=L
  refine xq 4 [] [bI2 2 30 t u z A] ?_
  refine yZ (zB (xq 2 [eI2 25 g i j k,eI2 26 n o r s] [] ?_))
  refine xqc 40 [vI2 g i j k,vI2 n o r s] 27 Zek _ (fun w R Q=>yM Zcm (ZaM _ _ (-(y)) (((Int.gcd (-(x)) (-(y)):Nat):Int)) _ Q.1.1.1.2 Q.1.1.2 B K W)) fun L=>?_
  obtain⟨⟨E,F,G,H⟩,⟨f0,g0,i0,j0⟩⟩:=L
  refine xr 4 [Δ 2,Δ 3,Δ 4] [bI2 2 30 t u z A,bI2 3 30 E F G H,Θ 4 32] ?_
  refine yZ (zC (yY (xq 1 [eI2 30 E F G H] [] ?_)))
  refine xqc 39 [vI2 E F G H] 31 (fun _:Unit=>yI ((blen ((-(y)).tdiv (((Int.gcd (-(x)) (-(y)):Nat):Int))).natAbs:Nat):Int)) _ (fun w R Q=>yN (aL _ ((-(y)).tdiv (((Int.gcd (-(x)) (-(y)):Nat):Int))) _ Q.2.1 (wI.tdiv B))) fun L=>?_
  refine xq 1 [(32,.v (.bool ((((blen ((-(y)).tdiv (((Int.gcd (-(x)) (-(y)):Nat):Int))).natAbs:Nat):Int):Int) == 1)))] [] ?_
  refine xe (zA ?_)
  refine zS (((((blen ((-(y)).tdiv (((Int.gcd (-(x)) (-(y)):Nat):Int))).natAbs:Nat):Int):Int) == 1)) qK (fun I=>?_) fun I=>?_
  ·have l:=gW.1 (ZaR I)
   refine zB (xq 2 [] [bI2 3 30 false none 0 0] ?_)
   refine yZ (yY (xq 4 [] [bR4 4 32 t u z A false none 0 0] ?_))
   refine yZ (zH ?_)
   refine yR (.agg #[.bool t,.slice u z A,.bool false,Ξ]) fun w' R Q=>?_
   exact⟨_,rfl,zP.of (by rw[D.1];exact Q.1.1.2.1) (by rw[jC (by have:=l;have:=D.2;have:=q.den_nz;omega)];exact (xB.nil _)),R⟩
  have l:=fun h=>ZaS I (gW.2 h)
  refine zJ (zA (yY (xq 4 [] [bR4 4 32 t u z A E F G H] ?_)))
  refine yZ (zH ?_)
  refine yR (vR4 t u z A E F G H) fun w' R Q=>?_
  exact⟨_,rfl,zP.of (by rw[D.1];exact Q.1.1.2.1) (by rw[eE (fun h=>l (by have:=D.2;omega)),D.2];exact Q.1.2.1),R⟩
 have D:=ZiB Z Y (fun h=>absurd (ZaN.2 h) (by have:=uD C;omega))
 refine zJ (zA (zC (yY (xq 1 [eI2 30 g i j k] [] ?_))))
 refine xqc 39 [vI2 g i j k] 31 (fun _:Unit=>yI (blen (-(y)).natAbs:Nat)) _ (fun w R Q=>yN (aL _ (-(y)) _ Q.1.1.2 B)) fun L=>?_
 refine xq 1 [(32,.v (.bool ((((blen (-(y)).natAbs:Nat):Int):Int) == 1)))] [] ?_
 refine xe (zA ?_)
 refine yQ (((((blen (-(y)).natAbs:Nat):Int):Int) == 1)) (fun J=>?_) fun J=>?_
 ·have m:=gW.1 (ZaR J)
  refine zB (xq 2 [] [bI2 3 30 false none 0 0] ?_)
  refine yZ (yY (xr 4 [Δ 4] [bR4 4 32 c d e f false none 0 0] ?_))
  refine yZ (zH ?_)
  refine yR (.agg #[.bool c,.slice d e f,.bool false,Ξ]) fun w' R Q=>?_
  exact⟨_,rfl,zP.of (by rw[D.1];exact Q.1.1.1.1.2) (by rw[jC (by have:=m;have:=D.2;have:=q.den_nz;omega)];exact (xB.nil _)),R⟩
 have m:=fun h=>ZaS J (gW.2 h)
 refine zJ (zA (yY (xq 4 [] [bR4 4 32 c d e f g i j k] ?_)))
 refine yZ (zH ?_)
 refine yR (vR4 c d e f g i j k) fun w' R Q=>?_
 exact⟨_,rfl,zP.of (by rw[D.1];exact Q.1.1.1.1.2) (by rw[eE (fun h=>m (by have:=D.2;omega)),D.2];exact Q.1.1.1.2),R⟩
theorem Zpa (a b:Value)(x y:Int)(q:Rat)(w:World)(ha:xB w a x)(N:xB w b y)(T:wI x)(U:wI y)(h0:0<y)(V:Rat.divInt x y=q) :
 Ζ 16 #[a,b] w (kQ w q):=by
 obtain⟨C,D,E,F,rfl⟩:=ha.shp
 obtain⟨W,G,H,I,rfl⟩:=N.shp
 obtain rfl:W=false:=N.spos qO
 have L:wI (x):=T
 have n:wI (y):=U
 have O:0<y:=qO
 have J:wI ((Int.gcd (x) (y):Nat):Int):=wI.gcd n qO
 have M:((Int.gcd (x) (y):Nat):Int)≠0:=by have:=Zds (x:=x) O;omega
 have P:Rat.divInt (x) (y)=q:=V
 refine zU (Φ:=fun w=>(xB w (vI2 C D E F) (x)∧xB w (vI2 false G H I) (y))) func16 rfl qK (fun w' S=>⟨ha.ext S,N.ext S⟩) ?_
 refine yY (xq 3 [Δ 2,Δ 3,Δ 4] [Θ 4 32,bI2 3 30 false G H I,bI2 2 30 C D E F] ?_)
 refine yZ (zC (yY (xq 2 [yB 7 false] [] ?_)))
 refine yZ (xb (zJ (zA (yY (xq 2 [eI2 12 C D E F,eI2 13 false G H I] [] ?_)))))
 refine xqc 38 [vI2 C D E F,vI2 false G H I] 14 wC _ (fun w R Q=>yM xV (ZjP _ _ (x) (y) _ Q.1 Q.2 L n)) fun⟨e,f,g,i⟩=>?_
 refine xq 2 [Δ 5] [bI2 5 30 e f g i] ?_
 refine yZ (zC (yY (xq 1 [eI2 15 e f g i] [] ?_)))
 refine xqc 39 [vI2 e f g i] 16 (fun _:Unit=>yI ((blen (((Int.gcd (x) (y):Nat):Int)).natAbs:Nat):Int)) _ (fun w R Q=>yN (aL _ (((Int.gcd (x) (y):Nat):Int)) _ Q.2 J)) fun K=>?_
 refine xq 1 [(17,.v (.bool (decide (((blen (((Int.gcd (x) (y):Nat):Int)).natAbs:Nat):Int)>1))))] [] ?_
 refine xe (zA ?_)
 refine zS ((decide (((blen (((Int.gcd (x) (y):Nat):Int)).natAbs:Nat):Int)>1))) qK (fun o=>?_) fun o=>?_
 ·have r:=ZiA P O (ZaN.1 (by have:=uC o;omega))
  refine yY (xq 2 [eI2 19 C D E F,eI2 20 e f g i] [] ?_)
  refine xqc 40 [vI2 C D E F,vI2 e f g i] 21 Zek _ (fun w R Q=>yM Zcm (ZaM _ _ (x) (((Int.gcd (x) (y):Nat):Int)) _ Q.1.1.1 Q.1.2 L J M)) fun K=>?_
  obtain⟨⟨j,k,l,m⟩,⟨X,Y,Z,a0⟩⟩:=K
  refine xq 4 [] [bI2 2 30 j k l m] ?_
  refine yZ (zB (xq 2 [eI2 25 false G H I,eI2 26 e f g i] [] ?_))
  refine xqc 40 [vI2 false G H I,vI2 e f g i] 27 Zek _ (fun w R Q=>yM Zcm (ZaM _ _ (y) (((Int.gcd (x) (y):Nat):Int)) _ Q.1.1.1.2 Q.1.1.2 n J M)) fun K=>?_
  obtain⟨⟨s,t,u,z⟩,⟨b0,d0,e0,f0⟩⟩:=K
  refine xq 4 [] [bI2 3 30 s t u z] ?_
  refine yZ (zC (yY (xq 1 [eI2 30 s t u z] [] ?_)))
  refine xqc 39 [vI2 s t u z] 31 (fun _:Unit=>yI ((blen ((y).tdiv (((Int.gcd (x) (y):Nat):Int))).natAbs:Nat):Int)) _ (fun w R Q=>yN (aL _ ((y).tdiv (((Int.gcd (x) (y):Nat):Int))) _ Q.2.1 (wI.tdiv n))) fun K=>?_
  refine xq 1 [(32,.v (.bool ((((blen ((y).tdiv (((Int.gcd (x) (y):Nat):Int))).natAbs:Nat):Int):Int) == 1)))] [] ?_
  refine xe (zA ?_)
  refine zS (((((blen ((y).tdiv (((Int.gcd (x) (y):Nat):Int))).natAbs:Nat):Int):Int) == 1)) qK (fun A=>?_) fun A=>?_
  ·have c:=gW.1 (ZaR A)
   refine zB (xr 2 [Δ 2,Δ 3,Δ 4] [bI2 3 30 false none 0 0,bI2 2 30 j k l m,Θ 4 32] ?_)
   refine yZ (yY (xq 4 [] [bR4 4 32 j k l m false none 0 0] ?_))
   refine yZ (zH ?_)
   refine yR (.agg #[.bool j,.slice k l m,.bool false,Ξ]) fun w' R Q=>?_
   exact⟨_,rfl,zP.of (by rw[r.1];exact Q.1.1.2.1) (by rw[jC (by have:=c;have:=r.2;have:=q.den_nz;omega)];exact (xB.nil _)),R⟩
  have c:=fun h=>ZaS A (gW.2 h)
  refine zJ (zA (yY (xr 4 [Δ 4] [bR4 4 32 j k l m s t u z] ?_)))
  refine yZ (zH ?_)
  refine yR (vR4 j k l m s t u z) fun w' R Q=>?_
  exact⟨_,rfl,zP.of (by rw[r.1];exact Q.1.1.2.1) (by rw[eE (fun h=>c (by have:=r.2;omega)),r.2];exact Q.1.2.1),R⟩
 have r:=ZiB P O (fun h=>absurd (ZaN.2 h) (by have:=uD o;omega))
 refine zJ (zA (zC (yY (xq 1 [eI2 30 false G H I] [] ?_))))
 refine xqc 39 [vI2 false G H I] 31 (fun _:Unit=>yI (blen (y).natAbs:Nat)) _ (fun w R Q=>yN (aL _ (y) _ Q.1.1.2 n)) fun K=>?_
 refine xq 1 [(32,.v (.bool ((((blen (y).natAbs:Nat):Int):Int) == 1)))] [] ?_
 refine xe (zA ?_)
 refine yQ (((((blen (y).natAbs:Nat):Int):Int) == 1)) (fun B=>?_) fun B=>?_
 ·have d:=gW.1 (ZaR B)
  refine zB (xq 2 [] [bI2 3 30 false none 0 0] ?_)
  refine yZ (yY (xq 4 [] [bR4 4 32 C D E F false none 0 0] ?_))
  refine yZ (zH ?_)
  refine yR (.agg #[.bool C,.slice D E F,.bool false,Ξ]) fun w' R Q=>?_
  exact⟨_,rfl,zP.of (by rw[r.1];exact Q.1.1.1.1) (by rw[jC (by have:=d;have:=r.2;have:=q.den_nz;omega)];exact (xB.nil _)),R⟩
 have d:=fun h=>ZaS B (gW.2 h)
 refine zJ (zA (yY (xq 4 [] [bR4 4 32 C D E F false G H I] ?_)))
 refine yZ (zH ?_)
 refine yR (vR4 C D E F false G H I) fun w' R Q=>?_
 exact⟨_,rfl,zP.of (by rw[r.1];exact Q.1.1.1.1) (by rw[eE (fun h=>d (by have:=r.2;omega)),r.2];exact Q.1.1.1.2),R⟩
theorem aP (a b:Value)(x y:Int)(w:World)(ha:xB w a x)(c:xB w b y)(d:wI x)(e:wI y)(f:y≠0):Ζ 16 #[a,b] w (kQ w (Rat.divInt x y)):=by
 rcases Int.lt_or_gt_of_ne f with h|h
 ·exact Zo9 a b x y _ w ha c d e h rfl
 exact Zpa a b x y _ w ha c d e h rfl
theorem Zpb (a:Value)(q:Rat)(w:World)(ha:zP w a q) :
 Ζ 44 #[a] w (kQ w (-q)):=by
 obtain⟨b,c,d,e,f,g,h,i,rfl⟩:=ha.shp
 refine zU (Φ:=fun w=>zP w (vR4 b c d e f g h i) (q)) func44 rfl qK (fun w' n=>ha.ext n) ?_
 refine yY (xq 2 [Δ 1,Δ 2] [Θ 2 32,bR4 1 32 b c d e f g h i] ?_)
 refine yZ (zC ?_)
 refine yO 7 zM ?_
 refine xqg 2 [eI2 4 b c d e] ?_
 refine xqd 37 [vI2 b c d e] 5 wC _ (fun w R Q=>yM xV (ZfR _ ((q).num) _ Q.num)) fun⟨j,k,l,m⟩=>?_
 refine xqf 4 [] [bR4 2 32 j k l m f g h i,Θ 2 32,bR4 1 32 b c d e f g h i] ?_
 refine xz (yZ (zH ?_))
 refine yR (vR4 j k l m f g h i) fun w' R Q=>?_
 exact⟨_,rfl,zP.of (by rw[ZjM];exact Q.2) (by rw[ZqC];exact Q.1.den),R⟩
theorem Zad (a:Value)(q:Rat)(w:World)(ha:zP w a q) :
 Ζ 20 #[a] w (RetV w (.int .i64 q.num.sign)):=by
 obtain⟨b,c,d,e,f,g,h,i,rfl⟩:=ha.shp
 refine zU (Φ:=fun w=>zP w (vR4 b c d e f g h i) (q)) func20 rfl qK (fun w' j=>ha.ext j) ?_
 refine yY (xq 2 [Δ 1,yJ 2 0] [bR4 1 32 b c d e f g h i] ?_)
 refine yZ (yY (xq 2 [eI2 4 b c d e] [] ?_))
 refine xqc 45 [vI2 b c d e] 5 (fun _:Unit=>yI ((q).num).sign) _ (fun w R Q=>yN (Zeo _ ((q).num) _ Q.num)) fun k=>?_
 refine xq 1 [(2,.v (yI ((q).num).sign))] [] ?_
 refine yZ (zH ?_)
 refine yR (yI ((q).num).sign) fun w' R Q=>?_
 exact⟨rfl,R⟩
theorem Zlh (a b:Value)(p q:Rat)(w:World)(ha:zP w a p)(o:zP w b q)(t:wO p)(u:wO q)(r:p.den=1)(s:q.den=1) :
 Ζ 7 #[a,b] w (kQ w (p+q)):=by
 obtain⟨g,h,i,j,v,x,C,y,rfl⟩:=ha.shp
 obtain rfl:C=0:=ha.den.len0 (jC r)
 obtain⟨k,l,m,n,t1,z,D,A,rfl⟩:=o.shp
 obtain rfl:D=0:=o.den.len0 (jC s)
 have E:ml p.num.natAbs≤100000:=t.1
 have F:ml q.num.natAbs≤100000:=u.1
 have G:ml ((p.den:Nat):Int).natAbs≤100000:=mlc t.2
 have H:ml ((q.den:Nat):Int).natAbs≤100000:=mlc u.2
 refine zU (Φ:=fun w=>(zP w (vR4 g h i j v x 0 y) (p)∧zP w (vR4 k l m n t1 z 0 A) (q))) func7 rfl qK (fun w' B=>⟨ha.ext B,o.ext B⟩) ?_
 refine yY (xq 3 [Δ 2,Δ 3,Δ 4] [Θ 4 32,bR4 3 32 k l m n t1 z 0 A,bR4 2 32 g h i j v x 0 y] ?_)
 refine yZ (zC (yY (xq 12 [yB 16 true] [] ?_)))
 refine yZ (xa (yY (xq 4 [eI2 18 g h i j,eI2 20 k l m n] [] ?_)))
 refine xqc 26 [vI2 g h i j,vI2 k l m n] 21 wC _ (fun w R Q=>yM xV (ZfM _ _ ((p).num) ((q).num) _ Q.1.num Q.2.num (nfit E qD) (nfit F qD))) fun⟨c,d,e,f⟩=>?_
 refine xq 2 [] [bR4 4 32 c d e f false none 0 0] ?_
 refine yZ (zH (zL ?_))
 refine yR (.agg #[.bool c,.slice d e f,.bool false,Ξ]) fun w' R Q=>?_
 exact⟨_,rfl,zP.of (by rw[(ZdS r s).1];exact Q.2) (by rw[jC (ZdS r s).2];exact (xB.nil _)),R⟩
theorem Zli (a b:Value)(p q:Rat)(w:World)(ha:zP w a p)(hb:zP w b q)(hp:wO p)(hq:wO q)(h1:¬ p.den=1) :
 Ζ 7 #[a,b] w (kQ w (p+q)):=by
 obtain⟨c,d,e,f,m,n,m0,o,rfl⟩:=ha.shp
 obtain⟨r,rfl⟩:∃ k,m0=k+1:=⟨m0-1,by have:=ha.den.lenp (Zaq h1);omega⟩
 obtain⟨g,i,j,l,t1,s,t,u,rfl⟩:=hb.shp
 have G:ml p.num.natAbs≤100000:=hp.1
 have H:ml q.num.natAbs≤100000:=hq.1
 have v:ml ((p.den:Nat):Int).natAbs≤100000:=mlc hp.2
 have x:ml ((q.den:Nat):Int).natAbs≤100000:=mlc hq.2
 refine zU (Φ:=fun w=>(zP w (vR4 c d e f m n (r+1) o) (p)∧zP w (vR4 g i j l t1 s t u) (q))) func7 rfl qK (fun w' hf=>⟨ha.ext hf,hb.ext hf⟩) ?_
 refine yY (xq 3 [Δ 2,Δ 3,Δ 4] [Θ 4 32,bR4 3 32 g i j l t1 s t u,bR4 2 32 c d e f m n (r+1) o] ?_)
 refine yZ (zC (yY (xq 12 [yB 16 false] [] ?_)))
 refine yZ (xb (zJ (zA (zC ?_))))
 refine iK 18 [0,1,0,4,15,0,32,0,159,511,1023,0,4095,0,16383,32767,65535,131071] qK qK zM ?_
 refine xqg 3 [eI2 24 c d e f,eR4 25 g i j l t1 s t u] ?_
 refine xqd 28 [vR4 g i j l t1 s t u] 26 wC _ (fun w R Q=>yM xV (gJ _ (q) _ Q.2)) fun⟨I,J,K,L⟩=>?_
 refine xqd 27 [vI2 c d e f,vI2 I J K L] 27 wC _ (fun w R Q=>yM xV (fD _ _ ((p).num) (((q).den:Int)) _ Q.1.1.num Q.2 (nfit G qD) (nfit x qD))) fun⟨M,N,O,P⟩=>?_
 refine xqg 3 [eI2 29 g i j l,eR4 30 c d e f m n (r+1) o] ?_
 refine xqd 28 [vR4 c d e f m n (r+1) o] 31 wC _ (fun w R Q=>yM xV (gJ _ (p) _ Q.1.1.1)) fun⟨S,T,U,V⟩=>?_
 refine xqd 27 [vI2 g i j l,vI2 S T U V] 32 wC _ (fun w R Q=>yM xV (fD _ _ ((q).num) (((p).den:Int)) _ Q.1.1.1.2.num Q.2 (nfit H qD) (nfit v qD))) fun⟨W,X,Y,Z⟩=>?_
 refine xqd 26 [vI2 M N O P,vI2 W X Y Z] 33 wC _ (fun w R Q=>yM xV (ZfM _ _ (((p).num)*(((q).den:Int))) (((q).num)*(((p).den:Int))) _ Q.1.1.2 Q.2 (nfit (mlm G x) qD) (nfit (mlm H v) qD))) fun⟨a0,b0,e0,f0⟩=>?_
 refine xqg 1 [eR4 34 c d e f m n (r+1) o] ?_
 refine xqd 28 [vR4 c d e f m n (r+1) o] 35 wC _ (fun w R Q=>yM xV (gJ _ (p) _ Q.1.1.1.1.1.1)) fun⟨g0,h0,i0,j0⟩=>?_
 refine xqg 1 [eR4 36 g i j l t1 s t u] ?_
 refine xqd 28 [vR4 g i j l t1 s t u] 37 wC _ (fun w R Q=>yM xV (gJ _ (q) _ Q.1.1.1.1.1.1.2)) fun⟨n0,o0,p0,q0⟩=>?_
 refine xqd 27 [vI2 g0 h0 i0 j0,vI2 n0 o0 p0 q0] 38 wC _ (fun w R Q=>yM xV (fD _ _ (((p).den:Int)) (((q).den:Int)) _ Q.1.2 Q.2 (nfit v qD) (nfit x qD))) fun⟨r0,u0,v0,w0⟩=>?_
 refine xqd 16 [vI2 a0 b0 e0 f0,vI2 r0 u0 v0 w0] 39 lB _ (fun w R Q=>(aP _ _ ((((p).num)*(((q).den:Int)))+(((q).num)*(((p).den:Int)))) ((((p).den:Int))*(((q).den:Int))) _ Q.1.1.1.2 Q.2 (nfit (mla (a:=200000) (mlm G x) (mlm H v)) qD) (nfit (mlm v x) qD) (mO (denI p) (denI q))).mono (fun _ _ h=>wM (by rw[Zem] at h;exact h))) fun⟨y,z,A,B,C,D,E,F⟩=>?_
 refine xqf 1 [] [bR4 4 32 y z A B C D E F,Θ 4 32,bR4 3 32 g i j l t1 s t u,bR4 2 32 c d e f m n (r+1) o] ?_
 refine xz (yZ (zH ?_))
 refine yR (vR4 y z A B C D E F) fun w' R Q=>?_
 exact⟨_,rfl,Q.2,R⟩
theorem Zlj (a b:Value)(p q:Rat)(w:World)(ha:zP w a p)(F:zP w b q)(hp:wO p)(hq:wO q)(h1:p.den=1)(h2:¬ q.den=1) :
 Ζ 7 #[a,b] w (kQ w (p+q)):=by
 obtain⟨c,d,e,f,m,n,m0,o,rfl⟩:=ha.shp
 obtain rfl:m0=0:=ha.den.len0 (jC h1)
 obtain⟨g,i,j,l,t1,r,m1,s,rfl⟩:=F.shp
 obtain⟨t,rfl⟩:∃ k,m1=k+1:=⟨m1-1,by have:=F.den.lenp (Zaq h2);omega⟩
 have G:ml p.num.natAbs≤100000:=hp.1
 have H:ml q.num.natAbs≤100000:=hq.1
 have u:ml ((p.den:Nat):Int).natAbs≤100000:=mlc hp.2
 have v:ml ((q.den:Nat):Int).natAbs≤100000:=mlc hq.2
 refine zU (Φ:=fun w=>(zP w (vR4 c d e f m n 0 o) (p)∧zP w (vR4 g i j l t1 r (t+1) s) (q))) func7 rfl qK (fun w' hf=>⟨ha.ext hf,F.ext hf⟩) ?_
 refine yY (xq 3 [Δ 2,Δ 3,Δ 4] [Θ 4 32,bR4 3 32 g i j l t1 r (t+1) s,bR4 2 32 c d e f m n 0 o] ?_)
 refine yZ (zC (yY (xq 12 [yB 16 false] [] ?_)))
 refine yZ (xb (zJ (zA (zC ?_))))
 refine iK 18 [0,1,0,4,15,0,32,0,159,511,1023,0,4095,0,16383,32767,65535,131071] qK qK zM ?_
 refine xqg 3 [eI2 24 c d e f,eR4 25 g i j l t1 r (t+1) s] ?_
 refine xqd 28 [vR4 g i j l t1 r (t+1) s] 26 wC _ (fun w R Q=>yM xV (gJ _ (q) _ Q.2)) fun⟨I,J,K,L⟩=>?_
 refine xqd 27 [vI2 c d e f,vI2 I J K L] 27 wC _ (fun w R Q=>yM xV (fD _ _ ((p).num) (((q).den:Int)) _ Q.1.1.num Q.2 (nfit G qD) (nfit v qD))) fun⟨M,N,O,P⟩=>?_
 refine xqg 3 [eI2 29 g i j l,eR4 30 c d e f m n 0 o] ?_
 refine xqd 28 [vR4 c d e f m n 0 o] 31 wC _ (fun w R Q=>yM xV (gJ _ (p) _ Q.1.1.1)) fun⟨S,T,U,V⟩=>?_
 refine xqd 27 [vI2 g i j l,vI2 S T U V] 32 wC _ (fun w R Q=>yM xV (fD _ _ ((q).num) (((p).den:Int)) _ Q.1.1.1.2.num Q.2 (nfit H qD) (nfit u qD))) fun⟨W,X,Y,Z⟩=>?_
 refine xqd 26 [vI2 M N O P,vI2 W X Y Z] 33 wC _ (fun w R Q=>yM xV (ZfM _ _ (((p).num)*(((q).den:Int))) (((q).num)*(((p).den:Int))) _ Q.1.1.2 Q.2 (nfit (mlm G v) qD) (nfit (mlm H u) qD))) fun⟨a0,b0,e0,f0⟩=>?_
 refine xqg 1 [eR4 34 c d e f m n 0 o] ?_
 refine xqd 28 [vR4 c d e f m n 0 o] 35 wC _ (fun w R Q=>yM xV (gJ _ (p) _ Q.1.1.1.1.1.1)) fun⟨g0,h0,i0,j0⟩=>?_
 refine xqg 1 [eR4 36 g i j l t1 r (t+1) s] ?_
 refine xqd 28 [vR4 g i j l t1 r (t+1) s] 37 wC _ (fun w R Q=>yM xV (gJ _ (q) _ Q.1.1.1.1.1.1.2)) fun⟨k0,n0,o0,p0⟩=>?_
 refine xqd 27 [vI2 g0 h0 i0 j0,vI2 k0 n0 o0 p0] 38 wC _ (fun w R Q=>yM xV (fD _ _ (((p).den:Int)) (((q).den:Int)) _ Q.1.2 Q.2 (nfit u qD) (nfit v qD))) fun⟨q0,r0,u0,v0⟩=>?_
 refine xqd 16 [vI2 a0 b0 e0 f0,vI2 q0 r0 u0 v0] 39 lB _ (fun w R Q=>(aP _ _ ((((p).num)*(((q).den:Int)))+(((q).num)*(((p).den:Int)))) ((((p).den:Int))*(((q).den:Int))) _ Q.1.1.1.2 Q.2 (nfit (mla (a:=200000) (mlm G v) (mlm H u)) qD) (nfit (mlm u v) qD) (mO (denI p) (denI q))).mono (fun _ _ h=>wM (by rw[Zem] at h;exact h))) fun⟨x,y,z,A,B,C,D,E⟩=>?_
 refine xqf 1 [] [bR4 4 32 x y z A B C D E,Θ 4 32,bR4 3 32 g i j l t1 r (t+1) s,bR4 2 32 c d e f m n 0 o] ?_
 refine xz (yZ (zH ?_))
 refine yR (vR4 x y z A B C D E) fun w' R Q=>?_
 exact⟨_,rfl,Q.2,R⟩
theorem ZeC (a b:Value)(p q:Rat)(w:World)(ha:zP w a p)(c:zP w b q)(d:wO p)(e:wO q):Ζ 7 #[a,b] w (kQ w (p+q)):=by
 by_cases f:p.den=1
 ·by_cases g:q.den=1
  ·exact Zlh a b p q w ha c d e f g
  exact Zlj a b p q w ha c d e f g
 exact Zli a b p q w ha c d e f
theorem Zlk (a b:Value)(p q:Rat)(w:World)(ha:zP w a p)(o:zP w b q)(t:wO p)(u:wO q)(r:p.den=1)(s:q.den=1) :
 Ζ 22 #[a,b] w (kQ w (p*q)):=by
 obtain⟨g,h,i,j,v,x,C,y,rfl⟩:=ha.shp
 obtain rfl:C=0:=ha.den.len0 (jC r)
 obtain⟨k,l,m,n,t1,z,D,A,rfl⟩:=o.shp
 obtain rfl:D=0:=o.den.len0 (jC s)
 have E:ml p.num.natAbs≤100000:=t.1
 have F:ml q.num.natAbs≤100000:=u.1
 have G:ml ((p.den:Nat):Int).natAbs≤100000:=mlc t.2
 have H:ml ((q.den:Nat):Int).natAbs≤100000:=mlc u.2
 refine zU (Φ:=fun w=>(zP w (vR4 g h i j v x 0 y) (p)∧zP w (vR4 k l m n t1 z 0 A) (q))) func22 rfl qK (fun w' B=>⟨ha.ext B,o.ext B⟩) ?_
 refine yY (xq 3 [Δ 2,Δ 3,Δ 4] [Θ 4 32,bR4 3 32 k l m n t1 z 0 A,bR4 2 32 g h i j v x 0 y] ?_)
 refine yZ (zC (yY (xq 12 [yB 16 true] [] ?_)))
 refine yZ (xa (yY (xq 4 [eI2 18 g h i j,eI2 20 k l m n] [] ?_)))
 refine xqc 27 [vI2 g h i j,vI2 k l m n] 21 wC _ (fun w R Q=>yM xV (fD _ _ ((p).num) ((q).num) _ Q.1.num Q.2.num (nfit E qD) (nfit F qD))) fun⟨c,d,e,f⟩=>?_
 refine xq 2 [] [bR4 4 32 c d e f false none 0 0] ?_
 refine yZ (zH (zL ?_))
 refine yR (.agg #[.bool c,.slice d e f,.bool false,Ξ]) fun w' R Q=>?_
 exact⟨_,rfl,zP.of (by rw[(ZdT r s).1];exact Q.2) (by rw[jC (ZdT r s).2];exact (xB.nil _)),R⟩
theorem Zll (a b:Value)(p q:Rat)(w:World)(ha:zP w a p)(W:zP w b q)(X:wO p)(Y:wO q)(h1:¬ p.den=1) :
 Ζ 22 #[a,b] w (kQ w (p*q)):=by
 obtain⟨c,d,e,f,m,n,Z,o,rfl⟩:=ha.shp
 obtain⟨r,rfl⟩:∃ k,Z=k+1:=⟨Z-1,by have:=ha.den.lenp (Zaq h1);omega⟩
 obtain⟨g,i,j,l,t1,s,t,u,rfl⟩:=W.shp
 have S1:ml p.num.natAbs≤100000:=X.1
 have S2:ml q.num.natAbs≤100000:=Y.1
 have S3:ml ((p.den:Nat):Int).natAbs≤100000:=mlc X.2
 have S4:ml ((q.den:Nat):Int).natAbs≤100000:=mlc Y.2
 refine zU (Φ:=fun w=>(zP w (vR4 c d e f m n (r+1) o) (p)∧zP w (vR4 g i j l t1 s t u) (q))) func22 rfl qK (fun w' hf=>⟨ha.ext hf,W.ext hf⟩) ?_
 refine yY (xq 3 [Δ 2,Δ 3,Δ 4] [Θ 4 32,bR4 3 32 g i j l t1 s t u,bR4 2 32 c d e f m n (r+1) o] ?_)
 refine yZ (zC (yY (xq 12 [yB 16 false] [] ?_)))
 refine yZ (xb (zJ (zA (zC ?_))))
 refine yO 12 zM ?_
 refine xqg 4 [eI2 24 c d e f,eI2 26 g i j l] ?_
 refine xqd 27 [vI2 c d e f,vI2 g i j l] 27 wC _ (fun w R Q=>yM xV (fD _ _ ((p).num) ((q).num) _ Q.1.num Q.2.num (nfit S1 qD) (nfit S2 qD))) fun⟨E,F,G,H⟩=>?_
 refine xqg 1 [eR4 28 c d e f m n (r+1) o] ?_
 refine xqd 28 [vR4 c d e f m n (r+1) o] 29 wC _ (fun w R Q=>yM xV (gJ _ (p) _ Q.1.1)) fun⟨I,J,K,L⟩=>?_
 refine xqg 1 [eR4 30 g i j l t1 s t u] ?_
 refine xqd 28 [vR4 g i j l t1 s t u] 31 wC _ (fun w R Q=>yM xV (gJ _ (q) _ Q.1.1.2)) fun⟨M,N,O,P⟩=>?_
 refine xqd 27 [vI2 I J K L,vI2 M N O P] 32 wC _ (fun w R Q=>yM xV (fD _ _ (((p).den:Int)) (((q).den:Int)) _ Q.1.2 Q.2 (nfit S3 qD) (nfit S4 qD))) fun⟨S,T,U,V⟩=>?_
 refine xqd 16 [vI2 E F G H,vI2 S T U V] 33 lB _ (fun w R Q=>(aP _ _ (((p).num)*((q).num)) ((((p).den:Int))*(((q).den:Int))) _ Q.1.1.1.2 Q.2 (nfit (mlm S1 S2) qD) (nfit (mlm S3 S4) qD) (mO (denI p) (denI q))).mono (fun _ _ h=>wM (by rw[Zen] at h;exact h))) fun⟨v,x,y,z,A,B,C,D⟩=>?_
 refine xqf 1 [] [bR4 4 32 v x y z A B C D,Θ 4 32,bR4 3 32 g i j l t1 s t u,bR4 2 32 c d e f m n (r+1) o] ?_
 refine xz (yZ (zH ?_))
 refine yR (vR4 v x y z A B C D) fun w' R Q=>?_
 exact⟨_,rfl,Q.2,R⟩
theorem Zlm (a b:Value)(p q:Rat)(w:World)(ha:zP w a p)(D:zP w b q)(W:wO p)(X:wO q)(h1:p.den=1)(h2:¬ q.den=1) :
 Ζ 22 #[a,b] w (kQ w (p*q)):=by
 obtain⟨c,d,e,f,m,n,m0,o,rfl⟩:=ha.shp
 obtain rfl:m0=0:=ha.den.len0 (jC h1)
 obtain⟨g,i,j,l,t1,r,Y,s,rfl⟩:=D.shp
 obtain⟨t,rfl⟩:∃ k,Y=k+1:=⟨Y-1,by have:=D.den.lenp (Zaq h2);omega⟩
 have Z:ml p.num.natAbs≤100000:=W.1
 have S2:ml q.num.natAbs≤100000:=X.1
 have S3:ml ((p.den:Nat):Int).natAbs≤100000:=mlc W.2
 have S4:ml ((q.den:Nat):Int).natAbs≤100000:=mlc X.2
 refine zU (Φ:=fun w=>(zP w (vR4 c d e f m n 0 o) (p)∧zP w (vR4 g i j l t1 r (t+1) s) (q))) func22 rfl qK (fun w' hf=>⟨ha.ext hf,D.ext hf⟩) ?_
 refine yY (xq 3 [Δ 2,Δ 3,Δ 4] [Θ 4 32,bR4 3 32 g i j l t1 r (t+1) s,bR4 2 32 c d e f m n 0 o] ?_)
 refine yZ (zC (yY (xq 12 [yB 16 false] [] ?_)))
 refine yZ (xb (zJ (zA (zC ?_))))
 refine yO 12 zM ?_
 refine xqg 4 [eI2 24 c d e f,eI2 26 g i j l] ?_
 refine xqd 27 [vI2 c d e f,vI2 g i j l] 27 wC _ (fun w R Q=>yM xV (fD _ _ ((p).num) ((q).num) _ Q.1.num Q.2.num (nfit Z qD) (nfit S2 qD))) fun⟨E,F,G,H⟩=>?_
 refine xqg 1 [eR4 28 c d e f m n 0 o] ?_
 refine xqd 28 [vR4 c d e f m n 0 o] 29 wC _ (fun w R Q=>yM xV (gJ _ (p) _ Q.1.1)) fun⟨I,J,K,L⟩=>?_
 refine xqg 1 [eR4 30 g i j l t1 r (t+1) s] ?_
 refine xqd 28 [vR4 g i j l t1 r (t+1) s] 31 wC _ (fun w R Q=>yM xV (gJ _ (q) _ Q.1.1.2)) fun⟨M,N,O,P⟩=>?_
 refine xqd 27 [vI2 I J K L,vI2 M N O P] 32 wC _ (fun w R Q=>yM xV (fD _ _ (((p).den:Int)) (((q).den:Int)) _ Q.1.2 Q.2 (nfit S3 qD) (nfit S4 qD))) fun⟨S,T,U,V⟩=>?_
 refine xqd 16 [vI2 E F G H,vI2 S T U V] 33 lB _ (fun w R Q=>(aP _ _ (((p).num)*((q).num)) ((((p).den:Int))*(((q).den:Int))) _ Q.1.1.1.2 Q.2 (nfit (mlm Z S2) qD) (nfit (mlm S3 S4) qD) (mO (denI p) (denI q))).mono (fun _ _ h=>wM (by rw[Zen] at h;exact h))) fun⟨u,v,x,y,z,A,B,C⟩=>?_
 refine xqf 1 [] [bR4 4 32 u v x y z A B C,Θ 4 32,bR4 3 32 g i j l t1 r (t+1) s,bR4 2 32 c d e f m n 0 o] ?_
 refine xz (yZ (zH ?_))
 refine yR (vR4 u v x y z A B C) fun w' R Q=>?_
 exact⟨_,rfl,Q.2,R⟩
theorem jP (a b:Value)(p q:Rat)(w:World)(ha:zP w a p)(c:zP w b q)(d:wO p)(e:wO q):Ζ 22 #[a,b] w (kQ w (p*q)):=by
 by_cases f:p.den=1
 ·by_cases g:q.den=1
  ·exact Zlk a b p q w ha c d e f g
  exact Zlm a b p q w ha c d e f g
 exact Zll a b p q w ha c d e f
theorem ZiC (a b:Value)(p q:Rat)(w:World)(ha:zP w a p)(L:zP w b q)(N:wO p)(O:wO q) :
 Ζ 19 #[a,b] w (kQ w (p-q)):=by
 obtain⟨c,d,e,f,g,i,j,k,rfl⟩:=ha.shp
 obtain⟨l,m,n,o,t1,r,s,t,rfl⟩:=L.shp
 refine zU (Φ:=fun w=>(zP w (vR4 c d e f g i j k) (p)∧zP w (vR4 l m n o t1 r s t) (q))) func19 rfl qK (fun w' M=>⟨ha.ext M,L.ext M⟩) ?_
 refine yY (xq 3 [Δ 2,Δ 3,Δ 4] [Θ 4 32,bR4 3 32 l m n o t1 r s t,bR4 2 32 c d e f g i j k] ?_)
 refine yZ (zC ?_)
 refine yO 5 zM ?_
 refine xqg 2 [eR4 5 c d e f g i j k,eR4 6 l m n o t1 r s t] ?_
 refine xqd 44 [vR4 l m n o t1 r s t] 7 lB _ (fun w R Q=>yM wM (Zpb _ (q) _ Q.2)) fun⟨D,E,F,G,H,I,J,K⟩=>?_
 refine xqd 7 [vR4 c d e f g i j k,vR4 D E F G H I J K] 8 lB _ (fun w R Q=>(ZeC _ _ (p) (-(q)) _ Q.1.1 Q.2 N O.neg).mono (fun _ _ h=>wM (by rw[←Rat.sub_eq_add_neg] at h;exact h))) fun⟨u,v,x,y,z,A,B,C⟩=>?_
 refine xqf 1 [] [bR4 4 32 u v x y z A B C,Θ 4 32,bR4 3 32 l m n o t1 r s t,bR4 2 32 c d e f g i j k] ?_
 refine xz (yZ (zH ?_))
 refine yR (vR4 u v x y z A B C) fun w' R Q=>?_
 exact⟨_,rfl,Q.2,R⟩
theorem ZeD (a b:Value)(p q:Rat)(w:World)(ha:zP w a p)(D:zP w b q)(F:wO p)(G:wO q) :
 Ζ 21 #[a,b] w (RetV w (.int .i64 (p-q).num.sign)):=by
 obtain⟨c,d,e,f,g,h,i,j,rfl⟩:=ha.shp
 obtain⟨k,l,m,n,t1,o,r,s,rfl⟩:=D.shp
 refine zU (Φ:=fun w=>(zP w (vR4 c d e f g h i j) (p)∧zP w (vR4 k l m n t1 o r s) (q))) func21 rfl qK (fun w' E=>⟨ha.ext E,D.ext E⟩) ?_
 refine yY (xq 3 [Δ 2,Δ 3,yJ 4 0] [bR4 3 32 k l m n t1 o r s,bR4 2 32 c d e f g h i j] ?_)
 refine yZ (yY (xq 2 [eR4 5 c d e f g h i j,eR4 6 k l m n t1 o r s] [] ?_))
 refine xqc 19 [vR4 c d e f g h i j,vR4 k l m n t1 o r s] 7 lB _ (fun w R Q=>yM wM (ZiC _ _ (p) (q) _ Q.1 Q.2 F G)) fun⟨t,u,x,y,z,A,B,C⟩=>?_
 refine xqc 20 [vR4 t u x y z A B C] 8 (fun _:Unit=>yI (p-q).num.sign) _ (fun w R Q=>yN (Zad _ (p-q) _ Q.2)) fun H=>?_
 refine xq 1 [(4,.v (yI (p-q).num.sign))] [] ?_
 refine yZ (zH ?_)
 refine yR (yI (p-q).num.sign) fun w' R Q=>?_
 exact⟨rfl,R⟩
def dN (n:Nat) (xs:List Nat) (m:Nat):Prop:=Dig 1000000000 xs∧n=val 1000000000 xs+1000000000^xs.length*m
theorem dN.start (n:Nat):dN n [] n:=⟨Dig.nil,qS⟩
theorem dN.step {n m:Nat}{xs:qN}(h:dN n xs m):dN n (xs ++ [m%1000000000]) (m/1000000000):=by
 obtain⟨a,b⟩:=h
 refine⟨a.append (Dig.nil.cons (uP _ qO)),?_⟩
 rw[kO,vE,rV,uO,sG,uH,← uL,gZ,dW,tX,tP,sM]
 exact b
theorem dN.len {n m C:Nat}{xs:qN}(h:dN n xs m)(b:0<m)(c:n<1000000000^C):xs.length<C:=by
 obtain⟨_,d⟩:=h
 rcases vO xs.length C with a|a
 ·exact a
 have e:1000000000^C≤1000000000^xs.length:=vC qO a
 have f:1000000000^xs.length*1≤1000000000^xs.length*m:=uK _ b
 generalize 1000000000^xs.length=P at *
 generalize 1000000000^C=Q at *
 omega
theorem ZqV {n C:Nat}(a:n<1000000000^C):ml n≤C:=jE.2 (uT a (rG (by rw[xD];omega) _))
theorem zW.len {w:World}{A:qA}{l c n:Nat}(h:zW w (.slice A l c) n):l=ml n:=by
 obtain⟨f,g,i,a,j,k,b,d,e⟩:=h
 injection a with e1 e2 e3
 rw[e2,jA b d,e]
theorem Zdt (b:Nat):¬ xQ none b:=fun c=>by obtain⟨a,ha,_⟩:=c;cases ha
theorem ZsL {a:Nat}(h:a<4294967296):(a:Int)%4294967296=(a:Int):=qO
def dive (e:Nat):Nat:=100000000/10^e
theorem Zpc:dive 0=100000000:=by simp[dive]
theorem Zpd:dive 9=0:=qD
theorem ZeE (e:Nat):dive e/10=dive (e+1):=by unfold dive;rw[sV,uO]
theorem Zmc {e:Nat}(h:e<9):dive e=10^(9-1-e):=by
 have:e=0∨e=1∨e=2∨e=3∨e=4∨e=5∨e=6∨e=7∨e=8:=qO
 rcases this with rfl|rfl|rfl|rfl|rfl|rfl|rfl|rfl|rfl<;>decide
theorem ZsM (e:Nat):dive e≤100000000:=vJ _ _
theorem ZqW {e:Nat}(h:e<9):0<dive e:=by rw[Zmc h];exact uZ qO
def Zmd (C:Nat) (w wr:World) (n m:Nat) (xs:List Nat) (A:Option Addr) (cap:Nat) (mv:Value):Prop :=
 dN n xs m∧Buf .u32 87 wr A cap xs∧zW wr mv m∧Ext w wr∧ml m≤ml n∧(∀ b,xQ A b→w.heap.size≤b)∧xs.length≤C
theorem zW.fr {S:Nat→Prop}{w w':World}{v:Value}{n:Nat}(h:zW w v n)(d:Fr S w w')(e:∀ A l c,v=.slice A l c→0<l→∀ a,A=some a→¬ S a.block):zW w' v n:=by
 obtain⟨A,xs,c,b,f,g,i⟩:=h
 refine⟨A,xs,c,b,f,?_,i⟩
 cases xs with
 | nil=>exact zI.nil
 | cons x xs=>exact g.fr d (fun a j _=>e A _ c b qS a j)
def Zbj (w wr:World) (xs:List Nat) (A:Option Addr) (cap h t:Nat) (A3:Option Addr) (cap3:Nat):Prop :=
 Buf .u32 87 wr A cap xs∧TBuf wr A3 cap3 (wV h)∧(wV h).length=t∧Ext w wr∧(∀ b,xQ A b→w.heap.size≤b)∧(∀ b,xQ A3 b→w.heap.size≤b)∧(∀ b,xQ A b→¬ xQ A3 b)
theorem Zj3 {w wr w2:World}{xs:qN}{A:qA}{cap h g t c:Nat}{d j:qA}{e cap4:Nat}{o:Obj}(s:Zbj w wr xs A cap h t d e)(l:wV g=wV h ++ [UInt8.ofNat (48+c)])(z:c<10)(u:Buf .u8 5 w2 j cap4 (nats (wV h) ++ [48+c]))(v:Fr (xQ d) (wr.alloc o) w2)(m:∀ b,xQ j b→xQ d b∨b=(wr.alloc o).heap.size):Zbj w w2 xs A cap g (t+1) j cap4:=by
 obtain⟨n,B,x,p,y,q,r⟩:=s
 have f:Fr (xQ d) wr w2:=((Fr.refl (xQ d) wr).alloc o).trans (v.mono (fun _ _ h=>h))
 refine⟨n.fr f r,?_,by rw[l];simp[x],p.next f (fun i hi a=>by have:=q i a;omega),y,?_,?_⟩
 ·show Buf _ _ _ _ _ (nats (wV g))
  rw[l,ZkR]
  have:nats [UInt8.ofNat (48+c)]=[48+c]:=by
   simp[nats];omega
  rw[this];exact u
 ·intro b a
  rcases m b a with h|h
  ·exact q b h
  have:=p.size;simp at h;omega
 intro b a k
 rcases m b k with h|h
 ·exact r b a h
 have:=n.lt a;simp at h;omega
theorem Zny (s:Bool)(A0:qA)(l0 c0:Nat)(n:Nat)(w:World)(hN:zW w (.slice A0 l0 c0) n)(h0:0<n)(C:Nat)(hn:n<1000000000^C)(hC:C≤15637498706141) :
 Ζ 119 #[vI2 s A0 l0 c0] w (RetV w (.string ⟨(Lib.decDigits n).toArray⟩)):=by
 have HN:=zh hN
 have H0:=zh h0
 have Hn:=zh hn
 have o0:Hid (C≤15637498706141):=hC
 have E0:Hid (ml n≤17592186044416):=by have:=ZqV hn;unfold Hid;omega
 have V0:((l0:Int) == 0)=false:=by
  obtain⟨A,o,c,h1,h2,h3,h4,h5,h6⟩:=hN
  injection h1 with e1 e2 e3
  subst e2
  have k1:=jA h4 h5
  rw[h6] at k1
  have k2:=Zgy h0
  simp
  intro e
  rw[e] at k1
  simp at k1
  omega
 clear hN h0 hn hC
 go_enter func119,ntmps119
 go_wp2
 obtain⟨wb,Z⟩:=yE (w.alloc (.cells #[.bool s,.slice A0 l0 c0] 30))
 rw[Z]
 have p0:Hid (Ext w wb):=Z ▸ (Fr.refl _ _).alloc _
 clear Z
 go_loopw [3,4,5,6] (fun pv mv _ _ wr=>∃ (o:List Nat) (m:Nat) (A:Option Addr) (u:Nat) (A1:Option Addr) (l c:Nat),pv=.slice A o.length u∧mv=.slice A1 l c∧Hid (Zmd C w wr n m o A u (.slice A1 l c))) (fun pv _ _ _ _=>match pv with | .slice _ k _=>C-k | _=>0)
 case atStart=>exact⟨[],n,none,0,A0,l0,c0,rfl,rfl,dN.start n,Buf.nil,HN.out.ext p0.out,p0.out,uF _,fun b I=>(Zdt b I).elim,qS⟩
 case round =>
  obtain⟨o,m,A,u,A1,l,c,rfl,rfl,g⟩:=hrel
  have hl:=g.out.2.2.1.len
  by_cases hm:0<m
  ·have G:=g.out.1.len hm Hn.out
   have W0:0<l:=by rw[hl];exact Zgy hm
   have F0:=E0.out
   have G0:=o0.out
   have I0:ml m≤17592186044416:=by have:=g.out.2.2.2.2.1;omega
   have HD:=zh (Zef _ m 1000000000 wr g.out.2.2.1 I0 qO (by rw[xD];omega))
   obtain⟨k2,ek⟩:=yE C
   rw[ek] at G
   have X0:k2≤15637498706141:=qO
   clear F0 G0
   have hr:=uP m (y:=1000000000) qO
   have T:=zh g.out.1.step
   have q0:ml (m/1000000000)≤ml m:=Zao (vJ _ _)
   have r0:Hid (ml (m/1000000000)≤ml n):=uA q0 g.out.2.2.2.2.1
   obtain⟨r,er⟩:=yE (m%1000000000)
   obtain⟨m2,em⟩:=yE (m/1000000000)
   rw[er] at T
   rw[em] at T r0
   clear hl q0 hr
   go_wp2_with fail
   refine HD.out.mono ?_
   rintro e w1 ⟨l2,c2,rfl,a0,s0⟩
   rw[er]
   rw[em] at a0
   have t0:=zh a0
   have b0:=zh s0
   clear HD a0 s0 er em
   go_wp2_with (at_builtin;refine Hid.out ?_)
   refine zh ?_
   have E:Hid (zI .u32 (w1.alloc (.cells #[.int .u32 (r:Int)] 87)) (some ⟨w1.heap.size,0,none⟩) [r]):=(Own.new w1 87 .u32 [r] []).shows0
   have u0:Hid (Buf .u32 87 w1 A u o):=g.out.2.1.ext b0.out
   refine lF rfl _ _ _ rfl _ .u32 4 underlying28 cY A (some ⟨w1.heap.size,0,none⟩) o.length 1 u 1 rfl rfl o [r] rfl rfl (u0.out.ext ((Fr.refl _ _).alloc _)) E.out (by simp only[maxLen];omega) qO ?_
   intro A2 W w2 v0 d0 w0
   have v:Hid (Zmd C w w2 n m2 (o ++ [r]) A2 W (.slice (some ⟨wr.heap.size,0,none⟩) l2 c2)):=by
    have X:=g.out.2.2.2.2.2.1
    have x0:Ext w w1:=g.out.2.2.2.1.trans b0.out
    refine⟨T.out,v0,(t0.out.ext ((Fr.refl _ _).alloc _)).fr d0 ?_,(x0.alloc _).next d0 (fun i hi I=>by have:=X i I;omega),r0.out,?_,by rw[vE,rV];omega⟩
    ·intro A' l' F e _ a ha I
     injection e with e1 e2 e3
     rw[←e1] at ha
     injection ha with ha
     subst ha
     have:wr.heap.size<wr.heap.size:=g.out.2.1.lt I
     omega
    intro b I
    rcases w0 b I with h|h
    ·exact X b h
    have:=x0.size;simp at h;omega
   clear v0 d0 w0 E u0 t0 b0 T g
   have J0:=zh ek
   clear ek
   go_wp2
   go_roundw
   case rel=>exact⟨o ++ [r],m2,A2,W,_,l2,c2,by rw[vE];rfl,rfl,v⟩
   case measure =>
    simp
    rw[J0.out]
    omega
  obtain rfl:m=0:=qO
  obtain⟨hC,hB,hM,Q,_,hA,K0⟩:=g.out
  have U0:o.length≤15637498706141:=by have:=o0.out;omega
  obtain rfl:l=0:=by rw[hl];rfl
  have HC:Hid (Dig 1000000000 o∧n=val 1000000000 o):=by
   obtain⟨c1,c2⟩:=hC
   exact⟨c1,by simpa using c2⟩
  have HB:=zh hB
  have HE:=zh Q
  have HA:=zh hA
  clear hC hB hM Q hA g hl hm K0
  go_wp2
  obtain⟨wo,rfl⟩:∃ wo:World,wo=wr:=⟨_,rfl⟩
  go_loopw [7,8,9,10] (fun ov iv _ _ wr=>∃ (k t:Nat) (B:Option Addr) (d:Nat),k≤o.length∧iv=.int .i64 ((k:Int)-1)∧ov=.slice B t d∧t≤9*(o.length-k)∧Hid (Zbj w wr o A u (val 1000000000 (o.drop k)) t B d)) (fun _ iv _ _ _=>(intOf iv+1).toNat)
  case atStart=>exact⟨o.length,0,none,0,uF _,rfl,rfl,qO,HB.out,by rw[List.drop_length];exact Buf.nil,by rw[List.drop_length];rfl,HE.out,HA.out,fun b I=>(Zdt b I).elim,fun b _ I=>Zdt b I⟩
  case round =>
   obtain⟨k,t,B,d,hk,rfl,rfl,ht,g⟩:=hrel
   by_cases Y0:0<k
   ·obtain⟨k,rfl⟩:∃ j,k=j+1:=⟨k-1,qO⟩
    have hi:((k+1:Nat):Int)-1=(k:Int):=qO
    rw[hi]
    clear hi
    have y0:k<o.length:=qO
    obtain⟨p,ep⟩:=yE (o[k]?.getD 0)
    have hp:p<1000000000:=ep ▸ HC.out.1.getD qO k
    obtain⟨H,eH⟩:=yE (val 1000000000 (o.drop (k+1)))
    have e0:Hid (topE H p 9 9=val 1000000000 (o.drop k)):=by
     unfold Hid
     rw[Zqg,xY k y0,ep,eH,uG]
     omega
    have HP:=zh ep
    rw[eH] at g
    have z0:Hid (Zbj w wr o A u (topE H p 9 0) t B d):=by rw[ZmX qO];exact g
    have L0:((100000000:Nat):Int)=((dive 0:Nat):Int):=by rw[Zpc]
    clear ep eH g
    go_wp2
    obtain⟨Z0,rfl⟩:∃ wo:World,wo=wr:=⟨_,rfl⟩
    obtain⟨T0,eT⟩:=yE (9*(o.length-(k+1)))
    rw[eT] at ht
    go_loopw [7,9,10] (fun ov dv _ wr=>∃ (e t:Nat) (B:Option Addr) (d:Nat),e≤9∧dv=.int .u32 (dive e:Nat)∧ov=.slice B t d∧t≤T0+e∧Hid (Zbj w wr o A u (topE H p 9 e) t B d)) (fun _ dv _ _=>(intOf dv).toNat)
    case atStart=>exact⟨0,t,B,d,qO,by rw[←L0];rfl,rfl,qO,z0⟩
    case round =>
     clear ht z0
     obtain⟨e,t,B,d,he,rfl,rfl,ht,g⟩:=hrel
     by_cases f0:e<9
     ·have M0:=ZqW f0
      have N0:=ZsM e
      have a1:T0≤140737488355260:=qO
      obtain⟨b2,J,hA,_,O0⟩:=g.out.1.shows.at y0
      rw[HP.out] at O0
      have f:=zh (Zob (H:=H) (p:=p) (k:=9) f0)
      rw[←Zmc f0] at f
      have x:p/dive e%10<10:=uP _ qO
      have q1:(p:Int).tdiv (dive e:Int)=((p/dive e:Nat):Int):=by rw[rB qO];rfl
      have B0:(p:Int)/(dive e:Int)=((p/dive e:Nat):Int):=rfl
      have q2:((p/dive e:Nat):Int).tmod 10=((p/dive e%10:Nat):Int):=by rw[sE (Int.natCast_nonneg _)];rfl
      have g0:((p/dive e:Nat):Int)%10=((p/dive e%10:Nat):Int):=rfl
      have i0:p/dive e≤p:=vJ _ _
      have q3:((p/dive e:Nat):Int)%4294967296=((p/dive e:Nat):Int):=ZsL (vA i0 qO)
      have q5:(dive e:Int).tdiv 10=((dive (e+1):Nat):Int):=by rw[rB qO,← ZeE];rfl
      have C0:(dive e:Int)/10=((dive (e+1):Nat):Int):=by rw[←ZeE];rfl
      have K:dive (e+1)<dive e:=by rw[←ZeE];omega
      have q6:((dive (e+1):Nat):Int)%4294967296=((dive (e+1):Nat):Int):=qO
      obtain⟨D,eD⟩:=yE (dive e)
      obtain⟨D2,j0⟩:=yE (dive (e+1))
      have k0:=zh j0
      rw[eD] at M0 N0 f x q1 B0 q2 g0 i0 q3 q5 C0 K ⊢
      rw[j0] at q5 C0 K q6
      obtain⟨q,eq⟩:=yE (p/D)
      rw[eq] at q1 B0 q2 g0 f x q3 i0
      obtain⟨F,ec⟩:=yE (q%10)
      rw[ec] at q2 g0 f x
      have G:(0<t)↔0<topE H p 9 e:=by rw[←g.out.2.2.1];exact ZkS
      have q7:((48:Int)+(F:Int))%4294967296=((48+F:Nat):Int):=qO
      have q8:((48+F:Nat):Int)%256=((48+F:Nat):Int):=qO
      subst hA
      clear eD j0 eq ec
      by_cases m0:0<t∨F≠0
      ·have L:=g.out.2.2.1
       have M:=zh (ZbE (h:=topE H p 9 e) x qO)
       rw[←f.out] at M
       have E:Hid (zI .u8 (wr.alloc (.cells #[.int .u8 (48+(F:Int))] 5)) (some ⟨wr.heap.size,0,none⟩) [48+F]):=(Own.new wr 5 .u8 [48+F] []).shows0
       have U:Hid (TBuf wr B d (wV (topE H p 9 e))):=g.out.2.1
       have Y:(decide (0<t) || ((48+F:Nat):Int) != 48)=true:=by
        rcases m0 with h|h
        ·simp[h]
        have:(((48+F:Nat):Int) != 48)=true:=by simp;omega
        rw[this,Bool.or_true]
       have N:=zh L
       have V:=zh g.out
       clear G L f g
       by_cases b1:0<t
       ·clear m0 Y
        go_wp2_with (at_builtin;refine Hid.out ?_)
        refine zh ?_
        refine lF rfl _ _ _ rfl _ .u8 1 underlying159 ZrI B (some ⟨wr.heap.size,0,none⟩) t 1 d 1 rfl rfl (nats (wV (topE H p 9 e))) [48+F] (by rw[Zcv];exact N.out) rfl (U.out.ext ((Fr.refl _ _).alloc _)) E.out (by simp only[maxLen];omega) qO ?_
        intro A4 z w2 O R S
        have v:Hid (Zbj w w2 o (some ⟨b2,J,none⟩) u (topE H p 9 (e+1)) (t+1) A4 z):=Zj3 V.out M.out x O R S
        clear O R S E U V M
        go_wp2
        go_roundw
        case rel=>exact⟨e+1,t+1,A4,z,qO,by rw[k0.out],rfl,qO,v⟩
        case measure=>simp[intOf];omega
       have d1:(((48+F:Nat):Int) != 48)=true:=by simp;omega
       clear m0 Y
       go_wp2_with (at_builtin;refine Hid.out ?_)
       refine zh ?_
       refine lF rfl _ _ _ rfl _ .u8 1 underlying159 ZrI B (some ⟨wr.heap.size,0,none⟩) t 1 d 1 rfl rfl (nats (wV (topE H p 9 e))) [48+F] (by rw[Zcv];exact N.out) rfl (U.out.ext ((Fr.refl _ _).alloc _)) E.out (by simp only[maxLen];omega) qO ?_
       intro A4 z w2 O R S
       have v:Hid (Zbj w w2 o (some ⟨b2,J,none⟩) u (topE H p 9 (e+1)) (t+1) A4 z):=Zj3 V.out M.out x O R S
       clear O R S E U V M
       go_wp2
       go_roundw
       case rel=>exact⟨e+1,t+1,A4,z,qO,by rw[k0.out],rfl,qO,v⟩
       case measure=>simp[intOf];omega
      obtain rfl:t=0:=qO
      obtain rfl:F=0:=qO
      have v:Hid (Zbj w wr o (some ⟨b2,J,none⟩) u (topE H p 9 (e+1)) 0 B d):=by
       have h0:topE H p 9 e=0:=qO
       unfold Hid
       rw[f.out,h0]
       have:=g.out
       rw[h0] at this
       exact this
      clear g G f
      go_wp2
      go_roundw
      case rel=>exact⟨e+1,0,B,d,qO,by rw[k0.out],rfl,qO,v⟩
      case measure=>simp[intOf];omega
     obtain rfl:e=9:=qO
     have P0:Hid (Zbj w wr o A u (val 1000000000 (o.drop k)) t B d):=by
      rw[←e0.out];exact g
     have Q0:t≤9*(o.length-k):=qO
     rw[Zpd]
     clear g
     go_wp2
     go_roundw
     case rel=>exact⟨k,t,B,d,qO,by go_num,rfl,Q0,P0⟩
     case measure=>simp[intOf]
   obtain rfl:k=0:=qO
   obtain⟨_,n0,_,D0,_,_,_⟩:=g.out
   rw[sI,← HC.out.2,jQ H0.out] at n0
   have K:(Lib.decDigits n).length=t:=by
    have:=g.out.2.2.1
    rwa [sI,← HC.out.2,jQ H0.out] at this
   obtain⟨b,rfl,hc⟩:=TBuf.bytes n0 (lP n)
   have R0:=run_convert_bytes_back (P:=prog) wr 159 9 5 ⟨b,0,none⟩ d (Lib.decDigits n) underlying159 underlying5 underlying9 hc
   rw[K] at R0
   have S0:=zh D0
   generalize Lib.decDigits n=txt at *
   clear n0 D0 hc g K
   go_wp2
   go_ret
   exact⟨rfl,S0.out⟩
theorem Zln (s:Bool)(b:qA)(c0:Nat)(w:World) :
 Ζ 119 #[vI2 s b 0 c0] w (RetV w (.string ⟨(Lib.decDigits 0).toArray⟩)):=by
 have a:Lib.decDigits 0=[48]:=Lib.decDigits_one qO
 have c:=zh a
 clear a
 go_enter func119,ntmps119
 go_wp2
 go_ret
 exact⟨by rw[c.out];rfl,(Fr.refl _ _).alloc _⟩
theorem Zlo (s:Bool)(a:qA)(b c0:Nat)(n:Nat)(w:World)(c:zW w (.slice a b c0) n)(C:Nat)(e:n<1000000000^C)(f:C≤15637498706141) :
 Ζ 119 #[vI2 s a b c0] w (RetV w (.string ⟨(Lib.decDigits n).toArray⟩)):=by
 rcases uJ n with h|h
 ·subst h
  have d:=c.len
  rw[ZhA] at d
  subst d
  exact Zln s a c0 w
 exact Zny s a b c0 n w c h C e f
theorem ZcY (a b:List UInt8):(⟨a.toArray⟩:ByteArray) ++ ⟨b.toArray⟩=⟨(a ++ b).toArray⟩:=by
 apply ByteArray.ext
 simp
theorem Zbv {n j:Nat}(h:n<10^j∧j≤140737488355000):(Lib.decDigits n).length≤140737488355000:=by
 rcases uJ n with e|e
 ·rw[e,Lib.decDigits_one qO];simp
 have:=ZmY _ _ h.1
 rw[jQ e] at this
 omega
theorem bM (s:Bool)(a:qA)(b c0:Nat)(n:Nat)(w:World)(c:zW w (.slice a b c0) n){j:Nat}(h:n<10^j∧j≤140737488355000) :
 Ζ 119 #[vI2 s a b c0] w (RetV w (.string ⟨(Lib.decDigits n).toArray⟩)):=by
 refine Zlo s a b c0 n w c ((j+8)/9) ?_ (by have:=h.2;omega)
 refine uT h.1 ?_
 rw[show (1000000000:Nat)=10^9 by decide,← qI]
 exact vC qO qO
theorem Zj4 {n k:Nat}(h:ml n≤k):n<10^(10*k):=by
 refine uT (Zgx n) (uA (vC xA h) ?_)
 rw[qI]
 exact rG (by rw[xD];decide) _
theorem ZiZ (a:Value)(q:Rat)(w:World)(ha:zP w a q)(j k:Nat)(B:q.num.natAbs<10^j∧j≤140737488355000)(_:q.den<10^k∧k≤140737488355000)(x:q.num<0)(y:q.den=1) :
 Ζ 84 #[a] w (RetV w (.string ⟨(xC q).toArray⟩)):=by
 obtain⟨C,t,u,v,t1,H,D,I,rfl⟩:=ha.shp
 have F2:Hid (zP w (vR4 C t u v t1 H D I) (q)):=ha
 clear ha
 obtain rfl:C=true:=F2.out.num.sneg x
 have E:Hid (q.num.natAbs<10^j∧j≤140737488355000):=B
 obtain rfl:D=0:=F2.out.den.len0 (jC y)
 have F:Hid (xC q=45 :: Lib.decDigits q.num.natAbs):=by unfold Hid xC Lib.itoa;rw[uM y,uM x]
 obtain⟨J,g⟩:=yE (xC q)
 rw[g] at F ⊢
 clear x y B g
 go_enter func84,ntmps84
 go_wp2_with fail
 generalize h:World.alloc w _=w4
 obtain⟨c,d⟩:=fN h
 clear h
 have B3:=zh c
 clear c
 replace F2:=zh (F2.out.ext d)
 have HE:=zh d
 clear d
 have F5:Hid (xB w4 (vI2 true t u v) ((q).num)):=F2.out.num
 have F8:Hid (zW w4 (.slice t u v) (((q).num).natAbs)):=F5.out.mag
 refine (bM true t u v _ _ F8.out E.out).mono ?_
 obtain⟨G,b⟩:=yE (Lib.decDigits (((q).num).natAbs))
 rw[b];have z:G.length≤140737488355000:=by rw[←b];exact Zbv E.out
 have A:=zh b;clear b
 rintro e K ⟨rfl,f⟩
 replace B3:=zh (B3.out.ext f)
 replace F2:=zh (F2.out.ext f)
 replace F5:=zh (F5.out.ext f)
 replace F8:=zh (F8.out.ext f)
 replace HE:=zh (HE.out.trans f)
 clear f
 obtain⟨i,l,m,n,o,p,r,s⟩:=B3.out.cell4
 go_wp2
 clear i l m n o p r s
 go_ret
 refine⟨?_,HE.out⟩
 rw[F.out,A.out]
 show Ending.returned (.string ((⟨#[45]⟩:ByteArray) ++ ⟨G.toArray⟩))=_
 simp only[ZcY]
 rfl
theorem Zi0 (a:Value)(q:Rat)(w:World)(ha:zP w a q)(j k:Nat)(N:q.num.natAbs<10^j∧j≤140737488355000)(O:q.den<10^k∧k≤140737488355000)(P:q.num<0)(s:¬ q.den=1) :
 Ζ 84 #[a] w (RetV w (.string ⟨(xC q).toArray⟩)):=by
 obtain⟨Q,F,G,H,t1,I,m1,J,rfl⟩:=ha.shp
 have F2:Hid (zP w (vR4 Q F G H t1 I m1 J) (q)):=ha
 clear ha
 obtain rfl:Q=true:=F2.out.num.sneg P
 have R:Hid (q.num.natAbs<10^j∧j≤140737488355000):=N
 have Y:0<m1:=F2.out.den.lenp (Zaq s)
 have W:decide ((0:Int)<(m1:Int))=true:=by rw[tE];omega
 have S:Hid ((denF q).natAbs<10^k∧k≤140737488355000):=by unfold Hid;rw[eE s,sO];exact O
 have T:Hid (xC q=(45 :: Lib.decDigits q.num.natAbs) ++ (47 :: Lib.decDigits (denF q).natAbs)):=by
  unfold Hid xC
  rw[uI s,eE s,sO,Lib.itoa_nonneg]
  unfold Lib.itoa
  rw[uM (show q.num<0 by omega)]
  simp
 obtain⟨Z,t⟩:=yE (xC q)
 rw[t] at T ⊢
 clear P s N O t
 go_enter func84,ntmps84
 go_wp2_with fail
 generalize u:World.alloc w _=w4
 obtain⟨f,g⟩:=fN u
 clear u
 have B3:=zh f
 clear f
 replace F2:=zh (F2.out.ext g)
 have HE:=zh g
 clear g
 have F5:Hid (xB w4 (vI2 true F G H) ((q).num)):=F2.out.num
 have F8:Hid (zW w4 (.slice F G H) (((q).num).natAbs)):=F5.out.mag
 refine (bM true F G H _ _ F8.out R.out).mono ?_
 obtain⟨U,d⟩:=yE (Lib.decDigits (((q).num).natAbs))
 rw[d];have L:U.length≤140737488355000:=by rw[←d];exact Zbv R.out
 have M:=zh d;clear d
 rintro e V ⟨rfl,b⟩
 replace B3:=zh (B3.out.ext b)
 replace F2:=zh (F2.out.ext b)
 replace F5:=zh (F5.out.ext b)
 replace F8:=zh (F8.out.ext b)
 replace HE:=zh (HE.out.trans b)
 clear b
 obtain⟨v,x,y,z,A,B,C,D⟩:=B3.out.cell4
 go_wp2_with fail
 clear v x y z A B C D
 have F10:Hid (xB V (vI2 t1 I m1 J) (denF (q))):=F2.out.den
 have F13:Hid (zW V (.slice I m1 J) ((denF (q)).natAbs)):=F10.out.mag
 refine (bM t1 I m1 J _ _ F13.out S.out).mono ?_
 obtain⟨t12,c⟩:=yE (Lib.decDigits ((denF (q)).natAbs))
 rw[c];have K:t12.length≤140737488355000:=by rw[←c];exact Zbv S.out
 have E:=zh c;clear c
 rintro e X ⟨rfl,b⟩
 replace B3:=zh (B3.out.ext b)
 replace F2:=zh (F2.out.ext b)
 replace F5:=zh (F5.out.ext b)
 replace F8:=zh (F8.out.ext b)
 replace F10:=zh (F10.out.ext b)
 replace F13:=zh (F13.out.ext b)
 replace HE:=zh (HE.out.trans b)
 clear b
 obtain⟨h,i,l,m,n,o,p,r⟩:=B3.out.cell4
 go_wp2
 clear h i l m n o p r
 go_ret
 refine⟨?_,HE.out⟩
 rw[T.out,M.out,E.out]
 show Ending.returned (.string (((⟨#[45]⟩:ByteArray) ++ ⟨U.toArray⟩) ++ ((⟨#[47]⟩:ByteArray) ++ ⟨t12.toArray⟩)))=_
 simp only[ZcY]
 rfl
theorem Zi1 (a:Value)(q:Rat)(w:World)(ha:zP w a q)(j k:Nat)(A:q.num.natAbs<10^j∧j≤140737488355000)(_:q.den<10^k∧k≤140737488355000)(B:0≤q.num)(x:q.den=1) :
 Ζ 84 #[a] w (RetV w (.string ⟨(xC q).toArray⟩)):=by
 obtain⟨C,t,u,v,t1,H,D,I,rfl⟩:=ha.shp
 have F2:Hid (zP w (vR4 C t u v t1 H D I) (q)):=ha
 clear ha
 obtain rfl:C=false:=F2.out.num.spos B
 have E:Hid (q.num.natAbs<10^j∧j≤140737488355000):=A
 obtain rfl:D=0:=F2.out.den.len0 (jC x)
 have F:Hid (xC q=Lib.decDigits q.num.natAbs):=by unfold Hid xC Lib.itoa;rw[uM x,uI (show ¬ q.num<0 by omega)];rw[show q.num.toNat=q.num.natAbs by omega]
 obtain⟨J,g⟩:=yE (xC q)
 rw[g] at F ⊢
 clear B x A g
 go_enter func84,ntmps84
 go_wp2_with fail
 generalize h:World.alloc w _=w4
 obtain⟨c,d⟩:=fN h
 clear h
 have B3:=zh c
 clear c
 replace F2:=zh (F2.out.ext d)
 have HE:=zh d
 clear d
 have F5:Hid (xB w4 (vI2 false t u v) ((q).num)):=F2.out.num
 have F8:Hid (zW w4 (.slice t u v) (((q).num).natAbs)):=F5.out.mag
 refine (bM false t u v _ _ F8.out E.out).mono ?_
 obtain⟨G,b⟩:=yE (Lib.decDigits (((q).num).natAbs))
 rw[b];have y:G.length≤140737488355000:=by rw[←b];exact Zbv E.out
 have z:=zh b;clear b
 rintro e K ⟨rfl,f⟩
 replace B3:=zh (B3.out.ext f)
 replace F2:=zh (F2.out.ext f)
 replace F5:=zh (F5.out.ext f)
 replace F8:=zh (F8.out.ext f)
 replace HE:=zh (HE.out.trans f)
 clear f
 obtain⟨i,l,m,n,o,p,r,s⟩:=B3.out.cell4
 go_wp2
 clear i l m n o p r s
 go_ret
 refine⟨?_,HE.out⟩
 rw[F.out,z.out]
 show Ending.returned (.string (⟨G.toArray⟩:ByteArray))=_
 rfl
theorem Zi2 (a:Value)(q:Rat)(w:World)(ha:zP w a q)(j k:Nat)(N:q.num.natAbs<10^j∧j≤140737488355000)(O:q.den<10^k∧k≤140737488355000)(P:0≤q.num)(s:¬ q.den=1) :
 Ζ 84 #[a] w (RetV w (.string ⟨(xC q).toArray⟩)):=by
 obtain⟨Q,F,G,H,t1,I,m1,J,rfl⟩:=ha.shp
 have F2:Hid (zP w (vR4 Q F G H t1 I m1 J) (q)):=ha
 clear ha
 obtain rfl:Q=false:=F2.out.num.spos P
 have R:Hid (q.num.natAbs<10^j∧j≤140737488355000):=N
 have Y:0<m1:=F2.out.den.lenp (Zaq s)
 have W:decide ((0:Int)<(m1:Int))=true:=by rw[tE];omega
 have S:Hid ((denF q).natAbs<10^k∧k≤140737488355000):=by unfold Hid;rw[eE s,sO];exact O
 have T:Hid (xC q=(Lib.decDigits q.num.natAbs) ++ (47 :: Lib.decDigits (denF q).natAbs)):=by
  unfold Hid xC
  rw[uI s,eE s,sO,Lib.itoa_nonneg]
  unfold Lib.itoa
  rw[uI (show ¬ q.num<0 by omega)]
  rw[show q.num.toNat=q.num.natAbs by omega]
  simp
 obtain⟨Z,t⟩:=yE (xC q)
 rw[t] at T ⊢
 clear P s N O t
 go_enter func84,ntmps84
 go_wp2_with fail
 generalize u:World.alloc w _=w4
 obtain⟨f,g⟩:=fN u
 clear u
 have B3:=zh f
 clear f
 replace F2:=zh (F2.out.ext g)
 have HE:=zh g
 clear g
 have F5:Hid (xB w4 (vI2 false F G H) ((q).num)):=F2.out.num
 have F8:Hid (zW w4 (.slice F G H) (((q).num).natAbs)):=F5.out.mag
 refine (bM false F G H _ _ F8.out R.out).mono ?_
 obtain⟨U,d⟩:=yE (Lib.decDigits (((q).num).natAbs))
 rw[d];have L:U.length≤140737488355000:=by rw[←d];exact Zbv R.out
 have M:=zh d;clear d
 rintro e V ⟨rfl,b⟩
 replace B3:=zh (B3.out.ext b)
 replace F2:=zh (F2.out.ext b)
 replace F5:=zh (F5.out.ext b)
 replace F8:=zh (F8.out.ext b)
 replace HE:=zh (HE.out.trans b)
 clear b
 obtain⟨v,x,y,z,A,B,C,D⟩:=B3.out.cell4
 go_wp2_with fail
 clear v x y z A B C D
 have F10:Hid (xB V (vI2 t1 I m1 J) (denF (q))):=F2.out.den
 have F13:Hid (zW V (.slice I m1 J) ((denF (q)).natAbs)):=F10.out.mag
 refine (bM t1 I m1 J _ _ F13.out S.out).mono ?_
 obtain⟨t12,c⟩:=yE (Lib.decDigits ((denF (q)).natAbs))
 rw[c];have K:t12.length≤140737488355000:=by rw[←c];exact Zbv S.out
 have E:=zh c;clear c
 rintro e X ⟨rfl,b⟩
 replace B3:=zh (B3.out.ext b)
 replace F2:=zh (F2.out.ext b)
 replace F5:=zh (F5.out.ext b)
 replace F8:=zh (F8.out.ext b)
 replace F10:=zh (F10.out.ext b)
 replace F13:=zh (F13.out.ext b)
 replace HE:=zh (HE.out.trans b)
 clear b
 obtain⟨h,i,l,m,n,o,p,r⟩:=B3.out.cell4
 go_wp2
 clear h i l m n o p r
 go_ret
 refine⟨?_,HE.out⟩
 rw[T.out,M.out,E.out]
 show Ending.returned (.string ((⟨U.toArray⟩:ByteArray) ++ ((⟨#[47]⟩:ByteArray) ++ ⟨t12.toArray⟩)))=_
 simp only[ZcY]
 rfl
theorem Zdu (a:Value)(q:Rat)(w:World)(ha:zP w a q)(j k:Nat)(c:q.num.natAbs<10^j∧j≤140737488355000)(d:q.den<10^k∧k≤140737488355000):Ζ 84 #[a] w (RetV w (.string ⟨(xC q).toArray⟩)):=by
 by_cases e:q.num<0
 ·by_cases b:q.den=1
  ·exact ZiZ a q w ha j k c d e b
  exact Zi0 a q w ha j k c d e b
 by_cases b:q.den=1
 ·exact Zi1 a q w ha j k c d qO b
 exact Zi2 a q w ha j k c d qO b
theorem Zpe (a:Value)(q:Rat)(w:World)(ha:zP w a q)(b:ml q.num.natAbs≤65536)(c:ml q.den≤65536):Ζ 84 #[a] w (RetV w (.string ⟨(xC q).toArray⟩)) :=
 Zdu a q w ha _ _ ⟨Zj4 b,qO⟩ ⟨Zj4 c,qO⟩
def ZgX (w:World) (l:List UInt8) (e:Ending) (w':World):Prop :=
 ∃ v b,e=.returned (.tuple #[v,.bool b])∧b=(l.all zX && !l.isEmpty)∧xB w' v (if l.all zX then (zG l:Int) else 0)∧Ext w w'
theorem Zj5 {fn:Func}{t e:Tmp}{a:Array Value}{w w':World}{r:Nat}{x y:Value}{b:Bool}{l:List UInt8}(c:fn.results=#[.cell t 30,.tmp e])(f:a[t]? = some (.pointer (some ⟨r,0,none⟩)))(d:a[e]? = some (.bool b))(g:Blk 30 w' r #[x,y])(h:xB w' (.agg #[x,y]) (if l.all zX then (zG l:Int) else 0))(i:b=(l.all zX && !l.isEmpty))(Q:Ext w w'):bodyPost prog fn (ZgX w l) .ret ⟨a,[]⟩ w':=by
 obtain⟨j,k,_⟩:=g.cell2
 exact bodyPost_ret (v:=.tuple #[.agg #[x,y],.bool b]) (by simp[results,c,f,d,go_sem,j,k]) rfl ⟨_,_,rfl,i,h,Q⟩
theorem zW.one_pos {w:World}{b r:Nat}(h:Own .u32 87 w b [r])(c:r<W32)(d:0<r):zW w (.slice (some ⟨b,0,none⟩) 1 1) r :=
 ⟨_,[r],1,rfl,uF _,h.shows0,Dig.cons c Dig.nil,fun k a=>by simp at a;subst a;simp;omega,qS⟩
theorem ZgY {n k:Nat}(h:n<10^k):ml n≤k:=jE.2 (uT h (rG (by rw[xD];omega) _))
theorem Zpf {n k:Nat}(h:n<10^k):n<1000000000^((k+8)/9):=by
 refine uT h ?_
 rw[show (1000000000:Nat)=10^9 by decide,← qI]
 exact vC qO qO
theorem Ze6 {n k:Nat}(h:n<10^k):ml n≤(k+8)/9:=jE.2 (uT (Zpf h) (rG (by rw[xD];omega) _))
theorem Zj6 (s:ByteArray):s.toList.isEmpty=(bytes s).isEmpty:=by
 rw[Lib.toList_data]
def FdIn (l:List UInt8) (i k v f:Nat):Prop:=k≤9∧i+k≤l.length∧(l.take (i+k)).all zX=true∧v=zG ((l.drop i).take k)∧f=10^k
theorem FdIn.bounds {l:List UInt8}{i k v f:Nat}(h:FdIn l i k v f):v<10^k∧v<1000000000∧f≤1000000000∧0<f:=by
 obtain⟨c,g,b,d,j⟩:=h
 have a:((l.drop i).take k).all zX=true:=by
  rw[vI] at b ⊢
  intro x e
  refine b x ?_
  rw[List.take_add]
  exact List.mem_append_right _ e
 have:=kT _ a
 rw[uN,tB,uY qO,← d] at this
 have m:10^k≤10^9:=vC qO c
 have n:0<10^k:=uZ qO
 exact⟨this,qO,qO,qO⟩
theorem FdIn.step {l:List UInt8}{i k v f:Nat}{c:UInt8}(h:FdIn l i k v f)(m:k<9)(a:i+k<l.length)(b:l[i+k]=c)(d:zX c=true):FdIn l i (k+1) (v*10+(c.toNat-48)) (f*10):=by
 obtain⟨n,o,e,g,j⟩:=h
 refine⟨qO,qO,?_,?_,by rw[j,uO]⟩
 ·rw[←sG,tO a,pH,e,b]
  simp[d]
 rw[tO (by simp;omega),dZ,← g,List.getElem_drop,b]
 omega
theorem FdIn.done {l:List UInt8}{i k v f:Nat}(h:FdIn l i k v f):zG (l.take i)*f+v=zG (l.take (i+k)):=by
 obtain⟨c,d,e,a,b⟩:=h
 have:l.take (i+k)=l.take i ++ (l.drop i).take k:=by rw[List.take_add]
 rw[this,aA,uN,tB,uY qO,← a,b]
theorem ZsN {l:List UInt8}{i:Nat}(h:i<l.length)(a:zX l[i]=false):l.all zX=false:=by
 rw[List.all_eq_false]
 exact⟨l[i],sF h,by simp[a]⟩
theorem cJ (s:ByteArray)(w:World)(hs:s.size≤140737488351232):Ζ 105 #[.string s] w (ZgX w (bytes s)):=by
 have j:=zh (zR s)
 go_enter func105,ntmps105
 go_wp2_with fail
 generalize a:World.alloc w _=w1
 obtain⟨b0,c0⟩:=fN a
 have HB:=zh b0
 have HE:=zh c0
 clear a b0 c0
 go_loopw [4,5,6,7,8] (fun mv iv _ _ _ wr=>∃ (i:Nat) (A:Option Addr) (ln c:Nat),i≤s.size∧iv=.int .i64 (i:Int)∧mv=.slice A ln c∧Hid (((bytes s).take i).all zX=true)∧Hid (zW wr (.slice A ln c) (zG ((bytes s).take i)))∧Hid (Ext w1 wr)) (fun _ iv _ _ _ _=>s.size-(intOf iv).toNat)
 case atStart=>exact⟨0,none,0,0,qO,rfl,rfl,by unfold Hid;simp,by unfold Hid;simpa [zG] using zW.zero _,Fr.refl _ _⟩
 case round =>
  obtain⟨i,A,ln,c,hi,rfl,rfl,t,hM,hF⟩:=hrel
  by_cases m0:i<s.size
  ·go_wp2
   go_loop [5,6,7,8] (fun iv vv fv kv=>∃ (k v f:Nat),k≤9∧i+k≤s.size∧v<1000000000∧f≤1000000000∧0<f∧iv=.int .i64 ((i+k:Nat):Int)∧vv=.int .u32 (v:Int)∧fv=.int .u32 (f:Int)∧kv=.int .i64 (k:Int)∧Hid (FdIn (bytes s) i k v f)) (fun _ _ _ kv=>9-(intOf kv).toNat)
   case atStart=>exact⟨0,0,1,qO,qO,qO,qO,qO,rfl,rfl,rfl,rfl,⟨qO,by rw[j.out];omega,t.out,by simp[zG],rfl⟩⟩
   case round =>
    obtain⟨k,v,f,hk,n0,hv,hf,f0,rfl,rfl,rfl,rfl,E⟩:=hrel
    by_cases F:k<9∧i+k<s.size
    ·obtain⟨g1,g2⟩:=F
     have d0:decide ((k:Int)<9)=true:=by rw[tE];omega
     have x:(bytes s)[i+k]'(by rw[j.out];exact g2)=s[i+k]:=Zdf s g2
     by_cases Q:zX s[i+k]=true
     ·have R:=zh (E.out.step g1 (by rw[j.out];exact g2) x Q)
      have hb:=ZeB Q
      have G:=R.out.bounds
      have e1:IntKind.u8.wrap ((s[i+k].toNat:Int)-48)=((s[i+k].toNat-48:Nat):Int):=by rw[IntKind.wrap_u8];omega
      have g0:((s[i+k].toNat:Int)-48)%256=((s[i+k].toNat-48:Nat):Int):=qO
      obtain⟨d,ed⟩:=yE (s[i+k].toNat-48)
      have o0:d≤9:=qO
      rw[ed] at R e1 g0 G
      have h0:=G.2.1
      have i0:=G.2.2.1
      have x1:(i:Int)+(k:Int)<(s.size:Int):=qO
      have x2:(0:Int)≤(i:Int)+(k:Int):=qO
      have x3:(48:Int)≤(s[i+k].toNat:Int):=qO
      have x4:¬ ((s[i+k].toNat:Int)<48):=qO
      have x5:¬ ((57:Int)<(s[i+k].toNat:Int)):=qO
      have x6:decide ((s[i+k].toNat:Int)<48)=false:=by rw[vH];omega
      have x7:decide ((57:Int)<(s[i+k].toNat:Int))=false:=by rw[vH];omega
      have x8:((i:Int)+(k:Int)).toNat=i+k:=qO
      clear G x ed Q
      go_wp2
      go_round
      case rel=>exact⟨k+1,v*10+d,f*10,qO,qO,h0,i0,qO,by go_num,by go_num,by go_num,by go_num,R⟩
      case measure=>simp[intOf];omega
     have H:Hid ((bytes s).all zX=false):=ZsN (by rw[j.out];exact g2) (by rw[x];simpa using Q)
     have I:=zh (HB.out.ext hF.out)
     have S:=zh (HE.out.trans hF.out)
     obtain⟨z0,z1,z2,z3⟩:=I.out.cell2
     have x1:(i:Int)+(k:Int)<(s.size:Int):=qO
     have x2:(0:Int)≤(i:Int)+(k:Int):=qO
     have x8:((i:Int)+(k:Int)).toNat=i+k:=qO
     have L:Hid (∀ u:Array Value,u[2]? = some (.pointer (some ⟨w.heap.size,0,none⟩))→u[3]? = some (.bool false)→bodyPost prog Tryz.f105 (ZgX w (bytes s)) .ret ⟨u,[]⟩ ((wr.setCell ⟨w.heap.size,0,none⟩ (.bool false)).setCell ⟨w.heap.size,1,none⟩ (.slice none 0 0))):=by
      intro u h2 h3
      have J:Fr (fun i=>i=w.heap.size) wr ((wr.setCell ⟨w.heap.size,0,none⟩ (.bool false)).setCell ⟨w.heap.size,1,none⟩ (.slice none 0 0)):=((Fr.refl (fun i=>i=w.heap.size) _).setCell (p:=⟨w.heap.size,0,none⟩) (Or.inl rfl) _).setCell (p:=⟨w.heap.size,1,none⟩) (Or.inl rfl) _
      refine Zj5 rfl h2 h3 ((I.out.set_ 0 _).set_ 1 _) ?_ (by rw[H.out];rfl) (S.out.next J (fun i hi e=>qO))
      rw[H.out];exact xB.nil _
     by_cases p0:s[i+k].toNat < 48
     ·have x3:(s[i+k].toNat:Int)<48:=qO
      have x6:decide ((s[i+k].toNat:Int)<48)=true:=by rw[tE];omega
      clear x Q H
      go_wp2
      exact L.out _ rfl rfl
     have q0:57<s[i+k].toNat:=by
      have:zX s[i+k]=false:=by simpa using Q
      unfold zX at this
      simp at this
      omega
     have x3:¬ ((s[i+k].toNat:Int)<48):=qO
     have x4:(57:Int)<(s[i+k].toNat:Int):=qO
     have x6:decide ((s[i+k].toNat:Int)<48)=false:=by rw[vH];omega
     have x7:decide ((57:Int)<(s[i+k].toNat:Int))=true:=by rw[tE];omega
     clear x Q H
     go_wp2
     exact L.out _ rfl rfl
    have r0:1≤k:=by
     rcases uJ k with e|e
     ·subst e;exact absurd ⟨qO,qO⟩ F
     exact e
    have T:Hid (f<W32):=by unfold Hid;rw[xD];omega
    have U:Hid (v<W32):=by unfold Hid;rw[xD];omega
    have M:Hid (ml (zG ((bytes s).take i))≤17592186044416):=by
     have h1:=Ze6 (kT _ t.out)
     rw[uN,j.out] at h1
     unfold Hid;omega
    have N:Hid (ml f≤17592186044416):=by
     have:=jE (n:=f) (k:=1)
     rw[mK] at this
     have:=this.2 T.out
     unfold Hid;omega
    have O:Hid (ml v≤17592186044416):=by
     have:=jE (n:=v) (k:=1)
     rw[mK] at this
     have:=this.2 U.out
     unfold Hid;omega
    have l:=zh E.out.done
    have m:Hid (((bytes s).take (i+k)).all zX=true):=E.out.2.2.1
    have P:Hid (ml (zG ((bytes s).take i)*f)≤17592186044416):=by
     have h1:=Ze6 (kT _ m.out)
     rw[uN,j.out] at h1
     have h2:=Zao (show zG ((bytes s).take i)*f≤zG ((bytes s).take (i+k)) by have:=l.out;omega)
     unfold Hid;omega
    have e0:Hid (0<f):=f0
    by_cases h9:k<9
    ·have g2:¬ ((i:Int)+(k:Int)<(s.size:Int)):=qO
     have d0:decide ((k:Int)<9)=true:=by rw[tE];omega
     have s0:decide ((i:Int)+(k:Int)<(s.size:Int))=false:=by rw[vH];omega
     clear F E
     go_wp2_with fail
     generalize a:World.alloc wr _=w2
     have y:Own .u32 87 w2 wr.heap.size [f]:=a ▸ Own.new wr 87 .u32 [f] []
     have g:Ext wr w2:=a ▸ (Fr.refl _ _).alloc _
     clear a
     refine (bK _ _ (zG ((bytes s).take i)) f _ (hM.out.ext g) (zW.one_pos y T.out e0.out) M.out N.out).mono ?_
     rintro e K ⟨_,rfl,o,z⟩
     obtain⟨A3,l3,c3,rfl⟩:=o.slice
     have B:=zh o
     have C:=zh ((hF.out.trans g).trans z)
     clear o z g y
     go_wp2_with fail
     generalize a:World.alloc K _=w4
     have q:Own .u32 87 w4 K.heap.size [v]:=a ▸ Own.new K 87 .u32 [v] []
     have r:Ext K w4:=a ▸ (Fr.refl _ _).alloc _
     clear a
     refine (kE _ [v] 1 1 _ rfl q.shows0 qS qS).mono ?_
     rintro e w5 ⟨rfl,rfl⟩
     have V:=zh (zW.one q U.out)
     have W:=zh (B.out.ext r)
     have X:=zh (C.out.trans r)
     clear q r B C
     go_wp2_with fail
     refine (Zbc _ _ _ _ _ W.out V.out P.out O.out).mono ?_
     rintro e w6 ⟨_,rfl,h,D⟩
     rw[l.out] at h
     obtain⟨A6,l6,c6,rfl⟩:=h.slice
     have Y:=zh h
     have Z:=zh (X.out.trans D)
     clear h D
     go_wp2
     go_roundw
     case rel=>exact⟨i+k,A6,l6,c6,qO,by go_num,rfl,m,Y,Z⟩
     case measure=>simp[intOf];omega
    have g2:¬ ((k:Int)<9):=qO
    have d0:decide ((k:Int)<9)=false:=by rw[vH];omega
    clear F E
    go_wp2_with fail
    generalize a:World.alloc wr _=w2
    have y:Own .u32 87 w2 wr.heap.size [f]:=a ▸ Own.new wr 87 .u32 [f] []
    have g:Ext wr w2:=a ▸ (Fr.refl _ _).alloc _
    clear a
    refine (bK _ _ (zG ((bytes s).take i)) f _ (hM.out.ext g) (zW.one_pos y T.out e0.out) M.out N.out).mono ?_
    rintro e K ⟨_,rfl,o,z⟩
    obtain⟨A3,l3,c3,rfl⟩:=o.slice
    have B:=zh o
    have C:=zh ((hF.out.trans g).trans z)
    clear o z g y
    go_wp2_with fail
    generalize a:World.alloc K _=w4
    have q:Own .u32 87 w4 K.heap.size [v]:=a ▸ Own.new K 87 .u32 [v] []
    have r:Ext K w4:=a ▸ (Fr.refl _ _).alloc _
    clear a
    refine (kE _ [v] 1 1 _ rfl q.shows0 qS qS).mono ?_
    rintro e w5 ⟨rfl,rfl⟩
    have V:=zh (zW.one q U.out)
    have W:=zh (B.out.ext r)
    have X:=zh (C.out.trans r)
    clear q r B C
    go_wp2_with fail
    refine (Zbc _ _ _ _ _ W.out V.out P.out O.out).mono ?_
    rintro e w6 ⟨_,rfl,h,D⟩
    rw[l.out] at h
    obtain⟨A6,l6,c6,rfl⟩:=h.slice
    have Y:=zh h
    have Z:=zh (X.out.trans D)
    clear h D
    go_wp2
    go_roundw
    case rel=>exact⟨i+k,A6,l6,c6,qO,by go_num,rfl,m,Y,Z⟩
    case measure=>simp[intOf];omega
  obtain rfl:i=s.size:=qO
  have e1:(bytes s).take s.size=bytes s:=uB (by rw[j.out];exact uF _)
  have HA:Hid ((bytes s).all zX=true):=by have:=t.out;rw[e1] at this;exact this
  have HM:Hid (zW wr (.slice A ln c) (zG (bytes s))):=by have:=hM.out;rw[e1] at this;exact this
  have I:=zh (HB.out.ext hF.out)
  have S:=zh (HE.out.trans hF.out)
  have j0:=zh (Zj6 s)
  clear e1 t hM
  go_wp2_with fail
  refine (bG false _ _ _ HM.out).mono ?_
  rintro e w2 ⟨_,rfl,E,g⟩
  obtain⟨s2,A2,l2,c2,rfl⟩:=E.shp
  have HI:=zh E
  have a0:=zh (I.out.ext g)
  have l0:=zh (S.out.trans g)
  obtain⟨k0,k1,k2,k3⟩:=a0.out.cell2
  clear E g
  go_wp2
  have J:Fr (fun i=>i=w.heap.size) w2 ((w2.setCell ⟨w.heap.size,0,none⟩ (.bool s2)).setCell ⟨w.heap.size,1,none⟩ (.slice A2 l2 c2)):=((Fr.refl (fun i=>i=w.heap.size) _).setCell (p:=⟨w.heap.size,0,none⟩) (Or.inl rfl) _).setCell (p:=⟨w.heap.size,1,none⟩) (Or.inl rfl) _
  refine Zj5 (b := !s.toList.isEmpty) rfl rfl rfl ((a0.out.set_ 0 _).set_ 1 _) ?_ (by rw[HA.out,j0.out];rfl) (l0.out.next J (fun i hi e=>qO))
  rw[HA.out]
  exact HI.out.oth a0.out kU J
def zY (c:UInt8):Bool:=c != 47
def iU (l:List UInt8):Option Rat :=
 if (((zZ l).2.takeWhile zY).all zX && !((zZ l).2.takeWhile zY).isEmpty)=false then none
 else if (zZ l).2.drop ((zZ l).2.takeWhile zY).length=[] then
  (if xC (((sg (zZ l).1 (zG ((zZ l).2.takeWhile zY)):Int)):Rat)=l then some (((sg (zZ l).1 (zG ((zZ l).2.takeWhile zY)):Int)):Rat) else none)
 else if (((zZ l).2.drop (((zZ l).2.takeWhile zY).length+1)).all zX && !((zZ l).2.drop (((zZ l).2.takeWhile zY).length+1)).isEmpty)=false∨zG ((zZ l).2.drop (((zZ l).2.takeWhile zY).length+1))=0 then none
 else (if xC (Rat.divInt (sg (zZ l).1 (zG ((zZ l).2.takeWhile zY))) (zG ((zZ l).2.drop (((zZ l).2.takeWhile zY).length+1)):Int))=l then some (Rat.divInt (sg (zZ l).1 (zG ((zZ l).2.takeWhile zY))) (zG ((zZ l).2.drop (((zZ l).2.takeWhile zY).length+1)):Int)) else none)
theorem Znz {l:List UInt8}{q:Rat}(h:iU l=some q):xC q=l:=by
 unfold iU at h
 split at h
 ·cases h
 split at h
 ·split at h
  ·rename_i e;injection h with h;rw[←h];exact e
  cases h
 split at h
 ·cases h
 split at h
 ·rename_i e;injection h with h;rw[←h];exact e
 cases h
theorem Zae {l:List UInt8}(h:l.all zX=true):l.all zY=true:=by
 rw[vI] at *
 intro x a
 have:=h x a
 unfold zY
 simp
 rintro rfl
 exact absurd this qD
theorem ZnA (q:Rat):iU (xC q)=some q:=by
 by_cases h:q.den=1
 ·have e:xC q=Lib.itoa q.num ++ []:=by unfold xC;rw[uM h,qJ]
  have a:=ZaQ q.num []
  rw[←e,qJ] at a
  obtain⟨f,g⟩:=dV (Zae (jO q.num.natAbs))
  unfold iU
  rw[a]
  simp only[]
  rw[f,jO,gC,ZbQ,ZgV h]
  rw[uI (by simp[lP]),vF (uF _),uM rfl,uM rfl]
 have e:xC q=Lib.itoa q.num ++ 47 :: Lib.decDigits q.den:=by unfold xC;rw[uI h,gL];simp
 have a:=ZaQ q.num (47 :: Lib.decDigits q.den)
 rw[←e] at a
 obtain⟨f,g⟩:=Zau (p:=zY) (r:=Lib.decDigits q.den) (c:=47) (Zae (jO q.num.natAbs)) qD
 have i:=q.den_nz
 have b:(Lib.decDigits q.num.natAbs ++ 47 :: Lib.decDigits q.den).drop (Lib.decDigits q.num.natAbs).length=47 :: Lib.decDigits q.den:=qS
 have d:(Lib.decDigits q.num.natAbs ++ 47 :: Lib.decDigits q.den).drop ((Lib.decDigits q.num.natAbs).length+1)=Lib.decDigits q.den:=by
  rw[←tA,b];rfl
 unfold iU
 rw[a]
 simp only[]
 rw[f,b,d,jO,jO,gC,gC,ZbQ,pN]
 rw[uI (by simp[lP]),uI qS,uI (by simp[lP];exact i),uM rfl]
theorem Zdv (l:List UInt8):iU l=wA l:=by
 cases h:iU l with
 | some q=>rw[←Znz h];exact (ZeA q).symm
 | none =>
  cases k:wA l with
  | none=>rfl
  | some q =>
   have:=bH k
   rw[←this,ZnA] at h
   cases h
def Zj7 (w:World) (l:List UInt8) (e:Ending) (w':World):Prop :=
 ∃ v ok q,e=.returned (.tuple #[v,.bool ok])∧Ext w w'∧zP w' v q∧((ok=true∧wA l=some q)∨(ok=false∧wA l=none))
theorem Zj8 {q:Rat}{s:ByteArray}{b:Bool}(a:iU (bytes s)=if xC q=bytes s then some q else none)(c:b=decide (xC q=bytes s)):(b=true∧wA (bytes s)=some q)∨(b=false∧wA (bytes s)=none):=by
 rw[Zdv] at a
 by_cases h:xC q=bytes s
 ·rw[uM h] at a;left;exact⟨by rw[c,vQ h],a⟩
 rw[uI h] at a;right;exact⟨by rw[c,uV h],a⟩
theorem ZgZ (t:ByteArray)(a b:Nat):(t.extract a b).size≤t.size:=by
 rw[←zR,kI,uN,tB,zR];omega
theorem ZdU {l:List UInt8}{k:Nat}(h:(l.take k).all zY=true)(a:∀ h:k<l.length,zY l[k]=false)(b:k≤l.length):k=(l.takeWhile zY).length:=by
 rw[(ZbJ h a).1,uN];omega
theorem Zg0 {t:ByteArray}{p:Nat}(a:p=((bytes t).takeWhile zY).length):bytes (t.extract 0 p)=(bytes t).takeWhile zY∧bytes (t.extract (p+1) t.size)=(bytes t).drop (p+1):=by
 rw[kI,kI]
 refine⟨?_,?_⟩
 ·rw[sI,Nat.sub_zero,a]
  have:=List.takeWhile_prefix zY (l:=bytes t)
  exact (List.prefix_iff_eq_take.1 this).symm
 rw[uB (by rw[tB,zR];exact uF _)]
theorem ZnB {l t:List UInt8}{neg:Bool}(a:zZ l=(neg,t))(b:(((t.takeWhile zY)).all zX && !(t.takeWhile zY).isEmpty)=false):iU l=none:=by
 unfold iU;rw[a];simp only[];rw[uM b]
theorem Zlp {l t:List UInt8}{neg:Bool}(a:zZ l=(neg,t))(b:(((t.takeWhile zY)).all zX && !(t.takeWhile zY).isEmpty)=true)(c:t.length≤(t.takeWhile zY).length) :
 iU l=if xC ((sg neg (zG (t.takeWhile zY)):Int):Rat)=l then some ((sg neg (zG (t.takeWhile zY)):Int):Rat) else none:=by
 unfold iU;rw[a];simp only[];rw[uI (by rw[b];simp),uM (vF c)]
theorem Zg1 {l t:List UInt8}{neg:Bool}(a:zZ l=(neg,t))(b:(((t.takeWhile zY)).all zX && !(t.takeWhile zY).isEmpty)=true)(d:(t.takeWhile zY).length<t.length)(c:((t.drop ((t.takeWhile zY).length+1)).all zX && !(t.drop ((t.takeWhile zY).length+1)).isEmpty)=false∨zG (t.drop ((t.takeWhile zY).length+1))=0):iU l=none:=by
 unfold iU;rw[a];simp only[];rw[uI (by rw[b];simp),uI (fun e=>by have:=vP List.length e;simp at this;omega),uM c]
theorem ZnC {l t:List UInt8}{neg:Bool}(a:zZ l=(neg,t))(b:(((t.takeWhile zY)).all zX && !(t.takeWhile zY).isEmpty)=true)(d:(t.takeWhile zY).length<t.length)(c:((t.drop ((t.takeWhile zY).length+1)).all zX && !(t.drop ((t.takeWhile zY).length+1)).isEmpty)=true)(h3:zG (t.drop ((t.takeWhile zY).length+1))≠0) :
 iU l=if xC (Rat.divInt (sg neg (zG (t.takeWhile zY))) (zG (t.drop ((t.takeWhile zY).length+1)):Int))=l then some (Rat.divInt (sg neg (zG (t.takeWhile zY))) (zG (t.drop ((t.takeWhile zY).length+1)):Int)) else none:=by
 unfold iU;rw[a];simp only[];rw[uI (by rw[b];simp),uI (fun e=>by have:=vP List.length e;simp at this;omega),uI (fun e=>e.elim (fun e=>by rw[c] at e;cases e) h3)]
theorem Zme {x:List UInt8}{s:ByteArray}:((⟨x.toArray⟩:ByteArray).toList == s.toList)=decide (x=bytes s):=by
 rw[Lib.toList_data,Lib.toList_data]
 by_cases h:x=bytes s
 ·rw[vQ h];simp[h]
 rw[uV h];simpa using h
theorem Zmf {t:ByteArray}(h:(bytes t).all zX=true):zG (bytes t)<10^t.size:=by
 have:=kT _ h
 rwa [zR] at this
theorem Zg2 {neg:Bool}{n:Nat}:(sg neg n).natAbs=n:=by cases neg<;>simp[sg]
theorem Zj9 {s:ByteArray}(h:¬ bytes s=[]):∃ c,(bytes s).head? = some c∧s[0]? = some c:=by
 obtain⟨a,_⟩:=Zap h
 exact⟨s[0],ZaZ a,by simp[a]⟩
theorem ZfU {s:ByteArray}(h:¬ bytes s=[]):1≤s.size:=(Zap h).1
theorem Zka {s:ByteArray}{c:UInt8}(h:(bytes s).head? = some c)(a:c=45):zZ (bytes s)=(true,bytes (s.extract 1 s.size)):=by
 unfold zZ
 rw[h,a,uM rfl,kI,uB (by rw[tB,zR];exact uF _),List.drop_one]
theorem Zlq {s:ByteArray}{c:UInt8}(h:(bytes s).head? = some c)(a:¬ c=45):zZ (bytes s)=(false,bytes s):=by
 unfold zZ
 rw[h,uI (by simpa using a)]
theorem ZrT {c b:UInt8}(h:c=b):((c.toNat:Int) == (b.toNat:Int))=true:=by subst h;simp
theorem ZrU {c b:UInt8}(h:¬ c=b):((c.toNat:Int) == (b.toNat:Int))=false:=by
 have:c.toNat≠b.toNat:=fun e=>h (UInt8.toNat_inj.1 e)
 simp;omega
theorem Zt9 {a b:Nat}(h:a<b):decide (((a:Nat):Int)<((b:Nat):Int))=true:=vQ qO
theorem ZsO {a b:Nat}(h:¬ a<b):decide (((a:Nat):Int)<((b:Nat):Int))=false:=uV qO
theorem ZeF {a:Nat}(h:a≤140737488351232):IntKind.i64.wrap (((a:Nat):Int)+1)=((a+1:Nat):Int):=by rw[IntKind.wrap_i64];omega
theorem ZqX {n:Nat}(h:n=0):(((n:Int).sign:Int) == 0)=true:=by subst h;rfl
theorem Zpg {n:Nat}(h:¬ n=0):(((n:Int).sign:Int) == 0)=false:=by
 rw[qG];exact fun e=>h (by have:=Int.sign_eq_zero_iff_zero.1 e;omega)
theorem Zmg {w w':World}{e:Ending}{l:List UInt8}(h:ZgX w l e w')(f:l.all zX=true)(a:l≠[]):lD (fun x:ShI=>.tuple #[wC x,.bool true]) (fun x w=>xB w (wC x) (zG l:Int)) w e w':=by
 obtain⟨v,b,rfl,rfl,d,Q⟩:=h
 rw[uM f] at d
 obtain⟨s,A,g,c,rfl⟩:=d.shp
 refine⟨(s,A,g,c),?_,Q,boxn Q (fun S i j k=>d.nrb j k)⟩
 rw[f,show l.isEmpty=false by simpa using a];rfl
theorem Zbk {P:Program}{o:Oper}{ρ:Operand→Value}{w:World}{t:TypeId}{x i:Operand}{b:ByteArray}{k:Nat}{c:UInt8}(a:o.op=Op.index t x i)(d:P.underlying t=some .string)(e:ρ x=.string b)(hi:ρ i=.int .i64 (k:Int))(f:b[k]? = some c):(execOp ρ o).run P w=.ok (.value (.int .u8 (c.toNat:Int))) w:=by
 simp[execOp,a,Instr.index,asIntOf,underlying,d,e,hi,f,Result.andThen]
theorem Zkb {w w':World}{e:Ending}{l:List UInt8}(h:ZgX w l e w')(a:¬ (l.all zX && !l.isEmpty)=true):lD (fun x:ShI=>.tuple #[wC x,.bool false]) (fun _ _=>True) w e w':=by
 obtain⟨v,b,rfl,rfl,d,Q⟩:=h
 obtain⟨s,A,f,c,rfl⟩:=d.shp
 exact⟨(s,A,f,c),by rw[rU.2 a];rfl,Q,BoxN.pure trivial⟩
theorem ZiD {l:List UInt8}(h:(l.all zX && !l.isEmpty)=true):l.all zX=true∧l≠[]:=by
 rw[sA] at h
 exact⟨h.1,fun e=>by rw[e] at h;simp at h⟩
theorem zP.whole {w:World}{s:Bool}{A:qA}{l c:Nat}{z:Int}(h:xB w (vI2 s A l c) z):zP w (.agg #[.bool s,.slice A l c,.bool false,Ξ]) ((z:Int):Rat) :=
 zP.of h (by rw[jC (by rfl)];exact xB.nil _)
theorem Zua {n k:Nat}(h:n<10^k)(a:k≤140737488351232):wI ((n:Nat):Int):=by
 have:=Ze6 h
 unfold wI
 rw[sO];omega
theorem ZsP {s:Bool}{n k:Nat}(h:n<10^k)(a:k≤140737488351232):wI (sg s n):=by
 have:=Ze6 h
 unfold wI
 rw[Zg2];omega
theorem Zmh {x y:Int}{a b j:Nat}(c:y≠0)(d:x.natAbs<a)(e:y.natAbs<b)(f:j≤140737488351232){k:Nat}(g:k≤140737488351232):((Rat.divInt x y).num.natAbs<a∧j≤140737488355000)∧((Rat.divInt x y).den<b∧k≤140737488355000):=by
 refine⟨⟨vA ?_ d,qO⟩,vA ?_ e,qO⟩
 ·rw[Rat.num_divInt,Int.natAbs_ediv_of_dvd]
  ·refine uA (vJ _ _) ?_
   rw[oE]
   rcases Int.lt_or_gt_of_ne c with h|h
   ·rw[Int.sign_eq_neg_one_of_neg h];simp
   rw[oH h];simp
  exact Int.dvd_mul_of_dvd_right (Int.gcd_dvd_right _ _)
 rw[Rat.den_divInt,uI c]
 exact vJ _ _
theorem ZnD {n:Nat}(h:¬ n=0):((n:Nat):Int)≠0:=qO
theorem ZsQ:(1:Nat)<10^1∧1≤140737488355000:=qD
theorem ZsR {t:ByteArray}{i:Nat}{c:UInt8}(d:((bytes t).take i).all zY=true)(hc:t[i]? = some c)(h:¬ c=47):((bytes t).take (i+1)).all zY=true:=by
 have hi:i<t.size:=by
  rcases vO i t.size with b|b
  ·exact b
  rw[getElem?_neg t i qO] at hc;cases hc
 have a:t[i]=c:=by
  rw[nZ t i hi] at hc;exact pR hc
 rw[ZaY t i hi,pH,d,a]
 simp[zY,h]
theorem Zub {t:ByteArray}{i:Nat}{c:UInt8}(e:((bytes t).take i).all zY=true)(d:t[i]? = some c)(h:c=47)(hi:i≤t.size):i=((bytes t).takeWhile zY).length:=by
 refine ZdU e (fun a=>?_) (by rw[zR];exact hi)
 have b:i<t.size:=by rw[←zR];exact a
 rw[nZ t i b] at d
 have:(bytes t)[i]=47:=(pR d).trans h
 rw[this];rfl
theorem Zuc {t:ByteArray}(a:((bytes t).take t.size).all zY=true):t.size=((bytes t).takeWhile zY).length :=
 ZdU a (fun h=>by rw[zR] at h;omega) (by rw[zR];exact uF _)
theorem Zph (s:ByteArray)(w:World)(hs:s.size≤140737488351232) :
 Ζ 72 #[.string s] w (Zj7 w (bytes s)):=by
 refine zU (Φ:=fun w=>True) func72 rfl qK (fun w' hf=>trivial) ?_
 refine yY (xq 2 [Δ 2,yB 3 false] [Θ 2 32] ?_)
 refine yZ (yY (xq 2 [yT 4 s] [] ?_))
 refine xe (zA ?_)
 refine ZcS (fun F G=>∃ (b:Bool),F=ofL [yT 0 s,Δ 2,yB 3 false,yT 4 s,yB 5 b] [(2,32,[.v (.bool false),Ω,.v (.bool false),Ω])]∧G=(fun w=>True)∧((b=true→zZ (bytes s)=(true,bytes (s.extract 1 s.size))∧1≤s.size)∧(b=false→zZ (bytes s)=(false,bytes s)))) ?_ ?_
 ·by_cases V:bytes s=[]
  ·have b0:s.size=0:=by rw[←zR,V];rfl
   refine zB (xq 3 [yB 16 (decide (((s).size:Int)>0))] [] ?_)
   rw[(show decide (((s).size:Int)>0)=false from uV qO)]
   refine xq 6 [yB 5 false] [] ?_
   refine xe ?_
   exact jB ⟨false,rfl,rfl,⟨fun h=>(by cases h),fun _=>(by unfold zZ;rw[V];rfl)⟩⟩ (fun w Q=>trivial)
  obtain⟨M,h0,W⟩:=Zj9 V
  have b0:=ZfU V
  by_cases hm:M=45
  ·refine zB (xq 3 [yB 16 (decide (((s).size:Int)>0))] [] ?_)
   rw[(show decide (((s).size:Int)>0)=true from vQ qO)]
   refine xq 2 [yB 17 true,yT 18 s] [] ?_
   refine xqk 19 (.int .u8 (M.toNat:Int)) (fun w R Q=>Zbk (t:=9) (x:=.tmp 18) (k:=0) (i:=.const (yI 0)) qK qK qK (by rfl) W) ?_
   refine xq 1 [yB 20 (((M.toNat:Int):Int) == 45)] [] ?_
   rw[(show ((M.toNat:Int) == 45)=true from ZrT hm)]
   refine xq 2 [yB 5 true] [] ?_
   refine xe ?_
   exact jB ⟨true,rfl,rfl,⟨fun _=>⟨Zka h0 hm,ZfU V⟩,fun h=>(by cases h)⟩⟩ (fun w Q=>trivial)
  refine zB (xq 3 [yB 16 (decide (((s).size:Int)>0))] [] ?_)
  rw[(show decide (((s).size:Int)>0)=true from vQ qO)]
  refine xq 2 [yB 17 true,yT 18 s] [] ?_
  refine xqk 19 (.int .u8 (M.toNat:Int)) (fun w R Q=>Zbk (t:=9) (x:=.tmp 18) (k:=0) (i:=.const (yI 0)) qK qK qK (by rfl) W) ?_
  refine xq 1 [yB 20 (((M.toNat:Int):Int) == 45)] [] ?_
  rw[(show ((M.toNat:Int) == 45)=false from ZrU (b:=45) hm)]
  refine xq 2 [yB 5 false] [] ?_
  refine xe ?_
  exact jB ⟨false,rfl,rfl,⟨fun h=>(by cases h),fun _=>Zlq h0 hm⟩⟩ (fun w Q=>trivial)
 rintro F G ⟨b,rfl,rfl,HB⟩
 refine ZcS (fun F G=>∃ (t:ByteArray) (l:Bool),F=ofL [yT 0 s,Δ 2,yB 3 false,yT 4 t,yB 5 l] [(2,32,[.v (.bool false),Ω,.v (.bool false),Ω])]∧G=(fun w=>True)∧(zZ (bytes s)=(l,bytes t))∧(t.size≤140737488351232)) ?_ ?_
 ·refine yY (xq 1 [yB 22 b] [] ?_)
  refine xe (zA ?_)
  refine yQ (b) (fun H=>?_) fun H=>?_
  ·have I:=H
   obtain⟨X,d0⟩:=HB.1 I
   obtain⟨t,ht⟩:=yE (s.extract 1 s.size)
   rw[ht] at X
   have lt:t.size≤140737488351232:=by rw[←ht,qE];omega
   refine zB (xq 1 [yT 23 s] [] ?_)
   refine xqk 24 (.string t) (fun w R Q=>fE 1 _ (t:=9) (x:=.tmp 23) (lo:=(some (Operand.const (Value.int IntKind.i64 1)))) (hi:=none) qK qK qK (Or.inr rfl) (Or.inl ⟨rfl,rfl⟩) d0 (uF _) ht) ?_
   refine xq 1 [yT 4 t] [] ?_
   refine xe ?_
   exact jB ⟨t,b,rfl,rfl,(by rw[I];exact X),lt⟩ (fun w Q=>trivial)
  have I:=H
  refine zJ ?_
  exact jB ⟨s,b,rfl,rfl,(by rw[I];exact HB.2 I),hs⟩ (fun w Q=>trivial)
 rintro F G ⟨t,l,rfl,rfl,Y,lt⟩
 refine yY (xq 3 [yJ 6 ((t).size:Int)] [] ?_)
 refine xe (zA ?_)
 refine ZcS (fun F G=>∃ (p:Nat),F=ofL [yT 0 s,Δ 2,yB 3 false,yT 4 t,yB 5 l,yJ 6 p] [(2,32,[.v (.bool false),Ω,.v (.bool false),Ω])]∧G=(fun w=>True)∧(p=((bytes t).takeWhile zY).length)∧(p≤t.size)) ?_ ?_
 ·refine yY (xq 1 [yJ 7 0] [] ?_)
  refine yZ (zQ ?_)
  refine xO (fun nn F G=>∃ (i:Nat),F=ofL [yT 0 s,Δ 2,yB 3 false,yT 4 t,yB 5 l,yJ 6 ((t).size:Int),yJ 7 i] [(2,32,[.v (.bool false),Ω,.v (.bool false),Ω])]∧G=(fun w=>True)∧(i≤t.size)∧(((bytes t).take i).all zY=true)∧nn=t.size-i) (t.size-0) ⟨0,rfl,rfl,(vS _),rfl,rfl⟩ (fun w Q=>trivial) ?_
  rintro nn F G ⟨i,rfl,rfl,hi,hI,rfl⟩
  refine zC (yY (xq 4 [yB 30 (decide ((i:Int)<((t).size:Int)))] [] ?_))
  refine xe (zA ?_)
  refine yQ ((decide ((i:Int)<((t).size:Int)))) (fun J=>?_) fun J=>?_
  ·have Z:i<t.size:=by have:=uC J;omega
   obtain⟨c,hc⟩:∃ c,t[i]? = some c:=⟨t[i],by simp[Z]⟩
   refine zJ (zA (zC (zQ (zC ?_))))
   by_cases L:c=47
   ·refine zB (xq 2 [yT 33 t,yJ 34 i] [] ?_)
    refine xqk 35 (.int .u8 (c.toNat:Int)) (fun w R Q=>Zbk (t:=9) (x:=.tmp 33) (k:=i) (i:=.tmp 34) qK qK qK qK hc) ?_
    refine xq 1 [yB 36 (((c.toNat:Int):Int) == 47)] [] ?_
    rw[(show ((c.toNat:Int) == 47)=true from ZrT L)]
    refine yZ (xa (yY (xq 2 [yJ 6 i] [] ?_)))
    refine yZ (xM ?_)
    refine ZcO qK ?_
    refine zE (zE (xW ?_))
    exact jB ⟨i,rfl,rfl,Zub hI hc L hi,hi⟩ (fun w Q=>trivial)
   refine zB (xq 2 [yT 33 t,yJ 34 i] [] ?_)
   refine xqk 35 (.int .u8 (c.toNat:Int)) (fun w R Q=>Zbk (t:=9) (x:=.tmp 33) (k:=i) (i:=.tmp 34) qK qK qK qK hc) ?_
   refine xq 1 [yB 36 (((c.toNat:Int):Int) == 47)] [] ?_
   rw[(show ((c.toNat:Int) == 47)=false from ZrU (b:=47) L)]
   refine yZ (xb (zJ (xR (zA (zB (xq 2 [yJ 32 (IntKind.i64.wrap ((i:Int)+1))] [] ?_))))))
   rw[ZeF (a:=i) qO]
   refine xq 1 [yJ 7 (i+1:Nat)] [] ?_
   refine xe ?_
   exact xK (t.size-(i+1)) qO ⟨(i+1),rfl,rfl,Z,ZsR hI hc L,rfl⟩ (fun w Q=>trivial)
  have e0:i=t.size:=by have:=uD J;omega
  refine xM (zE (zE (xW ?_)))
  exact jB ⟨t.size,rfl,rfl,Zuc (e0 ▸ hI),(uF _)⟩ (fun w Q=>trivial)
 rintro F G ⟨p,rfl,rfl,K,a0⟩
 refine zC ?_
 obtain⟨x,hx⟩:=yE (t.extract 0 p)
 have N:bytes x=(bytes t).takeWhile zY:=by rw[←hx];exact (Zg0 K).1
 have lx:x.size≤140737488351232:=uA (by rw[←hx];exact ZgZ _ _ _) lt
 by_cases O:((bytes x).all zX && !(bytes x).isEmpty)=true
 ·obtain⟨dx,nx⟩:=ZiD O
  have MX:=Zmf dx
  refine zB (xq 2 [yT 39 t,yJ 40 p] [] ?_)
  refine xqk 41 (.string x) (fun w R Q=>fE 0 p (t:=9) (x:=.tmp 39) (lo:=none) (hi:=(some (Operand.tmp 40))) qK qK qK (Or.inl ⟨rfl,rfl⟩) (Or.inr qK) qO a0 hx) ?_
  refine xqc 105 [.string x] 42 (fun x:ShI=>.tuple #[wC x,.bool true]) _ (fun w R Q=>(cJ x _ qO).mono (fun _ _ h=>Zmg h dx nx)) fun⟨f0,P,S,T⟩=>?_
  refine xq 6 [Δ 8,yB 9 true] [bI2 8 30 f0 P S T] ?_
  refine yZ (zC (yY (xq 2 [yB 46 false] [] ?_)))
  refine yZ (xb (zJ (zA (yY (xq 3 [yB 48 l,eS1 50 P S T] [] ?_)))))
  refine xqc 41 [.bool l,.slice P S T] 51 wC _ (fun w R Q=>(bG _ _ _ _ Q.2.mag).mono (fun _ _ h=>xV (by rw[show sg l ((zG (bytes x):Int)).natAbs=sg l (zG (bytes x)) by rw[sO]] at h;exact h))) fun⟨d,e,f,g⟩=>?_
  refine xq 3 [Δ 10] [bR4 10 32 d e f g false none 0 0] ?_
  refine yZ (zC (zC ?_))
  by_cases hl:p<t.size
  ·obtain⟨q,hq⟩:=yE (t.extract (p+1) t.size)
   have HQ:bytes q=(bytes t).drop (p+1):=by rw[←hq];exact (Zg0 K).2
   have lq:q.size≤140737488351232:=uA (by rw[←hq];exact ZgZ _ _ _) lt
   refine zB (xq 4 [yB 56 (decide ((p:Int)<((t).size:Int)))] [] ?_)
   rw[Zt9 hl]
   refine yZ (xa (zC ?_))
   by_cases hQ:((bytes q).all zX && !(bytes q).isEmpty)=true
   ·obtain⟨dq,nq⟩:=ZiD hQ
    have MQ:=Zmf dq
    refine zB (xq 3 [yT 58 t,yJ 60 (IntKind.i64.wrap ((p:Int)+1))] [] ?_)
    rw[ZeF (a:=p) qO]
    refine xqk 61 (.string q) (fun w R Q=>fE (p+1) _ (t:=9) (x:=.tmp 58) (lo:=(some (Operand.tmp 60))) (hi:=none) qK qK qK (Or.inr qK) (Or.inl ⟨rfl,rfl⟩) qO (uF _) hq) ?_
    refine xqc 105 [.string q] 62 (fun x:ShI=>.tuple #[wC x,.bool true]) _ (fun w R Q=>(cJ q _ qO).mono (fun _ _ h=>Zmg h dq nq)) fun⟨m,n,o,r⟩=>?_
    refine xq 6 [Δ 11,yB 12 true] [bI2 11 30 m n o r] ?_
    refine yZ (zC (zC ?_))
    by_cases U:zG (bytes q)=0
    ·refine zB (xq 4 [yB 67 false,eI2 68 m n o r] [] ?_)
     refine xqc 45 [vI2 m n o r] 69 (fun _:Unit=>yI ((zG (bytes q):Int)).sign) _ (fun w R Q=>yN (Zeo _ ((zG (bytes q):Int)) _ Q.2)) fun xx=>?_
     refine xq 1 [(70,.v (.bool ((((zG (bytes q):Int)).sign:Int) == 0)))] [] ?_
     rw[ZqX U]
     refine xq 1 [yB 71 true] [] ?_
     refine yZ (xa (yY (xq 3 [yB 3 false] [] ?_)))
     refine yZ (zH (zL (zL ?_)))
     refine yR (.tuple #[.agg #[.bool false,Ξ,.bool false,Ξ],.bool false]) fun w' R Q=>?_
     exact⟨_,false,0,rfl,R,zP.nil _,Or.inr ⟨rfl,by rw[←Zdv];exact Zg1 Y (by rw[←N];exact O) (by rw[←K,zR];exact hl) (by rw[←K,← HQ];exact Or.inr U)⟩⟩
    refine zB (xq 4 [yB 67 false,eI2 68 m n o r] [] ?_)
    refine xqc 45 [vI2 m n o r] 69 (fun _:Unit=>yI ((zG (bytes q):Int)).sign) _ (fun w R Q=>yN (Zeo _ ((zG (bytes q):Int)) _ Q.2)) fun xx=>?_
    refine xq 1 [(70,.v (.bool ((((zG (bytes q):Int)).sign:Int) == 0)))] [] ?_
    rw[Zpg U]
    refine xq 1 [yB 71 false] [] ?_
    refine yZ (xb (zJ (zA (zB (xq 3 [eI2 74 d e f g,eI2 75 m n o r] [] ?_)))))
    refine xqc 16 [vI2 d e f g,vI2 m n o r] 76 lB _ (fun w R Q=>yM wM (aP _ _ (sg l (zG (bytes x))) ((zG (bytes q):Int)) _ Q.1.1.2 Q.1.2 (ZsP MX lx) (Zua MQ lq) (ZnD U))) fun⟨u,y,z,A,B,C,D,E⟩=>?_
    refine xr 1 [yT 0 s,Δ 2,yB 3 false,Δ 10] [bR4 10 32 u y z A B C D E,Θ 2 32] ?_
    refine yZ (zC ?_)
    refine yO 7 zM ?_
    refine xqg 2 [eR4 77 u y z A B C D E,eR4 78 u y z A B C D E] ?_
    refine xqd 84 [vR4 u y z A B C D E] 79 (fun _:Unit=>.string ⟨(xC (Rat.divInt (sg l (zG (bytes x))) ((zG (bytes q):Int)))).toArray⟩) _ (fun w R Q=>yN (Zdu _ (Rat.divInt (sg l (zG (bytes x))) ((zG (bytes q):Int))) _ Q.2 x.size q.size (Zmh (k:=q.size) (ZnD U) (by rw[Zg2];exact MX) MQ lx lq).1 (Zmh (j:=x.size) (ZnD U) (by rw[Zg2];exact MX) MQ lx lq).2)) fun xx=>?_
    refine xqf 4 [(3,.v (.bool ((⟨(xC (Rat.divInt (sg l (zG (bytes x))) ((zG (bytes q):Int)))).toArray⟩:ByteArray).toList == (s:ByteArray).toList)))] [bR4 2 32 u y z A B C D E,bR4 10 32 u y z A B C D E,Θ 2 32] ?_
    refine xz (yZ (zH ?_))
    refine yR (.tuple #[vR4 u y z A B C D E,.bool ((⟨(xC (Rat.divInt (sg l (zG (bytes x))) ((zG (bytes q):Int)))).toArray⟩:ByteArray).toList == (s:ByteArray).toList)]) fun w' R Q=>?_
    exact⟨_,_,_,rfl,R,Q.1.2,Zj8 (by rw[ZnC Y (by rw[←N];exact O) (by rw[←K,zR];exact hl) (by rw[←K,← HQ];exact hQ) (by rw[←K,← HQ];exact U),← K,← HQ,← N]) Zme⟩
   refine zB (xq 3 [yT 58 t,yJ 60 (IntKind.i64.wrap ((p:Int)+1))] [] ?_)
   rw[ZeF (a:=p) qO]
   refine xqk 61 (.string q) (fun w R Q=>fE (p+1) _ (t:=9) (x:=.tmp 58) (lo:=(some (Operand.tmp 60))) (hi:=none) qK qK qK (Or.inr qK) (Or.inl ⟨rfl,rfl⟩) qO (uF _) hq) ?_
   refine xqc 105 [.string q] 62 (fun x:ShI=>.tuple #[wC x,.bool false]) _ (fun w R Q=>(cJ q _ qO).mono (fun _ _ h=>Zkb h hQ)) fun⟨g0,i0,j0,k0⟩=>?_
   refine xq 6 [Δ 11,yB 12 false] [bI2 11 30 g0 i0 j0 k0] ?_
   refine yZ (zC (yY (xq 7 [yB 71 true] [] ?_)))
   refine yZ (xa (yY (xq 3 [yB 3 false] [] ?_)))
   refine yZ (zH (zL (zL ?_)))
   refine yR (.tuple #[.agg #[.bool false,Ξ,.bool false,Ξ],.bool false]) fun w' R Q=>?_
   exact⟨_,false,0,rfl,R,zP.nil _,Or.inr ⟨rfl,by rw[←Zdv];exact Zg1 Y (by rw[←N];exact O) (by rw[←K,zR];exact hl) (by rw[←K,← HQ];exact Or.inl (rU.2 hQ))⟩⟩
  refine zB (xq 4 [yB 56 (decide ((p:Int)<((t).size:Int)))] [] ?_)
  rw[ZsO hl]
  refine yZ (xb (zJ (zA (zC ?_))))
  refine SXc.weak [yT 0 s,Δ 2,yB 3 false,Δ 10] [(10,32,[.v (.bool d),Λ e f g,.v (.bool false),Ω]),(2,32,[.v (.bool false),Ω,.v (.bool false),Ω])] (iN.of qK) qK (fun _ h=>h) ?_
  refine yO 7 zM ?_
  refine xqg 2 [eR4 77 d e f g false none 0 0,eR4 78 d e f g false none 0 0] ?_
  refine xqd 84 [vR4 d e f g false none 0 0] 79 (fun _:Unit=>.string ⟨(xC (((sg l (zG (bytes x)):Int):Rat))).toArray⟩) _ (fun w R Q=>yN (Zdu _ (((sg l (zG (bytes x)):Int):Rat)) _ (zP.whole Q.2) x.size 1 ⟨by show (sg l (zG (bytes x))).natAbs<_;rw[Zg2];exact MX,qO⟩ ZsQ)) fun xx=>?_
  refine xqf 4 [(3,.v (.bool ((⟨(xC (((sg l (zG (bytes x)):Int):Rat))).toArray⟩:ByteArray).toList == (s:ByteArray).toList)))] [bR4 2 32 d e f g false none 0 0,bR4 10 32 d e f g false none 0 0,Θ 2 32] ?_
  refine xz (yZ (zH ?_))
  refine zD (v:=.tuple #[.agg #[.bool d,.slice e f g,.bool false,Ξ],.bool ((⟨(xC (((sg l (zG (bytes x)):Int):Rat))).toArray⟩:ByteArray).toList == (s:ByteArray).toList)]) qK fun w' R Q=>?_
  exact⟨_,_,_,rfl,R,(zP.whole Q.1.2),Zj8 (by rw[Zlp Y (by rw[←N];exact O) (by rw[←K,zR];omega),← N]) Zme⟩
 refine zB (xq 2 [yT 39 t,yJ 40 p] [] ?_)
 refine xqk 41 (.string x) (fun w R Q=>fE 0 p (t:=9) (x:=.tmp 39) (lo:=none) (hi:=(some (Operand.tmp 40))) qK qK qK (Or.inl ⟨rfl,rfl⟩) (Or.inr qK) qO a0 hx) ?_
 refine xqc 105 [.string x] 42 (fun x:ShI=>.tuple #[wC x,.bool false]) _ (fun w R Q=>(cJ x _ qO).mono (fun _ _ h=>Zkb h O)) fun⟨l0,m0,n0,o0⟩=>?_
 refine xq 6 [Δ 8,yB 9 false] [bI2 8 30 l0 m0 n0 o0] ?_
 refine yZ (zC (yY (xq 2 [yB 46 true] [] ?_)))
 refine yZ (xa (yY (xq 3 [yB 3 false] [] ?_)))
 refine yZ (zH (zL ?_))
 refine yR (.tuple #[.agg #[.bool false,Ξ,.bool false,Ξ],.bool false]) fun w' R Q=>?_
 exact⟨_,false,0,rfl,R,zP.nil _,Or.inr ⟨rfl,by rw[←Zdv];exact ZnB Y (by rw[←N];exact rU.2 O)⟩⟩
section
variable {w w':World} {e:Ending} {l:List UInt8}
theorem Zg3 {q:Rat}(h:Zj7 w l e w')(a:wA l=some q):lD (fun x:ShQ=>.tuple #[lB x,.bool true]) (fun x w=>zP w (lB x) q) w e w':=by
 obtain⟨v,j,k,rfl,Q,b,⟨rfl,h1⟩|⟨rfl,h1⟩⟩:=h
 ·rw[a] at h1;injection h1 with h1;subst h1
  obtain⟨s,A,l,c,t,B,m,d,rfl⟩:=b.shp
  exact⟨(s,A,l,c,t,B,m,d),rfl,Q,boxn Q (fun S f g i=>b.nrb g i)⟩
 rw[a] at h1;cases h1
end
theorem Zcz:∀ l:List UInt8,Lib.indexByte l 47=if (l.takeWhile zY).length<l.length then ((l.takeWhile zY).length:Int) else -1
 | []=>by simp[Lib.indexByte]
 | b :: l=>by
  have e:=Zcz l
  unfold Lib.indexByte
  by_cases a:b=47
  ·subst a;simp[zY]
  have f:(b == (47:UInt8))=false:=by simpa using a
  have g:zY b=true:=by simp[zY,a]
  rw[f,e]
  simp only[nF,g,sS,mR,pM,oK]
  generalize (l.takeWhile zY).length=k
  generalize l.length=n
  by_cases d:k<n
  ·have c:k+1<n+1:=qO
   have h:((k:Int) == -1)=false:=qS
   rw[uM c,uM d]
   simp only[h,pM,oK]
   omega
  have c:¬ k+1<n+1:=qO
  rw[uI c,uI d]
  rfl
theorem Zud {s:ByteArray}(h:bytes s=[47]):(0:Int)=Lib.indexByte (bytes s) 47:=by rw[h];rfl
theorem ZsS {s:ByteArray}(h:bytes s=[47]):((⟨#[47]⟩:ByteArray).toList == s.toList)=true:=by
 rw[Lib.toList_data,Lib.toList_data,show s.data.toList=[47] from h];rfl
theorem ZsT {s:ByteArray}(h:¬ bytes s=[47]):((⟨#[47]⟩:ByteArray).toList == s.toList)=false:=by
 rw[Lib.toList_data,Lib.toList_data];exact qG.2 (fun e=>h e.symm)
theorem ZsU {p:Nat}(h:p≤1000000):IntKind.i64.wrap (((p:Nat):Int)+((⟨#[47]⟩:ByteArray).size:Int))=((p+1:Nat):Int):=by
 rw[show (((⟨#[47]⟩:ByteArray).size:Nat):Int)=1 from rfl,IntKind.wrap_i64];omega
theorem Zmi (z:Int):(Lib.itoa z).all zY=true:=by
 rcases oZ z 0 with h|h
 ·rw[ZbP h,pH,Zae (jO _)];rfl
 rw[show z=((z.toNat:Nat):Int) by omega,gL];exact Zae (jO _)
theorem ZiE {l:List UInt8}{q:Rat}(h:wA l=some q)(a:q.den=1):l=Lib.itoa q.num∧l.length≤(l.takeWhile zY).length:=by
 have b:xC q=l:=bH h
 have e:l=Lib.itoa q.num:=by rw[←b];unfold xC;rw[uM a]
 refine⟨e,?_⟩
 have:=Zmi q.num
 rw[←e] at this
 rw[(dV this).1]
 exact uF _
theorem Zpi {l:List UInt8}{q:Rat}(h:wA l=some q)(b:¬ q.den=1):l.takeWhile zY=Lib.itoa q.num∧l.drop ((l.takeWhile zY).length+1)=Lib.itoa (q.den:Int)∧(l.takeWhile zY).length<l.length:=by
 have d:xC q=l:=bH h
 have e:l=Lib.itoa q.num ++ 47 :: Lib.itoa (q.den:Int):=by rw[←d];unfold xC;rw[uI b];simp
 obtain⟨a,f⟩:=Zau (p:=zY) (r:=Lib.itoa (q.den:Int)) (c:=47) (Zmi q.num) qD
 rw[←e] at a f
 refine⟨a,?_,?_⟩
 ·rw[a,e,← tA,List.drop_left];rfl
 rw[a,e];simp
theorem ZnE:Ending.returned (.tuple #[.string ⟨#[48]⟩,.string ⟨#[49]⟩])=Ending.returned (.tuple #[.string ⟨(Lib.itoa (0:Rat).num).toArray⟩,.string ⟨(Lib.itoa ((0:Rat).den:Int)).toArray⟩]):=by
 rw[show (0:Rat).num=((0:Nat):Int) from rfl,show ((0:Rat).den:Int)=((1:Nat):Int) from rfl,Zav qD,Zav qD];rfl
theorem Zlr (s:ByteArray):Ending.returned (.tuple #[.string s,.string ⟨#[49]⟩])=Ending.returned (.tuple #[.string ⟨(bytes s).toArray⟩,.string ⟨(Lib.itoa ((1:Nat):Int)).toArray⟩]):=by
 rw[Zav qD];rfl
theorem neg_zero:Ending.returned (.string ⟨#[48]⟩)=Ending.returned (.string ⟨(xC (-(0:Rat))).toArray⟩):=by
 rw[show -(0:Rat)=0 from rfl,zt]
theorem Zkc (x:Int):xC ((x:Int):Rat)=Lib.itoa x:=by unfold xC;exact uM rfl
theorem Zpj (s:ByteArray)(w:World):Ζ 202 #[.string s,.int .u8 (((47:UInt8).toNat:Nat):Int)] w (RetV w (.int .i64 (Lib.indexByte (bytes s) 47))):=by
 refine (Tryz.stringslite_IndexByte s (((47:UInt8).toNat:Nat):Int) w).mono ?_
 rintro e w' ⟨rfl,rfl⟩
 exact⟨rfl,Fr.refl _ _⟩
theorem ZcZ (s:ByteArray)(w:World) :
 Ζ 176 #[.string s,.string ⟨#[47]⟩] w (RetV w (.int .i64 (Lib.indexByte (bytes s) 47))):=by
 refine zU (Φ:=fun w=>True) func176 rfl qK (fun w' d=>trivial) ?_
 refine yY (xq 1 [yJ 4 0] [] ?_)
 refine yZ (yY (xq 2 [yJ 15 ((⟨#[47]⟩:ByteArray).size:Int)] [] ?_))
 rw[(show (((⟨#[47]⟩:ByteArray).size:Nat):Int)=1 from rfl)]
 refine xq 1 [yJ 5 1] [] ?_
 refine yZ (zC (zQ (zC ?_)))
 by_cases a:bytes s=[47]
 ·refine zB (xq 6 [yB 19 false,yB 22 ((⟨#[47]⟩:ByteArray).toList == (s:ByteArray).toList)] [] ?_)
  rw[ZsS a]
  refine xq 2 [yB 16 true] [] ?_
  refine yZ (xa (yY (xq 1 [yJ 4 0] [] ?_)))
  refine yZ (zH (wY (zL ?_)))
  refine yR (yI 0) fun w' R Q=>?_
  exact⟨by rw[←Zud a],R⟩
 refine zB (xq 6 [yB 19 false,yB 22 ((⟨#[47]⟩:ByteArray).toList == (s:ByteArray).toList)] [] ?_)
 rw[ZsT a]
 refine xq 2 [yB 16 false] [] ?_
 refine yZ (xb (yY (xq 3 [yB 24 true] [] ?_)))
 refine yZ (xa (yY (xq 2 [yT 27 s,yT 28 ⟨#[47]⟩] [] ?_)))
 refine xqk 29 (.int .u8 (((47:UInt8).toNat:Nat):Int)) (fun w R Q=>bX (c:=47) (b:=⟨#[47]⟩) (t:=9) (x:=.tmp 28) (k:=0) (i:=.const (yI 0)) qK qK qK (by rfl) (by rfl)) ?_
 refine xqc 202 [.string s,.int .u8 (((47:UInt8).toNat:Nat):Int)] 30 (fun _:Unit=>yI (Lib.indexByte (bytes s) 47)) _ (fun w R Q=>yN (Zpj s _)) fun e=>?_
 refine xq 1 [yJ 4 (Lib.indexByte (bytes s) 47)] [] ?_
 refine yZ (zH (wY (zL ?_)))
 refine yR (yI (Lib.indexByte (bytes s) 47)) fun w' R Q=>?_
 exact⟨rfl,R⟩
theorem Zkd (s x y:ByteArray)(p:Nat)(w:World)(f:s.size≤100000)(c:p=((bytes s).takeWhile zY).length)(b:p<s.size)(d:s.extract 0 p=x)(e:s.extract (p+1) s.size=y) :
 Ζ 148 #[.string s,.string ⟨#[47]⟩] w (RetV w (.tuple #[.string x,.string y,.bool true])):=by
 have a:((bytes s).takeWhile zY).length<(bytes s).length:=by rw[←c,zR];exact b
 refine zU (Φ:=fun w=>True) func148 rfl qK (fun w' g=>trivial) ?_
 refine yY (xq 3 [yT 4 ⟨#[]⟩,yT 5 ⟨#[]⟩,yB 6 false] [] ?_)
 refine yZ (zC (yY (xq 2 [yT 8 s,yT 9 ⟨#[47]⟩] [] ?_)))
 refine xqc 176 [.string s,.string ⟨#[47]⟩] 10 (fun _:Unit=>yI p) _ (fun w R Q=>(ZcZ s _).mono (fun _ _ h=>zO h (by rw[Zcz,uM a,← c]))) fun i=>?_
 refine xq 1 [yJ 7 p] [] ?_
 refine yZ (yY (xq 2 [yB 12 (decide ((p:Int)≥0))] [] ?_))
 rw[(show decide ((p:Int)≥0)=true from vQ qO)]
 refine yZ (xa (zC ?_))
 refine yO 12 zM ?_
 refine xqg 2 [yT 13 s,yJ 14 p] ?_
 refine xqj 15 (.string x) (fun w Q=>fE 0 p (t:=9) (x:=.tmp 13) (lo:=none) (hi:=(some (Operand.tmp 14))) qK qK qK (Or.inl ⟨rfl,rfl⟩) (Or.inr qK) qO qO d) ?_
 refine xqg 5 [yT 16 s,yJ 20 (IntKind.i64.wrap ((p:Int)+((⟨#[47]⟩:ByteArray).size:Int)))] ?_
 rw[ZsU (p:=p) qO]
 refine xqj 21 (.string y) (fun w Q=>fE (p+1) _ (t:=9) (x:=.tmp 16) (lo:=(some (Operand.tmp 20))) (hi:=none) qK qK qK (Or.inr qK) (Or.inl ⟨rfl,rfl⟩) qO (uF _) e) ?_
 refine xqg 3 [yT 4 x,yT 5 y,yB 6 true] ?_
 refine xz (yZ (zH (zL ?_)))
 refine yR (.tuple #[.string x,.string y,.bool true]) fun w' R Q=>?_
 exact⟨rfl,R⟩
theorem Zls (s:ByteArray)(w:World)(a:¬ ((bytes s).takeWhile zY).length<(bytes s).length) :
 Ζ 148 #[.string s,.string ⟨#[47]⟩] w (RetV w (.tuple #[.string s,.string ⟨#[]⟩,.bool false])):=by
 refine zU (Φ:=fun w=>True) func148 rfl qK (fun w' b=>trivial) ?_
 refine yY (xq 3 [yT 4 ⟨#[]⟩,yT 5 ⟨#[]⟩,yB 6 false] [] ?_)
 refine yZ (zC (yY (xq 2 [yT 8 s,yT 9 ⟨#[47]⟩] [] ?_)))
 refine xqc 176 [.string s,.string ⟨#[47]⟩] 10 (fun _:Unit=>yI (-1)) _ (fun w R Q=>(ZcZ s _).mono (fun _ _ h=>zO h (by rw[Zcz,uI a]))) fun c=>?_
 refine xq 1 [yJ 7 (-1)] [] ?_
 refine yZ (yY (xq 2 [yB 12 false] [] ?_))
 refine yZ (xb (zJ (zA (yY (xq 4 [yT 4 s,yT 5 ⟨#[]⟩,yB 6 false] [] ?_)))))
 refine yZ (zH ?_)
 refine yR (.tuple #[.string s,.string ⟨#[]⟩,.bool false]) fun w' R Q=>?_
 exact⟨rfl,R⟩
theorem ZnF (s x y:ByteArray)(p:Nat)(w:World)(b:s.size≤100000)(c:p=((bytes s).takeWhile zY).length)(a:p<s.size)(d:s.extract 0 p=x)(e:s.extract (p+1) s.size=y) :
 Ζ 113 #[.string s,.string ⟨#[47]⟩] w (RetV w (.tuple #[.string x,.string y,.bool true])):=by
 refine zU (Φ:=fun w=>True) func113 rfl qK (fun w' f=>trivial) ?_
 refine yY (xq 3 [yT 4 ⟨#[]⟩,yT 5 ⟨#[]⟩,yB 6 false] [] ?_)
 refine yZ (yY (xq 2 [yT 7 s,yT 8 ⟨#[47]⟩] [] ?_))
 refine xqc 148 [.string s,.string ⟨#[47]⟩] 9 (fun _:Unit=>.tuple #[.string x,.string y,.bool true]) _ (fun w R Q=>yN (Zkd s x y p _ b c a d e)) fun g=>?_
 refine xq 6 [yT 4 x,yT 5 y,yB 6 true] [] ?_
 refine yZ (zH ?_)
 refine yR (.tuple #[.string x,.string y,.bool true]) fun w' R Q=>?_
 exact⟨rfl,R⟩
theorem Zpk (s:ByteArray)(w:World)(a:¬ ((bytes s).takeWhile zY).length<(bytes s).length) :
 Ζ 113 #[.string s,.string ⟨#[47]⟩] w (RetV w (.tuple #[.string s,.string ⟨#[]⟩,.bool false])):=by
 refine zU (Φ:=fun w=>True) func113 rfl qK (fun w' b=>trivial) ?_
 refine yY (xq 3 [yT 4 ⟨#[]⟩,yT 5 ⟨#[]⟩,yB 6 false] [] ?_)
 refine yZ (yY (xq 2 [yT 7 s,yT 8 ⟨#[47]⟩] [] ?_))
 refine xqc 148 [.string s,.string ⟨#[47]⟩] 9 (fun _:Unit=>.tuple #[.string s,.string ⟨#[]⟩,.bool false]) _ (fun w R Q=>yN (Zls s _ a)) fun c=>?_
 refine xq 6 [yT 4 s,yT 5 ⟨#[]⟩,yB 6 false] [] ?_
 refine yZ (zH ?_)
 refine yR (.tuple #[.string s,.string ⟨#[]⟩,.bool false]) fun w' R Q=>?_
 exact⟨rfl,R⟩
theorem ZnG (s:ByteArray)(w:World)(n:Glob w)(i:(bytes s).length≤570) :
 Ζ 80 #[.string s] w (RetV w (.tuple #[.string ⟨(Lib.itoa (valF (bytes s)).num).toArray⟩,.string ⟨(Lib.itoa ((valF (bytes s)).den:Int)).toArray⟩])):=by
 refine zU (Φ:=fun w=>Glob w) func80 rfl qK (fun w' o=>n.ext o) ?_
 refine yY (xq 2 [yT 2 ⟨#[]⟩,yT 3 ⟨#[]⟩] [] ?_)
 refine yZ (zC (yY (xq 1 [yT 7 s] [] ?_)))
 by_cases b:(wA (bytes s)).isSome=true
 ·obtain⟨q,c⟩:=sY.1 b
  have d:=dF c
  refine xqc 51 [.string s] 8 (fun _:Unit=>.bool true) _ (fun w R Q=>(aO s _ Q i).mono (fun _ _ h=>zO h (by rw[b]))) fun f=>?_
  refine xq 1 [yB 9 false] [] ?_
  refine yZ (xb (zJ (zA (yY (xq 1 [yT 11 s] [] ?_)))))
  by_cases a:q.den=1
  ·refine xqc 113 [.string s,.string ⟨#[47]⟩] 12 (fun _:Unit=>.tuple #[.string s,.string ⟨#[]⟩,.bool false]) _ (fun w R Q=>yN (Zpk s _ (by have:=(ZiE c a).2;omega))) fun f=>?_
   refine xq 7 [yT 4 s,yT 5 ⟨#[]⟩,yB 6 false] [] ?_
   refine yZ (zC (yY (xq 2 [yB 17 true] [] ?_)))
   refine yZ (xa (yY (xq 3 [yT 2 s,yT 3 ⟨#[49]⟩] [] ?_)))
   refine yZ (zH (zL ?_))
   refine yR (.tuple #[.string s,.string ⟨#[49]⟩]) fun w' R Q=>?_
   exact⟨by rw[d,a,← (ZiE c a).1];exact Zlr s,R⟩
  obtain⟨r,j,k⟩:=Zpi c a
  obtain⟨p,e⟩:∃ p,p=((bytes s).takeWhile zY).length:=⟨_,rfl⟩
  rw[←e] at j k
  have g:p<s.size:=by rw[←zR];exact k
  obtain⟨x,l⟩:=yE (s.extract 0 p)
  obtain⟨y,m⟩:=yE (s.extract (p+1) s.size)
  have t:x=⟨(Lib.itoa (q.num)).toArray⟩:=ZhR (by rw[←l,(Zg0 e).1,r,fG])
  have u:y=⟨(Lib.itoa (q.den:Int)).toArray⟩:=ZhR (by rw[←m,(Zg0 e).2,j,fG])
  refine xqc 113 [.string s,.string ⟨#[47]⟩] 12 (fun _:Unit=>.tuple #[.string x,.string y,.bool true]) _ (fun w R Q=>yN (ZnF s x y p _ (by rw[←zR];omega) e g l m)) fun f=>?_
  refine xq 7 [yT 4 x,yT 5 y,yB 6 true] [] ?_
  refine yZ (zC (yY (xq 2 [yB 17 false] [] ?_)))
  refine yZ (xb (zJ (zA (yY (xq 4 [yT 2 x,yT 3 y] [] ?_)))))
  refine yZ (zH ?_)
  refine yR (.tuple #[.string x,.string y]) fun w' R Q=>?_
  exact⟨by rw[d,t,u],R⟩
 have d:valF (bytes s)=0:=Zo4 (by cases h:wA (bytes s) with|none=>rfl|some q=>rw[h] at b;exact absurd rfl b)
 refine xqc 51 [.string s] 8 (fun _:Unit=>.bool false) _ (fun w R Q=>(aO s _ Q i).mono (fun _ _ h=>zO h (by rw[rU.2 b]))) fun f=>?_
 refine xq 1 [yB 9 true] [] ?_
 refine yZ (xa (yY (xq 2 [yT 2 ⟨#[48]⟩,yT 3 ⟨#[49]⟩] [] ?_)))
 refine yZ (zH (zL ?_))
 refine yR (.tuple #[.string ⟨#[48]⟩,.string ⟨#[49]⟩]) fun w' R Q=>?_
 exact⟨by rw[d];exact ZnE,R⟩
def Zmj (s:ByteArray) (w:World) (e:Ending) (w':World):Prop:=∃ (r:ByteArray) (neg:Bool),e=.returned (.tuple #[.bool neg,.string r])∧zZ (bytes s)=(neg,bytes r)∧Ext w w'
def Zg4 (x:ByteArray×Bool):Value:=.tuple #[.bool x.2,.string x.1]
theorem ZeG {s:ByteArray}{w w':World}{e:Ending}(h:Zmj s w e w'):lD Zg4 (fun x _=>zZ (bytes s)=(x.2,bytes x.1)) w e w':=by
 obtain⟨r,neg,rfl,h,Q⟩:=h
 exact⟨(r,neg),rfl,Q,BoxN.pure h⟩
theorem ZqY {t:ByteArray}{i:Nat}{c:UInt8}(d:((bytes t).take i).all zX=true)(hc:t[i]? = some c)(e:¬ (c.toNat:Int)<48)(f:¬ (c.toNat:Int)>57):((bytes t).take (i+1)).all zX=true:=by
 have hi:i<t.size:=by
  rcases vO i t.size with b|b
  ·exact b
  rw[getElem?_neg t i qO] at hc;cases hc
 have a:t[i]=c:=by
  rw[nZ t i hi] at hc
  injection hc
 rw[ZaY _ _ hi,pH,d,a]
 have:zX c=true:=by unfold zX;simp;omega
 simp[this]
theorem Zmk {t:ByteArray}{i:Nat}{c:UInt8}(hc:t[i]? = some c)(h:(c.toNat:Int)<48∨(c.toNat:Int)>57):¬ (bytes t).all zX=true:=by
 have hi:i<t.size:=by
  rcases vO i t.size with b|b
  ·exact b
  rw[getElem?_neg t i qO] at hc;cases hc
 have a:t[i]=c:=by
  rw[nZ t i hi] at hc
  injection hc
 intro d
 have e:t[i]∈bytes t:=by
  rw[←Zdf t hi];exact sF _
 have:=cZ (vI.1 d _ e)
 rw[a] at this
 unfold zX at *
 have f:=vI.1 d _ e
 rw[a] at f
 simp at f
 omega
section
variable {s r:ByteArray} {neg:Bool} {x:Int}
theorem Zu0 (h:bytes s=[48]):fvB (bytes s) x=(x == 0):=by unfold fvB;rw[uM h];rfl
theorem Zc0 (h:¬ bytes s=[48])(b:zZ (bytes s)=(neg,bytes r))(a:bytes r=[]∨(bytes r).head? = some 48∨¬ okE x∨¬ (bytes r).all zX=true):fvB (bytes s) x=false:=by
 unfold fvB
 rw[uI h,b]
 refine uV ?_
 rintro⟨c,d,e,f,_⟩
 rcases a with a|a|a|a
 ·exact c a
 ·exact d a
 ·exact a e
 exact a f
theorem ZsV {c c0:UInt8}(h:¬ bytes s=[48])(i:zZ (bytes s)=(neg,bytes r))(b:r[0]? = some c0)(o:¬ (c0.toNat:Int)=48)(p:¬ x < -1048576)(t:¬ x>1048576)(f:(bytes r).all zX=true){k:Nat}(u:r.size=k+1)(d:r[k]? = some c):fvB (bytes s) x=(((c.toNat % 2:Nat):Int) == 1):=by
 have e:bytes r=(bytes r).take k ++ [c]:=by
  have a:k<r.size:=qO
  have:=ZaY r k a
  rw[uB (by rw[zR];omega)] at this
  rw[nZ r k a] at d
  injection d with d
  rw[d] at this
  exact this
 have g:zG (bytes r)%2=c.toNat % 2:=by
  rw[e] at f ⊢
  exact ZqU f
 have j:(bytes r).head? = some c0:=by
  have a:0<r.size:=qO
  rw[nZ r 0 a] at b
  injection b with b
  rw[←b];exact ZaZ a
 unfold fvB
 rw[uI h,i]
 have l:c0.toNat≠48:=qO
 show decide _=decide _
 refine oD.2 ⟨fun q=>?_,fun q=>⟨?_,?_,⟨qO,qO⟩,f,?_⟩⟩
 ·have:=q.2.2.2.2
  show ((c.toNat % 2:Nat):Int)=1
  rw[g] at this;omega
 ·intro m
  have n:bytes r=[]:=m
  have:(bytes r).length=0:=by rw[n];rfl
  rw[zR] at this;omega
 ·rw[j];intro e;injection e with e;exact l (by rw[e];rfl)
 have v:((c.toNat % 2:Nat):Int)=1:=q
 show zG (bytes r)%2=1
 rw[g];omega
end
theorem ZqZ {P:Program}{o:Oper}{ρ:Operand→Value}{w:World}{t k:TypeId}{x y:Operand}{c:UInt8}(a:o.op=Op.binOp .and t x y k)(b:ρ x=.int .u8 (c.toNat:Int))(d:ρ y=.int .u8 1):(execOp ρ o).run P w=.ok (.value (.int .u8 ((c.toNat % 2:Nat):Int))) w:=by
 have h:bits .and .u8 (c.toNat:Int) 1=((c.toNat % 2:Nat):Int):=by
  have f:=c.toNat_lt
  have e:(BitVec.ofInt 8 (c.toNat:Int)).toNat=c.toNat:=by
   rw[BitVec.ofInt_natCast,BitVec.toNat_ofNat];exact vL qO
  show IntKind.u8.wrap ((BitVec.ofInt 8 (c.toNat:Int) &&& BitVec.ofInt 8 1).toNat:Int)=_
  rw[BitVec.toNat_and,e,show (BitVec.ofInt 8 1).toNat=1 from rfl,Nat.and_one_is_mod,IntKind.wrap_u8];omega
 rw[←h]
 simp only[execOp,a,b,d,eqGuard,binOp]
 rfl
theorem ZeH (s:ByteArray)(w:World) :
 Ζ 81 #[.string s] w (Zmj s w):=by
 refine zU (Φ:=fun w=>True) func81 rfl qK (fun w' a=>trivial) ?_
 refine yY (xr 2 [yT 0 s,yB 2 false,yT 3 ⟨#[]⟩] [] ?_)
 refine yZ (yY (xr 1 [yB 2 false,yT 3 ⟨#[]⟩,yT 7 s] [] ?_))
 refine xc 109 [.string s,.string ⟨#[45]⟩] 8 (fun x:ByteArray×Bool=>.tuple #[.string x.1,.bool x.2]) _ (fun w R Q=>yM Znx (Zei s _)) fun⟨r,neg⟩=>?_
 refine xr 5 [yB 2 false,yT 3 ⟨#[]⟩,yT 4 r,yB 5 neg] [] ?_
 refine yZ (yY (xr 4 [yB 2 neg,yT 3 r] [] ?_))
 refine yZ (zH ?_)
 refine yR (.tuple #[.bool neg,.string r]) fun w' R Q=>?_
 exact⟨r,neg,rfl,Q.2,R⟩
theorem Zdw (s:ByteArray)(x:Int)(w:World)(S:(bytes s).length≤1000000) :
 Ζ 68 #[yS s x] w (RetV w (.bool (fvB (bytes s) x))):=by
 refine zU (Φ:=fun w=>True) func68 rfl qK (fun w' T=>trivial) ?_
 refine yY (xq 2 [Δ 1,yB 2 false] [yG 1 67 s x] ?_)
 refine yZ (zC (zC ?_))
 by_cases a:bytes s=[48]
 ·refine zB (xq 3 [yB 8 ((s:ByteArray).toList == (⟨#[48]⟩:ByteArray).toList)] [] ?_)
  rw[Zma a]
  refine yZ (xa (yY (xq 4 [yB 2 ((x:Int) == 0)] [] ?_)))
  refine yZ (zH (zL ?_))
  refine yR (.bool ((x:Int) == 0)) fun w' R Q=>?_
  exact⟨by rw[Zu0 a],R⟩
 refine zB (xq 3 [yB 8 ((s:ByteArray).toList == (⟨#[48]⟩:ByteArray).toList)] [] ?_)
 rw[Zmb a]
 refine yZ (xb (zJ (zA (yY (xq 2 [yT 14 s] [] ?_)))))
 refine xqc 81 [.string s] 15 Zg4 _ (fun w R Q=>yM ZeG (ZeH s _)) fun⟨r,neg⟩=>?_
 refine xq 5 [yT 4 r] [] ?_
 refine yZ (zC (zC ?_))
 refine SXc.know (p:=zZ (bytes s)=(neg,bytes r)) (fun w _ Q=>Q.2) fun l=>?_
 have L:r.size≤1000000:=by have:=Zil l;rw[zR] at this;omega
 by_cases B:bytes r=[]
 ·refine zB (xq 2 [yB 19 ((r:ByteArray).toList == (⟨#[]⟩:ByteArray).toList)] [] ?_)
  rw[Zl8 B]
  refine xq 15 [yB 34 true] [] ?_
  refine yZ (xa (yY (xq 1 [yB 2 false] [] ?_)))
  refine yZ (zH (zL ?_))
  refine yR (.bool false) fun w' R Q=>?_
  exact⟨by rw[Zc0 a l (Or.inl B)],R⟩
 obtain⟨C,M,D⟩:=Zj9 B
 have N:=ZfU B
 refine zB (xq 2 [yB 19 ((r:ByteArray).toList == (⟨#[]⟩:ByteArray).toList)] [] ?_)
 rw[Zl9 B]
 refine xq 2 [yB 20 false,yT 21 r] [] ?_
 refine xqk 22 (.int .u8 (C.toNat:Int)) (fun w R Q=>bX (t:=9) (x:=.tmp 21) (k:=0) (i:=.const (yI 0)) qK qK qK (by rfl) D) ?_
 refine xq 3 [yB 25 (((C.toNat:Int):Int) == 48)] [] ?_
 rcases bl2 ((((C.toNat:Int):Int) == 48)) with b|b
 ·rw[b]
  have n:=sZ.1 b
  refine xq 9 [yB 34 true] [] ?_
  refine yZ (xa (yY (xq 1 [yB 2 false] [] ?_)))
  refine yZ (zH (zL ?_))
  refine yR (.bool false) fun w' R Q=>?_
  exact⟨by rw[Zc0 a l (Or.inr (Or.inl (by rw[M,show C=48 from UInt8.toNat_inj.1 (by show C.toNat=48;omega)])))],R⟩
 rw[b]
 have n:=lQ b
 refine xq 5 [yB 30 (decide (x<(-1048576)))] [] ?_
 rcases bl2 ((decide (x<(-1048576)))) with d|d
 ·rw[d]
  have o:=uC d
  refine xq 4 [yB 34 true] [] ?_
  refine yZ (xa (yY (xq 1 [yB 2 false] [] ?_)))
  refine yZ (zH (zL ?_))
  refine yR (.bool false) fun w' R Q=>?_
  exact⟨by rw[Zc0 a l (Or.inr (Or.inr (Or.inl (by rintro⟨O,P⟩;omega))))],R⟩
 rw[d]
 have o:=uD d
 refine xq 4 [yB 34 (decide (x>1048576))] [] ?_
 refine xe (zA ?_)
 refine yQ ((decide (x>1048576))) (fun f=>?_) fun f=>?_
 ·have q:=uC f
  refine yY (xq 1 [yB 2 false] [] ?_)
  refine yZ (zH (zL ?_))
  refine yR (.bool false) fun w' R Q=>?_
  exact⟨by rw[Zc0 a l (Or.inr (Or.inr (Or.inl (by rintro⟨O,P⟩;omega))))],R⟩
 have q:=uD f
 refine zJ (zA (zC (yY (xq 3 [yJ 36 ((r).size:Int),yJ 37 0] [] ?_))))
 refine yZ (zQ ?_)
 refine xO (fun H I J=>∃ (k:Nat),I=ofL [yB 2 false,yT 4 r,yJ 36 ((r).size:Int),yJ 37 k] []∧J=(fun w=>True)∧(k≤r.size)∧(((bytes r).take k).all zX=true)∧H=(r.size-k)) ((r.size-0)) ⟨0,rfl,rfl,(vS _),rfl,rfl⟩ (fun w Q=>trivial) ?_
 rintro H I J ⟨k,rfl,rfl,U,K,rfl⟩
 refine yY (xq 1 [yB 38 (decide ((k:Int)<((r).size:Int)))] [] ?_)
 refine yZ (zC ?_)
 refine yQ ((decide ((k:Int)<((r).size:Int)))) (fun g=>?_) fun g=>?_
 ·have u:=uC g
  have E:k<r.size:=qO
  obtain⟨c,m⟩:∃ c,r[k]? = some c:=⟨r[k],by simp[E]⟩
  refine zJ (zA (zC (zQ (yY (xq 2 [yJ 5 k] [] ?_)))))
  refine yZ (yY (xq 2 [yT 40 r,yJ 41 k] [] ?_))
  refine xqk 42 (.int .u8 (c.toNat:Int)) (fun w R Q=>bX (t:=9) (x:=.tmp 40) (k:=k) (i:=.tmp 41) qK qK qK qK m) ?_
  refine xq 2 [yB 44 (decide ((c.toNat:Int)<48))] [] ?_
  rcases bl2 ((decide ((c.toNat:Int)<48))) with e|e
  ·rw[e]
   have v:=uC e
   refine xq 5 [yB 49 true] [] ?_
   refine yZ (xa (yY (xq 1 [yB 2 false] [] ?_)))
   refine yZ (zH (wY (zL (zL (wY (zL ?_))))))
   refine yR (.bool false) fun w' R Q=>?_
   exact⟨by rw[Zc0 a l (Or.inr (Or.inr (Or.inr (Zmk m qO))))],R⟩
  rw[e]
  have v:=uD e
  refine xq 2 [yT 45 r,yJ 46 k] [] ?_
  refine xqk 47 (.int .u8 (c.toNat:Int)) (fun w R Q=>bX (t:=9) (x:=.tmp 45) (k:=k) (i:=.tmp 46) qK qK qK qK m) ?_
  refine xq 2 [yB 49 (decide ((c.toNat:Int)>57))] [] ?_
  refine xe (zA ?_)
  refine yQ ((decide ((c.toNat:Int)>57))) (fun j=>?_) fun j=>?_
  ·have z:=uC j
   refine yY (xq 1 [yB 2 false] [] ?_)
   refine yZ (zH (wY (zL (zL (wY (zL ?_))))))
   refine yR (.bool false) fun w' R Q=>?_
   exact⟨by rw[Zc0 a l (Or.inr (Or.inr (Or.inr (Zmk m qO))))],R⟩
  have z:=uD j
  refine zJ (xR (zA (zB (xq 1 [yJ 50 (IntKind.i64.wrap ((k:Int)+1))] [] ?_))))
  rw[yW ((k:Int)+1) (((k+1:Nat):Int)) qO]
  refine xq 1 [yJ 37 (k+1:Nat)] [] ?_
  refine xe ?_
  exact xK ((r.size-(k+1))) qO ⟨(k+1),rfl,rfl,E,(ZqY K m qO qO),rfl⟩ (fun w Q=>trivial)
 have u:=uD g
 have F:(bytes r).all zX=true:=by have h:=K;rw[uB (by rw[zR];omega)] at h;exact h
 refine xM (zE (zE (xW (zA (zC ?_)))))
 obtain⟨A,G⟩:∃ A,r.size=A+1:=⟨r.size-1,qO⟩
 obtain⟨c,m⟩:∃ c,r[A]? = some c:=⟨r[A],by simp[G]⟩
 refine zB (xq 4 [yT 51 r,yJ 54 (IntKind.i64.wrap (((r).size:Int)-1))] [] ?_)
 rw[yW ((r.size:Int)-1) ((A:Int)) qO]
 refine xqk 55 (.int .u8 (c.toNat:Int)) (fun w R Q=>bX (t:=9) (x:=.tmp 51) (k:=A) (i:=.tmp 54) qK qK qK qK m) ?_
 refine xqk 56 (.int .u8 ((c.toNat % 2:Nat):Int)) (fun w R Q=>ZqZ (t:=5) (k:=5) (x:=.tmp 55) (y:=.const (.int .u8 1)) qK qK qK) ?_
 refine xq 2 [yB 2 ((((c.toNat % 2:Nat):Int):Int) == 1)] [] ?_
 refine yZ (zH ?_)
 refine yR (.bool ((((c.toNat % 2:Nat):Int):Int) == 1)) fun w' R Q=>?_
 exact⟨by rw[ZsV a l D qO qO qO F G m],R⟩
theorem Zfz (b:Int)(w:World) :
 Ζ 52 #[.int .i64 b] w (RetV w (.bool (decide (8≤b∧b≤1024)))):=by
 refine zU (Φ:=fun w=>True) func52 rfl qK (fun w' d=>trivial) ?_
 refine yY (xq 1 [yB 2 false] [] ?_)
 refine yZ (yY (xq 3 [yB 5 (decide (b≥8))] [] ?_))
 rcases bl2 ((decide (b≥8))) with a|a
 ·rw[a]
  have c:=uC a
  refine xq 4 [yB 2 (decide (b≤1024))] [] ?_
  refine yZ (zH ?_)
  refine yR (.bool (decide (b≤1024))) fun w' R Q=>?_
  exact⟨vP (fun b=>Ending.returned (Value.bool b)) (oD.2 ⟨fun h=>⟨qO,h⟩,fun h=>h.2⟩),R⟩
 rw[a]
 have c:=uD a
 refine xq 4 [yB 2 false] [] ?_
 refine yZ (zH ?_)
 refine yR (.bool false) fun w' R Q=>?_
 exact⟨by rw[uV (p:=8≤b∧b≤1024) qO],R⟩
section
open Go.RowKit Go.Sort
def ZbS (w:World) (l:List UInt8) (e:Ending) (w':World):Prop:=e=.returned (.string ⟨l.toArray⟩)∧Ext w w'
theorem ZdW (u:Nat)(w:World)(a:u<100) :
 Ζ 130 #[.int .u64 (u:Int),.int .i64 10] w (ZbS w (Lib.decDigits u)):=by
 have b:(u:Int)<100:=qO
 go_enter func130,ntmps130
 go_wp2_with (go_at_call 156;refine (Tryz.internal_strconv_small u a _).mono ?_;rintro e w' ⟨rfl,rfl⟩)
 go_ret
 exact⟨rfl,Fr.refl _ _⟩
theorem Zfh (u i:Nat)(w:World)(v:Glob w)(C:100≤u)(a:u<18446744073709551616)(c:Lib.nDigits u=i) :
 Ζ 130 #[.int .u64 (u:Int),.int .i64 10] w (ZbS w (Lib.decDigits u)):=by
 have n:=Zjk u (by rw[zN];exact a)
 have g:=Lib.decDigits_length u
 rw[c] at g
 rw[g] at n
 have o:prog.arrayLen 216=24:=by simp[Program.arrayLen,underlying216]
 have z:∀ W,(Instr.sliceAt 216 (.pointer (some ⟨w.heap.size,0,none⟩)) none (some (.int .i64 (i:Int))) none).run prog W=.ok (.slice (some ⟨w.heap.size,0,none⟩) i 24) W:=fun W=>by
  rw[run_sliceAt_array_h W 216 ⟨w.heap.size,0,none⟩ (by simp[Program.arrayLen,Program.elem,underlying216]) .i64 (i:Int) qO (by rw[o];omega)]
  go_simp
 have l:=Lib.holds_zero0 w 216 i qO
 have d:=Tryz.internal_strconv_formatBase10 w.heap.size 0 24 u (Array.replicate i 0) (w.alloc (.cells Lib.zeros24 216)) l (by rw[oV,← c];exact Lib.lt_pow_nDigits u) a (by rw[oV];omega)
 have f:=Tryz.internal_strconv_numDigits u qO a (w.alloc (.cells Lib.zeros24 216)) (Lib.tabIs_alloc v.1 _)
 rw[oV] at d
 rw[c] at f
 have q:=zh l
 have x:=zh g
 have r:=zh c
 have D:(100:Int)≤(u:Int):=qO
 clear l o g c v
 go_enter func130,ntmps130
 go_wp2_with (go_at_call 157;refine f.mono ?_;rintro e w' ⟨rfl,rfl⟩)
 go_at_call 158
 refine d.mono ?_
 rintro e w' ⟨rfl,k,E,m,rfl,p⟩
 have s:(convert 159 9 (.slice (some ⟨w.heap.size,0,none⟩) i 24)).run prog ((putRow (fun (b:UInt8)=>Value.int .u8 (b.toNat:Int)) (w.alloc (.cells Lib.zeros24 216)) w.heap.size 0 m).drewN k)=.ok (.string ⟨(Lib.decDigits u).toArray⟩) ((putRow (fun (b:UInt8)=>Value.int .u8 (b.toNat:Int)) (w.alloc (.cells Lib.zeros24 216)) w.heap.size 0 m).drewN k):=by
  have h:=run_convert_bytes_back (P:=prog) ((putRow (fun (b:UInt8)=>Value.int .u8 (b.toNat:Int)) (w.alloc (.cells Lib.zeros24 216)) w.heap.size 0 m).drewN k) 159 9 5 ⟨w.heap.size,0,none⟩ 24 (Lib.decDigits u) underlying159 underlying5 underlying9 (fun j t=>by
   rw[Lib.row_is_numeral (by rw[r.out];exact p) j t,Lib.add_plain,World.cell?_drewN]
   exact cell?_putRow (fun (b:UInt8)=>Value.int .u8 (b.toNat:Int)) _ w.heap.size 0 _ m q.out (by rw[p.size,oV]) j (by rw[p.size];rw[x.out] at t;exact t))
  rw[x.out] at h
  exact h
 obtain⟨A,y⟩:=Lib.fin_at w (.cells Lib.zeros24 216) m k 0
 have Q:Ext w ((putRow (fun (b:UInt8)=>Value.int .u8 (b.toNat:Int)) (w.alloc (.cells Lib.zeros24 216)) w.heap.size 0 m).drewN k):=by
  rw[y];exact Fr.ofBelow (Lib.below_grow _ w (uF _) k A)
 generalize (putRow (fun (b:UInt8)=>Value.int .u8 (b.toNat:Int)) (w.alloc (.cells Lib.zeros24 216)) w.heap.size 0 m).drewN k=w1 at Q s ⊢
 have B:=zh Q
 clear Q y p d f
 go_wp2
 go_ret
 exact⟨rfl,B.out⟩
theorem ZhS (u:Nat)(w:World)(b:Glob w)(a:u<W64) :
 Ζ 101 #[.int .u64 (u:Int),.int .i64 10] w (ZbS w (Lib.decDigits u)):=by
 have h:Ζ 130 #[.int .u64 (u:Int),.int .i64 10] w (ZbS w (Lib.decDigits u)):=by
  rcases vO u 100 with h|h
  ·exact ZdW u w h
  exact Zfh u _ w b h (by rw[zN] at a;exact a) rfl
 have H:=zh h
 clear h b a
 go_enter func101,ntmps101
 go_wp2_with fail
 refine H.out.mono ?_
 rintro e w' ⟨rfl,Q⟩
 have c:=zh Q
 clear Q
 go_wp2
 go_ret
 exact⟨rfl,c.out⟩
end
def chV:List Nat→Nat
 | []=>0
 | c :: cs=>c+10^19*chV cs
theorem Zdy (c:Nat):∀ a:List Nat,chV (a ++ [c])=chV a+(10^19)^a.length*c
 | []=>by simp[chV]
 | d :: a=>by
  show d+10^19*chV (a ++ [c])=d+10^19*chV a+(10^19)^(a.length+1)*c
  rw[Zdy c a,uO (m:=a.length) (n:=10^19),uL,← uH,uG (10^19) ((10^19)^a.length),sG]
structure ChR (n:Nat) (cs:List Nat) (r:Nat):Prop where
 eq:n=chV cs+(10^19)^cs.length*r
 lt:∀ c∈cs,c<10^19
 top:r=0→cs≠[]→∃ l c,cs=l ++ [c]∧0<c
theorem ChR.start (n:Nat):ChR n [] n:=⟨by simp[chV],fun c h=>by simp at h,fun _ h=>absurd rfl h⟩
theorem ChR.step {n r:Nat}{cs:qN}(h:ChR n cs r)(e:0<r):ChR n (cs ++ [r%10^19]) (r/10^19):=by
 refine⟨?_,fun c b=>?_,fun d _=>⟨cs,_,rfl,?_⟩⟩
 ·rw[Zdy,vE,rV,uO (m:=cs.length) (n:=10^19),uH,sG,← uL,sM]
  exact h.eq
 ·rcases rD.1 b with a|a
  ·exact h.lt c a
  rw[rJ.1 a];exact uP _ qD
 have a:=sM r (10^19)
 rw[d,tX,tP] at a
 omega
theorem Zml {cs:qN}(h:∃ l c,cs=l ++ [c]∧0<c):0<chV cs:=by
 obtain⟨l,c,rfl,a⟩:=h
 rw[Zdy]
 have:=sK (uZ (n:=l.length) (show 0<10^19 by decide)) a
 omega
theorem Zkg {cs:qN}{i:Nat}(hi:i<cs.length)(h:∃ l c,cs=l ++ [c]∧0<c):∃ l c,cs.drop i=l ++ [c]∧0<c:=by
 obtain⟨l,c,rfl,a⟩:=h
 rw[vE,rV] at hi
 exact⟨l.drop i,c,List.drop_append_of_le_length qO,a⟩
theorem Zq0 {cs:qN}{i c:Nat}(hi:i<cs.length)(a:cs[i]?.getD 0=c)(d:∀ c∈cs,c<10^19)(e:∃ l c,cs=l ++ [c]∧0<c) :
 wV (chV (cs.drop i))=if i+1<cs.length then wV (chV (cs.drop (i+1))) ++ (List.replicate (19-(Lib.decDigits c).length) 48 ++ Lib.decDigits c) else Lib.decDigits c:=by
 have f:cs.drop i=c :: cs.drop (i+1):=by
  rw[tW hi]
  rw[uR hi] at a
  simp only[qW] at a
  rw[a]
 have b:c<10^19:=by
  rw[uR hi] at a
  simp only[qW] at a
  rw[←a];exact d _ (sF hi)
 rw[f]
 show wV (c+10^19*chV (cs.drop (i+1)))=_
 by_cases h:i+1<cs.length
 ·rw[uM h,vW,uG,ZiQ (Zml (Zkg h e)) 19 c b,Zqh qO b]
 rw[uI h,vF qO]
 show wV (c+10^19*0)=_
 have g:=Zml (Zkg hi e)
 rw[f,vF qO] at g
 rw[tX,tP]
 exact jQ (by simp[chV] at g;omega)
theorem Zkk (t:ByteArray)(v:Nat)(w:World)(b:(bytes t).all zX=true)(a:zG (bytes t)=v)(g:t.size≠0)(k:t.size≤1099511627776)(c:v<18446744073709551616) :
 Ζ 116 #[.string t,.int .i64 10,.int .i64 64] w fun e w'=>e=.returned (.tuple #[.int .u64 (v:Int),.nilIface])∧Ext w w':=by
 have d:Lib.parseUint10 0 t.data.toList=.ok v:=by
  have h:=pu10 (bytes t) 0 b (by rw[sD,vZ,a];exact c)
  rw[sD,vZ,a] at h
  exact h
 have h:=Tryz.internal_strconv_ParseUint_10_b64 t g qO w
 rw[d] at h
 have f:Ζ 151 #[.string t,.int .i64 10,.int .i64 64] w fun e w'=>e=.returned (.tuple #[.int .u64 (v:Int),.nilIface])∧Ext w w':=by
  refine h.mono ?_
  rintro e w' ⟨rfl,rfl⟩
  exact⟨rfl,rfl,rfl,rfl,by rw[Lib.bytesWorld_size];omega,fun i hi _=>Lib.bytesWorld_at_old _ _ _ i hi⟩
 have H:=zh f
 clear h f d b a c
 go_enter func116,ntmps116
 go_wp2_with fail
 refine H.out.mono ?_
 rintro e w' ⟨rfl,Q⟩
 have j:=zh Q
 clear Q
 go_wp2
 go_ret2
 exact⟨rfl,j.out⟩
def ZnH (w wr:World) (T:Nat) (d:ByteArray) (A:Option Addr) (cap:Nat) (xs:List Nat):Prop :=
 Buf .u64 84 wr A cap xs∧PaR T (bytes d) xs∧Ext w wr∧∀ b,xQ A b→w.heap.size≤b
theorem ZdA (d:ByteArray)(w:World)(T:Nat)(hd:(bytes d).all zX=true)(hT:zG (bytes d)=T)(hw:wl T≤1048576)(hl:d.size≤1099511627776) :
 Ζ 83 #[.string d] w (lH w T):=by
 have HS:=zh (PaR.start hd hT)
 clear hd hT
 have ha:=ZbB
 go_enter func83,ntmps83
 go_wp2
 go_loopw [0,3] (fun v0 v3 wr=>∃ (d:ByteArray) (A:Option Addr) (f:Nat) (j:List Nat),v0=.string d∧v3=.slice A j.length f∧d.size≤1099511627776∧Hid (ZnH w wr T d A f j)) (fun v0 _ _=>match v0 with | .string d=>d.size | _=>0)
 case atStart=>exact⟨d,none,0,[],rfl,rfl,hl,Buf.nil,HS.out,Fr.refl _ _,fun b t=>by obtain⟨a,ha,_⟩:=t;cases ha⟩
 case round =>
  obtain⟨d,A,f,j,rfl,rfl,hl,B⟩:=hrel
  by_cases t0:0<d.size
  ·have u0:=B.out.2.1.len
   obtain⟨n,hn⟩:=yE d.size
   obtain⟨z,hz⟩:=yE ((n-1)%19)
   have w0:z≤18:=qO
   have c0:z+1≤n:=by have:=mU (n-1) 19;omega
   have e1:((n:Int)-1)%19=(z:Int):=qO
   have y0:(1:Int)≤(n:Int):=qO
   have z0:(0:Int)≤(n:Int)-1:=qO
   have A0:((z:Int)+1)≤(n:Int):=qO
   have B0:((z:Int)+1).toNat=z+1:=qO
   have I:(bytes d).length=n:=by rw[zR];exact hn
   have J:(d.extract 0 (z+1)).size=z+1:=by rw[qE];omega
   have K:bytes (d.extract 0 (z+1))=(bytes d).take (z+1):=by rw[kI];simp
   obtain⟨c,hc⟩:=yE (zG ((bytes d).take (z+1)))
   have d0:=B.out.2.1.chunk (z:=z) qO (by rw[I];exact hz)
   rw[hc] at d0
   have P:∀ W,Ζ 116 #[.string (d.extract 0 (z+1)),.int .i64 10,.int .i64 64] W fun e w'=>e=.returned (.tuple #[.int .u64 (c:Int),.nilIface])∧Ext W w':=fun W =>
    Zkk _ c W (by
     rw[K,vI];intro x hx
     exact vI.1 B.out.2.1.all _ (sU hx)) (by rw[K];exact hc) (by rw[J];omega) (by rw[J];omega) qO
   have Q:bytes (d.extract (z+1) d.size)=(bytes d).drop (z+1):=by
    rw[kI,uB (by rw[tB,zR];exact uF _)]
   have C:(d.extract (z+1) d.size).size=d.size-(z+1):=by rw[qE];omega
   have e0:=zh Q
   have D:=zh C
   have f0:=zh P
   have g0:Hid (((bytes d).length-1)%19=z):=by unfold Hid;rw[I];exact hz
   have i0:Hid (0<(bytes d).length):=by unfold Hid;omega
   have Hc:=zh hc
   have Hn:=zh hn
   clear Q C P K J I hc hz
   go_wp2_with fail
   refine (f0.out _).mono ?_
   rintro e wB ⟨rfl,E⟩
   have HX:=zh E
   clear E
   have C0:z+1≤d.size:=by rw[Hn.out];exact c0
   clear hn
   go_wp2_with fail
   have j0:=zh B.out.1
   have HP:=zh B.out.2.1
   have k0:=zh B.out.2.2.1
   have u:=zh B.out.2.2.2
   have F:(d.extract (z+1) d.size).size≤1099511627776:=by rw[D.out];omega
   have l:Hid ((d.extract (z+1) d.size).size<d.size):=by rw[Hid,D.out];omega
   have o:Hid (∀ m q,gQ j 10000000000000000000 c j.length m q→PaR T (bytes (d.extract (z+1) d.size)) (if q=0 then m else m ++ [q])):=by
    intro m q G
    rw[e0.out]
    exact HP.out.step i0.out g0.out (by rw[Hc.out];exact G)
   generalize d.extract (z+1) d.size=d2 at *
   have l0:Hid (c<W64):=by unfold Hid;rw[zN];omega
   have L:Hid (10000000000000000000<W64):=by unfold Hid;rw[zN];omega
   go_loopw [5,32] (fun v9 m0 wx=>∃ (k q:Nat) (m:List Nat),k≤j.length∧m0=.int .i64 (k:Int)∧v9=.int .u64 (q:Int)∧Hid (gQ j 10000000000000000000 c k m q)∧Hid (Buf .u64 84 wx A f m)∧Hid (Fr (xQ A) wB wx)) (fun _ v _=>j.length-(intOf v).toNat)
   case atStart=>exact⟨0,c,j,qO,rfl,rfl,gQ.start HP.out.dig l0.out,j0.out.ext HX.out,Fr.refl _ _⟩
   case round =>
    obtain⟨k,q,m,hk,rfl,rfl,G,hB,hF⟩:=hrel
    have g:m.length=j.length:=G.out.1
    by_cases n0:k<j.length
    ·obtain⟨b,rfl,R,hC,S,U⟩:=hB.out.open_ (by intro e;rw[e] at g;simp at g;omega)
     obtain⟨y,hy⟩:=yE (m[k]?.getD 0)
     have M:=R.cell (i:=k) qO
     rw[hy] at M
     have x0:=R.frozen k
     have V:Hid (y<W64):=hy ▸ G.out.2.2.1.getD zK k
     have o0:=zh (G.out.step n0 hy L.out)
     have X:=fun v=>Buf.set_ R hC S U k v qO
     have p0:=zh X
     have q0:=zh G.out.2.2.2.1
     have HW:Hid (IntKind.u64.wrap ((wW y 10000000000000000000:Int)+(xN (xF y 10000000000000000000) q 0:Int))=(maHi y 10000000000000000000 q:Int)):=by
      have h:=ZcI V.out L.out q0.out
      unfold Hid maHi at *
      rw[←rX,wK _ h]
     have r0:=R.lt
     have r:=zh g
     clear R hC S U hy X g
     go_wp2_with (go_at_call 117;refine (ZaV _ _ V.out L.out _).mono ?_;rintro e w' ⟨rfl,rfl⟩)
     go_roundw
     case rel=>exact⟨k+1,_,_,qO,by go_num,by rw[HW.out],o0.out,p0.out _,hF.out.setCell (p:=⟨b,k,none⟩) (Or.inl ⟨_,rfl,rfl⟩) _⟩
     case measure=>simp[intOf];omega
    obtain rfl:k=j.length:=qO
    have N:Hid (Ext w wr):=(k0.out.trans HX.out).next hF.out (fun i hi t=>by have:=u.out i t;omega)
    by_cases hq:q=0
    ·subst hq
     have O:=o.out m 0 G.out
     rw[uM rfl] at O
     have s:Hid (ZnH w wr T d2 A f m):=⟨hB.out,O,N.out,u.out⟩
     have r:=zh g
     clear O g
     go_wp2
     go_roundw
     case rel=>exact⟨d2,A,f,m,rfl,by rw[r.out],F,s.out⟩
     case measure=>exact l.out
    have D0:(0:Int)<(q:Int):=qO
    have O:=o.out m q G.out
    rw[uI hq] at O
    have Y:=zh O
    have r:=zh g
    have s0:Hid (zI .u64 (wr.alloc (.cells #[.int .u64 (q:Int)] 84)) (some ⟨wr.heap.size,0,none⟩) [q]):=(Own.new wr 84 .u64 [q] []).shows0
    clear O g hq
    go_wp2_with (at_builtin;refine Hid.out ?_)
    refine zh ?_
    refine lF rfl _ _ _ rfl _ .u64 8 underlying97 dR A (some ⟨wr.heap.size,0,none⟩) j.length 1 f 1 rfl rfl m [q] r.out rfl (hB.out.ext ((Fr.refl _ _).alloc _)) s0.out (by simp only[maxLen];omega) qO ?_
    intro A1 H w2 Z a0 b0
    have s:Hid (ZnH w w2 T d2 A1 H (m ++ [q])):=by
     refine⟨Z,Y.out,?_,?_⟩
     ·exact (N.out.alloc _).next a0 (fun i hi t=>by have:=u.out i t;omega)
     intro b t
     rcases b0 b t with h|h
     ·exact u.out b h
     have:=N.out.size;simp at h;omega
    clear Z a0 b0
    go_wp2
    go_roundw
    case rel=>exact⟨d2,A1,H,m ++ [q],rfl,by rw[vE,r.out];rfl,F,s.out⟩
    case measure=>exact l.out
  have h0:d.size=0:=qO
  obtain⟨h1,h2,h3,h4⟩:=B.out
  have hN:Hid (lH w T (.returned (.slice A j.length f)) wr):=by
   refine⟨_,rfl,?_,h3⟩
   have t:bytes d=[]:=pD (by rw[zR];exact h0)
   rw[t] at h2
   exact⟨A,j,f,rfl,h1.len,h1.shows,h2.dig,h2.trim,h2.done⟩
  clear h1 h2 h3 h4
  go_wp2
  go_ret
  exact hN.out
def RowD (w:World) (v:Value) (m:Nat):Prop:=∃ xs,eI w v xs∧Dig W32 xs∧val W32 xs=m
theorem RowD.nrb {S:Nat→Prop}{w w':World}{v:Value}{m:Nat}(h:RowD w v m)(a:∀ i,S i→NRB w i)(b:Fr S w w'):RowD w' v m:=by
 obtain⟨c,d,e⟩:=h
 exact⟨c,d.nrb a b,e⟩
theorem Zq2 {w w':World}{e:Ending}{m:Nat}(h:bV w m e w'):lD xI (fun x w=>zW w (xI x) m) w e w':=by
 obtain⟨v,rfl,b,Q⟩:=h
 obtain⟨A,a,c,rfl,h⟩:=b
 exact⟨(A,a.length,c),rfl,Q,boxn Q (fun S d f g=>zW.nrb (u:=.slice A a.length c) ⟨A,a,c,rfl,h⟩ f g)⟩
theorem Zpq {A:qA}{l c m s:Nat}(w:World)(h:zW w (.slice A l c) m)(x:l≤17592186044416)(a:s≤31) :
 Ζ 43 #[.slice A l c,.int .u64 (s:Int)] w (lD (fun b:Nat=>.slice (some ⟨b,0,none⟩) (l+1) (l+1)) (fun b w=>RowD w (.slice (some ⟨b,0,none⟩) (l+1) (l+1)) (m*2^s)) w):=by
 obtain⟨d,f,g,_,i⟩:=h.row
 obtain⟨j,y,k⟩:=f.shows
 refine (Zel A d l c s w j k qO g a).mono ?_
 rintro e w' ⟨n,rfl,o,p,q,r,Q⟩
 refine⟨w.heap.size,rfl,Q,boxn Q (fun S t u v=>RowD.nrb ⟨n,?_,q,by rw[r,i]⟩ u v)⟩
 have:=p.row (c:=l+1) qO
 rw[o] at this;exact this
theorem ZfX {P:Program}{o:Oper}{ρ:Operand→Value}{w:World}{x y:Operand}{t e:TypeId}(u:o.op=.call { callee:=.builtin .append,args:=#[x,y],argTypes:=#[t,t] })(B:P.underlying t=some (.slice e))(a:(P.info? e).map (fun i=>(i.zero,i.size,i.bytes))=some (some (.int .u32 0),1,4)){b:Addr}{A:qA}{n k cap c m:Nat}(C:ρ x=.slice (some b) n cap)(D:ρ y=.slice A k c)(E:eI w (.slice (some b) n cap) (List.replicate n 0))(F:RowD w (.slice A k c) m)(G:cap<n+k)(h:n+k≤35184372088832) :
 Does P o ρ w (DoR (fun z:Option Addr×Nat=>.slice z.1 (n+k) z.2) (fun z w=>RowD w (.slice z.1 (n+k) z.2) (W32^n*m)) w):=by
 obtain⟨r,s,H,I⟩:=F
 have g:∀ {w:World} {z:ShN},z.2.1=n+k→eI w (xI z) (List.replicate n 0 ++ r)→RowD w (.slice z.1 (n+k) z.2.2) (W32^n*m):=fun {w z} e hR =>
  ⟨_,by rw[←e];exact hR,(Dig.replicate xA n).append H,by rw[kO,kX,tZ,I,vZ]⟩
 have len:∀ {w:World} {z:ShN},eI w (xI z) (List.replicate n 0 ++ r)→z.2.1=n+k:=fun {w z} hR=>by
  have J:=hR.shows.1
  have M:=s.shows.1
  simp at J;omega
 rcases ZiX u B a C D E s G h with ⟨v,w',l,z,rfl,Q,j⟩|⟨f,args,K,l,L⟩
 ·have e:=len (j (fun _=>False) (fun _ f=>f.elim) w' (Fr.refl _ _))
  exact Or.inl ⟨_,w',l,(z.1,z.2.2),by simp[xI,e],Q,fun S p d q=>g e (j S p d q)⟩
 exact Or.inr ⟨f,args,K,l,L.mono (fun N w' h=>by
  obtain⟨v,rfl,z,rfl,Q,j⟩:=h
  have e:=len (j (fun _=>False) (fun _ f=>f.elim) w' (Fr.refl _ _))
  exact⟨_,rfl,(z.1,z.2.2),by simp[xI,e],Q,fun S p d q=>g e (j S p d q)⟩)⟩
theorem Zpr {A:qA}{l c m:Nat}(w:World)(h:RowD w (.slice A l c) m)(k:l≤70368744177664):Ζ 42 #[.slice A l c] w (bV w m):=by
 obtain⟨a,f,g,i⟩:=h
 obtain⟨j,b,d⟩:=f.shows
 refine (kE A a l c w j d b qO).mono ?_
 rintro e w' ⟨rfl,rfl⟩
 exact⟨_,rfl,⟨A,wL a,c,by rw[wQ],by rw[wQ];exact uA (gN _ _) b,d.take _,iM g,iQ a,by rw[lG,i]⟩,Fr.refl _ _⟩
theorem Zq3 {w:World}{s:Bool}{A:qA}{l c k:Nat}{z:Int}(h:xB w (vI2 s A l c) z):sg s (W32^(k/32)*(z.natAbs*2^(k%32)))=z*2^k:=by
 obtain⟨_,h2,_⟩:=h.opn
 have e:W32^(k/32)*(z.natAbs*2^(k%32))=z.natAbs*2^k:=by
  rw[xD,show (4294967296:Nat)=2^32 from rfl,← qI,tL,← uU,vX]
 rw[e]
 have b:(z.natAbs:Int)=z∧s=false∨(z.natAbs:Int) = -z∧s=true:=by
  cases s<;>simp[sg] at h2 ⊢<;>omega
 rcases b with ⟨a,rfl⟩|⟨a,rfl⟩
 ·simp only[sg,oK,pM,tG,a,vY];rfl
 simp only[sg,mR,tG,a,vY];rw[mL,Int.neg_neg];rfl
theorem Zu1 {k:Nat}(a:k≤1099511627776):IntKind.i64.wrap ((k:Int).tdiv 32)=((k/32:Nat):Int):=by
 rw[rB qO,IntWalk.i64_in _ qO];omega
theorem Zu2 {k:Nat}:(k:Int).tmod 32=((k%32:Nat):Int):=by
 rw[sE qO];omega
theorem Zue {k:Nat}:IntKind.u64.wrap ((k%32:Nat):Int)=((k%32:Nat):Int):=by
 rw[IntKind.wrap_u64];omega
theorem Zps (a:Value)(x:Int)(k:Nat)(w:World)(ha:xB w a x)(D:wI x)(E:k≤1099511627776) :
 Ζ 18 #[a,.int .i64 (k:Int)] w (kH w (x*2^k)):=by
 obtain⟨f,g,e,i,rfl⟩:=ha.shp
 have F:e≤17592186044416:=by obtain⟨M,G,H,I,J⟩:=ha.mag.row;have N:=G.shows.1;have K:=jA H I;rw[J] at K;unfold wI at D;omega
 have B:decide ((k:Int)≥0)=true:=vQ qO
 refine zU (Φ:=fun w=>xB w (vI2 f g e i) (x)) func18 rfl qK (fun w' L=>ha.ext L) ?_
 refine yY (xr 2 [yJ 1 k,Δ 2,Δ 4] [bI2 4 30 false none 0 0,bI2 2 30 f g e i] ?_)
 refine yZ (zC (yY (xr 2 [yJ 1 k,Δ 2,Δ 4,yB 11 (decide ((k:Int)≥0))] [bI2 4 30 false none 0 0,bI2 2 30 f g e i] ?_)))
 rw[B]
 refine xr 0 [yJ 1 k,Δ 2,Δ 4,yB 11 true] [bI2 4 30 false none 0 0,bI2 2 30 f g e i] ?_
 refine yZ (xa (yY (xr 2 [yJ 1 k,Δ 2,Δ 4,yJ 13 (IntKind.i64.wrap (((k:Int)).tdiv 32))] [bI2 4 30 false none 0 0,bI2 2 30 f g e i] ?_)))
 rw[Zu1 E]
 refine yD (d:=14) (fun b:Nat=>Υ b (k/32)) (fun b w=>eI w (Υ b (k/32)) (List.replicate (k/32) 0)) (fun w R Q=>Zk8 (l:=.tmp 13) (c:=.tmp 13) (kl:=.i64) (kc:=.i64) qK underlying28 cY qK qK qO) fun j=>?_
 refine xr 1 [yJ 1 k,Δ 2,Δ 4,eS1 5 (yL j) (k/32) (k/32)] [bI2 4 30 false none 0 0,bI2 2 30 f g e i] ?_
 refine yZ (zC ?_)
 refine yO 13 zM ?_
 refine xf 7 [yJ 1 k,Δ 2,Δ 4,yB 16 f,eS1 17 (yL j) (k/32) (k/32),eS1 19 g e i,yJ 21 (((k:Int)).tmod 32)] [bI2 4 30 false none 0 0,bI2 2 30 f g e i] ?_
 rw[Zu2]
 refine xf 1 [yJ 1 k,Δ 2,Δ 4,yB 16 f,eS1 17 (yL j) (k/32) (k/32),eS1 19 g e i,yU 22 (IntKind.u64.wrap (((k%32:Nat):Int)))] [bI2 4 30 false none 0 0,bI2 2 30 f g e i] ?_
 rw[Zue]
 refine xd 43 [.slice g e i, yX (k%32:Nat)] 23 (fun b:Nat=>Υ b (e+1)) _ (fun w R Q=>Zpq (s:=k%32) _ Q.1.mag F qO) fun C=>?_
 refine xf 0 [yJ 1 k,Δ 2,Δ 4,yB 16 f,eS1 17 (yL j) (k/32) (k/32),eS1 23 (yL C) (e+1) (e+1)] [bI2 4 30 false none 0 0,bI2 2 30 f g e i] ?_
 refine ZcT 24 (fun z:Option Addr×Nat=>.slice z.1 (k/32+(e+1)) z.2) (fun z w=>RowD w (.slice z.1 (k/32+(e+1)) z.2) (W32^(k/32)*((x).natAbs*2^(k%32)))) qK qK qK qK qK qK qK (fun w R Q=>ZfX (x:=.tmp 17) (y:=.tmp 23) qK underlying28 cY qK qK Q.1.2 Q.2 qO qO) fun⟨m,n⟩=>?_
 refine xf 0 [yJ 1 k,Δ 2,Δ 4,yB 16 f,eS1 24 m (k/32+(e+1)) n] [bI2 4 30 false none 0 0,bI2 2 30 f g e i] ?_
 refine xd 42 [.slice m (k/32+(e+1)) n] 25 xI _ (fun w R Q=>yM Zq2 (Zpr _ Q.2 qO)) fun⟨o,q,r⟩=>?_
 refine xf 0 [yJ 1 k,Δ 2,Δ 4,yB 16 f,eS1 25 o q r] [bI2 4 30 false none 0 0,bI2 2 30 f g e i] ?_
 refine xd 41 [.bool f,.slice o q r] 26 wC _ (fun w R Q=>(bG _ _ (W32^(k/32)*((x).natAbs*2^(k%32))) _ Q.2).mono (fun _ _ h=>xV (by rw[Zq3 Q.1.1.1.1] at h;exact h))) fun⟨t,u,v,A⟩=>?_
 refine xf 1 [yJ 1 k,Δ 2,Δ 4] [bI2 4 30 t u v A,bI2 4 30 false none 0 0,bI2 2 30 f g e i] ?_
 refine xz (yZ (zH (zL ?_)))
 refine yR (vI2 t u v A) fun w' R Q=>?_
 exact⟨_,rfl,Q.2,R⟩
theorem Zmr {x r:Nat}(a:0<r)(k:0<x):x<((r+x/r)/2^1+1)*((r+x/r)/2^1+1)∧0<(r+x/r)/2^1:=by
 obtain⟨q,c⟩:=yE (x/r)
 have f:=vX x r
 have l:=uP x a
 rw[c] at f ⊢
 obtain⟨m,g⟩:=yE ((r+q)/2^1)
 rw[g]
 have i:r+q≤2*m+1:=qO
 have j:x<r*(q+1):=by rw[uL,sH];omega
 have n:4*(r*(q+1))≤(r+q+1)*(r+q+1):=by
  rcases nU r (q+1) with h|h
  ·obtain⟨d,b⟩:=nS h
   have e:r+q+1=r+(r+d):=qO
   rw[e,b]
   simp only[uL,uW]
   have:=vS (d*d)
   rw[uG d r];omega
  obtain⟨d,b⟩:=nS h
  have e:r+q+1=(q+1+d)+(q+1):=qO
  rw[e,b]
  generalize q+1=p
  simp only[uL,uW]
  have:=vS (d*d)
  rw[uG d p];omega
 have o:(r+q+1)*(r+q+1)≤(2*(m+1))*(2*(m+1)):=vK qO qO
 have s:(2*(m+1))*(2*(m+1))=4*((m+1)*(m+1)):=by
  rw[pC]
 refine⟨qO,?_⟩
 rcases uJ m with e|e
 ·exfalso
  subst e
  have:r=1:=qO
  subst this
  have:q=0:=qO
  subst this
  omega
 exact e
theorem Zuk {x r r0:Nat}(h:¬ (r+x/r)/2^1<r)(c:x<(r+1)*(r+1))(d:r0*r0≤x)(e:x<(r0+1)*(r0+1)):r=r0:=by
 have b:r≤x/r:=qO
 have f:r*r≤x:=by
  have:=pI x r
  have:=uE r b
  omega
 rcases pF r r0 with a|a|a
 ·have:=vK (show r+1≤r0 by omega) (show r+1≤r0 by omega);omega
 ·exact a
 have:=vK (show r0+1≤r by omega) (show r0+1≤r by omega);omega
theorem Zkp {x k:Nat}(h:x<2^k):x<(1*2^((k+1)/2)+1)*(1*2^((k+1)/2)+1)∧0<1*2^((k+1)/2):=by
 rw[qH]
 have b:2^k≤2^((k+1)/2)*2^((k+1)/2):=by rw[←uU];exact vC qO qO
 have a:=uZ (n:=(k+1)/2) (show 0<2 by omega)
 refine⟨?_,a⟩
 have:=vK (Nat.le_succ (2^((k+1)/2))) (Nat.le_succ (2^((k+1)/2)))
 simp only[nE] at this
 omega
theorem Zu4 {k m:Nat}(h:k≤64*m):wl (1*2^((k+1)/2))≤m+1:=by
 rw[qH]
 refine kK.2 ?_
 rw[zN,show (18446744073709551616:Nat)=2^64 from rfl,← qI]
 exact Nat.pow_lt_pow_right qO qO
theorem Zpw {q r:Nat}{w w':World}{e:Ending}(h:ZcE w q r e w'):lD (fun x:ShN×ShN=>.tuple #[xI x.1,xI x.2]) (fun x w=>zF w (xI x.1) q∧zF w (xI x.2) r) w e w':=by
 obtain⟨u,v,rfl,a,b,Q⟩:=h
 obtain⟨A,l,c,rfl⟩:=a.slice
 obtain⟨g,i,j,rfl⟩:=b.slice
 exact⟨((A,l,c),(g,i,j)),rfl,Q,boxn Q (fun S k d f=>⟨a.nrb d f,b.nrb d f⟩)⟩
theorem rw1 {k:Nat}(h:k≤100000):IntKind.i64.wrap ((k:Int)+1)=((k+1:Nat):Int):=by rw[IntKind.wrap_i64];omega
inductive RootIs (p:Rat):ByteArray→Bool→Prop
 | neg (h:p.num<0):RootIs p ⟨#[]⟩ false
 | no1 (n d:Nat) (h0:0≤p.num) (hn1:n*n≤p.num.natAbs) (hn2:p.num.natAbs<(n+1)*(n+1)) (hd1:d*d≤(p.den:Int).natAbs) (hd2:(p.den:Int).natAbs<(d+1)*(d+1)) (h:¬ n*n=p.num.natAbs):RootIs p ⟨#[]⟩ false
 | no2 (n d:Nat) (h0:0≤p.num) (hn1:n*n≤p.num.natAbs) (hn2:p.num.natAbs<(n+1)*(n+1)) (hd1:d*d≤(p.den:Int).natAbs) (hd2:(p.den:Int).natAbs<(d+1)*(d+1)) (hnn:n*n=p.num.natAbs) (h:¬ d*d=(p.den:Int).natAbs):RootIs p ⟨#[]⟩ false
 | yes (n d:Nat) (Q:Rat) (h0:0≤p.num) (hn1:n*n≤p.num.natAbs) (hn2:p.num.natAbs<(n+1)*(n+1)) (hd1:d*d≤(p.den:Int).natAbs) (hd2:(p.den:Int).natAbs<(d+1)*(d+1)) (hnn:n*n=p.num.natAbs) (hdd:d*d=(p.den:Int).natAbs) (hQn:Q.num=(n:Int)) (hQd:(Q.den:Int)=(d:Int)):RootIs p ⟨(xC Q).toArray⟩ true
def frz (b g:Nat):AV→AV
 | .v x=>.v x
 | .p b' off=>bif Nat.beq b' b then .v (.pointer (some ⟨g,off,none⟩)) else .p b' off
theorem Zkq (L:Nat→Nat)(b:Nat)(x:AV):(frz b (L b) x).conc L=x.conc L:=by
 cases x with
 | v x=>rfl
 | p b' off =>
  show (bif Nat.beq b' b then AV.v (.pointer (some ⟨L b,off,none⟩)) else .p b' off).conc L=_
  cases h:Nat.beq b' b with
  | true =>
   have e:=mC h
   subst e
   rfl
  | false=>rfl
section
variable {N:Nat} {S0:Nat→Prop} {w0:World} {s:St} {Φ:World→Prop} {P:Program} {Q:Exit→Act→World→Prop}
theorem SXc.freeze {c:Code}(b:Nat)(t:TypeId)(cs:List Value)(k:Nat→SlL)(j:BlL)(z:s.bl b=some (t,cs.map .v))(E:∀ g,(k g).map (fun q=>(s.sl q.1).map (frz b g))=(k g).map (fun q=>some q.2))(F:j.map (fun q=>s.bl q.1)=j.map (fun q=>some q.2))(G:j.all (fun q => !(Nat.beq q.1 b))=true)(H:∀ g,wfB (k g) j=true)(h:∀ g,SXc P N S0 w0 Q c (ofL (k g) j) (fun w=>Φ w∧Blk t w g cs.toArray)):SXc P N S0 w0 Q c s Φ:=by
 intro L a w hi
 refine h (L b) L a w ?_
 have m:=H (L b)
 unfold wfB at m
 rw[sA] at m
 have r:∀ i x,(ofL (k (L b)) j).bl i=some x→s.bl i=some x:=fun i x o=>gO (f:=fun q:Nat × TypeId×List AV=>s.bl q.1) (g:=fun q=>some q.2) F (lV o)
 have A:∀ i x,(ofL (k (L b)) j).bl i=some x→i≠b:=fun i x o e=>by
  have:=vI.1 G _ (lV o)
  simp[e] at this
 have l:∀ i,((ofL (k (L b)) j).bl i).isSome=true→(s.bl i).isSome=true∧i≠b:=fun i u=>by
  obtain⟨q,e⟩:=sY.1 u
  exact⟨by rw[r i q e];rfl,A i q e⟩
 have n:(s.bl b).isSome=true:=by rw[z];rfl
 have I:=hi.mem.blk b t _ z
 refine⟨hi.size,hi.df,fun i x o=>?_,⟨fun c t cs e=>hi.mem.blk c t cs (r c _ e),fun c d p J=>hi.mem.inj c d (l c p).1 (l d J).1,fun c p=>hi.mem.old c (l c p).1,hi.mem.ext,fun i c B e=>?_,fun c t cs e x o=>⟨(hi.mem.cel c t cs (r c _ e) x o).1,fun d B K=>?_⟩⟩,fun w' C=>⟨hi.box w' (C.mono (fun i _ u=>?_)),?_⟩⟩
 ·have D:=gO (f:=fun q:Nat × AV=>(s.sl q.1).map (frz b (L b))) (g:=fun q=>some q.2) (E (L b)) (lV o)
  simp only at D
  obtain⟨y,M,e⟩:=vM.1 D
  have:=hi.sl i y M
  rw[this,← e,Zkq]
 ·exact vI.1 m.1 _ (lV e)
 ·have:=vI.1 (vI.1 m.2 _ (lV e)) x o
  rw[K] at this
  exact this
 ·obtain⟨c,p,e⟩:=u
  exact⟨c,(l c p).1,e⟩
 have:Blk t w (L b) cs.toArray:=by simpa [pV,Function.comp_def,AV.conc] using I
 refine this.fr C fun⟨c,p,e⟩=>?_
 exact (l c p).2 (hi.mem.inj c b (l c p).1 n e)
end
section
variable {N:Nat} {S0:Nat→Prop} {w0:World} {s:St} {Φ Ψ:World→Prop} {L:Nat→Nat} {a:Act} {w:World} {P:Program} {ops:Array Oper} {Q:Exit→Act→World→Prop}
theorem ZsZ {i:Nat}{t bt:TypeId}{x y:Operand}{cs:List Value}(b off:Nat)(v:Value)(Ψ:World→Prop)(p:∀ w,Φ w→Blk bt w b cs.toArray)(l:off<cs.length)(d:w0.heap.size≤b∨S0 b)(r:v.oneCell'=true)(k:v.cells.toList=[v])(u:∀ w w',Φ w→Fr (fun i=>i=b) w w'→Ψ w')(K:SXi P N S0 w0 ops Q (i+1) s (fun w=>Ψ w∧Blk bt w b (cs.set off v).toArray))(m:Nat.blt i ops.size=true:=by kernel_rfl)(z:s.wantB ops (opAt ops i)=some true:=by kernel_rfl)(A:(opAt ops i).op=.store t x y:=by kernel_rfl)(B:(opAt ops i).dst=none:=by kernel_rfl)(C:(teOf P t).map (fun e=>e.size)=some 1:=by kernel_rfl)(D:s.eval x=some (.v (.pointer (some ⟨b,off,none⟩))):=by kernel_rfl)(E:s.eval y=some (.v v):=by kernel_rfl):SXi P N S0 w0 ops Q i s Φ:=by
 unfold SXi
 rw[gU m]
 intro L a w hi
 refine wpList_step fun V F=>?_
 rw[uM (hi.want z)]
 obtain⟨W,n,G⟩:=vM.1 C
 have q:=p w hi.box.self
 obtain⟨w',H,f,I⟩:=ZaE (P:=P) n (g:=b) (bt:=bt) (off:=off) (cur:=cs) (v:=v) q (by rw[k];exact G.symm) (by rw[k];simp;omega) (fun c o=>by rw[k] at o;simp at o;rw[o];exact r)
 rw[k,ZgI _ _ _ l] at f
 unfold Oper.wp
 have ex:=hi.eval D
 have J:=hi.eval E
 have h:(execOp a.eval (opAt ops i)).run P w=.ok .skip w':=by simp only[execOp,A,Sem.run_bind,ex,J,AV.conc,H,Result.andThen_ok,Sem.run_pure]
 rw[h,Oper.upon_skip,B]
 refine F _ _ (K L _ _ (hi.eff I (hi.notOwn (c:=cs[off]'l) (j:=off) (fun w R=>by have:=(p w R).cell off;rw[this];simp[l])) d q.lt (fun M O S T U=>⟨u M O S T,U.trans f⟩)))
end
section
variable {N:Nat} {S0:Nat→Prop} {w0:World} {s:St} {Φ Ψ:World→Prop} {L:Nat→Nat} {a:Act} {w:World} {P:Program} {ops:Array Oper} {Q:Exit→Act→World→Prop}
theorem Zuq {c:Code}{sl:SlL}{tmps:Array Value}(m:tmps.size=N)(k:sl.map (fun q=>tmps[q.1]?.map AV.v)=sl.map (fun q=>some q.2))(R:Box (fun _=>False) w Φ)(h:SXc P N S0 w Q c (ofL sl []) Φ):c.wp P Q { tmps:=tmps,defers:=[] } w:=by
 refine h (fun _=>0) _ w ⟨m,rfl,fun i x n=>?_,⟨fun b t o e=>(by cases e),fun b c e=>(by cases e),fun b e=>(by cases e),Fr.refl _ _,fun i b off e=>?_,fun b t o e=>(by cases e)⟩,?_⟩
 ·have d:=gO (f:=fun q:Nat × AV=>tmps[q.1]?.map AV.v) (g:=fun q=>some q.2) k (lV n)
  obtain⟨v,l,rfl⟩:=vM.1 d
  exact l
 ·have d:=gO (f:=fun q:Nat × AV=>tmps[q.1]?.map AV.v) (g:=fun q=>some q.2) k (lV e)
  obtain⟨v,l,e'⟩:=vM.1 d
  cases e'
 intro w' j
 exact R w' (j.mono (fun i _ p=>by obtain⟨b,e,_⟩:=p;cases e))
end
section
variable {N:Nat} {S0:Nat→Prop} {w0:World} {s:St} {Φ Ψ:World→Prop} {L:Nat→Nat} {a:Act} {w:World} {P:Program} {ops:Array Oper} {Q:Exit→Act→World→Prop}
theorem SXc.freezeN {c:Code}(b:Nat)(t:TypeId)(cs:List Value)(k:Nat→SlL)(j:BlL)(r:s.bl b=some (t,cs.map .v))(E:∀ g,(k g).map (fun q=>(s.sl q.1).map (frz b g))=(k g).map (fun q=>some q.2))(F:j.map (fun q=>s.bl q.1)=j.map (fun q=>some q.2))(G:j.all (fun q => !(Nat.beq q.1 b))=true)(H:∀ g,wfB (k g) j=true)(h:∀ g,(w0.heap.size≤g∨S0 g)→SXc P N S0 w0 Q c (ofL (k g) j) (fun w=>Φ w∧Blk t w g cs.toArray)):SXc P N S0 w0 Q c s Φ:=by
 intro L a w hi
 refine h (L b) (hi.mem.old b (by rw[r];rfl)) L a w ?_
 have m:=H (L b)
 unfold wfB at m
 rw[sA] at m
 have u:∀ i x,(ofL (k (L b)) j).bl i=some x→s.bl i=some x:=fun i x o=>gO (f:=fun q:Nat × TypeId×List AV=>s.bl q.1) (g:=fun q=>some q.2) F (lV o)
 have A:∀ i x,(ofL (k (L b)) j).bl i=some x→i≠b:=fun i x o e=>by
  have:=vI.1 G _ (lV o)
  simp[e] at this
 have l:∀ i,((ofL (k (L b)) j).bl i).isSome=true→(s.bl i).isSome=true∧i≠b:=fun i z=>by
  obtain⟨q,e⟩:=sY.1 z
  exact⟨by rw[u i q e];rfl,A i q e⟩
 have n:(s.bl b).isSome=true:=by rw[r];rfl
 have I:=hi.mem.blk b t _ r
 refine⟨hi.size,hi.df,fun i x o=>?_,⟨fun c t cs e=>hi.mem.blk c t cs (u c _ e),fun c d p J=>hi.mem.inj c d (l c p).1 (l d J).1,fun c p=>hi.mem.old c (l c p).1,hi.mem.ext,fun i c B e=>?_,fun c t cs e x o=>⟨(hi.mem.cel c t cs (u c _ e) x o).1,fun d B K=>?_⟩⟩,fun w' C=>⟨hi.box w' (C.mono (fun i _ z=>?_)),?_⟩⟩
 ·have D:=gO (f:=fun q:Nat × AV=>(s.sl q.1).map (frz b (L b))) (g:=fun q=>some q.2) (E (L b)) (lV o)
  simp only at D
  obtain⟨y,M,e⟩:=vM.1 D
  have:=hi.sl i y M
  rw[this,← e,Zkq]
 ·exact vI.1 m.1 _ (lV e)
 ·have:=vI.1 (vI.1 m.2 _ (lV e)) x o
  rw[K] at this
  exact this
 ·obtain⟨c,p,e⟩:=z
  exact⟨c,(l c p).1,e⟩
 have:Blk t w (L b) cs.toArray:=by simpa [pV,Function.comp_def,AV.conc] using I
 refine this.fr C fun⟨c,p,e⟩=>?_
 exact (l c p).2 (hi.mem.inj c b (l c p).1 n e)
end
structure TermR where
 coef:ByteArray
 A:Option Addr
 cap:Nat
 exps:List Int
instance:Inhabited TermR:=⟨⟨⟨#[]⟩,none,0,[]⟩⟩
section
variable {P:Program} {o:Oper} {ρ:Operand→Value} {w:World} {t e:TypeId} {x ix:Operand}
theorem xE {A:qA}{len cap i sz:Nat}(hA:A≠none)(h:i<len)(c:o.op=Op.indexAddr t x ix:=by kernel_rfl)(d:P.underlying t=some (.slice e):=by kernel_rfl)(f:(P.info? e).map (fun i=>i.size)=some sz:=by kernel_rfl)(g:ρ x=.slice A len cap:=by kernel_rfl)(hi:ρ ix=.int .i64 (i:Int):=by kernel_rfl):(execOp ρ o).run P w=.ok (.value (atA A (i*sz))) w:=by
 obtain⟨j,b,k⟩:=vM.1 f
 obtain⟨a,rfl⟩:∃ a,A=some a:=by cases A;exact absurd rfl hA;exact⟨_,rfl⟩
 have l:(0:Int)≤(i:Int)∧(i:Int)<(len:Int):=qO
 simp[execOp,c,Instr.indexAt,asIntOf,underlying,d,g,hi,h,sizeOf,typeInfo,b,k,Result.andThen,atA]
theorem Zs5 {bt:TypeId}{g:Nat}{cs:List Value}(b:Blk bt w g cs.toArray)(c:o.op=Op.load t x:=by kernel_rfl)(d:ρ x=.pointer (some ⟨g,0,none⟩):=by kernel_rfl)(ha:(teOf P t).map (fun e=>(e.agg,e.size))=some (true,cs.length):=by kernel_rfl) :
 (execOp ρ o).run P w=.ok (.value (.agg cs.toArray)) w:=by
 obtain⟨f,a,h⟩:=vM.1 ha
 injection h with ha hn
 have:=Zaa (P:=P) (w:=w) a (g:=g) (off:=0) (cs:=cs) hn.symm (fun i hi=>by rw[vZ,b.cell];simp[hi]) ha
 simp only[execOp,c,d,Sem.run_bind,this,Result.andThen_ok,Sem.run_pure]
end
end Go.Proofs.YtmpffakfhcpjoaaGreatDoor
