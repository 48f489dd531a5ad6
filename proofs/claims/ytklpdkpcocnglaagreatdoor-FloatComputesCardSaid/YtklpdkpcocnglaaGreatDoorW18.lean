/-
 My texts Nf, Nt, Nd, Len2, Nrd, RdK, Nm, Pt, Nw, Fu, FlD, Ro, Rg, Nss, Rb, Rnd, Sx14, Sx15, Sx16 put together.
-/
import Derived.Test.YtklpdkpcocnglaaGreatDoorW16
import Derived.Test.YtklpdkpcocnglaaGreatDoorW17
import Derived.Test.YtklpdkpcocnglaaGreatDoorW11
import Derived.Lib.Bytealg
import Derived.Test.YtklpdkpcocnglaaGreatDoorW08
import Derived.Test.YtklpdkpcocnglaaGreatDoorW07
set_option maxRecDepth 100000
set_option maxHeartbeats 8000000
namespace Go.Proofs.YtklpdkpcocnglaaGreatDoor
open Go.RowKit
theorem xT.le {x y:Int}(h:xT x)(a:y.natAbs≤x.natAbs):xT y:=uA (wK a) h
theorem xT.gcd {x y:Int}(h:xT y)(a:y≠0):xT (Int.gcd x y:Int):=h.le (by
 have:Int.gcd x y≤y.natAbs:=qR _ (by omega)
 omega)
theorem xT.tdiv {x y:Int}(h:xT x):xT (x.tdiv y):=h.le (by rw[Int.natAbs_tdiv];exact uO _ _)
theorem ZcE {x y:Int}(h:0<y):0<Int.gcd x y:=by
 rcases uH (Int.gcd x y) with e|e
 ·have:=(Int.gcd_eq_zero_iff.1 e).2;omega
 exact e
theorem mlm {x y:Int}{a b:Nat}(c:ml x.natAbs≤a)(d:ml y.natAbs≤b):ml (x*y).natAbs≤a+b:=by
 have h:=Zfv x.natAbs y.natAbs
 rw[←Int.natAbs_mul] at h
 omega
theorem mla {x y:Int}{a:Nat}(b:ml x.natAbs≤a)(c:ml y.natAbs≤a):ml (x+y).natAbs≤a+1 :=
 uA (wK (Int.natAbs_add_le x y)) (Zbb b c)
theorem eC {w w':World}{e:Ending}{a b:Int}(h:Zd4 w a b e w'):kF aG (fun x w=>zI w (zZ x.1) a∧zI w (zZ x.2) b) w e w':=by
 obtain⟨u,v,rfl,d,f,Q⟩:=h
 obtain⟨s,A,l,c,rfl⟩:=d.shp
 obtain⟨j,k,m,n,rfl⟩:=f.shp
 exact⟨((s,A,l,c),(j,k,m,n)),rfl,Q,boxn Q (fun S o g i=>⟨d.nrb g i,f.nrb g i⟩)⟩
theorem nfit {z:Int}{k:Nat}(h:ml z.natAbs≤k)(a:Nat.ble k 17592186044416=true):xT z:=uA h (sF a)
theorem mlc {n k:Nat}(h:ml n≤k):ml ((n:Nat):Int).natAbs≤k:=by rw[uS];exact h
theorem Zg3 {x y:Int}{q:Rat}(a:Rat.divInt x y=q)(b:0<y)(_:1<((Int.gcd x y:Nat):Int).natAbs):q.num=x.tdiv ((Int.gcd x y:Nat):Int)∧(q.den:Int)=y.tdiv ((Int.gcd x y:Nat):Int):=by
 rw[←a];exact Ziu b
theorem Zg4 {x y:Int}{q:Rat}(b:Rat.divInt x y=q)(a:0<y)(h:¬ 1<((Int.gcd x y:Nat):Int).natAbs):q.num=x∧(q.den:Int)=y:=by
 have c:=ZcE (x:=x) a
 rw[←b];exact Zdy a (by omega)
theorem Zar {n:Nat}(h:(((n:Nat):Int) == 1)=true):n=1:=by have:=eq_of_beq h;omega
theorem Zas {n:Nat}(h:(((n:Nat):Int) == 1)=false):n≠1:=fun e=>by subst e;cases h
theorem ZmS (a b:Value)(x y:Int)(q:Rat)(w:World)(ha:zI w a x)(X:zI w b y)(hx:xT x)(hy:xT y)(h0:y<0)(hq:Rat.divInt x y=q) :
 yA 23 #[a,b] w (Zb6 w q):=by
 obtain⟨K,L,M,N,rfl⟩:=ha.shp
 obtain⟨s1,O,P,S,rfl⟩:=X.shp
 obtain rfl:s1=true:=X.sneg h0
 have V:xT (-(x)):=hx.neg
 have F:xT (-(y)):=hy.neg
 have Y:0 < -(y):=by omega
 have T:xT ((Int.gcd (-(x)) (-(y)):Nat):Int):=xT.gcd F (by omega)
 have W:((Int.gcd (-(x)) (-(y)):Nat):Int)≠0:=by have:=ZcE (x := -(x)) Y;omega
 have Z:Rat.divInt (-(x)) (-(y))=q:=by rw[Rat.neg_divInt_neg];exact hq
 refine zX (Φ:=fun w=>(zI w (.agg #[.bool K,.slice L M N]) (x)∧zI w (.agg #[.bool true,.slice O P S]) (y))) Tryz.func23 rfl (by kernel_rfl) (fun w' hf=>⟨ha.ext hf,X.ext hf⟩) ?_
 refine zC (zB (xr 3 [(2,.p 2 0),(3,.p 3 0),(4,.p 4 0)] [bR4 4 34 false none 0 0 false none 0 0,bI2 3 32 true O P S,bI2 2 32 K L M N] ?_))
 refine xe (zA (zC (zC (zB (xr 2 [(2,.p 2 0),(3,.p 3 0),(4,.p 4 0),yB 7 true] [bR4 4 34 false none 0 0 false none 0 0,bI2 3 32 true O P S,bI2 2 32 K L M N] ?_)))))
 refine xe (zA (xa ?_))
 refine xG 6 (by kernel_rfl) (by kernel_rfl) zM ?_
 refine xf 1 [(2,.p 2 0),(3,.p 3 0),(4,.p 4 0),eI2 8 K L M N] [bR4 4 34 false none 0 0 false none 0 0,bI2 3 32 true O P S,bI2 2 32 K L M N] ?_
 refine xd 68 [vI2 K L M N] 9 zZ _ (fun w R Q=>yM xC (aZ _ (x) _ Q.1)) fun⟨c,d,e,f⟩=>?_
 refine xf 1 [(2,.p 2 0),(3,.p 3 0),(4,.p 4 0),eI2 9 c d e f,eI2 10 true O P S] [bR4 4 34 false none 0 0 false none 0 0,bI2 3 32 true O P S,bI2 2 32 K L M N] ?_
 refine xd 68 [vI2 true O P S] 11 zZ _ (fun w R Q=>yM xC (aZ _ (y) _ Q.1.2)) fun⟨g,i,j,k⟩=>?_
 refine xf 2 [(2,.p 2 0),(3,.p 3 0),(4,.p 4 0)] [bI2 3 32 g i j k,bI2 2 32 c d e f,bR4 4 34 false none 0 0 false none 0 0,bI2 3 32 true O P S,bI2 2 32 K L M N] ?_
 refine xz (xe (zA (zC (zB (xr 2 [(2,.p 2 0),(3,.p 3 0),(4,.p 4 0),eI2 12 c d e f,eI2 13 g i j k] [bI2 3 32 g i j k,bI2 2 32 c d e f,bR4 4 34 false none 0 0 false none 0 0] ?_)))))
 refine xc 69 [vI2 c d e f,vI2 g i j k] 14 zZ _ (fun w R Q=>yM xC (Zik _ _ (-(x)) (-(y)) _ Q.1.2 Q.2 V F)) fun⟨l,m,n,o⟩=>?_
 refine xr 2 [(2,.p 2 0),(3,.p 3 0),(4,.p 4 0),(5,.p 5 0)] [bI2 5 32 l m n o,bI2 3 32 g i j k,bI2 2 32 c d e f,bR4 4 34 false none 0 0 false none 0 0] ?_
 refine xe (zA (zC (zC (zB (xr 1 [(2,.p 2 0),(3,.p 3 0),(4,.p 4 0),(5,.p 5 0),eI2 15 l m n o] [bI2 5 32 l m n o,bI2 3 32 g i j k,bI2 2 32 c d e f,bR4 4 34 false none 0 0 false none 0 0] ?_)))))
 refine xc 37 [vI2 l m n o] 16 (fun _:Unit=>.int .i64 ((blen (((Int.gcd (-(x)) (-(y)):Nat):Int)).natAbs:Nat):Int)) _ (fun w R Q=>yN (kR _ (((Int.gcd (-(x)) (-(y)):Nat):Int)) _ Q.2 T)) fun U=>?_
 refine xr 1 [(2,.p 2 0),(3,.p 3 0),(4,.p 4 0),(5,.p 5 0),(17,.v (.bool (decide (((blen (((Int.gcd (-(x)) (-(y)):Nat):Int)).natAbs:Nat):Int)>1))))] [bI2 5 32 l m n o,bI2 3 32 g i j k,bI2 2 32 c d e f,bR4 4 34 false none 0 0 false none 0 0] ?_
 refine xe (zA ?_)
 refine zT ((decide (((blen (((Int.gcd (-(x)) (-(y)):Nat):Int)).natAbs:Nat):Int)>1))) (by kernel_rfl) (fun G=>?_) fun G=>?_
 ·have H:=Zg3 Z Y (Zam.1 (by have:=uC G;omega))
  refine zC (zB (xr 2 [(2,.p 2 0),(3,.p 3 0),(4,.p 4 0),(5,.p 5 0),eI2 19 c d e f,eI2 20 l m n o] [bI2 5 32 l m n o,bI2 3 32 g i j k,bI2 2 32 c d e f,bR4 4 34 false none 0 0 false none 0 0] ?_))
  refine xc 70 [vI2 c d e f,vI2 l m n o] 21 aG _ (fun w R Q=>yM eC (bE _ _ (-(x)) (((Int.gcd (-(x)) (-(y)):Nat):Int)) _ Q.1.1.1.2 Q.1.2 V T W)) fun U=>?_
  obtain⟨⟨r,s,t,u⟩,⟨a0,b0,d0,e0⟩⟩:=U
  refine xr 4 [(2,.p 2 0),(3,.p 3 0),(4,.p 4 0),(5,.p 5 0)] [bI2 5 32 l m n o,bI2 3 32 g i j k,bI2 2 32 r s t u,bR4 4 34 false none 0 0 false none 0 0] ?_
  refine xe (zA (zB (xr 2 [(2,.p 2 0),(3,.p 3 0),(4,.p 4 0),eI2 25 g i j k,eI2 26 l m n o] [bI2 3 32 g i j k,bI2 2 32 r s t u,bR4 4 34 false none 0 0 false none 0 0] ?_)))
  refine xc 70 [vI2 g i j k,vI2 l m n o] 27 aG _ (fun w R Q=>yM eC (bE _ _ (-(y)) (((Int.gcd (-(x)) (-(y)):Nat):Int)) _ Q.1.1.1.2 Q.1.1.2 F T W)) fun U=>?_
  obtain⟨⟨B,C,D,E⟩,⟨f0,g0,i0,j0⟩⟩:=U
  refine xr 4 [(2,.p 2 0),(3,.p 3 0),(4,.p 4 0)] [bI2 3 32 B C D E,bI2 2 32 r s t u,bR4 4 34 false none 0 0 false none 0 0] ?_
  refine xe (zA (zC (zC (zB (xr 1 [(2,.p 2 0),(3,.p 3 0),(4,.p 4 0),eI2 30 B C D E] [bI2 3 32 B C D E,bI2 2 32 r s t u,bR4 4 34 false none 0 0 false none 0 0] ?_)))))
  refine xc 37 [vI2 B C D E] 31 (fun _:Unit=>.int .i64 ((blen ((-(y)).tdiv (((Int.gcd (-(x)) (-(y)):Nat):Int))).natAbs:Nat):Int)) _ (fun w R Q=>yN (kR _ ((-(y)).tdiv (((Int.gcd (-(x)) (-(y)):Nat):Int))) _ Q.2.1 (xT.tdiv F))) fun U=>?_
  refine xr 1 [(2,.p 2 0),(3,.p 3 0),(4,.p 4 0),(32,.v (.bool ((((blen ((-(y)).tdiv (((Int.gcd (-(x)) (-(y)):Nat):Int))).natAbs:Nat):Int):Int) == 1)))] [bI2 3 32 B C D E,bI2 2 32 r s t u,bR4 4 34 false none 0 0 false none 0 0] ?_
  refine xe (zA ?_)
  refine zT (((((blen ((-(y)).tdiv (((Int.gcd (-(x)) (-(y)):Nat):Int))).natAbs:Nat):Int):Int) == 1)) (by kernel_rfl) (fun I=>?_) fun I=>?_
  ·have z:=iL.1 (Zar I)
   refine zB (xr 2 [(2,.p 2 0),(3,.p 3 0),(4,.p 4 0)] [bI2 3 32 false none 0 0,bI2 2 32 r s t u,bR4 4 34 false none 0 0 false none 0 0] ?_)
   refine xe (zA (zC (zB (xr 4 [(4,.p 4 0)] [bR4 4 34 r s t u false none 0 0] ?_))))
   refine xe (zA (zF ?_))
   refine zD (v:=.agg #[.bool r,.slice s t u,.bool false,.slice none 0 0]) (by kernel_rfl) fun w' R Q=>?_
   exact⟨_,rfl,xN.of (by rw[H.1];exact Q.1.1.2.1) (by rw[dZ (by have:=z;have:=H.2;have:=q.den_nz;omega)];exact (zI.nil _)),R⟩
  have z:=fun h=>Zas I (iL.2 h)
  refine zK (zA (zC (zB (xr 4 [(4,.p 4 0)] [bR4 4 34 r s t u B C D E] ?_))))
  refine xe (zA (zF ?_))
  refine zD (v:=.agg #[.bool r,.slice s t u,.bool B,.slice C D E]) (by kernel_rfl) fun w' R Q=>?_
  exact⟨_,rfl,xN.of (by rw[H.1];exact Q.1.1.2.1) (by rw[fN (fun h=>z (by have:=H.2;omega)),H.2];exact Q.1.2.1),R⟩
 have H:=Zg4 Z Y (fun h=>absurd (Zam.2 h) (by have:=uD G;omega))
 refine zK (zA (zC (zC (zB (xr 1 [(2,.p 2 0),(3,.p 3 0),(4,.p 4 0),eI2 30 g i j k] [bI2 3 32 g i j k,bI2 2 32 c d e f,bR4 4 34 false none 0 0 false none 0 0] ?_)))))
 refine xc 37 [vI2 g i j k] 31 (fun _:Unit=>.int .i64 ((blen (-(y)).natAbs:Nat):Int)) _ (fun w R Q=>yN (kR _ (-(y)) _ Q.1.1.2 F)) fun U=>?_
 refine xr 1 [(2,.p 2 0),(3,.p 3 0),(4,.p 4 0),(32,.v (.bool ((((blen (-(y)).natAbs:Nat):Int):Int) == 1)))] [bI2 3 32 g i j k,bI2 2 32 c d e f,bR4 4 34 false none 0 0 false none 0 0] ?_
 refine xe (zA ?_)
 refine zT (((((blen (-(y)).natAbs:Nat):Int):Int) == 1)) (by kernel_rfl) (fun J=>?_) fun J=>?_
 ·have A:=iL.1 (Zar J)
  refine zB (xr 2 [(2,.p 2 0),(3,.p 3 0),(4,.p 4 0)] [bI2 3 32 false none 0 0,bI2 2 32 c d e f,bR4 4 34 false none 0 0 false none 0 0] ?_)
  refine xe (zA (zC (zB (xr 4 [(4,.p 4 0)] [bR4 4 34 c d e f false none 0 0] ?_))))
  refine xe (zA (zF ?_))
  refine zD (v:=.agg #[.bool c,.slice d e f,.bool false,.slice none 0 0]) (by kernel_rfl) fun w' R Q=>?_
  exact⟨_,rfl,xN.of (by rw[H.1];exact Q.1.1.1.1.2) (by rw[dZ (by have:=A;have:=H.2;have:=q.den_nz;omega)];exact (zI.nil _)),R⟩
 have A:=fun h=>Zas J (iL.2 h)
 refine zK (zA (zC (zB (xr 4 [(4,.p 4 0)] [bR4 4 34 c d e f g i j k] ?_))))
 refine xe (zA (zF ?_))
 refine zD (v:=.agg #[.bool c,.slice d e f,.bool g,.slice i j k]) (by kernel_rfl) fun w' R Q=>?_
 exact⟨_,rfl,xN.of (by rw[H.1];exact Q.1.1.1.1.2) (by rw[fN (fun h=>A (by have:=H.2;omega)),H.2];exact Q.1.1.1.2),R⟩
theorem ZmT (a b:Value)(x y:Int)(q:Rat)(w:World)(ha:zI w a x)(N:zI w b y)(T:xT x)(U:xT y)(h0:0<y)(V:Rat.divInt x y=q) :
 yA 23 #[a,b] w (Zb6 w q):=by
 obtain⟨o,r,s,t,rfl⟩:=ha.shp
 obtain⟨W,l,m,n,rfl⟩:=N.shp
 obtain rfl:W=false:=N.spos (by omega)
 have L:xT (x):=T
 have E:xT (y):=U
 have O:0<y:=by omega
 have J:xT ((Int.gcd (x) (y):Nat):Int):=xT.gcd E (by omega)
 have M:((Int.gcd (x) (y):Nat):Int)≠0:=by have:=ZcE (x:=x) O;omega
 have P:Rat.divInt (x) (y)=q:=V
 refine zX (Φ:=fun w=>(zI w (.agg #[.bool o,.slice r s t]) (x)∧zI w (.agg #[.bool false,.slice l m n]) (y))) Tryz.func23 rfl (by kernel_rfl) (fun w' S=>⟨ha.ext S,N.ext S⟩) ?_
 refine zC (zB (xr 3 [(2,.p 2 0),(3,.p 3 0),(4,.p 4 0)] [bR4 4 34 false none 0 0 false none 0 0,bI2 3 32 false l m n,bI2 2 32 o r s t] ?_))
 refine xe (zA (zC (zC (zB (xr 2 [(2,.p 2 0),(3,.p 3 0),(4,.p 4 0),yB 7 false] [bR4 4 34 false none 0 0 false none 0 0,bI2 3 32 false l m n,bI2 2 32 o r s t] ?_)))))
 refine xe (zA (xb (zK (zA (zC (zB (xr 2 [(2,.p 2 0),(3,.p 3 0),(4,.p 4 0),eI2 12 o r s t,eI2 13 false l m n] [bR4 4 34 false none 0 0 false none 0 0,bI2 3 32 false l m n,bI2 2 32 o r s t] ?_)))))))
 refine xc 69 [vI2 o r s t,vI2 false l m n] 14 zZ _ (fun w R Q=>yM xC (Zik _ _ (x) (y) _ Q.1 Q.2 L E)) fun⟨c,d,e,f⟩=>?_
 refine xr 2 [(2,.p 2 0),(3,.p 3 0),(4,.p 4 0),(5,.p 5 0)] [bI2 5 32 c d e f,bR4 4 34 false none 0 0 false none 0 0,bI2 3 32 false l m n,bI2 2 32 o r s t] ?_
 refine xe (zA (zC (zC (zB (xr 1 [(2,.p 2 0),(3,.p 3 0),(4,.p 4 0),(5,.p 5 0),eI2 15 c d e f] [bI2 5 32 c d e f,bR4 4 34 false none 0 0 false none 0 0,bI2 3 32 false l m n,bI2 2 32 o r s t] ?_)))))
 refine xc 37 [vI2 c d e f] 16 (fun _:Unit=>.int .i64 ((blen (((Int.gcd (x) (y):Nat):Int)).natAbs:Nat):Int)) _ (fun w R Q=>yN (kR _ (((Int.gcd (x) (y):Nat):Int)) _ Q.2 J)) fun K=>?_
 refine xr 1 [(2,.p 2 0),(3,.p 3 0),(4,.p 4 0),(5,.p 5 0),(17,.v (.bool (decide (((blen (((Int.gcd (x) (y):Nat):Int)).natAbs:Nat):Int)>1))))] [bI2 5 32 c d e f,bR4 4 34 false none 0 0 false none 0 0,bI2 3 32 false l m n,bI2 2 32 o r s t] ?_
 refine xe (zA ?_)
 refine zT ((decide (((blen (((Int.gcd (x) (y):Nat):Int)).natAbs:Nat):Int)>1))) (by kernel_rfl) (fun F=>?_) fun F=>?_
 ·have G:=Zg3 P O (Zam.1 (by have:=uC F;omega))
  refine zC (zB (xr 2 [(2,.p 2 0),(3,.p 3 0),(4,.p 4 0),(5,.p 5 0),eI2 19 o r s t,eI2 20 c d e f] [bI2 5 32 c d e f,bR4 4 34 false none 0 0 false none 0 0,bI2 3 32 false l m n,bI2 2 32 o r s t] ?_))
  refine xc 70 [vI2 o r s t,vI2 c d e f] 21 aG _ (fun w R Q=>yM eC (bE _ _ (x) (((Int.gcd (x) (y):Nat):Int)) _ Q.1.1.1 Q.1.2 L J M)) fun K=>?_
  obtain⟨⟨g,i,j,k⟩,⟨X,Y,Z,a0⟩⟩:=K
  refine xr 4 [(2,.p 2 0),(3,.p 3 0),(4,.p 4 0),(5,.p 5 0)] [bI2 5 32 c d e f,bR4 4 34 false none 0 0 false none 0 0,bI2 3 32 false l m n,bI2 2 32 g i j k] ?_
  refine xe (zA (zB (xr 2 [(2,.p 2 0),(3,.p 3 0),(4,.p 4 0),eI2 25 false l m n,eI2 26 c d e f] [bR4 4 34 false none 0 0 false none 0 0,bI2 3 32 false l m n,bI2 2 32 g i j k] ?_)))
  refine xc 70 [vI2 false l m n,vI2 c d e f] 27 aG _ (fun w R Q=>yM eC (bE _ _ (y) (((Int.gcd (x) (y):Nat):Int)) _ Q.1.1.1.2 Q.1.1.2 E J M)) fun K=>?_
  obtain⟨⟨A,B,C,D⟩,⟨b0,d0,e0,f0⟩⟩:=K
  refine xr 4 [(2,.p 2 0),(3,.p 3 0),(4,.p 4 0)] [bR4 4 34 false none 0 0 false none 0 0,bI2 3 32 A B C D,bI2 2 32 g i j k] ?_
  refine xe (zA (zC (zC (zB (xr 1 [(2,.p 2 0),(3,.p 3 0),(4,.p 4 0),eI2 30 A B C D] [bR4 4 34 false none 0 0 false none 0 0,bI2 3 32 A B C D,bI2 2 32 g i j k] ?_)))))
  refine xc 37 [vI2 A B C D] 31 (fun _:Unit=>.int .i64 ((blen ((y).tdiv (((Int.gcd (x) (y):Nat):Int))).natAbs:Nat):Int)) _ (fun w R Q=>yN (kR _ ((y).tdiv (((Int.gcd (x) (y):Nat):Int))) _ Q.2.1 (xT.tdiv E))) fun K=>?_
  refine xr 1 [(2,.p 2 0),(3,.p 3 0),(4,.p 4 0),(32,.v (.bool ((((blen ((y).tdiv (((Int.gcd (x) (y):Nat):Int))).natAbs:Nat):Int):Int) == 1)))] [bR4 4 34 false none 0 0 false none 0 0,bI2 3 32 A B C D,bI2 2 32 g i j k] ?_
  refine xe (zA ?_)
  refine zT (((((blen ((y).tdiv (((Int.gcd (x) (y):Nat):Int))).natAbs:Nat):Int):Int) == 1)) (by kernel_rfl) (fun H=>?_) fun H=>?_
  ·have u:=iL.1 (Zar H)
   refine zB (xr 2 [(2,.p 2 0),(3,.p 3 0),(4,.p 4 0)] [bR4 4 34 false none 0 0 false none 0 0,bI2 3 32 false none 0 0,bI2 2 32 g i j k] ?_)
   refine xe (zA (zC (zB (xr 4 [(4,.p 4 0)] [bR4 4 34 g i j k false none 0 0] ?_))))
   refine xe (zA (zF ?_))
   refine zD (v:=.agg #[.bool g,.slice i j k,.bool false,.slice none 0 0]) (by kernel_rfl) fun w' R Q=>?_
   exact⟨_,rfl,xN.of (by rw[G.1];exact Q.1.1.2.1) (by rw[dZ (by have:=u;have:=G.2;have:=q.den_nz;omega)];exact (zI.nil _)),R⟩
  have u:=fun h=>Zas H (iL.2 h)
  refine zK (zA (zC (zB (xr 4 [(4,.p 4 0)] [bR4 4 34 g i j k A B C D] ?_))))
  refine xe (zA (zF ?_))
  refine zD (v:=.agg #[.bool g,.slice i j k,.bool A,.slice B C D]) (by kernel_rfl) fun w' R Q=>?_
  exact⟨_,rfl,xN.of (by rw[G.1];exact Q.1.1.2.1) (by rw[fN (fun h=>u (by have:=G.2;omega)),G.2];exact Q.1.2.1),R⟩
 have G:=Zg4 P O (fun h=>absurd (Zam.2 h) (by have:=uD F;omega))
 refine zK (zA (zC (zC (zB (xr 1 [(2,.p 2 0),(3,.p 3 0),(4,.p 4 0),eI2 30 false l m n] [bR4 4 34 false none 0 0 false none 0 0,bI2 3 32 false l m n,bI2 2 32 o r s t] ?_)))))
 refine xc 37 [vI2 false l m n] 31 (fun _:Unit=>.int .i64 ((blen (y).natAbs:Nat):Int)) _ (fun w R Q=>yN (kR _ (y) _ Q.1.1.2 E)) fun K=>?_
 refine xr 1 [(2,.p 2 0),(3,.p 3 0),(4,.p 4 0),(32,.v (.bool ((((blen (y).natAbs:Nat):Int):Int) == 1)))] [bR4 4 34 false none 0 0 false none 0 0,bI2 3 32 false l m n,bI2 2 32 o r s t] ?_
 refine xe (zA ?_)
 refine zT (((((blen (y).natAbs:Nat):Int):Int) == 1)) (by kernel_rfl) (fun I=>?_) fun I=>?_
 ·have z:=iL.1 (Zar I)
  refine zB (xr 2 [(2,.p 2 0),(3,.p 3 0),(4,.p 4 0)] [bR4 4 34 false none 0 0 false none 0 0,bI2 3 32 false none 0 0,bI2 2 32 o r s t] ?_)
  refine xe (zA (zC (zB (xr 4 [(4,.p 4 0)] [bR4 4 34 o r s t false none 0 0] ?_))))
  refine xe (zA (zF ?_))
  refine zD (v:=.agg #[.bool o,.slice r s t,.bool false,.slice none 0 0]) (by kernel_rfl) fun w' R Q=>?_
  exact⟨_,rfl,xN.of (by rw[G.1];exact Q.1.1.1.1) (by rw[dZ (by have:=z;have:=G.2;have:=q.den_nz;omega)];exact (zI.nil _)),R⟩
 have z:=fun h=>Zas I (iL.2 h)
 refine zK (zA (zC (zB (xr 4 [(4,.p 4 0)] [bR4 4 34 o r s t false l m n] ?_))))
 refine xe (zA (zF ?_))
 refine zD (v:=.agg #[.bool o,.slice r s t,.bool false,.slice l m n]) (by kernel_rfl) fun w' R Q=>?_
 exact⟨_,rfl,xN.of (by rw[G.1];exact Q.1.1.1.1) (by rw[fN (fun h=>z (by have:=G.2;omega)),G.2];exact Q.1.1.1.2),R⟩
theorem ZmU (a b:Value)(x y:Int)(w:World)(ha:zI w a x)(c:zI w b y)(d:xT x)(e:xT y)(f:y≠0):yA 23 #[a,b] w (Zb6 w (Rat.divInt x y)):=by
 rcases Int.lt_or_gt_of_ne f with h|h
 ·exact ZmS a b x y _ w ha c d e h rfl
 exact ZmT a b x y _ w ha c d e h rfl
theorem Zd9 (a b:List UInt8):(⟨a.toArray⟩:ByteArray) ++ ⟨b.toArray⟩=⟨(a ++ b).toArray⟩:=by
 apply ByteArray.ext
 simp
theorem Za1 {n j:Nat}(h:n<10^j∧j≤140737488355000):(Lib.decDigits n).length≤140737488355000:=by
 rcases uH n with e|e
 ·rw[e,Lib.decDigits_one (by omega)];simp
 have:=ZkM _ _ h.1
 rw[jL e] at this
 omega
theorem cO (s:Bool)(a:Option Addr)(b c0:Nat)(n:Nat)(w:World)(c:zS w (.slice a b c0) n){j:Nat}(h:n<10^j∧j≤140737488355000) :
 yA 76 #[.agg #[.bool s,.slice a b c0]] w (RetV w (.string ⟨(Lib.decDigits n).toArray⟩)):=by
 refine ZjD s a b c0 n w c ((j+8)/9) ?_ (by have:=h.2;omega)
 refine uU h.1 ?_
 rw[show (1000000000:Nat)=10^9 by decide,← sS]
 exact uY (by omega) (by omega)
theorem Ziy {n k:Nat}(h:ml n≤k):n<10^(10*k):=by
 refine uU (Zd1 n) (uA (uY zU h) ?_)
 rw[sS]
 exact sD (by rw[zP];decide) _
theorem Zhp (a:Value)(q:Rat)(w:World)(ha:xN w a q)(j k:Nat)(B:q.num.natAbs<10^j∧j≤140737488355000)(_:q.den<10^k∧k≤140737488355000)(x:q.num<0)(y:q.den=1) :
 yA 31 #[a] w (RetV w (.string ⟨(xD q).toArray⟩)):=by
 obtain⟨C,t,u,v,t1,H,D,I,rfl⟩:=ha.shp
 have F2:Hid (xN w (.agg #[.bool C,.slice t u v,.bool t1,.slice H D I]) (q)):=ha
 clear ha
 obtain rfl:C=true:=F2.out.num.sneg x
 have E:Hid (q.num.natAbs<10^j∧j≤140737488355000):=B
 obtain rfl:D=0:=F2.out.den.len0 (dZ y)
 have F:Hid (xD q=45 :: Lib.decDigits q.num.natAbs):=by unfold Hid xD Lib.itoa;rw[uP y,uP x]
 obtain⟨J,g⟩:=yE (xD q)
 rw[g] at F ⊢
 clear x y B g
 go_enter Tryz.func31,Tryz.ntmps31
 go_wp2_with fail
 generalize h:World.alloc w _=w4
 obtain⟨c,d⟩:=fA h
 clear h
 have B3:=zh c
 clear c
 replace F2:=zh (F2.out.ext d)
 have HE:=zh d
 clear d
 have F5:Hid (zI w4 (.agg #[.bool true,.slice t u v]) ((q).num)):=F2.out.num
 have F8:Hid (zS w4 (.slice t u v) (((q).num).natAbs)):=F5.out.mag
 refine (cO true t u v _ _ F8.out E.out).mono ?_
 obtain⟨G,b⟩:=yE (Lib.decDigits (((q).num).natAbs))
 rw[b];have z:G.length≤140737488355000:=by rw[←b];exact Za1 E.out
 have A:=zh b;clear b
 rintro e K ⟨rfl,f⟩
 replace B3:=zh (B3.out.ext f)
 replace F2:=zh (F2.out.ext f)
 replace F5:=zh (F5.out.ext f)
 replace F8:=zh (F8.out.ext f)
 replace HE:=zh (HE.out.trans f)
 clear f
 obtain⟨i,l,m,n,o,p,r,s⟩:=B3.out.cell4
 go_wp2
 clear i l m n o p r s
 go_ret
 refine⟨?_,HE.out⟩
 rw[F.out,A.out]
 show Ending.returned (.string ((⟨#[45]⟩:ByteArray) ++ ⟨G.toArray⟩))=_
 simp only[Zd9]
 rfl
theorem Zhq (a:Value)(q:Rat)(w:World)(ha:xN w a q)(j k:Nat)(N:q.num.natAbs<10^j∧j≤140737488355000)(O:q.den<10^k∧k≤140737488355000)(P:q.num<0)(s:¬ q.den=1) :
 yA 31 #[a] w (RetV w (.string ⟨(xD q).toArray⟩)):=by
 obtain⟨Q,F,G,H,t1,I,m1,J,rfl⟩:=ha.shp
 have F2:Hid (xN w (.agg #[.bool Q,.slice F G H,.bool t1,.slice I m1 J]) (q)):=ha
 clear ha
 obtain rfl:Q=true:=F2.out.num.sneg P
 have R:Hid (q.num.natAbs<10^j∧j≤140737488355000):=N
 have Y:0<m1:=F2.out.den.lenp (Zgm s)
 have W:decide ((0:Int)<(m1:Int))=true:=by rw[vO];omega
 have S:Hid ((denF q).natAbs<10^k∧k≤140737488355000):=by unfold Hid;rw[fN s,uS];exact O
 have T:Hid (xD q=(45 :: Lib.decDigits q.num.natAbs) ++ (47 :: Lib.decDigits (denF q).natAbs)):=by
  unfold Hid xD
  rw[uN s,fN s,uS,Lib.itoa_nonneg]
  unfold Lib.itoa
  rw[uP (show q.num<0 by omega)]
  simp
 obtain⟨Z,t⟩:=yE (xD q)
 rw[t] at T ⊢
 clear P s N O t
 go_enter Tryz.func31,Tryz.ntmps31
 go_wp2_with fail
 generalize u:World.alloc w _=w4
 obtain⟨f,g⟩:=fA u
 clear u
 have B3:=zh f
 clear f
 replace F2:=zh (F2.out.ext g)
 have HE:=zh g
 clear g
 have F5:Hid (zI w4 (.agg #[.bool true,.slice F G H]) ((q).num)):=F2.out.num
 have F8:Hid (zS w4 (.slice F G H) (((q).num).natAbs)):=F5.out.mag
 refine (cO true F G H _ _ F8.out R.out).mono ?_
 obtain⟨U,d⟩:=yE (Lib.decDigits (((q).num).natAbs))
 rw[d];have L:U.length≤140737488355000:=by rw[←d];exact Za1 R.out
 have M:=zh d;clear d
 rintro e V ⟨rfl,b⟩
 replace B3:=zh (B3.out.ext b)
 replace F2:=zh (F2.out.ext b)
 replace F5:=zh (F5.out.ext b)
 replace F8:=zh (F8.out.ext b)
 replace HE:=zh (HE.out.trans b)
 clear b
 obtain⟨v,x,y,z,A,B,C,D⟩:=B3.out.cell4
 go_wp2_with fail
 clear v x y z A B C D
 have F10:Hid (zI V (.agg #[.bool t1,.slice I m1 J]) (denF (q))):=F2.out.den
 have F13:Hid (zS V (.slice I m1 J) ((denF (q)).natAbs)):=F10.out.mag
 refine (cO t1 I m1 J _ _ F13.out S.out).mono ?_
 obtain⟨t12,c⟩:=yE (Lib.decDigits ((denF (q)).natAbs))
 rw[c];have K:t12.length≤140737488355000:=by rw[←c];exact Za1 S.out
 have E:=zh c;clear c
 rintro e X ⟨rfl,b⟩
 replace B3:=zh (B3.out.ext b)
 replace F2:=zh (F2.out.ext b)
 replace F5:=zh (F5.out.ext b)
 replace F8:=zh (F8.out.ext b)
 replace F10:=zh (F10.out.ext b)
 replace F13:=zh (F13.out.ext b)
 replace HE:=zh (HE.out.trans b)
 clear b
 obtain⟨h,i,l,m,n,o,p,r⟩:=B3.out.cell4
 go_wp2
 clear h i l m n o p r
 go_ret
 refine⟨?_,HE.out⟩
 rw[T.out,M.out,E.out]
 show Ending.returned (.string (((⟨#[45]⟩:ByteArray) ++ ⟨U.toArray⟩) ++ ((⟨#[47]⟩:ByteArray) ++ ⟨t12.toArray⟩)))=_
 simp only[Zd9]
 rfl
theorem Zhr (a:Value)(q:Rat)(w:World)(ha:xN w a q)(j k:Nat)(A:q.num.natAbs<10^j∧j≤140737488355000)(_:q.den<10^k∧k≤140737488355000)(B:0≤q.num)(x:q.den=1) :
 yA 31 #[a] w (RetV w (.string ⟨(xD q).toArray⟩)):=by
 obtain⟨C,t,u,v,t1,H,D,I,rfl⟩:=ha.shp
 have F2:Hid (xN w (.agg #[.bool C,.slice t u v,.bool t1,.slice H D I]) (q)):=ha
 clear ha
 obtain rfl:C=false:=F2.out.num.spos B
 have E:Hid (q.num.natAbs<10^j∧j≤140737488355000):=A
 obtain rfl:D=0:=F2.out.den.len0 (dZ x)
 have F:Hid (xD q=Lib.decDigits q.num.natAbs):=by unfold Hid xD Lib.itoa;rw[uP x,uN (show ¬ q.num<0 by omega)];rw[show q.num.toNat=q.num.natAbs by omega]
 obtain⟨J,g⟩:=yE (xD q)
 rw[g] at F ⊢
 clear B x A g
 go_enter Tryz.func31,Tryz.ntmps31
 go_wp2_with fail
 generalize h:World.alloc w _=w4
 obtain⟨c,d⟩:=fA h
 clear h
 have B3:=zh c
 clear c
 replace F2:=zh (F2.out.ext d)
 have HE:=zh d
 clear d
 have F5:Hid (zI w4 (.agg #[.bool false,.slice t u v]) ((q).num)):=F2.out.num
 have F8:Hid (zS w4 (.slice t u v) (((q).num).natAbs)):=F5.out.mag
 refine (cO false t u v _ _ F8.out E.out).mono ?_
 obtain⟨G,b⟩:=yE (Lib.decDigits (((q).num).natAbs))
 rw[b];have y:G.length≤140737488355000:=by rw[←b];exact Za1 E.out
 have z:=zh b;clear b
 rintro e K ⟨rfl,f⟩
 replace B3:=zh (B3.out.ext f)
 replace F2:=zh (F2.out.ext f)
 replace F5:=zh (F5.out.ext f)
 replace F8:=zh (F8.out.ext f)
 replace HE:=zh (HE.out.trans f)
 clear f
 obtain⟨i,l,m,n,o,p,r,s⟩:=B3.out.cell4
 go_wp2
 clear i l m n o p r s
 go_ret
 refine⟨?_,HE.out⟩
 rw[F.out,z.out]
 show Ending.returned (.string (⟨G.toArray⟩:ByteArray))=_
 rfl
theorem Zhs (a:Value)(q:Rat)(w:World)(ha:xN w a q)(j k:Nat)(N:q.num.natAbs<10^j∧j≤140737488355000)(O:q.den<10^k∧k≤140737488355000)(P:0≤q.num)(s:¬ q.den=1) :
 yA 31 #[a] w (RetV w (.string ⟨(xD q).toArray⟩)):=by
 obtain⟨Q,F,G,H,t1,I,m1,J,rfl⟩:=ha.shp
 have F2:Hid (xN w (.agg #[.bool Q,.slice F G H,.bool t1,.slice I m1 J]) (q)):=ha
 clear ha
 obtain rfl:Q=false:=F2.out.num.spos P
 have R:Hid (q.num.natAbs<10^j∧j≤140737488355000):=N
 have Y:0<m1:=F2.out.den.lenp (Zgm s)
 have W:decide ((0:Int)<(m1:Int))=true:=by rw[vO];omega
 have S:Hid ((denF q).natAbs<10^k∧k≤140737488355000):=by unfold Hid;rw[fN s,uS];exact O
 have T:Hid (xD q=(Lib.decDigits q.num.natAbs) ++ (47 :: Lib.decDigits (denF q).natAbs)):=by
  unfold Hid xD
  rw[uN s,fN s,uS,Lib.itoa_nonneg]
  unfold Lib.itoa
  rw[uN (show ¬ q.num<0 by omega)]
  rw[show q.num.toNat=q.num.natAbs by omega]
  simp
 obtain⟨Z,t⟩:=yE (xD q)
 rw[t] at T ⊢
 clear P s N O t
 go_enter Tryz.func31,Tryz.ntmps31
 go_wp2_with fail
 generalize u:World.alloc w _=w4
 obtain⟨f,g⟩:=fA u
 clear u
 have B3:=zh f
 clear f
 replace F2:=zh (F2.out.ext g)
 have HE:=zh g
 clear g
 have F5:Hid (zI w4 (.agg #[.bool false,.slice F G H]) ((q).num)):=F2.out.num
 have F8:Hid (zS w4 (.slice F G H) (((q).num).natAbs)):=F5.out.mag
 refine (cO false F G H _ _ F8.out R.out).mono ?_
 obtain⟨U,d⟩:=yE (Lib.decDigits (((q).num).natAbs))
 rw[d];have L:U.length≤140737488355000:=by rw[←d];exact Za1 R.out
 have M:=zh d;clear d
 rintro e V ⟨rfl,b⟩
 replace B3:=zh (B3.out.ext b)
 replace F2:=zh (F2.out.ext b)
 replace F5:=zh (F5.out.ext b)
 replace F8:=zh (F8.out.ext b)
 replace HE:=zh (HE.out.trans b)
 clear b
 obtain⟨v,x,y,z,A,B,C,D⟩:=B3.out.cell4
 go_wp2_with fail
 clear v x y z A B C D
 have F10:Hid (zI V (.agg #[.bool t1,.slice I m1 J]) (denF (q))):=F2.out.den
 have F13:Hid (zS V (.slice I m1 J) ((denF (q)).natAbs)):=F10.out.mag
 refine (cO t1 I m1 J _ _ F13.out S.out).mono ?_
 obtain⟨t12,c⟩:=yE (Lib.decDigits ((denF (q)).natAbs))
 rw[c];have K:t12.length≤140737488355000:=by rw[←c];exact Za1 S.out
 have E:=zh c;clear c
 rintro e X ⟨rfl,b⟩
 replace B3:=zh (B3.out.ext b)
 replace F2:=zh (F2.out.ext b)
 replace F5:=zh (F5.out.ext b)
 replace F8:=zh (F8.out.ext b)
 replace F10:=zh (F10.out.ext b)
 replace F13:=zh (F13.out.ext b)
 replace HE:=zh (HE.out.trans b)
 clear b
 obtain⟨h,i,l,m,n,o,p,r⟩:=B3.out.cell4
 go_wp2
 clear h i l m n o p r
 go_ret
 refine⟨?_,HE.out⟩
 rw[T.out,M.out,E.out]
 show Ending.returned (.string ((⟨U.toArray⟩:ByteArray) ++ ((⟨#[47]⟩:ByteArray) ++ ⟨t12.toArray⟩)))=_
 simp only[Zd9]
 rfl
theorem ZcG (a:Value)(q:Rat)(w:World)(ha:xN w a q)(j k:Nat)(c:q.num.natAbs<10^j∧j≤140737488355000)(d:q.den<10^k∧k≤140737488355000):yA 31 #[a] w (RetV w (.string ⟨(xD q).toArray⟩)):=by
 by_cases e:q.num<0
 ·by_cases b:q.den=1
  ·exact Zhp a q w ha j k c d e b
  exact Zhq a q w ha j k c d e b
 by_cases b:q.den=1
 ·exact Zhr a q w ha j k c d (by omega) b
 exact Zhs a q w ha j k c d (by omega) b
theorem ZdD (a:Value)(q:Rat)(w:World)(ha:xN w a q)(b:ml q.num.natAbs≤65536)(c:ml q.den≤65536):yA 31 #[a] w (RetV w (.string ⟨(xD q).toArray⟩)) :=
 ZcG a q w ha _ _ ⟨Ziy b,by omega⟩ ⟨Ziy c,by omega⟩
def ZfR (w:World) (l:List UInt8) (e:Ending) (w':World):Prop :=
 ∃ v b,e=.returned (.tuple #[v,.bool b])∧b=(l.all zV && !l.isEmpty)∧zI w' v (if l.all zV then (zL l:Int) else 0)∧Ext w w'
theorem Ziz {fn:Func}{t e:Tmp}{a:Array Value}{w w':World}{r:Nat}{x y:Value}{b:Bool}{l:List UInt8}(c:fn.results=#[.cell t 32,.tmp e])(f:a[t]? = some (.pointer (some ⟨r,0,none⟩)))(d:a[e]? = some (.bool b))(g:Blk 32 w' r #[x,y])(h:zI w' (.agg #[x,y]) (if l.all zV then (zL l:Int) else 0))(i:b=(l.all zV && !l.isEmpty))(Q:Ext w w'):bodyPost Tryz.prog fn (ZfR w l) .ret ⟨a,[]⟩ w':=by
 obtain⟨j,k,_⟩:=g.cell2
 exact bodyPost_ret (v:=.tuple #[.agg #[x,y],.bool b]) (by simp[results,c,f,d,go_sem,j,k]) rfl ⟨_,_,rfl,i,h,Q⟩
theorem zS.one_pos {w:World}{b r:Nat}(h:Own .u32 102 w b [r])(c:r<W32)(d:0<r):zS w (.slice (some ⟨b,0,none⟩) 1 1) r :=
 ⟨_,[r],1,rfl,uK _,h.shows0,Dig.cons c Dig.nil,fun k a=>by simp at a;subst a;simp;omega,by simp⟩
theorem ZmX {n k:Nat}(h:n<10^k):ml n≤k:=xX.2 (uU h (sD (by rw[zP];omega) _))
theorem ZmY {n k:Nat}(h:n<10^k):n<1000000000^((k+8)/9):=by
 refine uU h ?_
 rw[show (1000000000:Nat)=10^9 by decide,← sS]
 exact uY (by omega) (by omega)
theorem Zea {n k:Nat}(h:n<10^k):ml n≤(k+8)/9:=xX.2 (uU (ZmY h) (sD (by rw[zP];omega) _))
theorem ZiA (s:ByteArray):s.toList.isEmpty=(bytes s).isEmpty:=by
 rw[Lib.toList_data]
def FdIn (l:List UInt8) (i k v f:Nat):Prop:=k≤9∧i+k≤l.length∧(l.take (i+k)).all zV=true∧v=zL ((l.drop i).take k)∧f=10^k
theorem FdIn.bounds {l:List UInt8}{i k v f:Nat}(h:FdIn l i k v f):v<10^k∧v<1000000000∧f≤1000000000∧0<f:=by
 obtain⟨c,g,b,d,j⟩:=h
 have a:((l.drop i).take k).all zV=true:=by
  rw[vP] at b ⊢
  intro x e
  refine b x ?_
  rw[List.take_add]
  exact List.mem_append_right _ e
 have:=kC _ a
 rw[vE,vX,uX (by omega),← d] at this
 have m:10^k≤10^9:=uY (by omega) c
 have n:0<10^k:=uV (by omega)
 exact⟨this,by omega,by omega,by omega⟩
theorem FdIn.step {l:List UInt8}{i k v f:Nat}{c:UInt8}(h:FdIn l i k v f)(m:k<9)(a:i+k<l.length)(b:l[i+k]=c)(d:zV c=true):FdIn l i (k+1) (v*10+(c.toNat-48)) (f*10):=by
 obtain⟨n,o,e,g,j⟩:=h
 refine⟨by omega,by omega,?_,?_,by rw[j,uR]⟩
 ·rw[←tQ,tY a,rL,e,b]
  simp[d]
 rw[tY (by simp;omega),dB,← g,List.getElem_drop,b]
 omega
theorem FdIn.done {l:List UInt8}{i k v f:Nat}(h:FdIn l i k v f):zL (l.take i)*f+v=zL (l.take (i+k)):=by
 obtain⟨c,d,e,a,b⟩:=h
 have:l.take (i+k)=l.take i ++ (l.drop i).take k:=by rw[List.take_add]
 rw[this,bI,vE,vX,uX (by omega),← a,b]
theorem ZpB {l:List UInt8}{i:Nat}(h:i<l.length)(a:zV l[i]=false):l.all zV=false:=by
 rw[List.all_eq_false]
 exact⟨l[i],rD h,by simp[a]⟩
theorem dK (s:ByteArray)(w:World)(hs:s.size≤140737488351232):yA 60 #[.string s] w (ZfR w (bytes s)):=by
 have j:=zh (zQ s)
 go_enter Tryz.func60,Tryz.ntmps60
 go_wp2_with fail
 generalize a:World.alloc w _=w1
 obtain⟨b0,c0⟩:=fA a
 have HB:=zh b0
 have HE:=zh c0
 clear a b0 c0
 go_loopw [4,5,6,7,8] (fun mv iv _ _ _ wr=>∃ (i:Nat) (A:Option Addr) (ln c:Nat),i≤s.size∧iv=.int .i64 (i:Int)∧mv=.slice A ln c∧Hid (((bytes s).take i).all zV=true)∧Hid (zS wr (.slice A ln c) (zL ((bytes s).take i)))∧Hid (Ext w1 wr)) (fun _ iv _ _ _ _=>s.size-(intOf iv).toNat)
 case atStart=>exact⟨0,none,0,0,by omega,rfl,rfl,by unfold Hid;simp,by unfold Hid;simpa [zL] using zS.zero _,Fr.refl _ _⟩
 case round =>
  obtain⟨i,A,ln,c,hi,rfl,rfl,t,hM,hF⟩:=hrel
  by_cases m0:i<s.size
  ·go_wp2
   go_loop [5,6,7,8] (fun iv vv fv kv=>∃ (k v f:Nat),k≤9∧i+k≤s.size∧v<1000000000∧f≤1000000000∧0<f∧iv=.int .i64 ((i+k:Nat):Int)∧vv=.int .u32 (v:Int)∧fv=.int .u32 (f:Int)∧kv=.int .i64 (k:Int)∧Hid (FdIn (bytes s) i k v f)) (fun _ _ _ kv=>9-(intOf kv).toNat)
   case atStart=>exact⟨0,0,1,by omega,by omega,by omega,by omega,by omega,rfl,rfl,rfl,rfl,⟨by omega,by rw[j.out];omega,t.out,by simp[zL],rfl⟩⟩
   case round =>
    obtain⟨k,v,f,hk,n0,hv,hf,f0,rfl,rfl,rfl,rfl,E⟩:=hrel
    by_cases F:k<9∧i+k<s.size
    ·obtain⟨g1,g2⟩:=F
     have d0:decide ((k:Int)<9)=true:=by rw[vO];omega
     have x:(bytes s)[i+k]'(by rw[j.out];exact g2)=s[i+k]:=Zcs s g2
     by_cases Q:zV s[i+k]=true
     ·have R:=zh (E.out.step g1 (by rw[j.out];exact g2) x Q)
      have hb:=ZdB Q
      have G:=R.out.bounds
      have e1:IntKind.u8.wrap ((s[i+k].toNat:Int)-48)=((s[i+k].toNat-48:Nat):Int):=by rw[IntKind.wrap_u8];omega
      have g0:((s[i+k].toNat:Int)-48)%256=((s[i+k].toNat-48:Nat):Int):=by omega
      obtain⟨d,ed⟩:=yE (s[i+k].toNat-48)
      have o0:d≤9:=by omega
      rw[ed] at R e1 g0 G
      have h0:=G.2.1
      have i0:=G.2.2.1
      have x1:(i:Int)+(k:Int)<(s.size:Int):=by omega
      have x2:(0:Int)≤(i:Int)+(k:Int):=by omega
      have x3:(48:Int)≤(s[i+k].toNat:Int):=by omega
      have x4:¬ ((s[i+k].toNat:Int)<48):=by omega
      have x5:¬ ((57:Int)<(s[i+k].toNat:Int)):=by omega
      have x6:decide ((s[i+k].toNat:Int)<48)=false:=by rw[uZ];omega
      have x7:decide ((57:Int)<(s[i+k].toNat:Int))=false:=by rw[uZ];omega
      have x8:((i:Int)+(k:Int)).toNat=i+k:=by omega
      clear G x ed Q
      go_wp2
      go_round
      case rel=>exact⟨k+1,v*10+d,f*10,by omega,by omega,h0,i0,by omega,by go_num,by go_num,by go_num,by go_num,R⟩
      case measure=>simp[intOf];omega
     have H:Hid ((bytes s).all zV=false):=ZpB (by rw[j.out];exact g2) (by rw[x];simpa using Q)
     have I:=zh (HB.out.ext hF.out)
     have S:=zh (HE.out.trans hF.out)
     obtain⟨z0,z1,z2,z3⟩:=I.out.cell2
     have x1:(i:Int)+(k:Int)<(s.size:Int):=by omega
     have x2:(0:Int)≤(i:Int)+(k:Int):=by omega
     have x8:((i:Int)+(k:Int)).toNat=i+k:=by omega
     have L:Hid (∀ u:Array Value,u[2]? = some (.pointer (some ⟨w.heap.size,0,none⟩))→u[3]? = some (.bool false)→bodyPost Tryz.prog Tryz.f60 (ZfR w (bytes s)) .ret ⟨u,[]⟩ ((wr.setCell ⟨w.heap.size,0,none⟩ (.bool false)).setCell ⟨w.heap.size,1,none⟩ (.slice none 0 0))):=by
      intro u h2 h3
      have J:Fr (fun i=>i=w.heap.size) wr ((wr.setCell ⟨w.heap.size,0,none⟩ (.bool false)).setCell ⟨w.heap.size,1,none⟩ (.slice none 0 0)):=((Fr.refl (fun i=>i=w.heap.size) _).setCell (p:=⟨w.heap.size,0,none⟩) (Or.inl rfl) _).setCell (p:=⟨w.heap.size,1,none⟩) (Or.inl rfl) _
      refine Ziz rfl h2 h3 ((I.out.set_ 0 _).set_ 1 _) ?_ (by rw[H.out];rfl) (S.out.next J (fun i hi e=>by omega))
      rw[H.out];exact zI.nil _
     by_cases p0:s[i+k].toNat < 48
     ·have x3:(s[i+k].toNat:Int)<48:=by omega
      have x6:decide ((s[i+k].toNat:Int)<48)=true:=by rw[vO];omega
      clear x Q H
      go_wp2
      exact L.out _ rfl rfl
     have q0:57<s[i+k].toNat:=by
      have:zV s[i+k]=false:=by simpa using Q
      unfold zV at this
      simp at this
      omega
     have x3:¬ ((s[i+k].toNat:Int)<48):=by omega
     have x4:(57:Int)<(s[i+k].toNat:Int):=by omega
     have x6:decide ((s[i+k].toNat:Int)<48)=false:=by rw[uZ];omega
     have x7:decide ((57:Int)<(s[i+k].toNat:Int))=true:=by rw[vO];omega
     clear x Q H
     go_wp2
     exact L.out _ rfl rfl
    have r0:1≤k:=by
     rcases uH k with e|e
     ·subst e;exact absurd ⟨by omega,by omega⟩ F
     exact e
    have T:Hid (f<W32):=by unfold Hid;rw[zP];omega
    have U:Hid (v<W32):=by unfold Hid;rw[zP];omega
    have M:Hid (ml (zL ((bytes s).take i))≤17592186044416):=by
     have h1:=Zea (kC _ t.out)
     rw[vE,j.out] at h1
     unfold Hid;omega
    have N:Hid (ml f≤17592186044416):=by
     have:=xX (n:=f) (k:=1)
     rw[qV] at this
     have:=this.2 T.out
     unfold Hid;omega
    have O:Hid (ml v≤17592186044416):=by
     have:=xX (n:=v) (k:=1)
     rw[qV] at this
     have:=this.2 U.out
     unfold Hid;omega
    have l:=zh E.out.done
    have m:Hid (((bytes s).take (i+k)).all zV=true):=E.out.2.2.1
    have P:Hid (ml (zL ((bytes s).take i)*f)≤17592186044416):=by
     have h1:=Zea (kC _ m.out)
     rw[vE,j.out] at h1
     have h2:=wK (show zL ((bytes s).take i)*f≤zL ((bytes s).take (i+k)) by have:=l.out;omega)
     unfold Hid;omega
    have e0:Hid (0<f):=f0
    by_cases h9:k<9
    ·have g2:¬ ((i:Int)+(k:Int)<(s.size:Int)):=by omega
     have d0:decide ((k:Int)<9)=true:=by rw[vO];omega
     have s0:decide ((i:Int)+(k:Int)<(s.size:Int))=false:=by rw[uZ];omega
     clear F E
     go_wp2_with fail
     generalize a:World.alloc wr _=w2
     have y:Own .u32 102 w2 wr.heap.size [f]:=a ▸ Own.new wr 102 .u32 [f] []
     have g:Ext wr w2:=a ▸ (Fr.refl _ _).alloc _
     clear a
     refine (cJ _ _ (zL ((bytes s).take i)) f _ (hM.out.ext g) (zS.one_pos y T.out e0.out) M.out N.out).mono ?_
     rintro e K ⟨_,rfl,o,z⟩
     obtain⟨A3,l3,c3,rfl⟩:=o.slice
     have B:=zh o
     have C:=zh ((hF.out.trans g).trans z)
     clear o z g y
     go_wp2_with fail
     generalize a:World.alloc K _=w4
     have q:Own .u32 102 w4 K.heap.size [v]:=a ▸ Own.new K 102 .u32 [v] []
     have r:Ext K w4:=a ▸ (Fr.refl _ _).alloc _
     clear a
     refine (lT _ [v] 1 1 _ rfl q.shows0 (by simp) (by simp)).mono ?_
     rintro e w5 ⟨rfl,rfl⟩
     have V:=zh (zS.one q U.out)
     have W:=zh (B.out.ext r)
     have X:=zh (C.out.trans r)
     clear q r B C
     go_wp2_with fail
     refine (ZaI _ _ _ _ _ W.out V.out P.out O.out).mono ?_
     rintro e w6 ⟨_,rfl,h,D⟩
     rw[l.out] at h
     obtain⟨A6,l6,c6,rfl⟩:=h.slice
     have Y:=zh h
     have Z:=zh (X.out.trans D)
     clear h D
     go_wp2
     go_roundw
     case rel=>exact⟨i+k,A6,l6,c6,by omega,by go_num,rfl,m,Y,Z⟩
     case measure=>simp[intOf];omega
    have g2:¬ ((k:Int)<9):=by omega
    have d0:decide ((k:Int)<9)=false:=by rw[uZ];omega
    clear F E
    go_wp2_with fail
    generalize a:World.alloc wr _=w2
    have y:Own .u32 102 w2 wr.heap.size [f]:=a ▸ Own.new wr 102 .u32 [f] []
    have g:Ext wr w2:=a ▸ (Fr.refl _ _).alloc _
    clear a
    refine (cJ _ _ (zL ((bytes s).take i)) f _ (hM.out.ext g) (zS.one_pos y T.out e0.out) M.out N.out).mono ?_
    rintro e K ⟨_,rfl,o,z⟩
    obtain⟨A3,l3,c3,rfl⟩:=o.slice
    have B:=zh o
    have C:=zh ((hF.out.trans g).trans z)
    clear o z g y
    go_wp2_with fail
    generalize a:World.alloc K _=w4
    have q:Own .u32 102 w4 K.heap.size [v]:=a ▸ Own.new K 102 .u32 [v] []
    have r:Ext K w4:=a ▸ (Fr.refl _ _).alloc _
    clear a
    refine (lT _ [v] 1 1 _ rfl q.shows0 (by simp) (by simp)).mono ?_
    rintro e w5 ⟨rfl,rfl⟩
    have V:=zh (zS.one q U.out)
    have W:=zh (B.out.ext r)
    have X:=zh (C.out.trans r)
    clear q r B C
    go_wp2_with fail
    refine (ZaI _ _ _ _ _ W.out V.out P.out O.out).mono ?_
    rintro e w6 ⟨_,rfl,h,D⟩
    rw[l.out] at h
    obtain⟨A6,l6,c6,rfl⟩:=h.slice
    have Y:=zh h
    have Z:=zh (X.out.trans D)
    clear h D
    go_wp2
    go_roundw
    case rel=>exact⟨i+k,A6,l6,c6,by omega,by go_num,rfl,m,Y,Z⟩
    case measure=>simp[intOf];omega
  obtain rfl:i=s.size:=by omega
  have e1:(bytes s).take s.size=bytes s:=uB (by rw[j.out];exact uK _)
  have HA:Hid ((bytes s).all zV=true):=by have:=t.out;rw[e1] at this;exact this
  have HM:Hid (zS wr (.slice A ln c) (zL (bytes s))):=by have:=hM.out;rw[e1] at this;exact this
  have I:=zh (HB.out.ext hF.out)
  have S:=zh (HE.out.trans hF.out)
  have j0:=zh (ZiA s)
  clear e1 t hM
  go_wp2_with fail
  refine (eB false _ _ _ HM.out).mono ?_
  rintro e w2 ⟨_,rfl,E,g⟩
  obtain⟨s2,A2,l2,c2,rfl⟩:=E.shp
  have HI:=zh E
  have a0:=zh (I.out.ext g)
  have l0:=zh (S.out.trans g)
  obtain⟨k0,k1,k2,k3⟩:=a0.out.cell2
  clear E g
  go_wp2
  have J:Fr (fun i=>i=w.heap.size) w2 ((w2.setCell ⟨w.heap.size,0,none⟩ (.bool s2)).setCell ⟨w.heap.size,1,none⟩ (.slice A2 l2 c2)):=((Fr.refl (fun i=>i=w.heap.size) _).setCell (p:=⟨w.heap.size,0,none⟩) (Or.inl rfl) _).setCell (p:=⟨w.heap.size,1,none⟩) (Or.inl rfl) _
  refine Ziz (b := !s.toList.isEmpty) rfl rfl rfl ((a0.out.set_ 0 _).set_ 1 _) ?_ (by rw[HA.out,j0.out];rfl) (l0.out.next J (fun i hi e=>by omega))
  rw[HA.out]
  exact HI.out.oth a0.out lO J
def zY (c:UInt8):Bool:=c != 47
def iU (l:List UInt8):Option Rat :=
 if (((xA l).2.takeWhile zY).all zV && !((xA l).2.takeWhile zY).isEmpty)=false then none
 else if (xA l).2.drop ((xA l).2.takeWhile zY).length=[] then
  (if xD (((sg (xA l).1 (zL ((xA l).2.takeWhile zY)):Int)):Rat)=l then some (((sg (xA l).1 (zL ((xA l).2.takeWhile zY)):Int)):Rat) else none)
 else if (((xA l).2.drop (((xA l).2.takeWhile zY).length+1)).all zV && !((xA l).2.drop (((xA l).2.takeWhile zY).length+1)).isEmpty)=false∨zL ((xA l).2.drop (((xA l).2.takeWhile zY).length+1))=0 then none
 else (if xD (Rat.divInt (sg (xA l).1 (zL ((xA l).2.takeWhile zY))) (zL ((xA l).2.drop (((xA l).2.takeWhile zY).length+1)):Int))=l then some (Rat.divInt (sg (xA l).1 (zL ((xA l).2.takeWhile zY))) (zL ((xA l).2.drop (((xA l).2.takeWhile zY).length+1)):Int)) else none)
theorem Zlr {l:List UInt8}{q:Rat}(h:iU l=some q):xD q=l:=by
 unfold iU at h
 split at h
 ·cases h
 split at h
 ·split at h
  ·rename_i e;injection h with h;rw[←h];exact e
  cases h
 split at h
 ·cases h
 split at h
 ·rename_i e;injection h with h;rw[←h];exact e
 cases h
theorem aI {l:List UInt8}(h:l.all zV=true):l.all zY=true:=by
 rw[vP] at *
 intro x a
 have:=h x a
 unfold zY
 simp
 rintro rfl
 exact absurd this (by decide)
theorem Zls (q:Rat):iU (xD q)=some q:=by
 by_cases h:q.den=1
 ·have e:xD q=Lib.itoa q.num ++ []:=by unfold xD;rw[uP h,sP]
  have a:=Zap q.num []
  rw[←e,sP] at a
  obtain⟨f,g⟩:=eS (aI (kZ q.num.natAbs))
  unfold iU
  rw[a]
  simp only[]
  rw[f,kZ,iX,Zdz,ZfQ h]
  rw[uN (by simp[lN]),vA (uK _),uP rfl,uP rfl]
 have e:xD q=Lib.itoa q.num ++ 47 :: Lib.decDigits q.den:=by unfold xD;rw[uN h,jQ];simp
 have a:=Zap q.num (47 :: Lib.decDigits q.den)
 rw[←e] at a
 obtain⟨f,g⟩:=Zac (p:=zY) (r:=Lib.decDigits q.den) (c:=47) (aI (kZ q.num.natAbs)) (by decide)
 have i:=q.den_nz
 have b:(Lib.decDigits q.num.natAbs ++ 47 :: Lib.decDigits q.den).drop (Lib.decDigits q.num.natAbs).length=47 :: Lib.decDigits q.den:=by simp
 have d:(Lib.decDigits q.num.natAbs ++ 47 :: Lib.decDigits q.den).drop ((Lib.decDigits q.num.natAbs).length+1)=Lib.decDigits q.den:=by
  rw[←vN,b];rfl
 unfold iU
 rw[a]
 simp only[]
 rw[f,b,d,kZ,kZ,iX,iX,Zdz,Rat.num_divInt_den]
 rw[uN (by simp[lN]),uN (by simp),uN (by simp[lN];exact i),uP rfl]
theorem ZcH (l:List UInt8):iU l=wM l:=by
 cases h:iU l with
 | some q=>rw[←Zlr h];exact (Zg0 q).symm
 | none =>
  cases k:wM l with
  | none=>rfl
  | some q =>
   have:=eA k
   rw[←this,Zls] at h
   cases h
def ZeW (w:World) (l:List UInt8) (e:Ending) (w':World):Prop :=
 ∃ v ok q,e=.returned (.tuple #[v,.bool ok])∧Ext w w'∧xN w' v q∧((ok=true∧wM l=some q)∨(ok=false∧wM l=none))
theorem ZiB {q:Rat}{s:ByteArray}{b:Bool}(a:iU (bytes s)=if xD q=bytes s then some q else none)(c:b=decide (xD q=bytes s)):(b=true∧wM (bytes s)=some q)∨(b=false∧wM (bytes s)=none):=by
 rw[ZcH] at a
 by_cases h:xD q=bytes s
 ·rw[uP h] at a;left;exact⟨by rw[c,uQ h],a⟩
 rw[uN h] at a;right;exact⟨by rw[c,uJ h],a⟩
theorem ZfS (t:ByteArray)(a b:Nat):(t.extract a b).size≤t.size:=by
 rw[←zQ,kI,vE,vX,zQ];omega
theorem ZcW {l:List UInt8}{k:Nat}(h:(l.take k).all zY=true)(a:∀ h:k<l.length,zY l[k]=false)(b:k≤l.length):k=(l.takeWhile zY).length:=by
 rw[(Zbe h a).1,vE];omega
theorem ZfT {t:ByteArray}{p:Nat}(a:p=((bytes t).takeWhile zY).length):bytes (t.extract 0 p)=(bytes t).takeWhile zY∧bytes (t.extract (p+1) t.size)=(bytes t).drop (p+1):=by
 rw[kI,kI]
 refine⟨?_,?_⟩
 ·rw[tT,Nat.sub_zero,a]
  have:=List.takeWhile_prefix zY (l:=bytes t)
  exact (List.prefix_iff_eq_take.1 this).symm
 rw[uB (by rw[vX,zQ];exact uK _)]
theorem Zlt {l t:List UInt8}{neg:Bool}(a:xA l=(neg,t))(b:(((t.takeWhile zY)).all zV && !(t.takeWhile zY).isEmpty)=false):iU l=none:=by
 unfold iU;rw[a];simp only[];rw[uP b]
theorem ZjE {l t:List UInt8}{neg:Bool}(a:xA l=(neg,t))(b:(((t.takeWhile zY)).all zV && !(t.takeWhile zY).isEmpty)=true)(c:t.length≤(t.takeWhile zY).length) :
 iU l=if xD ((sg neg (zL (t.takeWhile zY)):Int):Rat)=l then some ((sg neg (zL (t.takeWhile zY)):Int):Rat) else none:=by
 unfold iU;rw[a];simp only[];rw[uN (by rw[b];simp),uP (vA c)]
theorem ZfU {l t:List UInt8}{neg:Bool}(a:xA l=(neg,t))(b:(((t.takeWhile zY)).all zV && !(t.takeWhile zY).isEmpty)=true)(d:(t.takeWhile zY).length<t.length)(c:((t.drop ((t.takeWhile zY).length+1)).all zV && !(t.drop ((t.takeWhile zY).length+1)).isEmpty)=false∨zL (t.drop ((t.takeWhile zY).length+1))=0):iU l=none:=by
 unfold iU;rw[a];simp only[];rw[uN (by rw[b];simp),uN (fun e=>by have:=vG List.length e;simp at this;omega),uP c]
theorem Zlu {l t:List UInt8}{neg:Bool}(a:xA l=(neg,t))(b:(((t.takeWhile zY)).all zV && !(t.takeWhile zY).isEmpty)=true)(d:(t.takeWhile zY).length<t.length)(c:((t.drop ((t.takeWhile zY).length+1)).all zV && !(t.drop ((t.takeWhile zY).length+1)).isEmpty)=true)(h3:zL (t.drop ((t.takeWhile zY).length+1))≠0) :
 iU l=if xD (Rat.divInt (sg neg (zL (t.takeWhile zY))) (zL (t.drop ((t.takeWhile zY).length+1)):Int))=l then some (Rat.divInt (sg neg (zL (t.takeWhile zY))) (zL (t.drop ((t.takeWhile zY).length+1)):Int)) else none:=by
 unfold iU;rw[a];simp only[];rw[uN (by rw[b];simp),uN (fun e=>by have:=vG List.length e;simp at this;omega),uN (fun e=>e.elim (fun e=>by rw[c] at e;cases e) h3)]
theorem Zko {x:List UInt8}{s:ByteArray}:((⟨x.toArray⟩:ByteArray).toList == s.toList)=decide (x=bytes s):=by
 rw[Lib.toList_data,Lib.toList_data]
 by_cases h:x=bytes s
 ·rw[uQ h];simp[h]
 rw[uJ h];simpa using h
theorem Zkp {t:ByteArray}(h:(bytes t).all zV=true):zL (bytes t)<10^t.size:=by
 have:=kC _ h
 rwa [zQ] at this
theorem ZhE {neg:Bool}{n:Nat}:(sg neg n).natAbs=n:=by cases neg<;>simp[sg]
theorem ZiC {s:ByteArray}(h:¬ bytes s=[]):∃ c,(bytes s).head? = some c∧s[0]? = some c:=by
 obtain⟨a,_⟩:=aY h
 exact⟨s[0],Zay a,by simp[a]⟩
theorem ZeX {s:ByteArray}(h:¬ bytes s=[]):1≤s.size:=(aY h).1
theorem ZiD {s:ByteArray}{c:UInt8}(h:(bytes s).head? = some c)(a:c=45):xA (bytes s)=(true,bytes (s.extract 1 s.size)):=by
 unfold xA
 rw[h,a,uP rfl,kI,uB (by rw[vX,zQ];exact uK _),List.drop_one]
theorem ZjF {s:ByteArray}{c:UInt8}(h:(bytes s).head? = some c)(a:¬ c=45):xA (bytes s)=(false,bytes s):=by
 unfold xA
 rw[h,uN (by simpa using a)]
theorem ZoN {c b:UInt8}(h:c=b):((c.toNat:Int) == (b.toNat:Int))=true:=by subst h;simp
theorem ZoO {c b:UInt8}(h:¬ c=b):((c.toNat:Int) == (b.toNat:Int))=false:=by
 have:c.toNat≠b.toNat:=fun e=>h (UInt8.toNat_inj.1 e)
 simp;omega
theorem Zqw {a b:Nat}(h:a<b):decide (((a:Nat):Int)<((b:Nat):Int))=true:=uQ (by omega)
theorem ZpC {a b:Nat}(h:¬ a<b):decide (((a:Nat):Int)<((b:Nat):Int))=false:=uJ (by omega)
theorem ZdE {a:Nat}(h:a≤140737488351232):IntKind.i64.wrap (((a:Nat):Int)+1)=((a+1:Nat):Int):=by rw[IntKind.wrap_i64];omega
theorem Zok {n:Nat}(h:n=0):(((n:Int).sign:Int) == 0)=true:=by subst h;rfl
theorem ZmZ {n:Nat}(h:¬ n=0):(((n:Int).sign:Int) == 0)=false:=by
 rw[tG];exact fun e=>h (by have:=vM.1 e;omega)
theorem Zkq {w w':World}{e:Ending}{l:List UInt8}(h:ZfR w l e w')(f:l.all zV=true)(a:l≠[]):kF (fun x:ShI=>.tuple #[zZ x,.bool true]) (fun x w=>zI w (zZ x) (zL l:Int)) w e w':=by
 obtain⟨v,b,rfl,rfl,d,Q⟩:=h
 rw[uP f] at d
 obtain⟨s,A,g,c,rfl⟩:=d.shp
 refine⟨(s,A,g,c),?_,Q,boxn Q (fun S i j k=>d.nrb j k)⟩
 rw[f,show l.isEmpty=false by simpa using a];rfl
theorem ZaP {P:Program}{o:Oper}{ρ:Operand→Value}{w:World}{t:TypeId}{x i:Operand}{b:ByteArray}{k:Nat}{c:UInt8}(a:o.op=Op.index t x i)(d:P.underlying t=some .string)(e:ρ x=.string b)(hi:ρ i=.int .i64 (k:Int))(f:b[k]? = some c):(execOp ρ o).run P w=.ok (.value (.int .u8 (c.toNat:Int))) w:=by
 simp[execOp,a,Instr.index,asIntOf,underlying,d,e,hi,f,Result.andThen]
theorem ZiE {w w':World}{e:Ending}{l:List UInt8}(h:ZfR w l e w')(a:¬ (l.all zV && !l.isEmpty)=true):kF (fun x:ShI=>.tuple #[zZ x,.bool false]) (fun _ _=>True) w e w':=by
 obtain⟨v,b,rfl,rfl,d,Q⟩:=h
 obtain⟨s,A,f,c,rfl⟩:=d.shp
 exact⟨(s,A,f,c),by rw[vR.2 a];rfl,Q,BoxN.pure trivial⟩
theorem Zg5 {l:List UInt8}(h:(l.all zV && !l.isEmpty)=true):l.all zV=true∧l≠[]:=by
 rw[tR] at h
 exact⟨h.1,fun e=>by rw[e] at h;simp at h⟩
theorem xN.whole {w:World}{s:Bool}{A:Option Addr}{l c:Nat}{z:Int}(h:zI w (.agg #[.bool s,.slice A l c]) z):xN w (.agg #[.bool s,.slice A l c,.bool false,.slice none 0 0]) ((z:Int):Rat) :=
 xN.of h (by rw[dZ (by rfl)];exact zI.nil _)
theorem Zqx {n k:Nat}(h:n<10^k)(a:k≤140737488351232):xT ((n:Nat):Int):=by
 have:=Zea h
 unfold xT
 rw[uS];omega
theorem ZpD {s:Bool}{n k:Nat}(h:n<10^k)(a:k≤140737488351232):xT (sg s n):=by
 have:=Zea h
 unfold xT
 rw[ZhE];omega
theorem Zkr {x y:Int}{a b j:Nat}(c:y≠0)(d:x.natAbs<a)(e:y.natAbs<b)(f:j≤140737488351232){k:Nat}(g:k≤140737488351232):((Rat.divInt x y).num.natAbs<a∧j≤140737488355000)∧((Rat.divInt x y).den<b∧k≤140737488355000):=by
 refine⟨⟨vI ?_ d,by omega⟩,vI ?_ e,by omega⟩
 ·rw[Rat.num_divInt,Int.natAbs_ediv_of_dvd]
  ·refine uA (uO _ _) ?_
   rw[Int.natAbs_mul]
   rcases Int.lt_or_gt_of_ne c with h|h
   ·rw[rR h];simp
   rw[rN h];simp
  exact Int.dvd_mul_of_dvd_right (Int.gcd_dvd_right _ _)
 rw[Rat.den_divInt,uN c]
 exact uO _ _
theorem Zlv {n:Nat}(h:¬ n=0):((n:Nat):Int)≠0:=by omega
theorem ZpE:(1:Nat)<10^1∧1≤140737488355000:=by decide
theorem ZpF {t:ByteArray}{i:Nat}{c:UInt8}(e:((bytes t).take i).all zY=true)(hc:t[i]? = some c)(h:¬ c=47):((bytes t).take (i+1)).all zY=true:=by
 have b:i<t.size:=by
  rcases vJ i t.size with d|d
  ·exact d
  rw[getElem?_neg t i (by omega)] at hc;cases hc
 have a:t[i]=c:=by
  rw[getElem?_pos t i b] at hc;exact qG hc
 rw[Zax t i b,rL,e,a]
 simp[zY,h]
theorem Zqy {t:ByteArray}{i:Nat}{c:UInt8}(e:((bytes t).take i).all zY=true)(d:t[i]? = some c)(h:c=47)(hi:i≤t.size):i=((bytes t).takeWhile zY).length:=by
 refine ZcW e (fun a=>?_) (by rw[zQ];exact hi)
 have b:i<t.size:=by rw[←zQ];exact a
 rw[getElem?_pos t i b] at d
 have:(bytes t)[i]=47:=(qG d).trans h
 rw[this];rfl
theorem Zqz {t:ByteArray}(a:((bytes t).take t.size).all zY=true):t.size=((bytes t).takeWhile zY).length :=
 ZcW a (fun h=>by rw[zQ] at h;omega) (by rw[zQ];exact uK _)
theorem ZbJ (s:ByteArray)(w:World)(hs:s.size≤140737488351232) :
 yA 18 #[.string s] w (ZeW w (bytes s)):=by
 refine zX (Φ:=fun w=>True) Tryz.func18 rfl (by kernel_rfl) (fun w' hf=>trivial) ?_
 refine zC (zB (xr 2 [yT 0 s,(2,.p 2 0),yB 3 false] [bR4 2 34 false none 0 0 false none 0 0] ?_))
 refine xe (zA (zC (zB (xr 2 [yT 0 s,(2,.p 2 0),yB 3 false,yT 4 s] [bR4 2 34 false none 0 0 false none 0 0] ?_))))
 refine xe (zA ?_)
 refine Zbg (fun F G=>∃ (b:Bool),F=ofL [yT 0 s,(2,.p 2 0),yB 3 false,yT 4 s,yB 5 b] [(2,34,[.v (.bool false),.v (.slice none 0 0),.v (.bool false),.v (.slice none 0 0)])]∧G=(fun w=>True)∧((b=true→xA (bytes s)=(true,bytes (s.extract 1 s.size))∧1≤s.size)∧(b=false→xA (bytes s)=(false,bytes s)))) ?_ ?_
 ·by_cases he:bytes s=[]
  ·have k0:s.size=0:=by rw[←zQ,he];rfl
   refine zB (xr 3 [yT 0 s,(2,.p 2 0),yB 3 false,yT 4 s,yB 16 (decide (((s).size:Int)>0))] [bR4 2 34 false none 0 0 false none 0 0] ?_)
   rw[(show decide (((s).size:Int)>0)=false from uJ (by omega))]
   refine xr 6 [yT 0 s,(2,.p 2 0),yB 3 false,yT 4 s,yB 5 false] [bR4 2 34 false none 0 0 false none 0 0] ?_
   refine xe ?_
   refine yP [yT 0 s,(2,.p 2 0),yB 3 false,yT 4 s,yB 5 false] [(2,34,[.v (.bool false),.v (.slice none 0 0),.v (.bool false),.v (.slice none 0 0)])] (fun w=>True) (fun w Q=>trivial) ?_
   exact kW ⟨false,rfl,rfl,⟨fun h=>(by cases h),fun _=>(by unfold xA;rw[he];rfl)⟩⟩
  obtain⟨P,h0,e0⟩:=ZiC he
  have k0:=ZeX he
  by_cases hm:P=45
  ·refine zB (xr 3 [yT 0 s,(2,.p 2 0),yB 3 false,yT 4 s,yB 16 (decide (((s).size:Int)>0))] [bR4 2 34 false none 0 0 false none 0 0] ?_)
   rw[(show decide (((s).size:Int)>0)=true from uQ (by omega))]
   refine xr 2 [yT 0 s,(2,.p 2 0),yB 3 false,yT 4 s,yB 17 true,yT 18 s] [bR4 2 34 false none 0 0 false none 0 0] ?_
   refine yK 19 (.int .u8 (P.toNat:Int)) (fun w R Q=>ZaP (t:=9) (x:=.tmp 18) (k:=0) (i:=.const (.int .i64 0)) (by kernel_rfl) (by kernel_rfl) (by kernel_rfl) (by rfl) e0) ?_
   refine xr 1 [yT 0 s,(2,.p 2 0),yB 3 false,yT 4 s,yB 17 true,yB 20 (((P.toNat:Int):Int) == 45)] [bR4 2 34 false none 0 0 false none 0 0] ?_
   rw[(show ((P.toNat:Int) == 45)=true from ZoN hm)]
   refine xr 2 [yT 0 s,(2,.p 2 0),yB 3 false,yT 4 s,yB 5 true] [bR4 2 34 false none 0 0 false none 0 0] ?_
   refine xe ?_
   refine yP [yT 0 s,(2,.p 2 0),yB 3 false,yT 4 s,yB 5 true] [(2,34,[.v (.bool false),.v (.slice none 0 0),.v (.bool false),.v (.slice none 0 0)])] (fun w=>True) (fun w Q=>trivial) ?_
   exact kW ⟨true,rfl,rfl,⟨fun _=>⟨ZiD h0 hm,ZeX he⟩,fun h=>(by cases h)⟩⟩
  refine zB (xr 3 [yT 0 s,(2,.p 2 0),yB 3 false,yT 4 s,yB 16 (decide (((s).size:Int)>0))] [bR4 2 34 false none 0 0 false none 0 0] ?_)
  rw[(show decide (((s).size:Int)>0)=true from uQ (by omega))]
  refine xr 2 [yT 0 s,(2,.p 2 0),yB 3 false,yT 4 s,yB 17 true,yT 18 s] [bR4 2 34 false none 0 0 false none 0 0] ?_
  refine yK 19 (.int .u8 (P.toNat:Int)) (fun w R Q=>ZaP (t:=9) (x:=.tmp 18) (k:=0) (i:=.const (.int .i64 0)) (by kernel_rfl) (by kernel_rfl) (by kernel_rfl) (by rfl) e0) ?_
  refine xr 1 [yT 0 s,(2,.p 2 0),yB 3 false,yT 4 s,yB 17 true,yB 20 (((P.toNat:Int):Int) == 45)] [bR4 2 34 false none 0 0 false none 0 0] ?_
  rw[(show ((P.toNat:Int) == 45)=false from ZoO (b:=45) hm)]
  refine xr 2 [yT 0 s,(2,.p 2 0),yB 3 false,yT 4 s,yB 5 false] [bR4 2 34 false none 0 0 false none 0 0] ?_
  refine xe ?_
  refine yP [yT 0 s,(2,.p 2 0),yB 3 false,yT 4 s,yB 5 false] [(2,34,[.v (.bool false),.v (.slice none 0 0),.v (.bool false),.v (.slice none 0 0)])] (fun w=>True) (fun w Q=>trivial) ?_
  exact kW ⟨false,rfl,rfl,⟨fun h=>(by cases h),fun _=>ZjF h0 hm⟩⟩
 rintro F G ⟨b,rfl,rfl,HB⟩
 refine Zbg (fun F G=>∃ (t:ByteArray) (l:Bool),F=ofL [yT 0 s,(2,.p 2 0),yB 3 false,yT 4 t,yB 5 l] [(2,34,[.v (.bool false),.v (.slice none 0 0),.v (.bool false),.v (.slice none 0 0)])]∧G=(fun w=>True)∧(xA (bytes s)=(l,bytes t))∧(t.size≤140737488351232)) ?_ ?_
 ·refine zC (zB (xr 1 [yT 0 s,(2,.p 2 0),yB 3 false,yT 4 s,yB 5 b,yB 22 b] [bR4 2 34 false none 0 0 false none 0 0] ?_))
  refine xe (zA ?_)
  refine yQ (b) (fun H=>?_) fun H=>?_
  ·have I:=H
   obtain⟨f0,l0⟩:=HB.1 I
   obtain⟨t,ht⟩:=yE (s.extract 1 s.size)
   rw[ht] at f0
   have lt:t.size≤140737488351232:=by rw[←ht,sY];omega
   refine zB (xr 1 [yT 0 s,(2,.p 2 0),yB 3 false,yT 4 s,yB 5 b,yT 23 s] [bR4 2 34 false none 0 0 false none 0 0] ?_)
   refine yK 24 (.string t) (fun w R Q=>gW 1 _ (t:=9) (x:=.tmp 23) (lo:=(some (Operand.const (Value.int IntKind.i64 1)))) (hi:=none) (by kernel_rfl) (by kernel_rfl) (by kernel_rfl) (Or.inr rfl) (Or.inl ⟨rfl,rfl⟩) l0 (uK _) ht) ?_
   refine xr 1 [yT 0 s,(2,.p 2 0),yB 3 false,yT 4 t,yB 5 b] [bR4 2 34 false none 0 0 false none 0 0] ?_
   refine xe ?_
   refine yP [yT 0 s,(2,.p 2 0),yB 3 false,yT 4 t,yB 5 b] [(2,34,[.v (.bool false),.v (.slice none 0 0),.v (.bool false),.v (.slice none 0 0)])] (fun w=>True) (fun w Q=>trivial) ?_
   exact kW ⟨t,b,rfl,rfl,(by rw[I];exact f0),lt⟩
  have I:=H
  refine zK ?_
  refine yP [yT 0 s,(2,.p 2 0),yB 3 false,yT 4 s,yB 5 b] [(2,34,[.v (.bool false),.v (.slice none 0 0),.v (.bool false),.v (.slice none 0 0)])] (fun w=>True) (fun w Q=>trivial) ?_
  exact kW ⟨s,b,rfl,rfl,(by rw[I];exact HB.2 I),hs⟩
 rintro F G ⟨t,l,rfl,rfl,HM,lt⟩
 refine zC (zB (xr 3 [yT 0 s,(2,.p 2 0),yB 3 false,yT 4 t,yB 5 l,yJ 6 ((t).size:Int)] [bR4 2 34 false none 0 0 false none 0 0] ?_))
 refine xe (zA ?_)
 refine Zbg (fun F G=>∃ (p:Nat),F=ofL [yT 0 s,(2,.p 2 0),yB 3 false,yT 4 t,yB 5 l,yJ 6 (p:Int)] [(2,34,[.v (.bool false),.v (.slice none 0 0),.v (.bool false),.v (.slice none 0 0)])]∧G=(fun w=>True)∧(p=((bytes t).takeWhile zY).length)∧(p≤t.size)) ?_ ?_
 ·refine zC (zB (xr 1 [yT 0 s,(2,.p 2 0),yB 3 false,yT 4 t,yB 5 l,yJ 6 ((t).size:Int),yJ 7 0] [bR4 2 34 false none 0 0 false none 0 0] ?_))
  refine xe (zA (xH ?_))
  refine yC [yT 0 s,(2,.p 2 0),yB 3 false,yT 4 t,yB 5 l,yJ 6 ((t).size:Int),yJ 7 ((0:Nat):Int)] [(2,34,[.v (.bool false),.v (.slice none 0 0),.v (.bool false),.v (.slice none 0 0)])] (fun w=>True) (fun w Q=>trivial) ?_
  refine lW (fun nn F G=>∃ (i:Nat),F=ofL [yT 0 s,(2,.p 2 0),yB 3 false,yT 4 t,yB 5 l,yJ 6 ((t).size:Int),yJ 7 (i:Int)] [(2,34,[.v (.bool false),.v (.slice none 0 0),.v (.bool false),.v (.slice none 0 0)])]∧G=(fun w=>True)∧(i≤t.size)∧(((bytes t).take i).all zY=true)∧nn=t.size-i) (t.size-0) ⟨0,rfl,rfl,(rA _),rfl,rfl⟩ ?_
  rintro nn F G ⟨i,rfl,rfl,hi,hI,rfl⟩
  refine zC (zC (zB (xr 4 [yT 0 s,(2,.p 2 0),yB 3 false,yT 4 t,yB 5 l,yJ 6 ((t).size:Int),yJ 7 (i:Int),yB 30 (decide ((i:Int)<((t).size:Int)))] [bR4 2 34 false none 0 0 false none 0 0] ?_)))
  refine xe (zA ?_)
  refine yQ ((decide ((i:Int)<((t).size:Int)))) (fun J=>?_) fun J=>?_
  ·have g0:i<t.size:=by have:=uC J;omega
   obtain⟨c,hc⟩:∃ c,t[i]? = some c:=⟨t[i],by simp[g0]⟩
   refine zK (zA (zC (xH (zC ?_))))
   by_cases L:c=47
   ·refine zB (xr 2 [yT 0 s,(2,.p 2 0),yB 3 false,yT 4 t,yB 5 l,yJ 6 ((t).size:Int),yJ 7 (i:Int),yT 33 t,yJ 34 (i:Int)] [bR4 2 34 false none 0 0 false none 0 0] ?_)
    refine yK 35 (.int .u8 (c.toNat:Int)) (fun w R Q=>ZaP (t:=9) (x:=.tmp 33) (k:=i) (i:=.tmp 34) (by kernel_rfl) (by kernel_rfl) (by kernel_rfl) (by kernel_rfl) hc) ?_
    refine xr 1 [yT 0 s,(2,.p 2 0),yB 3 false,yT 4 t,yB 5 l,yJ 6 ((t).size:Int),yJ 7 (i:Int),yB 36 (((c.toNat:Int):Int) == 47)] [bR4 2 34 false none 0 0 false none 0 0] ?_
    rw[(show ((c.toNat:Int) == 47)=true from ZoN L)]
    refine xr 0 [yT 0 s,(2,.p 2 0),yB 3 false,yT 4 t,yB 5 l,yJ 6 ((t).size:Int),yJ 7 (i:Int),yB 36 true] [bR4 2 34 false none 0 0 false none 0 0] ?_
    refine xe (zA (xa (zC (zB (xr 2 [yT 0 s,(2,.p 2 0),yB 3 false,yT 4 t,yB 5 l,yJ 6 (i:Int),yJ 7 (i:Int)] [bR4 2 34 false none 0 0 false none 0 0] ?_)))))
    refine xe (zA (lG ?_))
    refine Zb5 (by kernel_rfl) ?_
    refine zW (zW (lV ?_))
    refine yP [yT 0 s,(2,.p 2 0),yB 3 false,yT 4 t,yB 5 l,yJ 6 (i:Int)] [(2,34,[.v (.bool false),.v (.slice none 0 0),.v (.bool false),.v (.slice none 0 0)])] (fun w=>True) (fun w Q=>trivial) ?_
    exact kW ⟨i,rfl,rfl,Zqy hI hc L hi,hi⟩
   refine zB (xr 2 [yT 0 s,(2,.p 2 0),yB 3 false,yT 4 t,yB 5 l,yJ 6 ((t).size:Int),yJ 7 (i:Int),yT 33 t,yJ 34 (i:Int)] [bR4 2 34 false none 0 0 false none 0 0] ?_)
   refine yK 35 (.int .u8 (c.toNat:Int)) (fun w R Q=>ZaP (t:=9) (x:=.tmp 33) (k:=i) (i:=.tmp 34) (by kernel_rfl) (by kernel_rfl) (by kernel_rfl) (by kernel_rfl) hc) ?_
   refine xr 1 [yT 0 s,(2,.p 2 0),yB 3 false,yT 4 t,yB 5 l,yJ 6 ((t).size:Int),yJ 7 (i:Int),yB 36 (((c.toNat:Int):Int) == 47)] [bR4 2 34 false none 0 0 false none 0 0] ?_
   rw[(show ((c.toNat:Int) == 47)=false from ZoO (b:=47) L)]
   refine xr 0 [yT 0 s,(2,.p 2 0),yB 3 false,yT 4 t,yB 5 l,yJ 6 ((t).size:Int),yJ 7 (i:Int),yB 36 false] [bR4 2 34 false none 0 0 false none 0 0] ?_
   refine xe (zA (xb (zK (wX (zA (zB (xr 2 [yT 0 s,(2,.p 2 0),yB 3 false,yT 4 t,yB 5 l,yJ 6 ((t).size:Int),yJ 7 (i:Int),yJ 32 (IntKind.i64.wrap ((i:Int)+1))] [bR4 2 34 false none 0 0 false none 0 0] ?_)))))))
   rw[ZdE (a:=i) (by omega)]
   refine xr 1 [yT 0 s,(2,.p 2 0),yB 3 false,yT 4 t,yB 5 l,yJ 6 ((t).size:Int),yJ 7 ((i+1:Nat):Int)] [bR4 2 34 false none 0 0 false none 0 0] ?_
   refine xe ?_
   refine yP [yT 0 s,(2,.p 2 0),yB 3 false,yT 4 t,yB 5 l,yJ 6 ((t).size:Int),yJ 7 (((i+1):Nat):Int)] [(2,34,[.v (.bool false),.v (.slice none 0 0),.v (.bool false),.v (.slice none 0 0)])] (fun w=>True) (fun w Q=>trivial) ?_
   exact wG (t.size-(i+1)) (by omega) ⟨(i+1),rfl,rfl,g0,ZpF hI hc L,rfl⟩
  have m0:i=t.size:=by have:=uD J;omega
  refine lG (zW (zW (lV ?_)))
  refine yP [yT 0 s,(2,.p 2 0),yB 3 false,yT 4 t,yB 5 l,yJ 6 ((t.size:Nat):Int)] [(2,34,[.v (.bool false),.v (.slice none 0 0),.v (.bool false),.v (.slice none 0 0)])] (fun w=>True) (fun w Q=>trivial) ?_
  exact kW ⟨t.size,rfl,rfl,Zqz (m0 ▸ hI),(uK _)⟩
 rintro F G ⟨p,rfl,rfl,K,i0⟩
 refine zC ?_
 obtain⟨x,hx⟩:=yE (t.extract 0 p)
 have S:bytes x=(bytes t).takeWhile zY:=by rw[←hx];exact (ZfT K).1
 have lx:x.size≤140737488351232:=uA (by rw[←hx];exact ZfS _ _ _) lt
 by_cases T:((bytes x).all zV && !(bytes x).isEmpty)=true
 ·obtain⟨dx,nx⟩:=Zg5 T
  have MX:=Zkp dx
  refine zB (xr 2 [yT 0 s,(2,.p 2 0),yB 3 false,yT 4 t,yB 5 l,yJ 6 (p:Int),yT 39 t,yJ 40 (p:Int)] [bR4 2 34 false none 0 0 false none 0 0] ?_)
  refine yK 41 (.string x) (fun w R Q=>gW 0 p (t:=9) (x:=.tmp 39) (lo:=none) (hi:=(some (Operand.tmp 40))) (by kernel_rfl) (by kernel_rfl) (by kernel_rfl) (Or.inl ⟨rfl,rfl⟩) (Or.inr (by kernel_rfl)) (by omega) i0 hx) ?_
  refine xr 0 [yT 0 s,(2,.p 2 0),yB 3 false,yT 4 t,yB 5 l,yJ 6 (p:Int),yT 41 x] [bR4 2 34 false none 0 0 false none 0 0] ?_
  refine xc 60 [.string x] 42 (fun x:ShI=>.tuple #[zZ x,.bool true]) _ (fun w R Q=>(dK x _ (by omega)).mono (fun _ _ h=>Zkq h dx nx)) fun⟨j0,M,N,O⟩=>?_
  refine xr 6 [yT 0 s,(2,.p 2 0),yB 3 false,yT 4 t,yB 5 l,yJ 6 (p:Int),(8,.p 8 0),yB 9 true] [bI2 8 32 j0 M N O,bR4 2 34 false none 0 0 false none 0 0] ?_
  refine xe (zA (zC (zC (zB (xr 2 [yT 0 s,(2,.p 2 0),yB 3 false,yT 4 t,yB 5 l,yJ 6 (p:Int),(8,.p 8 0),yB 46 false] [bI2 8 32 j0 M N O,bR4 2 34 false none 0 0 false none 0 0] ?_)))))
  refine xe (zA (xb (zK (zA (zC (zB (xr 3 [yT 0 s,(2,.p 2 0),yB 3 false,yT 4 t,yJ 6 (p:Int),yB 48 l,eS1 50 M N O] [bR4 2 34 false none 0 0 false none 0 0] ?_)))))))
  refine xc 61 [.bool l,.slice M N O] 51 zZ _ (fun w R Q=>(eB _ _ _ _ Q.2.mag).mono (fun _ _ h=>xC (by rw[show sg l ((zL (bytes x):Int)).natAbs=sg l (zL (bytes x)) by rw[uS]] at h;exact h))) fun⟨d,e,f,g⟩=>?_
  refine xr 3 [yT 0 s,(2,.p 2 0),yB 3 false,yT 4 t,yJ 6 (p:Int),(10,.p 10 0)] [bR4 10 34 d e f g false none 0 0,bR4 2 34 false none 0 0 false none 0 0] ?_
  refine xe (zA (zC (zC ?_)))
  by_cases hl:p<t.size
  ·obtain⟨q,hq⟩:=yE (t.extract (p+1) t.size)
   have HQ:bytes q=(bytes t).drop (p+1):=by rw[←hq];exact (ZfT K).2
   have lq:q.size≤140737488351232:=uA (by rw[←hq];exact ZfS _ _ _) lt
   refine zB (xr 4 [yT 0 s,(2,.p 2 0),yB 3 false,yT 4 t,yJ 6 (p:Int),(10,.p 10 0),yB 56 (decide ((p:Int)<((t).size:Int)))] [bR4 10 34 d e f g false none 0 0,bR4 2 34 false none 0 0 false none 0 0] ?_)
   rw[Zqw hl]
   refine xr 0 [yT 0 s,(2,.p 2 0),yB 3 false,yT 4 t,yJ 6 (p:Int),(10,.p 10 0),yB 56 true] [bR4 10 34 d e f g false none 0 0,bR4 2 34 false none 0 0 false none 0 0] ?_
   refine xe (zA (xa (zC ?_)))
   by_cases hQ:((bytes q).all zV && !(bytes q).isEmpty)=true
   ·obtain⟨dq,nq⟩:=Zg5 hQ
    have MQ:=Zkp dq
    refine zB (xr 3 [yT 0 s,(2,.p 2 0),yB 3 false,(10,.p 10 0),yT 58 t,yJ 60 (IntKind.i64.wrap ((p:Int)+1))] [bR4 10 34 d e f g false none 0 0,bR4 2 34 false none 0 0 false none 0 0] ?_)
    rw[ZdE (a:=p) (by omega)]
    refine yK 61 (.string q) (fun w R Q=>gW (p+1) _ (t:=9) (x:=.tmp 58) (lo:=(some (Operand.tmp 60))) (hi:=none) (by kernel_rfl) (by kernel_rfl) (by kernel_rfl) (Or.inr (by kernel_rfl)) (Or.inl ⟨rfl,rfl⟩) (by omega) (uK _) hq) ?_
    refine xr 0 [yT 0 s,(2,.p 2 0),yB 3 false,(10,.p 10 0),yT 61 q] [bR4 10 34 d e f g false none 0 0,bR4 2 34 false none 0 0 false none 0 0] ?_
    refine xc 60 [.string q] 62 (fun x:ShI=>.tuple #[zZ x,.bool true]) _ (fun w R Q=>(dK q _ (by omega)).mono (fun _ _ h=>Zkq h dq nq)) fun⟨m,n,o,r⟩=>?_
    refine xr 6 [yT 0 s,(2,.p 2 0),yB 3 false,(10,.p 10 0),(11,.p 11 0),yB 12 true] [bI2 11 32 m n o r,bR4 10 34 d e f g false none 0 0,bR4 2 34 false none 0 0 false none 0 0] ?_
    refine xe (zA (zC (zC ?_)))
    by_cases U:zL (bytes q)=0
    ·refine zB (xr 4 [yT 0 s,(2,.p 2 0),yB 3 false,(10,.p 10 0),(11,.p 11 0),yB 67 false,eI2 68 m n o r] [bI2 11 32 m n o r,bR4 10 34 d e f g false none 0 0,bR4 2 34 false none 0 0 false none 0 0] ?_)
     refine xc 62 [vI2 m n o r] 69 (fun _:Unit=>.int .i64 ((zL (bytes q):Int)).sign) _ (fun w R Q=>yN (wU _ ((zL (bytes q):Int)) _ Q.2)) fun xx=>?_
     refine xr 1 [yT 0 s,(2,.p 2 0),yB 3 false,(10,.p 10 0),(11,.p 11 0),yB 67 false,(70,.v (.bool ((((zL (bytes q):Int)).sign:Int) == 0)))] [bI2 11 32 m n o r,bR4 10 34 d e f g false none 0 0,bR4 2 34 false none 0 0 false none 0 0] ?_
     rw[Zok U]
     refine xr 1 [yT 0 s,(2,.p 2 0),yB 3 false,(10,.p 10 0),(11,.p 11 0),yB 71 true] [bI2 11 32 m n o r,bR4 10 34 d e f g false none 0 0,bR4 2 34 false none 0 0 false none 0 0] ?_
     refine xe (zA (xa (zC (zB (xr 3 [yT 0 s,(2,.p 2 0),yB 3 false,(10,.p 10 0),(11,.p 11 0)] [bI2 11 32 m n o r,bR4 10 34 d e f g false none 0 0,bR4 2 34 false none 0 0 false none 0 0] ?_)))))
     refine xe (zA (zF (zE (zE ?_))))
     refine yR (.tuple #[.agg #[.bool false,.slice none 0 0,.bool false,.slice none 0 0],.bool false]) fun w' R Q=>?_
     exact⟨_,false,0,rfl,R,xN.nil _,Or.inr ⟨rfl,by rw[←ZcH];exact ZfU HM (by rw[←S];exact T) (by rw[←K,zQ];exact hl) (by rw[←K,← HQ];exact Or.inr U)⟩⟩
    refine zB (xr 4 [yT 0 s,(2,.p 2 0),yB 3 false,(10,.p 10 0),(11,.p 11 0),yB 67 false,eI2 68 m n o r] [bI2 11 32 m n o r,bR4 10 34 d e f g false none 0 0,bR4 2 34 false none 0 0 false none 0 0] ?_)
    refine xc 62 [vI2 m n o r] 69 (fun _:Unit=>.int .i64 ((zL (bytes q):Int)).sign) _ (fun w R Q=>yN (wU _ ((zL (bytes q):Int)) _ Q.2)) fun xx=>?_
    refine xr 1 [yT 0 s,(2,.p 2 0),yB 3 false,(10,.p 10 0),(11,.p 11 0),yB 67 false,(70,.v (.bool ((((zL (bytes q):Int)).sign:Int) == 0)))] [bI2 11 32 m n o r,bR4 10 34 d e f g false none 0 0,bR4 2 34 false none 0 0 false none 0 0] ?_
    rw[ZmZ U]
    refine xr 1 [yT 0 s,(2,.p 2 0),yB 3 false,(10,.p 10 0),(11,.p 11 0),yB 71 false] [bI2 11 32 m n o r,bR4 10 34 d e f g false none 0 0,bR4 2 34 false none 0 0 false none 0 0] ?_
    refine xe (zA (xb (zK (zA (zB (xr 3 [yT 0 s,(2,.p 2 0),yB 3 false,(10,.p 10 0),eI2 74 d e f g,eI2 75 m n o r] [bR4 10 34 d e f g false none 0 0,bR4 2 34 false none 0 0 false none 0 0] ?_))))))
    refine xc 23 [vI2 d e f g,vI2 m n o r] 76 cL _ (fun w R Q=>yM Zdn (ZmU _ _ (sg l (zL (bytes x))) ((zL (bytes q):Int)) _ Q.1.1.2 Q.1.2 (ZpD MX lx) (Zqx MQ lq) (Zlv U))) fun⟨u,y,z,A,B,C,D,E⟩=>?_
    refine xr 1 [yT 0 s,(2,.p 2 0),yB 3 false,(10,.p 10 0)] [bR4 10 34 u y z A B C D E,bR4 2 34 false none 0 0 false none 0 0] ?_
    refine xe (zA (zC ?_))
    refine yO 7 zM ?_
    refine xf 2 [yT 0 s,(2,.p 2 0),yB 3 false,eR4 77 u y z A B C D E,eR4 78 u y z A B C D E] [bR4 10 34 u y z A B C D E,bR4 2 34 false none 0 0 false none 0 0] ?_
    refine xd 31 [vR4 u y z A B C D E] 79 (fun _:Unit=>.string ⟨(xD (Rat.divInt (sg l (zL (bytes x))) ((zL (bytes q):Int)))).toArray⟩) _ (fun w R Q=>yN (ZcG _ (Rat.divInt (sg l (zL (bytes x))) ((zL (bytes q):Int))) _ Q.2 x.size q.size (Zkr (k:=q.size) (Zlv U) (by rw[ZhE];exact MX) MQ lx lq).1 (Zkr (j:=x.size) (Zlv U) (by rw[ZhE];exact MX) MQ lx lq).2)) fun xx=>?_
    refine xf 4 [(2,.p 2 0),(3,.v (.bool ((⟨(xD (Rat.divInt (sg l (zL (bytes x))) ((zL (bytes q):Int)))).toArray⟩:ByteArray).toList == (s:ByteArray).toList)))] [bR4 2 34 u y z A B C D E,bR4 10 34 u y z A B C D E,bR4 2 34 false none 0 0 false none 0 0] ?_
    refine xz (xe (zA (zF ?_)))
    refine yR (.tuple #[.agg #[.bool u,.slice y z A,.bool B,.slice C D E],.bool ((⟨(xD (Rat.divInt (sg l (zL (bytes x))) ((zL (bytes q):Int)))).toArray⟩:ByteArray).toList == (s:ByteArray).toList)]) fun w' R Q=>?_
    exact⟨_,_,_,rfl,R,Q.1.2,ZiB (by rw[Zlu HM (by rw[←S];exact T) (by rw[←K,zQ];exact hl) (by rw[←K,← HQ];exact hQ) (by rw[←K,← HQ];exact U),← K,← HQ,← S]) Zko⟩
   refine zB (xr 3 [yT 0 s,(2,.p 2 0),yB 3 false,(10,.p 10 0),yT 58 t,yJ 60 (IntKind.i64.wrap ((p:Int)+1))] [bR4 10 34 d e f g false none 0 0,bR4 2 34 false none 0 0 false none 0 0] ?_)
   rw[ZdE (a:=p) (by omega)]
   refine yK 61 (.string q) (fun w R Q=>gW (p+1) _ (t:=9) (x:=.tmp 58) (lo:=(some (Operand.tmp 60))) (hi:=none) (by kernel_rfl) (by kernel_rfl) (by kernel_rfl) (Or.inr (by kernel_rfl)) (Or.inl ⟨rfl,rfl⟩) (by omega) (uK _) hq) ?_
   refine xr 0 [yT 0 s,(2,.p 2 0),yB 3 false,(10,.p 10 0),yT 61 q] [bR4 10 34 d e f g false none 0 0,bR4 2 34 false none 0 0 false none 0 0] ?_
   refine xc 60 [.string q] 62 (fun x:ShI=>.tuple #[zZ x,.bool false]) _ (fun w R Q=>(dK q _ (by omega)).mono (fun _ _ h=>ZiE h hQ)) fun⟨V,W,X,Y⟩=>?_
   refine xr 6 [yT 0 s,(2,.p 2 0),yB 3 false,(10,.p 10 0),(11,.p 11 0),yB 12 false] [bI2 11 32 V W X Y,bR4 10 34 d e f g false none 0 0,bR4 2 34 false none 0 0 false none 0 0] ?_
   refine xe (zA (zC (zC (zB (xr 7 [yT 0 s,(2,.p 2 0),yB 3 false,(10,.p 10 0),(11,.p 11 0),yB 71 true] [bI2 11 32 V W X Y,bR4 10 34 d e f g false none 0 0,bR4 2 34 false none 0 0 false none 0 0] ?_)))))
   refine xe (zA (xa (zC (zB (xr 3 [yT 0 s,(2,.p 2 0),yB 3 false,(10,.p 10 0),(11,.p 11 0)] [bI2 11 32 V W X Y,bR4 10 34 d e f g false none 0 0,bR4 2 34 false none 0 0 false none 0 0] ?_)))))
   refine xe (zA (zF (zE (zE ?_))))
   refine yR (.tuple #[.agg #[.bool false,.slice none 0 0,.bool false,.slice none 0 0],.bool false]) fun w' R Q=>?_
   exact⟨_,false,0,rfl,R,xN.nil _,Or.inr ⟨rfl,by rw[←ZcH];exact ZfU HM (by rw[←S];exact T) (by rw[←K,zQ];exact hl) (by rw[←K,← HQ];exact Or.inl (vR.2 hQ))⟩⟩
  refine zB (xr 4 [yT 0 s,(2,.p 2 0),yB 3 false,yT 4 t,yJ 6 (p:Int),(10,.p 10 0),yB 56 (decide ((p:Int)<((t).size:Int)))] [bR4 10 34 d e f g false none 0 0,bR4 2 34 false none 0 0 false none 0 0] ?_)
  rw[ZpC hl]
  refine xr 0 [yT 0 s,(2,.p 2 0),yB 3 false,yT 4 t,yJ 6 (p:Int),(10,.p 10 0),yB 56 false] [bR4 10 34 d e f g false none 0 0,bR4 2 34 false none 0 0 false none 0 0] ?_
  refine xe (zA (xb (zK (zA (zC ?_)))))
  refine yO 7 zM ?_
  refine xf 2 [yT 0 s,(2,.p 2 0),yB 3 false,eR4 77 d e f g false none 0 0,eR4 78 d e f g false none 0 0] [bR4 10 34 d e f g false none 0 0,bR4 2 34 false none 0 0 false none 0 0] ?_
  refine xd 31 [vR4 d e f g false none 0 0] 79 (fun _:Unit=>.string ⟨(xD (((sg l (zL (bytes x)):Int):Rat))).toArray⟩) _ (fun w R Q=>yN (ZcG _ (((sg l (zL (bytes x)):Int):Rat)) _ (xN.whole Q.2) x.size 1 ⟨by show (sg l (zL (bytes x))).natAbs<_;rw[ZhE];exact MX,by omega⟩ ZpE)) fun xx=>?_
  refine xf 4 [(2,.p 2 0),(3,.v (.bool ((⟨(xD (((sg l (zL (bytes x)):Int):Rat))).toArray⟩:ByteArray).toList == (s:ByteArray).toList)))] [bR4 2 34 d e f g false none 0 0,bR4 10 34 d e f g false none 0 0,bR4 2 34 false none 0 0 false none 0 0] ?_
  refine xz (xe (zA (zF ?_)))
  refine zD (v:=.tuple #[.agg #[.bool d,.slice e f g,.bool false,.slice none 0 0],.bool ((⟨(xD (((sg l (zL (bytes x)):Int):Rat))).toArray⟩:ByteArray).toList == (s:ByteArray).toList)]) (by kernel_rfl) fun w' R Q=>?_
  exact⟨_,_,_,rfl,R,(xN.whole Q.1.2),ZiB (by rw[ZjE HM (by rw[←S];exact T) (by rw[←K,zQ];omega),← S]) Zko⟩
 refine zB (xr 2 [yT 0 s,(2,.p 2 0),yB 3 false,yT 4 t,yB 5 l,yJ 6 (p:Int),yT 39 t,yJ 40 (p:Int)] [bR4 2 34 false none 0 0 false none 0 0] ?_)
 refine yK 41 (.string x) (fun w R Q=>gW 0 p (t:=9) (x:=.tmp 39) (lo:=none) (hi:=(some (Operand.tmp 40))) (by kernel_rfl) (by kernel_rfl) (by kernel_rfl) (Or.inl ⟨rfl,rfl⟩) (Or.inr (by kernel_rfl)) (by omega) i0 hx) ?_
 refine xr 0 [yT 0 s,(2,.p 2 0),yB 3 false,yT 4 t,yB 5 l,yJ 6 (p:Int),yT 41 x] [bR4 2 34 false none 0 0 false none 0 0] ?_
 refine xc 60 [.string x] 42 (fun x:ShI=>.tuple #[zZ x,.bool false]) _ (fun w R Q=>(dK x _ (by omega)).mono (fun _ _ h=>ZiE h T)) fun⟨Z,a0,b0,d0⟩=>?_
 refine xr 6 [yT 0 s,(2,.p 2 0),yB 3 false,yT 4 t,yB 5 l,yJ 6 (p:Int),(8,.p 8 0),yB 9 false] [bI2 8 32 Z a0 b0 d0,bR4 2 34 false none 0 0 false none 0 0] ?_
 refine xe (zA (zC (zC (zB (xr 2 [yT 0 s,(2,.p 2 0),yB 3 false,yT 4 t,yB 5 l,yJ 6 (p:Int),(8,.p 8 0),yB 46 true] [bI2 8 32 Z a0 b0 d0,bR4 2 34 false none 0 0 false none 0 0] ?_)))))
 refine xe (zA (xa (zC (zB (xr 3 [yT 0 s,(2,.p 2 0),yB 3 false,yT 4 t,yB 5 l,yJ 6 (p:Int),(8,.p 8 0)] [bI2 8 32 Z a0 b0 d0,bR4 2 34 false none 0 0 false none 0 0] ?_)))))
 refine xe (zA (zF (zE ?_)))
 refine yR (.tuple #[.agg #[.bool false,.slice none 0 0,.bool false,.slice none 0 0],.bool false]) fun w' R Q=>?_
 exact⟨_,false,0,rfl,R,xN.nil _,Or.inr ⟨rfl,by rw[←ZcH];exact Zlt HM (by rw[←S];exact vR.2 T)⟩⟩
section
variable {w w':World} {e:Ending} {l:List UInt8}
theorem ZfV (h:ZeW w l e w')(b:wM l=none):kF (fun x:ShQ=>.tuple #[cL x,.bool false]) (fun x w=>∃ q,xN w (cL x) q) w e w':=by
 obtain⟨v,j,q,rfl,Q,a,⟨rfl,h1⟩|⟨rfl,h1⟩⟩:=h
 ·rw[b] at h1;cases h1
 obtain⟨s,A,l,c,t,B,m,d,rfl⟩:=a.shp
 exact⟨(s,A,l,c,t,B,m,d),rfl,Q,boxn Q (fun S f g i=>⟨q,a.nrb g i⟩)⟩
theorem aJ {q:Rat}(h:ZeW w l e w')(a:wM l=some q):kF (fun x:ShQ=>.tuple #[cL x,.bool true]) (fun x w=>xN w (cL x) q) w e w':=by
 obtain⟨v,j,k,rfl,Q,b,⟨rfl,h1⟩|⟨rfl,h1⟩⟩:=h
 ·rw[a] at h1;injection h1 with h1;subst h1
  obtain⟨s,A,l,c,t,B,m,d,rfl⟩:=b.shp
  exact⟨(s,A,l,c,t,B,m,d),rfl,Q,boxn Q (fun S f g i=>b.nrb g i)⟩
 rw[a] at h1;cases h1
end
theorem ZbS:∀ l:List UInt8,Lib.indexByte l 47=if (l.takeWhile zY).length<l.length then ((l.takeWhile zY).length:Int) else -1
 | []=>by simp[Lib.indexByte]
 | b :: l=>by
  have e:=ZbS l
  unfold Lib.indexByte
  by_cases a:b=47
  ·subst a;simp[zY]
  have f:(b == (47:UInt8))=false:=by simpa using a
  have g:zY b=true:=by simp[zY,a]
  rw[f,e]
  simp only[qT,g,sH,if_true,rG,pI]
  generalize (l.takeWhile zY).length=k
  generalize l.length=n
  by_cases d:k<n
  ·have c:k+1<n+1:=by omega
   have h:((k:Int) == -1)=false:=by simp
   rw[uP c,uP d]
   simp only[h,rG,pI]
   omega
  have c:¬ k+1<n+1:=by omega
  rw[uN c,uN d]
  rfl
theorem ZqA {s:ByteArray}(h:bytes s=[47]):(0:Int)=Lib.indexByte (bytes s) 47:=by rw[h];rfl
theorem ZpG {s:ByteArray}(h:bytes s=[47]):((⟨#[47]⟩:ByteArray).toList == s.toList)=true:=by
 rw[Lib.toList_data,Lib.toList_data,show s.data.toList=[47] from h];rfl
theorem ZpH {s:ByteArray}(h:¬ bytes s=[47]):((⟨#[47]⟩:ByteArray).toList == s.toList)=false:=by
 rw[Lib.toList_data,Lib.toList_data];exact tG.2 (fun e=>h e.symm)
theorem ZpI {p:Nat}(h:p≤1000000):IntKind.i64.wrap (((p:Nat):Int)+((⟨#[47]⟩:ByteArray).size:Int))=((p+1:Nat):Int):=by
 rw[show (((⟨#[47]⟩:ByteArray).size:Nat):Int)=1 from rfl,IntKind.wrap_i64];omega
theorem Zks (z:Int):(Lib.itoa z).all zY=true:=by
 rcases pH z 0 with h|h
 ·rw[ZcD h,rL,aI (kZ _)];rfl
 rw[show z=((z.toNat:Nat):Int) by omega,jQ];exact aI (kZ _)
theorem Zg6 {l:List UInt8}{q:Rat}(h:wM l=some q)(a:q.den=1):l=Lib.itoa q.num∧l.length≤(l.takeWhile zY).length:=by
 have b:xD q=l:=eA h
 have e:l=Lib.itoa q.num:=by rw[←b];unfold xD;rw[uP a]
 refine⟨e,?_⟩
 have:=Zks q.num
 rw[←e] at this
 rw[(eS this).1]
 exact uK _
theorem Zm0 {l:List UInt8}{q:Rat}(h:wM l=some q)(b:¬ q.den=1):l.takeWhile zY=Lib.itoa q.num∧l.drop ((l.takeWhile zY).length+1)=Lib.itoa (q.den:Int)∧(l.takeWhile zY).length<l.length:=by
 have d:xD q=l:=eA h
 have e:l=Lib.itoa q.num ++ 47 :: Lib.itoa (q.den:Int):=by rw[←d];unfold xD;rw[uN b];simp
 obtain⟨a,f⟩:=Zac (p:=zY) (r:=Lib.itoa (q.den:Int)) (c:=47) (Zks q.num) (by decide)
 rw[←e] at a f
 refine⟨a,?_,?_⟩
 ·rw[a,e,← vN,List.drop_left];rfl
 rw[a,e];simp
theorem Zlw:Ending.returned (.tuple #[.string ⟨#[48]⟩,.string ⟨#[49]⟩])=Ending.returned (.tuple #[.string ⟨(Lib.itoa (0:Rat).num).toArray⟩,.string ⟨(Lib.itoa ((0:Rat).den:Int)).toArray⟩]):=by
 rw[show (0:Rat).num=((0:Nat):Int) from rfl,show ((0:Rat).den:Int)=((1:Nat):Int) from rfl,Zad (by decide),Zad (by decide)];rfl
theorem ZjG (s:ByteArray):Ending.returned (.tuple #[.string s,.string ⟨#[49]⟩])=Ending.returned (.tuple #[.string ⟨(bytes s).toArray⟩,.string ⟨(Lib.itoa ((1:Nat):Int)).toArray⟩]):=by
 rw[Zad (by decide)];rfl
theorem Zol (x:Int):xD ((x:Int):Rat)=Lib.itoa x:=by unfold xD;exact uP rfl
theorem Zm1 (s:ByteArray)(w:World):yA 224 #[.string s,.int .u8 (((47:UInt8).toNat:Nat):Int)] w (RetV w (.int .i64 (Lib.indexByte (bytes s) 47))):=by
 refine (Tryz.stringslite_IndexByte s (((47:UInt8).toNat:Nat):Int) w).mono ?_
 rintro e w' ⟨rfl,rfl⟩
 exact⟨rfl,Fr.refl _ _⟩
theorem Zcb (s:ByteArray)(w:World) :
 yA 198 #[.string s,.string ⟨#[47]⟩] w (RetV w (.int .i64 (Lib.indexByte (bytes s) 47))):=by
 refine zX (Φ:=fun w=>True) Tryz.func198 rfl (by kernel_rfl) (fun w' d=>trivial) ?_
 refine zC (zB (xr 1 [yT 0 s,yT 1 ⟨#[47]⟩,yJ 4 0] [] ?_))
 refine xe (zA (zC (zB (xr 2 [yT 0 s,yT 1 ⟨#[47]⟩,yJ 4 0,yJ 15 ((⟨#[47]⟩:ByteArray).size:Int)] [] ?_))))
 rw[(show (((⟨#[47]⟩:ByteArray).size:Nat):Int)=1 from rfl)]
 refine xr 1 [yT 0 s,yT 1 ⟨#[47]⟩,yJ 4 0,yJ 5 1] [] ?_
 refine xe (zA (zC (xH (zC ?_))))
 by_cases a:bytes s=[47]
 ·refine zB (xr 6 [yT 0 s,yT 1 ⟨#[47]⟩,yJ 4 0,yJ 5 1,yB 19 false,yB 22 ((⟨#[47]⟩:ByteArray).toList == (s:ByteArray).toList)] [] ?_)
  rw[ZpG a]
  refine xr 2 [yT 0 s,yT 1 ⟨#[47]⟩,yJ 4 0,yJ 5 1,yB 16 true] [] ?_
  refine xe (zA (xa (zC (zB (xr 1 [yT 0 s,yT 1 ⟨#[47]⟩,yJ 4 0,yJ 5 1] [] ?_)))))
  refine xe (zA (zF (lA (zE ?_))))
  refine yR (.int .i64 0) fun w' R Q=>?_
  exact⟨by rw[←ZqA a],R⟩
 refine zB (xr 6 [yT 0 s,yT 1 ⟨#[47]⟩,yJ 4 0,yJ 5 1,yB 19 false,yB 22 ((⟨#[47]⟩:ByteArray).toList == (s:ByteArray).toList)] [] ?_)
 rw[ZpH a]
 refine xr 2 [yT 0 s,yT 1 ⟨#[47]⟩,yJ 4 0,yJ 5 1,yB 16 false] [] ?_
 refine xe (zA (xb (zC (zB (xr 3 [yT 0 s,yT 1 ⟨#[47]⟩,yJ 4 0,yJ 5 1,yB 24 true] [] ?_)))))
 refine xe (zA (xa (zC (zB (xr 2 [yT 0 s,yT 1 ⟨#[47]⟩,yJ 4 0,yJ 5 1,yT 27 s,yT 28 ⟨#[47]⟩] [] ?_)))))
 refine yK 29 (.int .u8 (((47:UInt8).toNat:Nat):Int)) (fun w R Q=>bF (c:=47) (b:=⟨#[47]⟩) (t:=9) (x:=.tmp 28) (k:=0) (i:=.const (.int .i64 0)) (by kernel_rfl) (by kernel_rfl) (by kernel_rfl) (by rfl) (by rfl)) ?_
 refine xr 0 [yT 0 s,yT 1 ⟨#[47]⟩,yJ 4 0,yJ 5 1,yT 27 s,(29,.v (.int .u8 (((47:UInt8).toNat:Nat):Int)))] [] ?_
 refine xc 224 [.string s,.int .u8 (((47:UInt8).toNat:Nat):Int)] 30 (fun _:Unit=>.int .i64 (Lib.indexByte (bytes s) 47)) _ (fun w R Q=>yN (Zm1 s _)) fun e=>?_
 refine xr 1 [yT 0 s,yT 1 ⟨#[47]⟩,yJ 4 (Lib.indexByte (bytes s) 47),yJ 5 1] [] ?_
 refine xe (zA (zF (lA (zE ?_))))
 refine yR (.int .i64 (Lib.indexByte (bytes s) 47)) fun w' R Q=>?_
 exact⟨rfl,R⟩
theorem ZiF (s x y:ByteArray)(p:Nat)(w:World)(f:s.size≤100000)(c:p=((bytes s).takeWhile zY).length)(b:p<s.size)(d:s.extract 0 p=x)(e:s.extract (p+1) s.size=y) :
 yA 173 #[.string s,.string ⟨#[47]⟩] w (RetV w (.tuple #[.string x,.string y,.bool true])):=by
 have a:((bytes s).takeWhile zY).length<(bytes s).length:=by rw[←c,zQ];exact b
 refine zX (Φ:=fun w=>True) Tryz.func173 rfl (by kernel_rfl) (fun w' g=>trivial) ?_
 refine zC (zB (xr 3 [yT 0 s,yT 1 ⟨#[47]⟩,yT 4 ⟨#[]⟩,yT 5 ⟨#[]⟩,yB 6 false] [] ?_))
 refine xe (zA (zC (zC (zB (xr 2 [yT 0 s,yT 1 ⟨#[47]⟩,yT 4 ⟨#[]⟩,yT 5 ⟨#[]⟩,yB 6 false,yT 8 s,yT 9 ⟨#[47]⟩] [] ?_)))))
 refine xc 198 [.string s,.string ⟨#[47]⟩] 10 (fun _:Unit=>.int .i64 (p:Int)) _ (fun w R Q=>(Zcb s _).mono (fun _ _ h=>zG h (by rw[ZbS,uP a,← c]))) fun i=>?_
 refine xr 1 [yT 0 s,yT 1 ⟨#[47]⟩,yT 4 ⟨#[]⟩,yT 5 ⟨#[]⟩,yB 6 false,yJ 7 (p:Int)] [] ?_
 refine xe (zA (zC (zB (xr 2 [yT 0 s,yT 1 ⟨#[47]⟩,yT 4 ⟨#[]⟩,yT 5 ⟨#[]⟩,yB 6 false,yJ 7 (p:Int),yB 12 (decide ((p:Int)≥0))] [] ?_))))
 rw[(show decide ((p:Int)≥0)=true from uQ (by omega))]
 refine xr 0 [yT 0 s,yT 1 ⟨#[47]⟩,yT 4 ⟨#[]⟩,yT 5 ⟨#[]⟩,yB 6 false,yJ 7 (p:Int),yB 12 true] [] ?_
 refine xe (zA (xa (zC ?_)))
 refine yO 12 zM ?_
 refine xf 2 [yT 0 s,yT 1 ⟨#[47]⟩,yT 4 ⟨#[]⟩,yT 5 ⟨#[]⟩,yB 6 false,yJ 7 (p:Int),yT 13 s,yJ 14 (p:Int)] [] ?_
 refine Zd0 15 (.string x) (by kernel_rfl) (by kernel_rfl) (by kernel_rfl) (by kernel_rfl) (by kernel_rfl) (by kernel_rfl) (fun w Q=>gW 0 p (t:=9) (x:=.tmp 13) (lo:=none) (hi:=(some (Operand.tmp 14))) (by kernel_rfl) (by kernel_rfl) (by kernel_rfl) (Or.inl ⟨rfl,rfl⟩) (Or.inr (by kernel_rfl)) (by omega) (by omega) d) ?_
 refine xf 5 [yT 0 s,yT 4 ⟨#[]⟩,yT 5 ⟨#[]⟩,yB 6 false,yT 15 x,yT 16 s,yJ 20 (IntKind.i64.wrap ((p:Int)+((⟨#[47]⟩:ByteArray).size:Int)))] [] ?_
 rw[ZpI (p:=p) (by omega)]
 refine Zd0 21 (.string y) (by kernel_rfl) (by kernel_rfl) (by kernel_rfl) (by kernel_rfl) (by kernel_rfl) (by kernel_rfl) (fun w Q=>gW (p+1) _ (t:=9) (x:=.tmp 16) (lo:=(some (Operand.tmp 20))) (hi:=none) (by kernel_rfl) (by kernel_rfl) (by kernel_rfl) (Or.inr (by kernel_rfl)) (Or.inl ⟨rfl,rfl⟩) (by omega) (uK _) e) ?_
 refine xf 3 [yT 0 s,yT 4 x,yT 5 y,yB 6 true] [] ?_
 refine xz (xe (zA (zF (zE ?_))))
 refine yR (.tuple #[.string x,.string y,.bool true]) fun w' R Q=>?_
 exact⟨rfl,R⟩
theorem ZjH (s:ByteArray)(w:World)(a:¬ ((bytes s).takeWhile zY).length<(bytes s).length) :
 yA 173 #[.string s,.string ⟨#[47]⟩] w (RetV w (.tuple #[.string s,.string ⟨#[]⟩,.bool false])):=by
 refine zX (Φ:=fun w=>True) Tryz.func173 rfl (by kernel_rfl) (fun w' b=>trivial) ?_
 refine zC (zB (xr 3 [yT 0 s,yT 1 ⟨#[47]⟩,yT 4 ⟨#[]⟩,yT 5 ⟨#[]⟩,yB 6 false] [] ?_))
 refine xe (zA (zC (zC (zB (xr 2 [yT 0 s,yT 1 ⟨#[47]⟩,yT 4 ⟨#[]⟩,yT 5 ⟨#[]⟩,yB 6 false,yT 8 s,yT 9 ⟨#[47]⟩] [] ?_)))))
 refine xc 198 [.string s,.string ⟨#[47]⟩] 10 (fun _:Unit=>.int .i64 (-1)) _ (fun w R Q=>(Zcb s _).mono (fun _ _ h=>zG h (by rw[ZbS,uN a]))) fun c=>?_
 refine xr 1 [yT 0 s,yT 1 ⟨#[47]⟩,yT 4 ⟨#[]⟩,yT 5 ⟨#[]⟩,yB 6 false,yJ 7 (-1)] [] ?_
 refine xe (zA (zC (zB (xr 2 [yT 0 s,yT 1 ⟨#[47]⟩,yT 4 ⟨#[]⟩,yT 5 ⟨#[]⟩,yB 6 false,yJ 7 (-1),yB 12 false] [] ?_))))
 refine xe (zA (xb (zK (zA (zC (zB (xr 4 [yT 4 s,yT 5 ⟨#[]⟩,yB 6 false] [] ?_)))))))
 refine xe (zA (zF ?_))
 refine yR (.tuple #[.string s,.string ⟨#[]⟩,.bool false]) fun w' R Q=>?_
 exact⟨rfl,R⟩
theorem Zlx (s x y:ByteArray)(p:Nat)(w:World)(b:s.size≤100000)(c:p=((bytes s).takeWhile zY).length)(a:p<s.size)(d:s.extract 0 p=x)(e:s.extract (p+1) s.size=y) :
 yA 141 #[.string s,.string ⟨#[47]⟩] w (RetV w (.tuple #[.string x,.string y,.bool true])):=by
 refine zX (Φ:=fun w=>True) Tryz.func141 rfl (by kernel_rfl) (fun w' f=>trivial) ?_
 refine zC (zB (xr 3 [yT 0 s,yT 1 ⟨#[47]⟩,yT 4 ⟨#[]⟩,yT 5 ⟨#[]⟩,yB 6 false] [] ?_))
 refine xe (zA (zC (zB (xr 2 [yT 4 ⟨#[]⟩,yT 5 ⟨#[]⟩,yB 6 false,yT 7 s,yT 8 ⟨#[47]⟩] [] ?_))))
 refine xc 173 [.string s,.string ⟨#[47]⟩] 9 (fun _:Unit=>.tuple #[.string x,.string y,.bool true]) _ (fun w R Q=>yN (ZiF s x y p _ b c a d e)) fun g=>?_
 refine xr 6 [yT 4 x,yT 5 y,yB 6 true] [] ?_
 refine xe (zA (zF ?_))
 refine yR (.tuple #[.string x,.string y,.bool true]) fun w' R Q=>?_
 exact⟨rfl,R⟩
theorem Zm2 (s:ByteArray)(w:World)(a:¬ ((bytes s).takeWhile zY).length<(bytes s).length) :
 yA 141 #[.string s,.string ⟨#[47]⟩] w (RetV w (.tuple #[.string s,.string ⟨#[]⟩,.bool false])):=by
 refine zX (Φ:=fun w=>True) Tryz.func141 rfl (by kernel_rfl) (fun w' b=>trivial) ?_
 refine zC (zB (xr 3 [yT 0 s,yT 1 ⟨#[47]⟩,yT 4 ⟨#[]⟩,yT 5 ⟨#[]⟩,yB 6 false] [] ?_))
 refine xe (zA (zC (zB (xr 2 [yT 4 ⟨#[]⟩,yT 5 ⟨#[]⟩,yB 6 false,yT 7 s,yT 8 ⟨#[47]⟩] [] ?_))))
 refine xc 173 [.string s,.string ⟨#[47]⟩] 9 (fun _:Unit=>.tuple #[.string s,.string ⟨#[]⟩,.bool false]) _ (fun w R Q=>yN (ZjH s _ a)) fun c=>?_
 refine xr 6 [yT 4 s,yT 5 ⟨#[]⟩,yB 6 false] [] ?_
 refine xe (zA (zF ?_))
 refine yR (.tuple #[.string s,.string ⟨#[]⟩,.bool false]) fun w' R Q=>?_
 exact⟨rfl,R⟩
theorem Zly (s:ByteArray)(w:World)(n:Glob w)(i:(bytes s).length≤570) :
 yA 98 #[.string s] w (RetV w (.tuple #[.string ⟨(Lib.itoa (valF (bytes s)).num).toArray⟩,.string ⟨(Lib.itoa ((valF (bytes s)).den:Int)).toArray⟩])):=by
 refine zX (Φ:=fun w=>Glob w) Tryz.func98 rfl (by kernel_rfl) (fun w' o=>n.ext o) ?_
 refine zC (zB (xr 2 [yT 0 s,yT 2 ⟨#[]⟩,yT 3 ⟨#[]⟩] [] ?_))
 refine xe (zA (zC (zC (zB (xr 1 [yT 0 s,yT 2 ⟨#[]⟩,yT 3 ⟨#[]⟩,yT 7 s] [] ?_)))))
 by_cases b:(wM (bytes s)).isSome=true
 ·obtain⟨q,c⟩:=sN.1 b
  have d:=ZbG c
  refine xc 54 [.string s] 8 (fun _:Unit=>.bool true) _ (fun w R Q=>(ZbI s _ Q i).mono (fun _ _ h=>zG h (by rw[b]))) fun f=>?_
  refine xr 1 [yT 0 s,yT 2 ⟨#[]⟩,yT 3 ⟨#[]⟩,yB 9 false] [] ?_
  refine xe (zA (xb (zK (zA (zC (zB (xr 1 [yT 2 ⟨#[]⟩,yT 3 ⟨#[]⟩,yT 11 s] [] ?_)))))))
  by_cases a:q.den=1
  ·refine xc 141 [.string s,.string ⟨#[47]⟩] 12 (fun _:Unit=>.tuple #[.string s,.string ⟨#[]⟩,.bool false]) _ (fun w R Q=>yN (Zm2 s _ (by have:=(Zg6 c a).2;omega))) fun f=>?_
   refine xr 7 [yT 2 ⟨#[]⟩,yT 3 ⟨#[]⟩,yT 4 s,yT 5 ⟨#[]⟩,yB 6 false] [] ?_
   refine xe (zA (zC (zC (zB (xr 2 [yT 2 ⟨#[]⟩,yT 3 ⟨#[]⟩,yT 4 s,yT 5 ⟨#[]⟩,yB 17 true] [] ?_)))))
   refine xe (zA (xa (zC (zB (xr 3 [yT 2 s,yT 3 ⟨#[49]⟩,yT 4 s,yT 5 ⟨#[]⟩] [] ?_)))))
   refine xe (zA (zF (zE ?_)))
   refine yR (.tuple #[.string s,.string ⟨#[49]⟩]) fun w' R Q=>?_
   exact⟨by rw[d,a,← (Zg6 c a).1];exact ZjG s,R⟩
  obtain⟨r,j,k⟩:=Zm0 c a
  obtain⟨p,e⟩:∃ p,p=((bytes s).takeWhile zY).length:=⟨_,rfl⟩
  rw[←e] at j k
  have g:p<s.size:=by rw[←zQ];exact k
  obtain⟨x,l⟩:=yE (s.extract 0 p)
  obtain⟨y,m⟩:=yE (s.extract (p+1) s.size)
  have t:x=⟨(Lib.itoa (q.num)).toArray⟩:=Zkj (by rw[←l,(ZfT e).1,r,cC])
  have u:y=⟨(Lib.itoa (q.den:Int)).toArray⟩:=Zkj (by rw[←m,(ZfT e).2,j,cC])
  refine xc 141 [.string s,.string ⟨#[47]⟩] 12 (fun _:Unit=>.tuple #[.string x,.string y,.bool true]) _ (fun w R Q=>yN (Zlx s x y p _ (by rw[←zQ];omega) e g l m)) fun f=>?_
  refine xr 7 [yT 2 ⟨#[]⟩,yT 3 ⟨#[]⟩,yT 4 x,yT 5 y,yB 6 true] [] ?_
  refine xe (zA (zC (zC (zB (xr 2 [yT 2 ⟨#[]⟩,yT 3 ⟨#[]⟩,yT 4 x,yT 5 y,yB 17 false] [] ?_)))))
  refine xe (zA (xb (zK (zA (zC (zB (xr 4 [yT 2 x,yT 3 y] [] ?_)))))))
  refine xe (zA (zF ?_))
  refine yR (.tuple #[.string x,.string y]) fun w' R Q=>?_
  exact⟨by rw[d,t,u],R⟩
 have d:valF (bytes s)=0:=ZmN (by cases h:wM (bytes s) with|none=>rfl|some q=>rw[h] at b;exact absurd rfl b)
 refine xc 54 [.string s] 8 (fun _:Unit=>.bool false) _ (fun w R Q=>(ZbI s _ Q i).mono (fun _ _ h=>zG h (by rw[vR.2 b]))) fun f=>?_
 refine xr 1 [yT 0 s,yT 2 ⟨#[]⟩,yT 3 ⟨#[]⟩,yB 9 true] [] ?_
 refine xe (zA (xa (zC (zB (xr 2 [yT 0 s,yT 2 ⟨#[48]⟩,yT 3 ⟨#[49]⟩] [] ?_)))))
 refine xe (zA (zF (zE ?_)))
 refine yR (.tuple #[.string ⟨#[48]⟩,.string ⟨#[49]⟩]) fun w' R Q=>?_
 exact⟨by rw[d];exact Zlw,R⟩
def Zkt (s:ByteArray) (w:World) (e:Ending) (w':World):Prop:=∃ (r:ByteArray) (neg:Bool),e=.returned (.tuple #[.bool neg,.string r])∧xA (bytes s)=(neg,bytes r)∧Ext w w'
def ZfW (x:ByteArray×Bool):Value:=.tuple #[.bool x.2,.string x.1]
theorem ZdF {s:ByteArray}{w w':World}{e:Ending}(h:Zkt s w e w'):kF ZfW (fun x _=>xA (bytes s)=(x.2,bytes x.1)) w e w':=by
 obtain⟨r,neg,rfl,h,Q⟩:=h
 exact⟨(r,neg),rfl,Q,BoxN.pure h⟩
theorem Zom {t:ByteArray}{i:Nat}{c:UInt8}(e:((bytes t).take i).all zV=true)(hc:t[i]? = some c)(f:¬ (c.toNat:Int)<48)(g:¬ (c.toNat:Int)>57):((bytes t).take (i+1)).all zV=true:=by
 have b:i<t.size:=by
  rcases vJ i t.size with d|d
  ·exact d
  rw[getElem?_neg t i (by omega)] at hc;cases hc
 have a:t[i]=c:=by
  rw[getElem?_pos t i b] at hc
  injection hc
 rw[Zax _ _ b,rL,e,a]
 have:zV c=true:=by unfold zV;simp;omega
 simp[this]
theorem Zku {t:ByteArray}{i:Nat}{c:UInt8}(hc:t[i]? = some c)(h:(c.toNat:Int)<48∨(c.toNat:Int)>57):¬ (bytes t).all zV=true:=by
 have b:i<t.size:=by
  rcases vJ i t.size with d|d
  ·exact d
  rw[getElem?_neg t i (by omega)] at hc;cases hc
 have a:t[i]=c:=by
  rw[getElem?_pos t i b] at hc
  injection hc
 intro e
 have f:t[i]∈bytes t:=by
  rw[←Zcs t b];exact rD _
 have:=dY (vP.1 e _ f)
 rw[a] at this
 unfold zV at *
 have g:=vP.1 e _ f
 rw[a] at g
 simp at g
 omega
section
variable {s r:ByteArray} {neg:Bool} {x:Int}
theorem ZqZ (h:bytes s=[48]):fvB (bytes s) x=(x == 0):=by unfold fvB;rw[uP h];rfl
theorem Zcc (h:¬ bytes s=[48])(b:xA (bytes s)=(neg,bytes r))(a:bytes r=[]∨(bytes r).head? = some 48∨¬ okE x∨¬ (bytes r).all zV=true):fvB (bytes s) x=false:=by
 unfold fvB
 rw[uN h,b]
 refine uJ ?_
 rintro⟨c,d,e,f,_⟩
 rcases a with a|a|a|a
 ·exact c a
 ·exact d a
 ·exact a e
 exact a f
theorem ZpJ {c c0:UInt8}(h:¬ bytes s=[48])(i:xA (bytes s)=(neg,bytes r))(b:r[0]? = some c0)(o:¬ (c0.toNat:Int)=48)(p:¬ x < -1048576)(t:¬ x>1048576)(f:(bytes r).all zV=true){k:Nat}(u:r.size=k+1)(d:r[k]? = some c):fvB (bytes s) x=(((c.toNat % 2:Nat):Int) == 1):=by
 have e:bytes r=(bytes r).take k ++ [c]:=by
  have a:k<r.size:=by omega
  have:=Zax r k a
  rw[uB (by rw[zQ];omega)] at this
  rw[getElem?_pos r k a] at d
  injection d with d
  rw[d] at this
  exact this
 have g:zL (bytes r)%2=c.toNat % 2:=by
  rw[e] at f ⊢
  exact Zoh f
 have j:(bytes r).head? = some c0:=by
  have a:0<r.size:=by omega
  rw[getElem?_pos r 0 a] at b
  injection b with b
  rw[←b];exact Zay a
 unfold fvB
 rw[uN h,i]
 have l:c0.toNat≠48:=by omega
 show decide _=decide _
 refine rP.2 ⟨fun q=>?_,fun q=>⟨?_,?_,⟨by omega,by omega⟩,f,?_⟩⟩
 ·have:=q.2.2.2.2
  show ((c.toNat % 2:Nat):Int)=1
  rw[g] at this;omega
 ·intro m
  have n:bytes r=[]:=m
  have:(bytes r).length=0:=by rw[n];rfl
  rw[zQ] at this;omega
 ·rw[j];intro e;injection e with e;exact l (by rw[e];rfl)
 have v:((c.toNat % 2:Nat):Int)=1:=q
 show zL (bytes r)%2=1
 rw[g];omega
end
theorem Zon {P:Program}{o:Oper}{ρ:Operand→Value}{w:World}{t k:TypeId}{x y:Operand}{c:UInt8}(a:o.op=Op.binOp .and t x y k)(b:ρ x=.int .u8 (c.toNat:Int))(d:ρ y=.int .u8 1):(execOp ρ o).run P w=.ok (.value (.int .u8 ((c.toNat % 2:Nat):Int))) w:=by
 have h:bits .and .u8 (c.toNat:Int) 1=((c.toNat % 2:Nat):Int):=by
  have f:=c.toNat_lt
  have e:(BitVec.ofInt 8 (c.toNat:Int)).toNat=c.toNat:=by
   rw[sV,rE];exact vC (by omega)
  show IntKind.u8.wrap ((BitVec.ofInt 8 (c.toNat:Int) &&& BitVec.ofInt 8 1).toNat:Int)=_
  rw[BitVec.toNat_and,e,show (BitVec.ofInt 8 1).toNat=1 from rfl,qE,IntKind.wrap_u8];omega
 rw[←h]
 simp only[execOp,a,b,d,eqGuard,binOp]
 rfl
theorem ZdG (s:ByteArray)(w:World) :
 yA 63 #[.string s] w (Zkt s w):=by
 refine zX (Φ:=fun w=>True) Tryz.func63 rfl (by kernel_rfl) (fun w' a=>trivial) ?_
 refine zC (zB (xr 2 [yT 0 s,yB 2 false,yT 3 ⟨#[]⟩] [] ?_))
 refine xe (zA (zC (zB (xr 1 [yB 2 false,yT 3 ⟨#[]⟩,yT 7 s] [] ?_))))
 refine xc 104 [.string s,.string ⟨#[45]⟩] 8 (fun x:ByteArray×Bool=>.tuple #[.string x.1,.bool x.2]) _ (fun w R Q=>yM Zlp (Zdl s _)) fun⟨r,neg⟩=>?_
 refine xr 5 [yB 2 false,yT 3 ⟨#[]⟩,yT 4 r,yB 5 neg] [] ?_
 refine xe (zA (zC (zB (xr 4 [yB 2 neg,yT 3 r] [] ?_))))
 refine xe (zA (zF ?_))
 refine yR (.tuple #[.bool neg,.string r]) fun w' R Q=>?_
 exact⟨r,neg,rfl,Q.2,R⟩
theorem ZcI (s:ByteArray)(x:Int)(w:World)(S:(bytes s).length≤1000000) :
 yA 19 #[yS s x] w (RetV w (.bool (fvB (bytes s) x))):=by
 refine zX (Φ:=fun w=>True) Tryz.func19 rfl (by kernel_rfl) (fun w' T=>trivial) ?_
 refine zC (zB (xq 2 [(1,.p 1 0),yB 2 false] [yG 1 24 s x] ?_))
 refine xe (zA (zC (zC ?_)))
 by_cases a:bytes s=[48]
 ·refine zB (xq 3 [yB 8 ((s:ByteArray).toList == (⟨#[48]⟩:ByteArray).toList)] [] ?_)
  rw[Zkk a]
  refine xe (zA (xa (zC (zB (xq 4 [yB 2 ((x:Int) == 0)] [] ?_)))))
  refine xe (zA (zF (zE ?_)))
  refine yR (.bool ((x:Int) == 0)) fun w' R Q=>?_
  exact⟨by rw[ZqZ a],R⟩
 refine zB (xq 3 [yB 8 ((s:ByteArray).toList == (⟨#[48]⟩:ByteArray).toList)] [] ?_)
 rw[Zkl a]
 refine xe (zA (xb (zK (zA (zC (zB (xq 2 [yT 14 s] [] ?_)))))))
 refine xqc 63 [.string s] 15 ZfW _ (fun w R Q=>yM ZdF (ZdG s _)) fun⟨r,neg⟩=>?_
 refine xq 5 [yT 4 r] [] ?_
 refine xe (zA (zC (zC ?_)))
 refine SXc.know (p:=xA (bytes s)=(neg,bytes r)) (fun w _ Q=>Q.2) fun l=>?_
 have L:r.size≤1000000:=by have:=ZgL l;rw[zQ] at this;omega
 by_cases B:bytes r=[]
 ·refine zB (xq 2 [yB 19 ((r:ByteArray).toList == (⟨#[]⟩:ByteArray).toList)] [] ?_)
  rw[Zkh B]
  refine xq 15 [yB 34 true] [] ?_
  refine xe (zA (xa (zC (zB (xq 1 [yB 2 false] [] ?_)))))
  refine xe (zA (zF (zE ?_)))
  refine yR (.bool false) fun w' R Q=>?_
  exact⟨by rw[Zcc a l (Or.inl B)],R⟩
 obtain⟨C,M,D⟩:=ZiC B
 have N:=ZeX B
 refine zB (xq 2 [yB 19 ((r:ByteArray).toList == (⟨#[]⟩:ByteArray).toList)] [] ?_)
 rw[Zki B]
 refine xq 2 [yB 20 false,yT 21 r] [] ?_
 refine xqk 22 (.int .u8 (C.toNat:Int)) (fun w R Q=>bF (t:=9) (x:=.tmp 21) (k:=0) (i:=.const (.int .i64 0)) (by kernel_rfl) (by kernel_rfl) (by kernel_rfl) (by rfl) D) ?_
 refine xq 3 [yB 25 (((C.toNat:Int):Int) == 48)] [] ?_
 rcases bl2 ((((C.toNat:Int):Int) == 48)) with b|b
 ·rw[b]
  have n:=tA.1 b
  refine xq 9 [yB 34 true] [] ?_
  refine xe (zA (xa (zC (zB (xq 1 [yB 2 false] [] ?_)))))
  refine xe (zA (zF (zE ?_)))
  refine yR (.bool false) fun w' R Q=>?_
  exact⟨by rw[Zcc a l (Or.inr (Or.inl (by rw[M,show C=48 from UInt8.toNat_inj.1 (by show C.toNat=48;omega)])))],R⟩
 rw[b]
 have n:=lB b
 refine xq 5 [yB 30 (decide (x<(-1048576)))] [] ?_
 rcases bl2 ((decide (x<(-1048576)))) with d|d
 ·rw[d]
  have o:=uC d
  refine xq 4 [yB 34 true] [] ?_
  refine xe (zA (xa (zC (zB (xq 1 [yB 2 false] [] ?_)))))
  refine xe (zA (zF (zE ?_)))
  refine yR (.bool false) fun w' R Q=>?_
  exact⟨by rw[Zcc a l (Or.inr (Or.inr (Or.inl (by rintro⟨O,P⟩;omega))))],R⟩
 rw[d]
 have o:=uD d
 refine xq 4 [yB 34 (decide (x>1048576))] [] ?_
 refine xe (zA ?_)
 refine yQ ((decide (x>1048576))) (fun f=>?_) fun f=>?_
 ·have q:=uC f
  refine zC (zB (xq 1 [yB 2 false] [] ?_))
  refine xe (zA (zF (zE ?_)))
  refine yR (.bool false) fun w' R Q=>?_
  exact⟨by rw[Zcc a l (Or.inr (Or.inr (Or.inl (by rintro⟨O,P⟩;omega))))],R⟩
 have q:=uD f
 refine zK (zA (zC (zC (zB (xq 3 [yJ 36 ((r).size:Int),yJ 37 0] [] ?_)))))
 refine xe (zA (xH ?_))
 refine yC [yB 2 false,yT 4 r,yJ 36 ((r).size:Int),yJ 37 ((0:Nat):Int)] [] (fun w=>True) (fun w Q=>trivial) ?_
 refine lW (fun H I J=>∃ (k:Nat),I=ofL [yB 2 false,yT 4 r,yJ 36 ((r).size:Int),yJ 37 (k:Int)] []∧J=(fun w=>True)∧(k≤r.size)∧(((bytes r).take k).all zV=true)∧H=(r.size-k)) ((r.size-0)) ⟨0,rfl,rfl,(rA _),rfl,rfl⟩ ?_
 rintro H I J ⟨k,rfl,rfl,U,K,rfl⟩
 refine zC (zB (xq 1 [yB 38 (decide ((k:Int)<((r).size:Int)))] [] ?_))
 refine xe (zA (zC ?_))
 refine yQ ((decide ((k:Int)<((r).size:Int)))) (fun g=>?_) fun g=>?_
 ·have u:=uC g
  have E:k<r.size:=by omega
  obtain⟨c,m⟩:∃ c,r[k]? = some c:=⟨r[k],by simp[E]⟩
  refine zK (zA (zC (xH (zC (zB (xq 2 [yJ 5 (k:Int)] [] ?_))))))
  refine xe (zA (zC (zB (xq 2 [yT 40 r,yJ 41 (k:Int)] [] ?_))))
  refine xqk 42 (.int .u8 (c.toNat:Int)) (fun w R Q=>bF (t:=9) (x:=.tmp 40) (k:=k) (i:=.tmp 41) (by kernel_rfl) (by kernel_rfl) (by kernel_rfl) (by kernel_rfl) m) ?_
  refine xq 2 [yB 44 (decide ((c.toNat:Int)<48))] [] ?_
  rcases bl2 ((decide ((c.toNat:Int)<48))) with e|e
  ·rw[e]
   have v:=uC e
   refine xq 5 [yB 49 true] [] ?_
   refine xe (zA (xa (zC (zB (xq 1 [yB 2 false] [] ?_)))))
   refine xe (zA (zF (lA (zE (zE (lA (zE ?_)))))))
   refine yR (.bool false) fun w' R Q=>?_
   exact⟨by rw[Zcc a l (Or.inr (Or.inr (Or.inr (Zku m (by omega)))))],R⟩
  rw[e]
  have v:=uD e
  refine xq 2 [yT 45 r,yJ 46 (k:Int)] [] ?_
  refine xqk 47 (.int .u8 (c.toNat:Int)) (fun w R Q=>bF (t:=9) (x:=.tmp 45) (k:=k) (i:=.tmp 46) (by kernel_rfl) (by kernel_rfl) (by kernel_rfl) (by kernel_rfl) m) ?_
  refine xq 2 [yB 49 (decide ((c.toNat:Int)>57))] [] ?_
  refine xe (zA ?_)
  refine yQ ((decide ((c.toNat:Int)>57))) (fun j=>?_) fun j=>?_
  ·have z:=uC j
   refine zC (zB (xq 1 [yB 2 false] [] ?_))
   refine xe (zA (zF (lA (zE (zE (lA (zE ?_)))))))
   refine yR (.bool false) fun w' R Q=>?_
   exact⟨by rw[Zcc a l (Or.inr (Or.inr (Or.inr (Zku m (by omega)))))],R⟩
  have z:=uD j
  refine zK (wX (zA (zB (xq 1 [yJ 50 (IntKind.i64.wrap ((k:Int)+1))] [] ?_))))
  rw[yW ((k:Int)+1) (((k+1:Nat):Int)) (by omega)]
  refine xq 1 [yJ 37 ((k+1:Nat):Int)] [] ?_
  refine xe ?_
  refine yP [yB 2 false,yT 4 r,yJ 36 ((r).size:Int),yJ 37 (((k+1):Nat):Int)] [] (fun w=>True) (fun w Q=>trivial) ?_
  exact wG ((r.size-(k+1))) (by omega) ⟨(k+1),rfl,rfl,E,(Zom K m (by omega) (by omega)),rfl⟩
 have u:=uD g
 have F:(bytes r).all zV=true:=by have h:=K;rw[uB (by rw[zQ];omega)] at h;exact h
 refine lG (zW (zW (lV (zA (zC ?_)))))
 obtain⟨A,G⟩:∃ A,r.size=A+1:=⟨r.size-1,by omega⟩
 obtain⟨c,m⟩:∃ c,r[A]? = some c:=⟨r[A],by simp[G]⟩
 refine zB (xq 4 [yT 51 r,yJ 54 (IntKind.i64.wrap (((r).size:Int)-1))] [] ?_)
 rw[yW ((r.size:Int)-1) ((A:Int)) (by omega)]
 refine xqk 55 (.int .u8 (c.toNat:Int)) (fun w R Q=>bF (t:=9) (x:=.tmp 51) (k:=A) (i:=.tmp 54) (by kernel_rfl) (by kernel_rfl) (by kernel_rfl) (by kernel_rfl) m) ?_
 refine xqk 56 (.int .u8 ((c.toNat % 2:Nat):Int)) (fun w R Q=>Zon (t:=5) (k:=5) (x:=.tmp 55) (y:=.const (.int .u8 1)) (by kernel_rfl) (by kernel_rfl) (by kernel_rfl)) ?_
 refine xq 2 [yB 2 ((((c.toNat % 2:Nat):Int):Int) == 1)] [] ?_
 refine xe (zA (zF ?_))
 refine yR (.bool ((((c.toNat % 2:Nat):Int):Int) == 1)) fun w' R Q=>?_
 exact⟨by rw[ZpJ a l D (by omega) (by omega) (by omega) F G m],R⟩
theorem kT (b:Int)(w:World) :
 yA 55 #[.int .i64 b] w (RetV w (.bool (decide (8≤b∧b≤1024)))):=by
 refine zX (Φ:=fun w=>True) Tryz.func55 rfl (by kernel_rfl) (fun w' d=>trivial) ?_
 refine zC (zB (xq 1 [yB 2 false] [] ?_))
 refine xe (zA (zC (zB (xq 3 [yB 5 (decide (b≥8))] [] ?_))))
 rcases bl2 ((decide (b≥8))) with a|a
 ·rw[a]
  have c:=uC a
  refine xq 4 [yB 2 (decide (b≤1024))] [] ?_
  refine xe (zA (zF ?_))
  refine yR (.bool (decide (b≤1024))) fun w' R Q=>?_
  exact⟨vG (fun b=>Ending.returned (Value.bool b)) (rP.2 ⟨fun h=>⟨by omega,h⟩,fun h=>h.2⟩),R⟩
 rw[a]
 have c:=uD a
 refine xq 4 [yB 2 false] [] ?_
 refine xe (zA (zF ?_))
 refine yR (.bool false) fun w' R Q=>?_
 exact⟨by rw[uJ (p:=8≤b∧b≤1024) (by omega)],R⟩
end Go.Proofs.YtklpdkpcocnglaaGreatDoor
namespace Go.Proofs.YtklpdkpcocnglaaGreatDoor
open Go.RowKit Go.Sort
def Zbi (w:World) (l:List UInt8) (e:Ending) (w':World):Prop:=e=.returned (.string ⟨l.toArray⟩)∧Ext w w'
theorem ZcY (u:Nat)(w:World)(a:u<100) :
 yA 151 #[.int .u64 (u:Int),.int .i64 10] w (Zbi w (Lib.decDigits u)):=by
 have b:(u:Int)<100:=by omega
 go_enter Tryz.func151,Tryz.ntmps151
 go_wp2_with (go_at_call 179;refine (Tryz.internal_strconv_small u a _).mono ?_;rintro e w' ⟨rfl,rfl⟩)
 go_ret
 exact⟨rfl,Fr.refl _ _⟩
theorem Zei (u i:Nat)(w:World)(v:Glob w)(C:100≤u)(a:u<18446744073709551616)(c:Lib.nDigits u=i) :
 yA 151 #[.int .u64 (u:Int),.int .i64 10] w (Zbi w (Lib.decDigits u)):=by
 have n:=ZhN u (by rw[zO];exact a)
 have g:=Lib.decDigits_length u
 rw[c] at g
 rw[g] at n
 have o:Tryz.prog.arrayLen 202=24:=by simp[Program.arrayLen,Tryz.underlying202]
 have z:∀ W,(Instr.sliceAt 202 (.pointer (some ⟨w.heap.size,0,none⟩)) none (some (.int .i64 (i:Int))) none).run Tryz.prog W=.ok (.slice (some ⟨w.heap.size,0,none⟩) i 24) W:=fun W=>by
  rw[run_sliceAt_array_h W 202 ⟨w.heap.size,0,none⟩ (by simp[Program.arrayLen,Program.elem,Tryz.underlying202]) .i64 (i:Int) (by omega) (by rw[o];omega)]
  go_simp
 have l:=Lib.holds_zero0 w 202 i (by omega)
 have d:=Tryz.internal_strconv_formatBase10 w.heap.size 0 24 u (Array.replicate i 0) (w.alloc (.cells Lib.zeros24 202)) l (by rw[qP,← c];exact Lib.lt_pow_nDigits u) a (by rw[qP];omega)
 have f:=Tryz.internal_strconv_numDigits u (by omega) a (w.alloc (.cells Lib.zeros24 202)) (Lib.tabIs_alloc v.1 _)
 rw[qP] at d
 rw[c] at f
 have q:=zh l
 have x:=zh g
 have r:=zh c
 have D:(100:Int)≤(u:Int):=by omega
 clear l o g c v
 go_enter Tryz.func151,Tryz.ntmps151
 go_wp2_with (go_at_call 180;refine f.mono ?_;rintro e w' ⟨rfl,rfl⟩)
 go_at_call 181
 refine d.mono ?_
 rintro e w' ⟨rfl,k,E,m,rfl,p⟩
 have s:(convert 143 9 (.slice (some ⟨w.heap.size,0,none⟩) i 24)).run Tryz.prog ((putRow (fun (b:UInt8)=>Value.int .u8 (b.toNat:Int)) (w.alloc (.cells Lib.zeros24 202)) w.heap.size 0 m).drewN k)=.ok (.string ⟨(Lib.decDigits u).toArray⟩) ((putRow (fun (b:UInt8)=>Value.int .u8 (b.toNat:Int)) (w.alloc (.cells Lib.zeros24 202)) w.heap.size 0 m).drewN k):=by
  have h:=run_convert_bytes_back (P:=Tryz.prog) ((putRow (fun (b:UInt8)=>Value.int .u8 (b.toNat:Int)) (w.alloc (.cells Lib.zeros24 202)) w.heap.size 0 m).drewN k) 143 9 5 ⟨w.heap.size,0,none⟩ 24 (Lib.decDigits u) Tryz.underlying143 Tryz.underlying5 Tryz.underlying9 (fun j t=>by
   rw[Lib.row_is_numeral (by rw[r.out];exact p) j t,Lib.add_plain,World.cell?_drewN]
   exact cell?_putRow (fun (b:UInt8)=>Value.int .u8 (b.toNat:Int)) _ w.heap.size 0 _ m q.out (by rw[p.size,qP]) j (by rw[p.size];rw[x.out] at t;exact t))
  rw[x.out] at h
  exact h
 obtain⟨A,y⟩:=Lib.fin_at w (.cells Lib.zeros24 202) m k 0
 have Q:Ext w ((putRow (fun (b:UInt8)=>Value.int .u8 (b.toNat:Int)) (w.alloc (.cells Lib.zeros24 202)) w.heap.size 0 m).drewN k):=by
  rw[y];exact Fr.ofBelow (Lib.below_grow _ w (uK _) k A)
 generalize (putRow (fun (b:UInt8)=>Value.int .u8 (b.toNat:Int)) (w.alloc (.cells Lib.zeros24 202)) w.heap.size 0 m).drewN k=w1 at Q s ⊢
 have B:=zh Q
 clear Q y p d f
 go_wp2
 go_ret
 exact⟨rfl,B.out⟩
theorem Zgq (u:Nat)(w:World)(b:Glob w)(a:u<W64) :
 yA 110 #[.int .u64 (u:Int),.int .i64 10] w (Zbi w (Lib.decDigits u)):=by
 have h:yA 151 #[.int .u64 (u:Int),.int .i64 10] w (Zbi w (Lib.decDigits u)):=by
  rcases vJ u 100 with h|h
  ·exact ZcY u w h
  exact Zei u _ w b h (by rw[zO] at a;exact a) rfl
 have H:=zh h
 clear h b a
 go_enter Tryz.func110,Tryz.ntmps110
 go_wp2_with fail
 refine H.out.mono ?_
 rintro e w' ⟨rfl,Q⟩
 have c:=zh Q
 clear Q
 go_wp2
 go_ret
 exact⟨rfl,c.out⟩
end Go.Proofs.YtklpdkpcocnglaaGreatDoor
namespace Go.Proofs.YtklpdkpcocnglaaGreatDoor
open Go.RowKit
def chV:List Nat→Nat
 | []=>0
 | c :: cs=>c+10^19*chV cs
theorem ZcK (c:Nat):∀ a:List Nat,chV (a ++ [c])=chV a+(10^19)^a.length*c
 | []=>by simp[chV]
 | d :: a=>by
  show d+10^19*chV (a ++ [c])=d+10^19*chV a+(10^19)^(a.length+1)*c
  rw[ZcK c a,uR (m:=a.length) (n:=10^19),uL,← uF,uG (10^19) ((10^19)^a.length),tQ]
structure ChR (n:Nat) (cs:List Nat) (r:Nat):Prop where
 eq:n=chV cs+(10^19)^cs.length*r
 lt:∀ c∈cs,c<10^19
 top:r=0→cs≠[]→∃ l c,cs=l ++ [c]∧0<c
theorem ChR.start (n:Nat):ChR n [] n:=⟨by simp[chV],fun c h=>by simp at h,fun _ h=>absurd rfl h⟩
theorem ChR.step {n r:Nat}{cs:List Nat}(h:ChR n cs r)(e:0<r):ChR n (cs ++ [r%10^19]) (r/10^19):=by
 refine⟨?_,fun c b=>?_,fun d _=>⟨cs,_,rfl,?_⟩⟩
 ·rw[ZcK,vU,sM,uR (m:=cs.length) (n:=10^19),uF,tQ,← uL,tS]
  exact h.eq
 ·rcases List.mem_append.1 b with a|a
  ·exact h.lt c a
  rw[List.mem_singleton.1 a];exact uM _ (by decide)
 have a:=tS r (10^19)
 rw[d,tL,vV] at a
 omega
theorem Zkv {cs:List Nat}(h:∃ l c,cs=l ++ [c]∧0<c):0<chV cs:=by
 obtain⟨l,c,rfl,a⟩:=h
 rw[ZcK]
 have:=sG (uV (n:=l.length) (show 0<10^19 by decide)) a
 omega
theorem ZiI {cs:List Nat}{i:Nat}(hi:i<cs.length)(h:∃ l c,cs=l ++ [c]∧0<c):∃ l c,cs.drop i=l ++ [c]∧0<c:=by
 obtain⟨l,c,rfl,a⟩:=h
 rw[vU,sM] at hi
 exact⟨l.drop i,c,List.drop_append_of_le_length (by omega),a⟩
theorem Zoo {cs:List Nat}{i c:Nat}(hi:i<cs.length)(a:cs[i]?.getD 0=c)(d:∀ c∈cs,c<10^19)(e:∃ l c,cs=l ++ [c]∧0<c) :
 wP (chV (cs.drop i))=if i+1<cs.length then wP (chV (cs.drop (i+1))) ++ (List.replicate (19-(Lib.decDigits c).length) 48 ++ Lib.decDigits c) else Lib.decDigits c:=by
 have f:cs.drop i=c :: cs.drop (i+1):=by
  rw[tI hi]
  rw[List.getElem?_eq_getElem hi] at a
  simp only[sR] at a
  rw[a]
 have b:c<10^19:=by
  rw[List.getElem?_eq_getElem hi] at a
  simp only[sR] at a
  rw[←a];exact d _ (rD hi)
 rw[f]
 show wP (c+10^19*chV (cs.drop (i+1)))=_
 by_cases h:i+1<cs.length
 ·rw[uP h,vL,uG,Zhg (Zkv (ZiI h e)) 19 c b,ZnE (by omega) b]
 rw[uN h,vA (by omega)]
 show wP (c+10^19*0)=_
 have g:=Zkv (ZiI hi e)
 rw[f,vA (by omega)] at g
 rw[tL,vV]
 exact jL (by simp[chV] at g;omega)
/-! ### Newton's step -/
theorem Zeb {x r:Nat}(a:0<r)(k:0<x):x<((r+x/r)/2^1+1)*((r+x/r)/2^1+1)∧0<(r+x/r)/2^1:=by
 obtain⟨q,c⟩:=yE (x/r)
 have f:=vS x r
 have l:=uM x a
 rw[c] at f ⊢
 obtain⟨m,g⟩:=yE ((r+q)/2^1)
 rw[g]
 have i:r+q≤2*m+1:=by omega
 have j:x<r*(q+1):=by rw[uL,tW];omega
 have n:4*(r*(q+1))≤(r+q+1)*(r+q+1):=by
  rcases Nat.le_total r (q+1) with h|h
  ·obtain⟨d,b⟩:=qW h
   have e:r+q+1=r+(r+d):=by omega
   rw[e,b]
   simp only[uL,vF]
   have:=rA (d*d)
   rw[uG d r];omega
  obtain⟨d,b⟩:=qW h
  have e:r+q+1=(q+1+d)+(q+1):=by omega
  rw[e,b]
  generalize q+1=p
  simp only[uL,vF]
  have:=rA (d*d)
  rw[uG d p];omega
 have o:(r+q+1)*(r+q+1)≤(2*(m+1))*(2*(m+1)):=tJ (by omega) (by omega)
 have s:(2*(m+1))*(2*(m+1))=4*((m+1)*(m+1)):=by
  rw[rI]
 refine⟨by omega,?_⟩
 rcases uH m with e|e
 ·exfalso
  subst e
  have:r=1:=by omega
  subst this
  have:q=0:=by omega
  subst this
  omega
 exact e
theorem Znc {x r r0:Nat}(h:¬ (r+x/r)/2^1<r)(c:x<(r+1)*(r+1))(d:r0*r0≤x)(e:x<(r0+1)*(r0+1)):r=r0:=by
 have b:r≤x/r:=by omega
 have f:r*r≤x:=by
  have:=rY x r
  have:=uE r b
  omega
 rcases qK r r0 with a|a|a
 ·have:=tJ (show r+1≤r0 by omega) (show r+1≤r0 by omega);omega
 ·exact a
 have:=tJ (show r0+1≤r by omega) (show r0+1≤r by omega);omega
theorem ZcN {x k:Nat}(h:x<2^k):x<(1*2^((k+1)/2)+1)*(1*2^((k+1)/2)+1)∧0<1*2^((k+1)/2):=by
 rw[sZ]
 have b:2^k≤2^((k+1)/2)*2^((k+1)/2):=by rw[←uT];exact uY (by omega) (by omega)
 have a:=uV (n:=(k+1)/2) (show 0<2 by omega)
 refine⟨?_,a⟩
 have:=tJ (Nat.le_succ (2^((k+1)/2))) (Nat.le_succ (2^((k+1)/2)))
 simp only[qS] at this
 omega
theorem Zq1 {k m:Nat}(h:k≤64*m):wl (1*2^((k+1)/2))≤m+1:=by
 rw[sZ]
 refine kP.2 ?_
 rw[zO,show (18446744073709551616:Nat)=2^64 from rfl,← sS]
 exact qO (by omega) (by omega)
theorem Znd {q r:Nat}{w w':World}{e:Ending}(h:Zav w q r e w'):kF (fun x:ShN×ShN=>.tuple #[xJ x.1,xJ x.2]) (fun x w=>zJ w (xJ x.1) q∧zJ w (xJ x.2) r) w e w':=by
 obtain⟨u,v,rfl,a,b,Q⟩:=h
 obtain⟨A,l,c,rfl⟩:=a.slice
 obtain⟨g,i,j,rfl⟩:=b.slice
 exact⟨((A,l,c),(g,i,j)),rfl,Q,boxn Q (fun S k d f=>⟨a.nrb d f,b.nrb d f⟩)⟩
theorem l_nz {n:Nat}(h:¬ n=0):(((n:Nat):Int) == 0)=false:=by simp;omega
theorem rw1 {k:Nat}(h:k≤100000):IntKind.i64.wrap ((k:Int)+1)=((k+1:Nat):Int):=by rw[IntKind.wrap_i64];omega
theorem zH.cellAt {k:IntKind}{w:World}{b o:Nat}{xs:List Nat}(h:zH k w (some ⟨b,o,none⟩) xs){i:Nat}(hi:i<xs.length):w.cell? ⟨b,o+i,none⟩=some (.int k ((xs[i]?.getD 0:Nat):Int)):=by
 obtain⟨c,d,e,_,a⟩:=h.at hi
 injection e with e
 injection e with e1 e2
 rw[e1,e2];exact a
theorem ZqH {x:Nat}:((x/2:Nat):Int)=sg false (x/2):=by simp[sg]
theorem Zou (a:Value)(x:Nat)(z:Int)(w:World)(ha:zI w a (x:Int))(hx:xT (x:Int))(h0:0<x)(hz:z=sg false (x/2)):yA 25 #[a,.int .i64 (-1)] w (wN w z):=by
 obtain⟨s0,A,l,c,rfl,hN,t0,u0⟩:=ha.open
 obtain rfl:=ha.spos (by omega)
 rw[uS] at hN
 obtain⟨A',B,c',he,hc,C,hd,ht,hv⟩:=hN
 injection he with e1 e2 e3
 subst e1 e2 e3
 have a0:=kH hd ht
 rw[hv] at a0
 have hl:B.length≤17592186044416:=by unfold xT at hx;rw[uS] at hx;omega
 have b0:0<B.length:=by have:=Zdh h0;omega
 obtain⟨b,o,rfl,hb,_⟩:=C.at b0
 obtain⟨s,S⟩:∃ s:Nat,s=1:=⟨1,rfl⟩
 have HZ:Hid (z=sg false (val W32 B/2^s)):=by rw[S,hv];exact hz
 have c0:=zh S
 have HS:=zh C
 have Hd:=zh hd
 have HB:=zh hb
 clear C hd ht hv a0 hz t0 u0 ha hx hc hb S h0
 obtain⟨L,eL⟩:=yE B.length
 rw[eL] at hl b0 ⊢
 have HL:=zh eL
 clear eL
 have K0:decide ((0:Int)≥(L:Int))=false:=by rw[uZ];omega
 have I0:¬ ((L:Int)≤0):=by omega
 go_enter Tryz.func25,Tryz.ntmps25
 go_wp2_with (
  at_make
  generalize T:World.alloc (World.alloc w _) _=wb
  obtain⟨d0,f0,Q⟩:=Zfi T
  have v0:=zh d0
  have w0:=zh f0
  have HE:=zh Q
  have x0:Hid (wb.heap.size=w.heap.size+1+1):=by subst T;unfold Hid;simp
  clear T d0 f0 Q
  refine wH rfl _ _ _ rfl _ _ _ Tryz.underlying30 eQ _ _ _ _ L rfl rfl (by omega) (by omega) (by omega) (by omega) ?_
  intro R w4 H g0 _ I y0
  have i0:=zh g0
  have A0:=zh (HE.out.trans I)
  have j0:=zh (v0.out.ext I)
  have k0:=zh (w0.out.ext I)
  have HR:=zh H
  clear g0 I H y0)
 have U:Hid (w.heap.size+2≤R):=by have:=HR.out;have:=x0.out;unfold Hid;omega
 have HX:Hid (∀ Y,Fr (· = R) w4 Y→Ext w Y):=fun Y h=>A0.out.next h (fun i hi e=>by have:=U.out;have e:i=R:=e;omega)
 have M:Hid (jF B s 0 (List.replicate L 0)):=by have:=jF.start B s;rw[HL.out] at this;exact this
 have e7:(Value.int .u64 1)=.int .u64 (s:Int):=by rw[c0.out];rfl
 rw[e7]
 clear e7
 go_loopw [9] (fun iv wr=>∃ (k:Nat) (J:List Nat),k≤L∧iv=.int .i64 (k:Int)∧Hid (jF B s k J)∧Hid (Own .u32 102 wr R J)∧Hid (Fr (· = R) w4 wr)) (fun iv _=>L-(intOf iv).toNat)
 case atStart=>exact⟨0,_,by omega,rfl,M,i0,Fr.refl _ _⟩
 case round =>
  obtain⟨k,J,L0,rfl,H,q,j⟩:=hrel
  clear M i0
  have S:s≤31:=by have:=c0.out;omega
  have M0:=HL.out
  have N0:J.length=B.length:=H.out.1
  by_cases J0:k<L
  ·obtain⟨x,Z⟩:=yE (B[k]?.getD 0)
   have f:x<W32:=Z ▸ Hd.out.getD zU _
   have m:k<J.length:=by omega
   have B0:=(HS.out.ext (HX.out _ j.out)).cellAt (i:=k) (by omega)
   rw[Z] at B0
   have O0:=q.out.cell m
   have P0:=q.out.frozen k
   have q3:=aB x s
   by_cases C0:k+1<L
   ·obtain⟨y,ey⟩:=yE (B[k+1]?.getD 0)
    have N:y<W32:=ey ▸ Hd.out.getD zU _
    have u:=zh (H.out.step S (by omega) Z ey f)
    have q1:=Zdq N (by omega:32-s≤32)
    have l0:=jJ (y*2^(32-s))
    have q2:=ZfF (a:=x/2^s) (b:=y*2^(32-s)%W32) (vI (uO _ _) f) (uM _ zU)
    rw[ZeN S f] at q2
    obtain⟨lo,D⟩:=yE (x/2^s)
    obtain⟨hi,m0⟩:=yE (y*2^(32-s)%W32)
    obtain⟨yy,n0⟩:=yE (y*2^(32-s))
    obtain⟨d,ed⟩:=yE (x/2^s+y%2^s*2^(32-s))
    rw[ed] at q2 u
    rw[D] at q2 q3
    rw[m0] at l0 q2
    rw[n0] at q1 l0
    have t:=q.out.set k lo m
    have Q0:=t.frozen k
    have D0:=t.cell (i:=k) (by simpa using m)
    rw[List.getElem?_set_self m,sR] at D0
    have E0:=(HS.out.ext (HX.out _ (j.out.setCell (p:=⟨R,k,none⟩) (Or.inl rfl) (.int .u32 (lo:Int))))).cellAt (i:=k+1) (by omega)
    rw[ey] at E0
    have E:=t.set k d (by simpa using m)
    rw[pG] at E
    have F0:=zh E
    have q0:=wC y (by have:=zO;have:=zP;omega)
    have i1:IntKind.u64.wrap ((32:Int)-(s:Int))=((32-s:Nat):Int):=by rw[IntKind.wrap_u64];omega
    obtain⟨r,er⟩:=yE (32-s)
    rw[er] at i1 q1
    have i4:min r 64=r:=by omega
    have i2:IntKind.i64.wrap ((k:Int)+1)=(k:Int)+1:=IntWalk.i64_in _ (by omega)
    have i3:((k:Int)+1).toNat=k+1:=by omega
    have V:Hid (∀ n,Fr (· = R) w4 (((wr.setCell ⟨R,k,none⟩ (.int .u32 (lo:Int))).drewN n).setCell ⟨R,k,none⟩ (.int .u32 (d:Int)))):=fun n=>((j.out.setCell (p:=⟨R,k,none⟩) (Or.inl rfl) _).drewN _).setCell (p:=⟨R,k,none⟩) (Or.inl rfl) _
    clear Z f m ey N D m0 n0 ed t E er
    have o0:(k:Int)+1<(L:Int):=by omega
    go_wp2
    go_region
    all_goals
     go_wp2
     go_roundw
     case rel=>exact⟨k+1,_,by omega,by go_num,u,F0.out.drewN _,V.out _⟩
     case measure=>simp[intOf];omega
   have u:=zh (H.out.step S (by omega) Z (show B[k+1]?.getD 0=0 by rw[List.getElem?_eq_none (by omega)];rfl) f)
   have e0:x/2^s+0%2^s*2^(32-s)=x/2^s:=by simp
   rw[e0] at u
   obtain⟨lo,D⟩:=yE (x/2^s)
   rw[D] at u q3
   have t:=q.out.set k lo m
   have G0:=zh t
   have V:Hid (Fr (· = R) w4 (wr.setCell ⟨R,k,none⟩ (.int .u32 (lo:Int)))):=j.out.setCell (p:=⟨R,k,none⟩) (Or.inl rfl) _
   have o0:¬ ((k:Int)+1<(L:Int)):=by omega
   have R0:decide ((k:Int)+1<(L:Int))=false:=by rw[uZ];omega
   clear Z f m e0 D t
   go_wp2
   go_roundw
   case rel=>exact⟨k+1,_,by omega,by go_num,u,G0.out,V.out⟩
   case measure=>simp[intOf];omega
  obtain rfl:k=L:=by omega
  have hzd:=H.out
  rw[←HL.out] at hzd
  replace hzd:=hzd.done
  have NR:=zS.of_own (c:=k) q.out H.out.2.1 (by omega)
  rw[hzd] at NR
  have W:=fun Y (hO:Own .u32 102 Y R J)=>lT (some ⟨R,0,none⟩) J k k Y (by omega) hO.shows0 (by omega) (by omega)
  obtain⟨tl,X⟩:=yE (wI J J.length)
  rw[X] at NR
  simp only[X] at W
  have HT:=zh W
  have p0:=zh NR
  clear X W
  have r0:=zh (HX.out _ j.out)
  have o0:¬ ((k:Int)<(k:Int)):=by omega
  have O:Hid (Blk 32 wr w.heap.size _):=j0.out.fr j.out (by have:=U.out;omega)
  have P:Hid (Blk 32 wr (w.heap.size+1) _):=k0.out.fr j.out (by have:=U.out;omega)
  clear hzd NR H
  go_wp2
  refine ZbQ 5 (fun F=>Blk 32 F w.heap.size #[.bool false,.slice (some ⟨b,o,none⟩) k c]∧Blk 32 F (w.heap.size+1) #[.bool false,.slice none 0 0]) zM ?_
  have B3:=O.out.ext (Fr.refl _ _).drew
  have B4:=P.out.ext (Fr.refl _ _).drew
  have E:=q.out.drew
  have MN:=p0.out.ext (Fr.refl _ _).drew
  have Q:=r0.out.drew
  clear O P q p0 r0 j
  generalize wr.drew=w20 at *
  have C:=(⟨B3,B4⟩:(fun F=>Blk 32 F w.heap.size #[.bool false,.slice (some ⟨b,o,none⟩) k c]∧Blk 32 F (w.heap.size+1) #[.bool false,.slice none 0 0]) w20)
  refine jM 0 rfl (by kernel_rfl) (fun _ _ _ h=>h) C (fun _=>ZaK (g:=w.heap.size) (off:=0) rfl rfl (by kernel_rfl)) fun C=>?_
  refine jM 1 rfl (by kernel_rfl) (fun _ _ _ h=>h) C (fun _=>Zd3 (g:=w.heap.size) (off:=0) (x:=.bool false) rfl rfl (by kernel_rfl) (fun _ h=>Blk.one' (h.1) 0 rfl)) fun C=>?_
  refine jM 2 rfl (by kernel_rfl) (fun _ _ _ h=>h) C (fun _=>ym (v:=.slice (some ⟨R,0,none⟩) k k) rfl rfl (by kernel_rfl)) fun C=>?_
  refine aX 3 rfl (by kernel_rfl) rfl fun K hK=>?_
  go_simp
  clear C
  refine (HT.out _ E).mono ?_
  rintro e w1 ⟨rfl,rfl⟩
  refine hK _ _ (⟨B3,B4⟩:(fun F=>Blk 32 F w.heap.size #[.bool false,.slice (some ⟨b,o,none⟩) k c]∧Blk 32 F (w.heap.size+1) #[.bool false,.slice none 0 0]) _) ?_
  clear hK
  refine aX 4 rfl (by kernel_rfl) rfl fun K hK=>?_
  go_simp
  refine (kX _ _ _ _ MN).mono ?_
  rintro e w2 ⟨s2,rfl,H0,G⟩
  refine hK _ _ (⟨B3.ext G,B4.ext G⟩:(fun F=>Blk 32 F w.heap.size #[.bool false,.slice (some ⟨b,o,none⟩) k c]∧Blk 32 F (w.heap.size+1) #[.bool false,.slice none 0 0]) _) ?_
  clear hK
  refine ZeH (l:=[_]) 5 rfl (by kernel_rfl) ?_
  obtain⟨z0,z1,z2,z3⟩:=(B4.ext G).cell2
  go_wp2
  exact gP rfl rfl (by omega) Q B4 G (MN.ext G) H0.out HZ.out
theorem Zq2 {k m:Nat}(h:k≤32*m):ml (1*2^((k+1)/2))≤m+1:=by
 rw[sZ]
 refine xX.2 ?_
 rw[cI]
 exact qO (by omega) (by omega)
theorem Zcd (n:Nat):blen n≤32*ml n:=by
 refine wT.2 ?_
 have:=Zd1 n
 rwa [cI] at this
section
variable {a b:Value} {x r k:Nat} {w:World}
theorem cE (ha:zI w a ((x:Nat):Int))(c:ml x≤100000)(d:0<x):yA 25 #[a,.int .i64 (-1)] w (wN w ((x/2^1:Nat):Int)) :=
 Zou a x _ w ha (nfit (mlc c) (by decide)) d (by rw[qV];exact ZqH)
theorem Zov (ha:zI w a 1)(c:k≤1099511627776):yA 25 #[a,.int .i64 (k:Int)] w (wN w ((1*2^k:Nat):Int)):=by
 have h:=gM a 1 k w ha (nfit (k:=1) (xX.2 (by rw[zP];decide)) (by decide)) c
 rwa [show (1:Int)*2^k=((1*2^k:Nat):Int) by simp] at h
theorem ZcO (ha:zI w a ((x:Nat):Int))(c:zI w b ((r:Nat):Int))(d:ml x≤100000)(e:ml r≤100000)(f:0<r):yA 70 #[a,b] w (Zd4 w ((x/r:Nat):Int) ((x%r:Nat):Int)):=by
 have h:=bE a b x r w ha c (nfit (mlc d) (by decide)) (nfit (mlc e) (by decide)) (by omega)
 rwa [←Int.ofNat_tdiv,← Int.ofNat_tmod] at h
theorem Zaf (ha:zI w a ((x:Nat):Int))(c:zI w b ((r:Nat):Int))(d:ml x≤100000)(e:ml r≤100000):yA 77 #[a,b] w (wN w ((x+r:Nat):Int)) :=
 Zcr a b x r w ha c (nfit (mlc d) (by decide)) (nfit (mlc e) (by decide))
theorem ZcP (ha:zI w a ((x:Nat):Int))(c:zI w b ((r:Nat):Int))(d:ml x≤100000)(e:ml r≤100000):yA 133 #[a,b] w (RetV w (.int .i64 (((x:Nat):Int)-((r:Nat):Int)).sign)) :=
 Zih a b x r w ha c (nfit (mlc d) (by decide)) (nfit (mlc e) (by decide))
theorem ZiT (ha:zI w a ((x:Nat):Int))(c:zI w b ((r:Nat):Int))(d:ml x≤100000)(e:ml r≤100000):yA 74 #[a,b] w (wN w ((x*r:Nat):Int)):=by
 have h:=Zh7 a b x r w ha c (nfit (mlc d) (by decide)) (nfit (mlc e) (by decide))
 rwa [←tD] at h
end
theorem ZpT {x r:Nat}(h:x<r):decide ((((x:Nat):Int)-((r:Nat):Int)).sign≥0)=false:=uJ (fun e=>by
 have:=rR (show ((x:Nat):Int)-((r:Nat):Int)<0 by omega)
 omega)
theorem ZpU {x r:Nat}(h:¬ x<r):decide ((((x:Nat):Int)-((r:Nat):Int)).sign≥0)=true:=uQ (by
 have:=Int.sign_nonneg_iff.2 (show 0≤((x:Nat):Int)-((r:Nat):Int) by omega)
 exact this)
theorem rs1 {k:Nat}(h:k≤100000):IntKind.i64.wrap ((k:Int)+1)=((k+1:Nat):Int):=by rw[IntKind.wrap_i64];omega
theorem rs2 {k:Nat}(h:k≤100000):IntKind.i64.wrap (((k+1:Nat):Int).tdiv 2)=(((k+1)/2:Nat):Int):=by
 rw[show (2:Int)=((2:Nat):Int) from rfl,← Int.ofNat_tdiv,IntKind.wrap_i64];omega
theorem ZoS {x r:Nat}(c:ml r≤1001)(d:ml x≤1000):ml (r+x/r)≤1002:=Zbb c (uA (wK (uO _ _)) (by omega))
theorem Zne {x r:Nat}(c:ml r≤1001)(d:ml x≤1000):ml ((r+x/r)/2^1)≤1002:=uA (wK (uO _ _)) (ZoS c d)
theorem Znf (a:Value)(x r0:Nat)(w:World)(ha:zI w a ((x:Nat):Int))(U:0<x)(L:ml x≤1000)(Y:r0*r0≤x)(Z:x<(r0+1)*(r0+1)) :
 yA 132 #[a] w (wN w ((r0:Nat):Int)):=by
 obtain⟨i,j,c,l,rfl⟩:=ha.shp
 have T:¬ c=0:=by have:=ha.lenp (by omega);omega
 refine zX (Φ:=fun w=>zI w (.agg #[.bool i,.slice j c l]) ((x:Int))) Tryz.func132 rfl (by kernel_rfl) (fun w' hf=>ha.ext hf) ?_
 refine zC (zB (xr 2 [(1,.p 1 0),(2,.p 2 0)] [bI2 2 32 false none 0 0,bI2 1 32 i j c l] ?_))
 refine xe (zA (zC (zC (zB (xr 4 [(1,.p 1 0),(2,.p 2 0),yB 10 (((c:Int):Int) == 0)] [bI2 2 32 false none 0 0,bI2 1 32 i j c l] ?_)))))
 rw[l_nz T]
 refine xr 0 [(1,.p 1 0),(2,.p 2 0),yB 10 false] [bI2 2 32 false none 0 0,bI2 1 32 i j c l] ?_
 refine xe (zA (xb (zK (zA (zC ?_)))))
 refine yO 8 zM ?_
 refine xd 24 [.int .i64 1] 12 zZ _ (fun w R Q=>yM xC (lH 1 _ (by decide) (by decide))) fun⟨t,u,y,z⟩=>?_
 refine xf 1 [(1,.p 1 0),(2,.p 2 0),eI2 12 t u y z,eI2 13 i j c l] [bI2 2 32 false none 0 0,bI2 1 32 i j c l] ?_
 refine xd 37 [vI2 i j c l] 14 (fun _:Unit=>.int .i64 ((blen x:Nat):Int)) _ (fun w R Q=>yN (kR _ (x:Int) _ Q.1 (nfit (mlc L) (by decide)))) fun S=>?_
 refine xf 1 [(1,.p 1 0),(2,.p 2 0),eI2 12 t u y z,yJ 15 (IntKind.i64.wrap (((blen x:Nat):Int)+1))] [bI2 2 32 false none 0 0,bI2 1 32 i j c l] ?_
 rw[rs1 (k:=blen x) (by have:=Zcd x;omega)]
 refine xf 1 [(1,.p 1 0),(2,.p 2 0),eI2 12 t u y z,(16,.v (.int .i64 (IntKind.i64.wrap ((((blen x+1:Nat):Int)).tdiv 2))))] [bI2 2 32 false none 0 0,bI2 1 32 i j c l] ?_
 rw[rs2 (k:=blen x) (by have:=Zcd x;omega)]
 refine xd 25 [vI2 t u y z,.int .i64 (((blen x+1)/2:Nat):Int)] 17 zZ _ (fun w R Q=>yM xC (Zov (k:=(blen x+1)/2) Q.1.2 (by have:=Zcd x;omega))) fun⟨A,B,C,D⟩=>?_
 refine xf 2 [(1,.p 1 0),(2,.p 2 0),(3,.p 3 0)] [bI2 3 32 A B C D,bI2 3 32 false none 0 0,bI2 2 32 false none 0 0,bI2 1 32 i j c l] ?_
 refine xz (xe (zA (xH ?_)))
 refine yC [(1,.p 1 0),(2,.p 2 0),(3,.p 3 0)] [(3,32,[.v (.bool A),.v (.slice B C D)]),(2,32,[.v (.bool false),.v (.slice none 0 0)]),(1,32,[.v (.bool i),.v (.slice j c l)])] (fun w=>(zI w (.agg #[.bool i,.slice j c l]) ((x:Int))∧zI w (.agg #[.bool A,.slice B C D]) ((((1*2^((blen x+1)/2)):Nat):Int)))) (fun w Q=>⟨Q.1.1.1,Q.2⟩) ?_
 refine lW (fun V W X=>∃ (n:Bool) (o:Option Addr) (q s r:Nat),W=ofL [(1,.p 1 0),(2,.p 2 0),(3,.p 3 0)] [(3,32,[.v (.bool n),.v (.slice o q s)]),(2,32,[.v (.bool false),.v (.slice none 0 0)]),(1,32,[.v (.bool i),.v (.slice j c l)])]∧X=(fun w=>(zI w (.agg #[.bool i,.slice j c l]) ((x:Int))∧zI w (.agg #[.bool n,.slice o q s]) ((r:Int))))∧(x<(r+1)*(r+1))∧(0<r)∧(ml r≤1001)∧V=(1+r)) ((1+(1*2^((blen x+1)/2)))) ⟨A,B,C,D,(1*2^((blen x+1)/2)),rfl,rfl,(ZcN (iF x)).1,(ZcN (iF x)).2,(uA (Zq2 (m:=ml x) (Zcd x)) (by omega)),rfl⟩ ?_
 rintro V W X ⟨n,o,q,s,r,rfl,rfl,hr,E,G,rfl⟩
 refine xH (zC (zB (xr 2 [(1,.p 1 0),(2,.p 2 0),(3,.p 3 0),eI2 19 i j c l,eI2 20 n o q s] [bI2 3 32 n o q s,bI2 2 32 false none 0 0,bI2 1 32 i j c l] ?_)))
 refine xc 70 [vI2 i j c l,vI2 n o q s] 21 aG _ (fun w R Q=>yM eC (ZcO Q.1 Q.2 (uA L (by decide)) (uA G (by decide)) E)) fun S=>?_
 obtain⟨⟨H,I,J,K⟩,⟨a0,b0,d0,e0⟩⟩:=S
 refine xr 7 [(1,.p 1 0),(2,.p 2 0),(3,.p 3 0),(4,.p 4 0)] [bI2 4 32 H I J K,bI2 3 32 n o q s,bI2 2 32 false none 0 0,bI2 1 32 i j c l] ?_
 refine xe (zA (zC (zB (xr 2 [(1,.p 1 0),(2,.p 2 0),(3,.p 3 0),eI2 24 n o q s,eI2 25 H I J K] [bI2 3 32 n o q s,bI2 2 32 false none 0 0,bI2 1 32 i j c l] ?_))))
 refine xc 77 [vI2 n o q s,vI2 H I J K] 26 zZ _ (fun w R Q=>yM xC (Zaf (x:=r) (r:=x/r) Q.1.2 Q.2.1 (uA G (by decide)) (uA (wK (uO x r)) (uA L (by decide))))) fun⟨M,N,O,P⟩=>?_
 refine xr 0 [(1,.p 1 0),(2,.p 2 0),(3,.p 3 0),eI2 26 M N O P] [bI2 3 32 n o q s,bI2 2 32 false none 0 0,bI2 1 32 i j c l] ?_
 refine xc 25 [vI2 M N O P,.int .i64 (-1)] 27 zZ _ (fun w R Q=>yM xC (cE (x:=r+x/r) Q.2 (uA (ZoS G L) (by decide)) (Nat.add_pos_left E _))) fun⟨d,e,f,g⟩=>?_
 refine xr 2 [(1,.p 1 0),(2,.p 2 0),(3,.p 3 0),(6,.p 6 0)] [bI2 6 32 d e f g,bI2 3 32 n o q s,bI2 2 32 false none 0 0,bI2 1 32 i j c l] ?_
 refine xe (zA (zC (zC ?_)))
 by_cases F:(r+x/r)/2^1<r
 ·refine zB (xr 2 [(1,.p 1 0),(2,.p 2 0),(3,.p 3 0),(6,.p 6 0),eI2 28 d e f g,eI2 29 n o q s] [bI2 6 32 d e f g,bI2 3 32 n o q s,bI2 2 32 false none 0 0,bI2 1 32 i j c l] ?_)
  refine xc 133 [vI2 d e f g,vI2 n o q s] 30 (fun _:Unit=>.int .i64 ((((r+x/r)/2^1:Nat):Int)-(r:Int)).sign) _ (fun w R Q=>yN (ZcP (x:=(r+x/r)/2^1) (r:=r) Q.2 Q.1.1.1.2 (uA (Zne G L) (by decide)) (uA G (by decide)))) fun S=>?_
  refine xr 1 [(1,.p 1 0),(2,.p 2 0),(3,.p 3 0),(6,.p 6 0),(31,.v (.bool (decide (((((r+x/r)/2^1:Nat):Int)-(r:Int)).sign≥0))))] [bI2 6 32 d e f g,bI2 3 32 n o q s,bI2 2 32 false none 0 0,bI2 1 32 i j c l] ?_
  rw[ZpT F]
  refine xr 0 [(1,.p 1 0),(2,.p 2 0),(3,.p 3 0),(6,.p 6 0),yB 31 false] [bI2 6 32 d e f g,bI2 3 32 n o q s,bI2 2 32 false none 0 0,bI2 1 32 i j c l] ?_
  refine xe (zA (xb (zK (zA (zB (xr 2 [(1,.p 1 0),(2,.p 2 0),(3,.p 3 0)] [bI2 3 32 d e f g,bI2 2 32 false none 0 0,bI2 1 32 i j c l] ?_))))))
  refine xe (wX ?_)
  refine yP [(1,.p 1 0),(2,.p 2 0),(3,.p 3 0)] [(3,32,[.v (.bool d),.v (.slice e f g)]),(2,32,[.v (.bool false),.v (.slice none 0 0)]),(1,32,[.v (.bool i),.v (.slice j c l)])] (fun w=>(zI w (.agg #[.bool i,.slice j c l]) ((x:Int))∧zI w (.agg #[.bool d,.slice e f g]) (((((r+x/r)/2^1):Nat):Int)))) (fun w Q=>⟨Q.1.1.1.1.1,Q.1.2⟩) ?_
  exact wG ((1+((r+x/r)/2^1))) (by omega) ⟨d,e,f,g,((r+x/r)/2^1),rfl,rfl,(Zeb E U).1,(Zeb E U).2,(uA (wK (rM F)) G),rfl⟩
 refine zB (xr 2 [(1,.p 1 0),(2,.p 2 0),(3,.p 3 0),(6,.p 6 0),eI2 28 d e f g,eI2 29 n o q s] [bI2 6 32 d e f g,bI2 3 32 n o q s,bI2 2 32 false none 0 0,bI2 1 32 i j c l] ?_)
 refine xc 133 [vI2 d e f g,vI2 n o q s] 30 (fun _:Unit=>.int .i64 ((((r+x/r)/2^1:Nat):Int)-(r:Int)).sign) _ (fun w R Q=>yN (ZcP (x:=(r+x/r)/2^1) (r:=r) Q.2 Q.1.1.1.2 (uA (Zne G L) (by decide)) (uA G (by decide)))) fun S=>?_
 refine xr 1 [(1,.p 1 0),(2,.p 2 0),(3,.p 3 0),(6,.p 6 0),(31,.v (.bool (decide (((((r+x/r)/2^1:Nat):Int)-(r:Int)).sign≥0))))] [bI2 6 32 d e f g,bI2 3 32 n o q s,bI2 2 32 false none 0 0,bI2 1 32 i j c l] ?_
 rw[ZpU F]
 refine xr 0 [(1,.p 1 0),(2,.p 2 0),(3,.p 3 0),(6,.p 6 0),yB 31 true] [bI2 6 32 d e f g,bI2 3 32 n o q s,bI2 2 32 false none 0 0,bI2 1 32 i j c l] ?_
 refine xe (zA (xa (zC (zB (xr 2 [(1,.p 1 0),(2,.p 2 0),(3,.p 3 0),(6,.p 6 0)] [bI2 6 32 d e f g,bI2 3 32 n o q s,bI2 2 32 n o q s,bI2 1 32 i j c l] ?_)))))
 refine xe (zA (zF (zE (lA (zE (lA ?_))))))
 refine yR (.agg #[.bool n,.slice o q s]) fun w' R Q=>?_
 exact⟨_,rfl,by have h:=Q.1.1.1.1.2;rwa [Znc F hr Y Z] at h,R⟩
theorem ZlE (a:Value)(w:World)(ha:zI w a 0) :
 yA 132 #[a] w (wN w 0):=by
 obtain⟨c,d,f,e,rfl⟩:=ha.shp
 obtain rfl:f=0:=ha.len0 rfl
 refine zX (Φ:=fun w=>zI w (.agg #[.bool c,.slice d 0 e]) (0)) Tryz.func132 rfl (by kernel_rfl) (fun w' g=>ha.ext g) ?_
 refine zC (zB (xr 2 [(1,.p 1 0),(2,.p 2 0)] [bI2 2 32 false none 0 0,bI2 1 32 c d 0 e] ?_))
 refine xe (zA (zC (zC (zB (xr 4 [(1,.p 1 0),(2,.p 2 0),yB 10 true] [bI2 2 32 false none 0 0,bI2 1 32 c d 0 e] ?_)))))
 refine xe (zA (xa (zC (zB (xr 2 [(1,.p 1 0),(2,.p 2 0)] [bI2 2 32 false none 0 0,bI2 1 32 c d 0 e] ?_)))))
 refine xe (zA (zF (zE ?_)))
 refine yR (.agg #[.bool false,.slice none 0 0]) fun w' R Q=>?_
 exact⟨_,rfl,zI.nil _,R⟩
theorem Zhb (a:Value)(x:Int)(r0:Nat)(w:World)(ha:zI w a x)(g:0≤x)(c:ml x.natAbs≤1000)(d:r0*r0≤x.natAbs)(f:x.natAbs<(r0+1)*(r0+1)):yA 132 #[a] w (wN w ((r0:Nat):Int)):=by
 obtain⟨n,rfl⟩:=uW g
 rw[uS] at c d f
 rcases uH n with rfl|h
 ·obtain rfl:r0=0:=by
   rcases uH r0 with e|e
   ·exact e
   have:=tJ e e;omega
  exact ZlE a w ha
 exact Znf a n r0 w ha h c d f
inductive RootIs (p:Rat):ByteArray→Bool→Prop
 | neg (h:p.num<0):RootIs p ⟨#[]⟩ false
 | no1 (n d:Nat) (h0:0≤p.num) (hn1:n*n≤p.num.natAbs) (hn2:p.num.natAbs<(n+1)*(n+1)) (hd1:d*d≤(p.den:Int).natAbs) (hd2:(p.den:Int).natAbs<(d+1)*(d+1)) (h:¬ n*n=p.num.natAbs):RootIs p ⟨#[]⟩ false
 | no2 (n d:Nat) (h0:0≤p.num) (hn1:n*n≤p.num.natAbs) (hn2:p.num.natAbs<(n+1)*(n+1)) (hd1:d*d≤(p.den:Int).natAbs) (hd2:(p.den:Int).natAbs<(d+1)*(d+1)) (hnn:n*n=p.num.natAbs) (h:¬ d*d=(p.den:Int).natAbs):RootIs p ⟨#[]⟩ false
 | yes (n d:Nat) (Q:Rat) (h0:0≤p.num) (hn1:n*n≤p.num.natAbs) (hn2:p.num.natAbs<(n+1)*(n+1)) (hd1:d*d≤(p.den:Int).natAbs) (hd2:(p.den:Int).natAbs<(d+1)*(d+1)) (hnn:n*n=p.num.natAbs) (hdd:d*d=(p.den:Int).natAbs) (hQn:Q.num=(n:Int)) (hQd:(Q.den:Int)=(d:Int)):RootIs p ⟨(xD Q).toArray⟩ true
def ZhF (s:St) (o:Oper):Option (FuncId × Nat × List Value) :=
 match o.op with
 | .call c=>match c.callee with
   | .value fo=>match s.eval fo,c.args.toList with
     | some (.v (.func (.func f) first captured)),x :: l=>match s.eval x with
       | some (.p b 0)=>bif first.isEmpty && (captured.isEmpty && l.all s.vB) then some (f,b,l.map s.rho) else none
       | _=>none
     | _,_=>none
   | _=>none
 | _=>none
def ZeY (P:Program) (N:Nat) (ops:Array Oper) (o:Oper) (s:St):Option (FuncId×Nat × List Value×Nat) :=
 match s.wantB ops o,ZhF s o,o.dst with
 | some true,some q,some d=>bif dS P q.1 && Nat.blt d N then some (q.1,q.2.1,q.2.2,d) else none
 | _,_,_=>none
section
variable {N:Nat} {S0:Nat→Prop} {w0:World} {s:St} {Φ Ψ:World→Prop} {L:Nat→Nat} {a:Act} {w:World} {P:Program} {ops:Array Oper} {Q:Exit→Act→World→Prop}
theorem Znj (hi:Inv N S0 w0 s Φ L a w){o:Oper}{f b:Nat}{vs:List Value}(h:ZhF s o=some (f,b,vs))(hk:dS P f=true):(execOp a.eval o).run P w=.ok (.enter f (.pointer (some ⟨L b,0,none⟩) :: vs).toArray) w∧(s.bl b).isSome=true:=by
 unfold ZhF at h
 split at h
 ·rename_i c ho
  split at h
  ·rename_i fo hc
   split at h
   ·rename_i f' first captured x l hf hl
    split at h
    ·rename_i b' hx
     cases hq:(first.isEmpty && (captured.isEmpty && l.all s.vB)) with
     | false=>rw[hq] at h;cases h
     | true =>
      rw[hq] at h
      simp only[cond_true,rJ,Prod.mk.injEq] at h
      simp only[tR] at hq
      obtain⟨h1,h2,h3⟩:=h
      subst h1;subst h2;subst h3
      have e0:first=#[]:=Array.isEmpty_iff.1 hq.1
      have e0':captured=#[]:=Array.isEmpty_iff.1 hq.2.1
      subst e0;subst e0'
      have e1:a.eval fo=.func (.func f') #[] #[]:=hi.eval hf
      have e3:a.eval x=.pointer (some ⟨L b',0,none⟩):=hi.eval hx
      have e4:l.map a.eval=l.map s.rho:=List.map_congr_left (fun y hy=>hi.rho hq.2.2 hy)
      have e2:(#[] ++ c.args.map a.eval ++ #[]:Array Value)=(.pointer (some ⟨L b',0,none⟩) :: l.map s.rho).toArray:=by
       apply Array.toList_inj.1
       simp only[Array.toList_append,Array.toList_map,hl,List.map_cons,e3,e4,pC,sP]
      refine⟨?_,hi.mem.evp hx⟩
      unfold dS at hk
      split at hk
      ·rename_i fn hfn
       rw[tR] at hk
       have n1 : (fn.name == "runtime.NumGoroutine") = false := by simpa using hk.1
       have n2:fn.body.isNone=false:=by simpa using hk.2
       simp only[execOp,ho,resolve,hc,e1,Deferred.ofValue,Sem.run_bind,Sem.run_pure,Result.andThen_ok,invoke,callFunc,run_program,hfn,n1,n2,rG,pI,e2]
      cases hk
    cases h
   cases h
  cases h
 cases h
theorem Zhx {o:Oper}{f b d:Nat}{c:List Value}(h:ZeY P N ops o s=some (f,b,c,d)):s.wantB ops o=some true∧ZhF s o=some (f,b,c)∧o.dst=some d∧dS P f=true∧d<N:=by
 unfold ZeY at h
 split at h
 ·rename_i q d' e g i
  cases hb:(dS P q.1 && Nat.blt d' N) with
  | false=>rw[hb] at h;cases h
  | true =>
   rw[hb] at h
   simp only[cond_true,rJ,Prod.mk.injEq] at h
   simp only[tR] at hb
   obtain⟨j,k,l,m⟩:=h
   subst j;subst k;subst l;subst m
   exact⟨e,g,i,hb.1,sF hb.2⟩
 cases h
theorem Inv.blkset (hi:Inv N S0 w0 s Φ L a w){w':World}{b:Nat}{t:TypeId}{cs cs':List AV}(A:s.bl b=some (t,cs))(q:Fr (fun i=>i=L b) w w')(B:Blk t w' (L b) (cs'.map (AV.conc L)).toArray)(C:∀ c,c∈cs'→jZ c=true∧c.al s) :
 Inv N S0 w0 { s with bl:=upd s.bl b (t,cs') } Φ L a w':=by
 have l:(s.bl b).isSome=true:=by rw[A];rfl
 have r:∀ c,c≠b→(s.bl c).isSome=true→L c≠L b:=fun c u v e=>u (hi.mem.inj c b v l e)
 have g:∀ c,((upd s.bl b (t,cs')) c).isSome=true→(s.bl c).isSome=true:=fun c j=>by
  by_cases e:c=b
  ·rw[e];exact l
  rw[wR _ _ e] at j;exact j
 have h:∀ c,(s.bl c).isSome=true→((upd s.bl b (t,cs')) c).isSome=true:=fun c j=>by
  by_cases e:c=b
  ·rw[e,lS];rfl
  rw[wR _ _ e];exact j
 refine⟨hi.size,hi.df,hi.sl,⟨fun c x m f=>?_,fun c d f y e=>hi.mem.inj c d (g c f) (g d y) e,fun c f=>hi.mem.old c (g c f),hi.mem.ext.next q (fun i D e=>?_),fun i c k j=>h c (hi.mem.slp i c k j),fun c x m f p n=>?_⟩,fun E z=>?_⟩
 ·by_cases e:c=b
  ·subst e
   simp only[lS,rJ] at f
   injection f with e1 e2
   subst e1;subst e2
   exact B
  simp only[wR _ _ e] at f
  exact (hi.mem.blk c x m f).fr q (r c e (by rw[f];rfl))
 ·rcases hi.mem.old b l with j|j
  ·omega
  rw[e];exact j
 ·have o:jZ p=true∧p.al s:=by
   by_cases e:c=b
   ·subst e
    simp only[lS,rJ] at f
    injection f with e1 e2
    subst e2
    exact C p n
   simp only[wR _ _ e] at f
   exact hi.mem.cel c x m f p n
  exact⟨o.1,fun d k e=>h d (o.2 d k e)⟩
 refine hi.box E ((q.mono (fun i _ e=>⟨b,l,e.symm⟩)).trans (z.mono (fun i _ j=>?_)))
 obtain⟨c,f,e⟩:=j
 exact⟨c,g c f,e⟩
theorem Zbj {i d b:Nat}{t:TypeId}{cs:List AV}{α:Type}(f:FuncId)(E:List Value)(u:α→Value)(cs':α→List Value)(φ:α→World→Prop)(h:ZeY P N ops (opAt ops i) s=some (f,b,E,d))(F:s.bl b=some (t,cs))(l:cs.all (fun c=>match c with | .v _=>true | _=>false)=true)(H:∀ w g,Fr S0 w0 w→Φ w→Blk t w g (cs.map (AV.conc (fun _=>0))).toArray→Calls P f (.pointer (some ⟨g,0,none⟩) :: E).toArray w (fun en w'=>∃ x,en=.returned (u x)∧Fr (fun i=>i=g) w w'∧Blk t w' g (cs' x).toArray∧(∀ c,c∈cs' x→jZ (.v c)=true)∧BoxN w w' (φ x)))(K:∀ x,SXi P N S0 w0 ops Q (i+1) ⟨upd s.sl d (.v (u x)),upd s.bl b (t,(cs' x).map .v)⟩ (fun w=>Φ w∧φ x w))(y:Nat.blt i ops.size=true:=by kernel_rfl):SXi P N S0 w0 ops Q i s Φ:=by
 obtain⟨I,J,M,O,R⟩:=Zhx h
 unfold SXi
 rw[fF y]
 intro L a w k
 refine wpList_step fun K' S=>?_
 rw[uP (k.want I)]
 unfold Oper.wp
 obtain⟨m,z⟩:=Znj k J O
 rw[m,Oper.upon_enter]
 have T:cs.map (AV.conc L)=cs.map (AV.conc (fun _=>0)):=List.map_congr_left (fun c n=>by
  have:=vP.1 l c n
  cases c with
  | v x=>rfl
  | p b o=>cases this)
 have G:=k.mem.blk b t cs F
 rw[T] at G
 refine Calls.mono (H w (L b) k.mem.ext k.box.self G) fun en w' r=>?_
 obtain⟨x,rfl,U,A,B,C⟩:=r
 simp only[M]
 have V:=k.app0 (d:=d) R (al_v (s:=s) (u x))
 have q:=V.blkset (b:=b) (t:=t) (cs:=cs) (cs':=(cs' x).map .v) F U (by rw[List.map_map];simpa [Function.comp_def,AV.conc] using A) (fun c n=>by
  obtain⟨v,W,rfl⟩:=List.mem_map.1 n
  exact⟨B v W,al_v _⟩)
 have X:=C (s.own L) (fun i h=>k.own_nrb h)
 have j:∀ c,((upd s.bl b (t,(cs' x).map .v)) c).isSome=true→(s.bl c).isSome=true:=fun c r=>by
  by_cases e:c=b
  ·rw[e];exact z
  rw[wR _ _ e] at r;exact r
 refine S _ _ (K x L _ _ ⟨q.size,q.df,q.sl,q.mem,q.box.and (fun Y Z=>X Y (Z.mono (fun i _ D=>?_)))⟩)
 obtain⟨c,n,e⟩:=D
 exact⟨c,j c n,e⟩
theorem wQ {i d b:Nat}{t:TypeId}{cs:Array Value}{α:Type}(f:FuncId)(args:List Value)(l:α→Value)(cs':α→Array Value)(φ:α→World→Prop)(Ψ:World→Prop)(p:∀ w,Φ w→Blk t w b cs)(q:0<cs.size)(g:w0.heap.size≤b∨S0 b)(r:∀ w,Fr S0 w0 w→Φ w→Calls P f args.toArray w (fun en w'=>∃ x,en=.returned (l x)∧Fr (fun i=>i=b) w w'∧Blk t w' b (cs' x)∧BoxN w w' (φ x)))(u:∀ w w',Φ w→Fr (fun i=>i=b) w w'→Ψ w')(K:∀ x,SXi P N S0 w0 ops Q (i+1) (s.put d (.v (l x))) (fun w=>(Ψ w∧Blk t w b (cs' x))∧φ x w))(m:Nat.blt i ops.size=true:=by kernel_rfl)(h:fV P N ops (opAt ops i) s=some (f,args,d):=by kernel_rfl):SXi P N S0 w0 ops Q i s Φ:=by
 obtain⟨y,z,A,B,C,D,E⟩:=dU h
 unfold SXi
 rw[fF m]
 intro L a w e
 refine wpList_step fun U F=>?_
 rw[uP (e.want y)]
 unfold Oper.wp
 rw[e.exec B C,Zbv z D,Oper.upon_enter]
 refine Calls.mono (r w e.mem.ext e.box.self) fun en w' G=>?_
 obtain⟨x,rfl,H,n,o⟩:=G
 simp only[A]
 have I:=e.app0 (d:=d) E (al_v (s:=s) (l x))
 have k:=I.eff (Ψ:=fun w=>Ψ w∧Blk t w b (cs' x)) H (e.notOwn (c:=cs[0]'q) (j:=0) (fun w R=>by have:=(p w R).cell 0;rw[this];simp[q])) g (p w e.box.self).lt (fun J M O S T=>⟨u J M O S,T.trans n⟩)
 exact F _ _ (K x L _ _ ⟨k.size,k.df,k.sl,k.mem,k.box.and (o _ (fun i h=>e.own_nrb h))⟩)
end
def frz (b g:Nat):AV→AV
 | .v x=>.v x
 | .p b' off=>bif Nat.beq b' b then .v (.pointer (some ⟨g,off,none⟩)) else .p b' off
theorem Zoy (L:Nat→Nat)(b:Nat)(x:AV):(frz b (L b) x).conc L=x.conc L:=by
 cases x with
 | v x=>rfl
 | p b' off =>
  show (bif Nat.beq b' b then AV.v (.pointer (some ⟨L b,off,none⟩)) else .p b' off).conc L=_
  cases h:Nat.beq b' b with
  | true =>
   have e:=Nat.eq_of_beq_eq_true h
   subst e
   rfl
  | false=>rfl
section
variable {N:Nat} {S0:Nat→Prop} {w0:World} {s:St} {Φ:World→Prop} {P:Program} {Q:Exit→Act→World→Prop}
theorem SXc.freeze {c:Code}(b:Nat)(t:TypeId)(cs:List Value)(k:Nat→SlL)(j:BlL)(A:s.bl b=some (t,cs.map .v))(F:∀ g,(k g).map (fun q=>(s.sl q.1).map (frz b g))=(k g).map (fun q=>some q.2))(G:j.map (fun q=>s.bl q.1)=j.map (fun q=>some q.2))(H:j.all (fun q => !(Nat.beq q.1 b))=true)(I:∀ g,wfB (k g) j=true)(h:∀ g,SXc P N S0 w0 Q c (ofL (k g) j) (fun w=>Φ w∧Blk t w g cs.toArray)):SXc P N S0 w0 Q c s Φ:=by
 intro L a w m
 refine h (L b) L a w ?_
 have n:=I (L b)
 unfold wfB at n
 rw[tR] at n
 have u:∀ i x,(ofL (k (L b)) j).bl i=some x→s.bl i=some x:=fun i x p=>aE (f:=fun q:Nat × TypeId×List AV=>s.bl q.1) (g:=fun q=>some q.2) G (iT p)
 have B:∀ i x,(ofL (k (L b)) j).bl i=some x→i≠b:=fun i x p e=>by
  have:=vP.1 H _ (iT p)
  simp[e] at this
 have l:∀ i,((ofL (k (L b)) j).bl i).isSome=true→(s.bl i).isSome=true∧i≠b:=fun i z=>by
  obtain⟨q,e⟩:=sN.1 z
  exact⟨by rw[u i q e];rfl,B i q e⟩
 have o:(s.bl b).isSome=true:=by rw[A];rfl
 have J:=m.mem.blk b t _ A
 refine⟨m.size,m.df,fun i x p=>?_,⟨fun c t cs e=>m.mem.blk c t cs (u c _ e),fun c d r K=>m.mem.inj c d (l c r).1 (l d K).1,fun c r=>m.mem.old c (l c r).1,m.mem.ext,fun i c C e=>?_,fun c t cs e x p=>⟨(m.mem.cel c t cs (u c _ e) x p).1,fun d C M=>?_⟩⟩,fun w' D=>⟨m.box w' (D.mono (fun i _ z=>?_)),?_⟩⟩
 ·have E:=aE (f:=fun q:Nat × AV=>(s.sl q.1).map (frz b (L b))) (g:=fun q=>some q.2) (F (L b)) (iT p)
  simp only at E
  obtain⟨y,O,e⟩:=tP.1 E
  have:=m.sl i y O
  rw[this,← e,Zoy]
 ·exact vP.1 n.1 _ (iT e)
 ·have:=vP.1 (vP.1 n.2 _ (iT e)) x p
  rw[M] at this
  exact this
 ·obtain⟨c,r,e⟩:=z
  exact⟨c,(l c r).1,e⟩
 have:Blk t w (L b) cs.toArray:=by simpa [List.map_map,Function.comp_def,AV.conc] using J
 refine this.fr D fun⟨c,r,e⟩=>?_
 exact (l c r).2 (m.mem.inj c b (l c r).1 o e)
end
section
variable {N:Nat} {S0:Nat→Prop} {w0:World} {s:St} {Φ Ψ:World→Prop} {L:Nat→Nat} {a:Act} {w:World} {P:Program} {ops:Array Oper} {Q:Exit→Act→World→Prop}
theorem ZpX {i:Nat}{t bt:TypeId}{x y:Operand}{cs:List Value}(b off:Nat)(v:Value)(Ψ:World→Prop)(q:∀ w,Φ w→Blk bt w b cs.toArray)(m:off<cs.length)(f:w0.heap.size≤b∨S0 b)(u:v.oneCell'=true)(l:v.cells.toList=[v])(z:∀ w w',Φ w→Fr (fun i=>i=b) w w'→Ψ w')(K:SXi P N S0 w0 ops Q (i+1) s (fun w=>Ψ w∧Blk bt w b (cs.set off v).toArray))(n:Nat.blt i ops.size=true:=by kernel_rfl)(A:s.wantB ops (opAt ops i)=some true:=by kernel_rfl)(B:(opAt ops i).op=.store t x y:=by kernel_rfl)(C:(opAt ops i).dst=none:=by kernel_rfl)(D:(teOf P t).map (fun e=>e.size)=some 1:=by kernel_rfl)(E:s.eval x=some (.v (.pointer (some ⟨b,off,none⟩))):=by kernel_rfl)(F:s.eval y=some (.v v):=by kernel_rfl):SXi P N S0 w0 ops Q i s Φ:=by
 unfold SXi
 rw[fF n]
 intro L a w d
 refine wpList_step fun X G=>?_
 rw[uP (d.want A)]
 obtain⟨Y,o,H⟩:=tP.1 D
 have r:=q w d.box.self
 obtain⟨w',I,h,J⟩:=ZbP (P:=P) o (g:=b) (bt:=bt) (off:=off) (cur:=cs) (v:=v) r (by rw[l];exact H.symm) (by rw[l];simp;omega) (fun c p=>by rw[l] at p;simp at p;rw[p];exact u)
 rw[l,ZfD _ _ _ m] at h
 unfold Oper.wp
 have M:=d.eval E
 have O:=d.eval F
 have k:(execOp a.eval (opAt ops i)).run P w=.ok .skip w':=by simp only[execOp,B,Sem.run_bind,M,O,AV.conc,I,Result.andThen_ok,Sem.run_pure]
 rw[k,Oper.upon_skip,C]
 refine G _ _ (K L _ _ (d.eff J (d.notOwn (c:=cs[off]'m) (j:=off) (fun w R=>by have:=(q w R).cell off;rw[this];simp[m])) f r.lt (fun S T U V W=>⟨z S T U V,W.trans h⟩)))
end
end Go.Proofs.YtklpdkpcocnglaaGreatDoor
