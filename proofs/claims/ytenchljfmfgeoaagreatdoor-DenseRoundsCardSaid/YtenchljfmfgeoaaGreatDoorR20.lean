/-
 My texts Vl, PaM, Pa, Px, Gq, Nf, Num6, Num7, Nt, Nd, Len2, Nrd, RdK, Nm, Pt, Nw, Fu, FlD, Fp, Nsh, Ro, Rg, Nss, Rb, Rnd, Rn0 put together.
-/
import Derived.Test.YtenchljfmfgeoaaGreatDoorR15
import Derived.Test.YtenchljfmfgeoaaGreatDoorR14
import Derived.Test.YtenchljfmfgeoaaGreatDoorR18
import Derived.Test.YtenchljfmfgeoaaGreatDoorR13
import Derived.Test.YtenchljfmfgeoaaGreatDoorR08
import Derived.Lib.Bytealg
import Derived.Test.YtenchljfmfgeoaaGreatDoorR07
set_option maxRecDepth 100000
set_option maxHeartbeats 8000000
namespace Go.Proofs.YtenchljfmfgeoaaGreatDoor
open Go.RowKit Tryz
theorem Zl1 {w w':World}{e:Ending}{l:List UInt8}(h:ZeX w l e w'):wV (fun x:Int×Int×Bool=>.tuple #[.agg #[.int .i64 x.1,.int .i64 x.2.1],.bool x.2.2]) (fun x _=>ZaQ l x.1 x.2.1 x.2.2) w e w':=by
 obtain⟨a,b,c,rfl,d,Q⟩:=h
 exact⟨(a,b,c),rfl,Q,BoxN.pure d⟩
abbrev ShSp:=Bool×ByteArray×ByteArray×Bool
theorem Zl2 {w w':World}{e:Ending}{s:ByteArray}(h:ZeR s w e w'):wV (fun x:ShSp=>.tuple #[.agg #[.bool x.1,.string x.2.1,.string x.2.2.1],.bool x.2.2.2]) (fun x _=>wW (bytes s)=(x.1,bytes x.2.1,bytes x.2.2.1,x.2.2.2)) w e w':=by
 obtain⟨neg,t,d,a,rfl,b,Q⟩:=h
 exact⟨(neg,t,d,a),rfl,Q,BoxN.pure b⟩
theorem ZkG {x:ByteArray}(h:bytes x=[]):(x.toList == (⟨#[]⟩:ByteArray).toList)=true:=by
 rw[Lib.toList_data,Lib.toList_data,show x.data.toList=[] from h];rfl
theorem ZkH {x:ByteArray}(h:¬ bytes x=[]):(x.toList == (⟨#[]⟩:ByteArray).toList)=false:=by
 rw[Lib.toList_data,Lib.toList_data]
 exact sW.2 h
theorem ZnE {l:List UInt8}{neg:Bool}{t d:List UInt8}(h:wW l=(neg,t,d,false)):xU l=none:=by unfold xU;rw[h]
theorem ZnF {l:List UInt8}{neg:Bool}{t d:List UInt8}(h:wW l=(neg,t,d,true))(a:d=[]):(xU l).isSome=true:=by unfold xU;rw[h];simp[a]
theorem ZnG {l:List UInt8}{neg:Bool}{t d:List UInt8}(h:wW l=(neg,t,d,true))(b:¬ d=[]):(xU l).isSome=decide (((Int.gcd (zI t:Int) (zI d:Int):Nat):Int)=1):=by
 unfold xU
 rw[h]
 have e:Int.gcd (zI t:Int) (zI d:Int)=Nat.gcd (zI t) (zI d):=rfl
 rw[e]
 simp only[uO b]
 by_cases a:Nat.gcd (zI t) (zI d)=1
 ·rw[vC a,a];rfl
 rw[uO a];simp;omega
theorem Zl3 {l:List UInt8}{a b:Int}(h:ZaQ l a b true):(xU l).isSome=true:=by
 rcases h with ⟨_,q,h,_⟩|⟨h,_⟩
 ·rw[h];rfl
 cases h
theorem bK (s:ByteArray)(w:World)(H:Glob w)(I:(bytes s).length≤570) :
 yA 61 #[.string s] w (RetV w (.bool (xU (bytes s)).isSome)):=by
 have l:s.size≤1099511627776:=by rw[zQ] at I;omega
 refine zT (Φ:=fun w=>Glob w) func61 rfl qK (fun w' J=>H.ext J) ?_
 refine yY (xr 1 [yT 0 s,yB 2 false] [] ?_)
 refine yZ (zC (yY (xr 1 [yT 0 s,yB 2 false,yT 8 s] [] ?_)))
 refine xc 103 [.string s] 9 (fun x:Int×Int×Bool=>.tuple #[.agg #[yI x.1, yI x.2.1],.bool x.2.2]) _ (fun w R Q=>yM Zl1 (ZhN s _ l)) fun⟨L,M,B⟩=>?_
 rcases B with _|_
 ·refine xr 6 [yT 0 s,yB 2 false,yB 4 false] [] ?_
  refine yZ (yY (xr 1 [yT 0 s,yB 2 false,yB 12 false] [] ?_))
  refine yZ (xb (zJ (zA (yY (xr 1 [yB 2 false,yT 14 s] [] ?_)))))
  refine xc 104 [.string s] 15 (fun x:ShSp=>.tuple #[.agg #[.bool x.1,.string x.2.1,.string x.2.2.1],.bool x.2.2.2]) _ (fun w R Q=>yM Zl2 (Zg6 s _ l)) fun⟨a,c,b,C⟩=>?_
  rcases C with _|_
  ·refine xr 6 [yB 2 false,(5,.p 5 0),yB 6 false] [(5,156,[.v (.bool a),.v (.string c),.v (.string b)])] ?_
   refine yZ (zC (zC ?_))
   refine SXc.know (p:=wW (bytes s)=(a,bytes c,bytes b,false)) (fun w _ Q=>Q.2) fun m=>?_
   refine zB (xr 7 [yB 2 false,(5,.p 5 0),yB 6 false,yB 24 true] [(5,156,[.v (.bool a),.v (.string c),.v (.string b)])] ?_)
   refine yZ (xa (yY (xr 2 [yB 2 false,(5,.p 5 0)] [(5,156,[.v (.bool a),.v (.string c),.v (.string b)])] ?_)))
   refine yZ (zG (zH ?_))
   refine yR (.bool false) fun w' R Q=>?_
   exact⟨by rw[ZnE m];rfl,R⟩
  refine xr 6 [yB 2 false,(5,.p 5 0),yB 6 true] [(5,156,[.v (.bool a),.v (.string c),.v (.string b)])] ?_
  refine yZ (zC (zC ?_))
  refine SXc.know (p:=wW (bytes s)=(a,bytes c,bytes b,true)) (fun w _ Q=>Q.2) fun m=>?_
  by_cases A:bytes b=[]
  ·refine zB (xr 6 [yB 2 false,(5,.p 5 0),yB 6 true,yB 20 false,yB 23 ((b:ByteArray).toList == (⟨#[]⟩:ByteArray).toList)] [(5,156,[.v (.bool a),.v (.string c),.v (.string b)])] ?_)
   rw[ZkG A]
   refine xr 1 [yB 2 false,(5,.p 5 0),yB 6 true,yB 24 true] [(5,156,[.v (.bool a),.v (.string c),.v (.string b)])] ?_
   refine yZ (xa (yY (xr 2 [yB 2 true,(5,.p 5 0)] [(5,156,[.v (.bool a),.v (.string c),.v (.string b)])] ?_)))
   refine yZ (zG (zH ?_))
   refine yR (.bool true) fun w' R Q=>?_
   exact⟨by rw[ZnF m A],R⟩
  refine zB (xr 6 [yB 2 false,(5,.p 5 0),yB 6 true,yB 20 false,yB 23 ((b:ByteArray).toList == (⟨#[]⟩:ByteArray).toList)] [(5,156,[.v (.bool a),.v (.string c),.v (.string b)])] ?_)
  rw[ZkH A]
  refine xr 1 [yB 2 false,(5,.p 5 0),yB 6 true,yB 24 false] [(5,156,[.v (.bool a),.v (.string c),.v (.string b)])] ?_
  refine yZ (xb (zJ (zA (zC ?_))))
  obtain⟨d,e,K⟩:=cK m
  have f:Zcx c.size:=by unfold Zcx;rw[←zQ];omega
  have g:Zcx b.size:=by unfold Zcx;rw[←zQ];omega
  have D:wl ((zI (bytes c):Nat):Int).natAbs≤79:=by rw[tO];exact uD (ZnB d qO) qD
  have E:wl ((zI (bytes b):Nat):Int).natAbs≤79:=by rw[tO];exact uD (ZnB e qO) qD
  have F:Fits ((zI (bytes c):Nat):Int):=by unfold Fits;omega
  have G:Fits ((zI (bytes b):Nat):Int):=by unfold Fits;omega
  refine yO 9 zP ?_
  refine xf 2 [yB 2 false,(5,.p 5 0),yT 27 c] [(5,156,[.v (.bool a),.v (.string c),.v (.string b)])] ?_
  refine xd 105 [.string c] 28 wO _ (fun w R Q=>yM ZeS (Zdv c _ d f)) fun⟨h,i,j,k⟩=>?_
  refine xf 2 [yB 2 false,eI2 28 h i j k,yT 30 b] [(5,156,[.v (.bool a),.v (.string c),.v (.string b)])] ?_
  refine xd 105 [.string b] 31 wO _ (fun w R Q=>yM ZeS (Zdv b _ e g)) fun⟨n,o,q,r⟩=>?_
  refine xf 0 [yB 2 false,eI2 28 h i j k,eI2 31 n o q r] [(5,156,[.v (.bool a),.v (.string c),.v (.string b)])] ?_
  refine xd 106 [vI2 h i j k,vI2 n o q r] 32 wO _ (fun w R Q=>yM ZeS (Zqq _ _ ((zI (bytes c):Int)) ((zI (bytes b):Int)) _ Q.1.1.1.1 Q.1.2 Q.2 F G (ZhW.words D E))) fun⟨t,u,y,z⟩=>?_
  refine xf 0 [yB 2 false,eI2 32 t u y z] [(5,156,[.v (.bool a),.v (.string c),.v (.string b)])] ?_
  refine xd 107 [vI2 t u y z] 33 (fun _:Unit=>.bool (decide ((((Int.gcd ((zI (bytes c):Int)) ((zI (bytes b):Int)):Nat):Int))=1))) _ (fun w R Q=>yN (Zm4 _ (((Int.gcd ((zI (bytes c):Int)) ((zI (bytes b):Int)):Nat):Int)) _ Q.2)) fun N=>?_
  refine xf 1 [(2,.v (.bool (decide ((((Int.gcd ((zI (bytes c):Int)) ((zI (bytes b):Int)):Nat):Int))=1))))] [(5,156,[.v (.bool a),.v (.string c),.v (.string b)])] ?_
  refine xz (yZ (zG ?_))
  refine zD (v:=.bool (decide ((((Int.gcd ((zI (bytes c):Int)) ((zI (bytes b):Int)):Nat):Int))=1))) qK fun w' R Q=>?_
  exact⟨by rw[ZnG m A],R⟩
 refine xr 6 [yT 0 s,yB 2 false,yB 4 true] [] ?_
 refine yZ (yY (xr 1 [yT 0 s,yB 2 false,yB 12 true] [] ?_))
 refine yZ (xa (yY (xr 1 [yT 0 s,yB 2 true] [] ?_)))
 refine yZ (zG (zH ?_))
 refine yR (.bool true) fun w' R Q=>?_
 exact⟨by rw[Zl3 Q.2],R⟩
section
variable {l r a t b:List UInt8} {neg:Bool} {c:UInt8}
end
/-! ### lF of small numbers -/
theorem aP {n:Nat}(h:n<10):Lib.itoa (n:Int)=[UInt8.ofNat (48+n)]:=by
 unfold Lib.itoa
 rw[uO qO,pF,Lib.decDigits,dif_pos h]
theorem cY {q:Rat}{n:Nat}(h:n<10)(d:q.num=(n:Int))(e:q.den=1):xE q=[UInt8.ofNat (48+n)]:=by
 unfold xE;rw[vC e,d,aP h]
theorem ZkI {q:Rat}{n d:Nat}(h:n<10)(e:d<10)(f:q.num=(n:Int))(g:q.den=d)(i:d≠1):xE q=[UInt8.ofNat (48+n),47,UInt8.ofNat (48+d)]:=by
 unfold xE;rw[g,uO i,f,aP h,aP e];rfl
theorem t1:xE (mkRat 1 1)=[49]:=cY (n:=1) qD qD qD
theorem t3:xE (mkRat 3 1)=[51]:=cY (n:=3) qD qD qD
theorem t13:xE (mkRat 1 3)=[49,47,51]:=ZkI (n:=1) (d:=3) qD qD qD qD qD
theorem t12:xE (mkRat 1 2)=[49,47,50]:=ZkI (n:=1) (d:=2) qD qD qD qD qD
section
variable {w w':World} {e:Ending} {s:ByteArray}
theorem Zl4 (h:Zir s w e w'):wV (fun x:ByteArray×Bool=>.tuple #[.string x.1,.bool x.2]) (fun x _=>xB (bytes s)=(x.2,bytes x.1)) w e w':=by
 obtain⟨r,neg,rfl,h,rfl⟩:=h
 exact⟨(r,neg),rfl,Fr.refl _ _,BoxN.pure h⟩
end
theorem ZgB {a b:ByteArray}(h:bytes a=bytes b):a=b:=by
 cases a with|mk a=>cases b with|mk b=>simp only[bytes] at h;rw[Array.toList_inj.1 h]
def e4:Nat:=400
theorem ZkJ {s:ByteArray}(h:bytes s=[48]):(s.toList == (⟨#[48]⟩:ByteArray).toList)=true:=by
 rw[Lib.toList_data,Lib.toList_data,show s.data.toList=[48] from h];rfl
theorem ZkK {s:ByteArray}(h:¬ bytes s=[48]):(s.toList == (⟨#[48]⟩:ByteArray).toList)=false:=by
 rw[Lib.toList_data,Lib.toList_data];exact sW.2 h
theorem zt:xE 0=[48]:=cY (n:=0) qD qD qD
theorem cF {P:Program}{o:Oper}{ρ:Operand→Value}{w:World}{t:TypeId}{x i:Operand}{b:ByteArray}{k:Nat}{c:UInt8}(a:o.op=Op.index t x i)(d:P.underlying t=some .string)(e:ρ x=.string b)(hi:ρ i=.int .i64 (k:Int))(f:b[k]? = some c):(execOp ρ o).run P w=.ok (.value (.int .u8 (c.toNat:Int))) w:=by
 simp[execOp,a,Instr.index,asIntOf,underlying,d,e,hi,f,Result.andThen]
theorem xZ.le {x y:Int}(h:xZ x)(a:y.natAbs≤x.natAbs):xZ y:=uD (jI a) h
theorem xZ.gcd {x y:Int}(h:xZ y)(a:y≠0):xZ (Int.gcd x y:Int):=h.le (by
 have:Int.gcd x y≤y.natAbs:=oH _ qO
 omega)
theorem xZ.tdiv {x y:Int}(h:xZ x):xZ (x.tdiv y):=h.le (by rw[Int.natAbs_tdiv];exact uY _ _)
theorem ZcN {x y:Int}(h:0<y):0<Int.gcd x y:=by
 rcases uJ (Int.gcd x y) with e|e
 ·have:=(Int.gcd_eq_zero_iff.1 e).2;omega
 exact e
theorem dP {w w':World}{e:Ending}{a b:Int}(h:Zd6 w a b e w'):wV Zao (fun x w=>zN w (wO x.1) a∧zN w (wO x.2) b) w e w':=by
 obtain⟨u,v,rfl,d,f,Q⟩:=h
 obtain⟨s,A,l,c,rfl⟩:=d.shp
 obtain⟨j,k,m,n,rfl⟩:=f.shp
 exact⟨((s,A,l,c),(j,k,m,n)),rfl,Q,boxn Q (fun S o g i=>⟨d.nrb g i,f.nrb g i⟩)⟩
theorem nfit {z:Int}{k:Nat}(h:ml z.natAbs≤k)(a:Nat.ble k 17592186044416=true):xZ z:=uD h (vQ a)
theorem mlc {n k:Nat}(h:ml n≤k):ml ((n:Nat):Int).natAbs≤k:=by rw[tO];exact h
theorem Zho {x y:Int}{q:Rat}(a:Rat.divInt x y=q)(b:0<y)(_:1<((Int.gcd x y:Nat):Int).natAbs):q.num=x.tdiv ((Int.gcd x y:Nat):Int)∧(q.den:Int)=y.tdiv ((Int.gcd x y:Nat):Int):=by
 rw[←a];exact ZiP b
theorem Zhp {x y:Int}{q:Rat}(b:Rat.divInt x y=q)(a:0<y)(h:¬ 1<((Int.gcd x y:Nat):Int).natAbs):q.num=x∧(q.den:Int)=y:=by
 have c:=ZcN (x:=x) a
 rw[←b];exact ZdF a qO
theorem Zah {n:Nat}(h:(((n:Nat):Int) == 1)=true):n=1:=by have:=eq_of_beq h;omega
theorem Zai {n:Nat}(h:(((n:Nat):Int) == 1)=false):n≠1:=fun e=>by subst e;cases h
theorem ZnH (a b:Value)(x y:Int)(q:Rat)(w:World)(ha:zN w a x)(X:zN w b y)(hx:xZ x)(hy:xZ y)(h0:y<0)(hq:Rat.divInt x y=q) :
 yA 73 #[a,b] w (Zd5 w q):=by
 obtain⟨K,L,M,N,rfl⟩:=ha.shp
 obtain⟨s1,O,P,S,rfl⟩:=X.shp
 obtain rfl:s1=true:=X.sneg h0
 have V:xZ (-(x)):=hx.neg
 have F:xZ (-(y)):=hy.neg
 have Y:0 < -(y):=qO
 have T:xZ ((Int.gcd (-(x)) (-(y)):Nat):Int):=xZ.gcd F qO
 have W:((Int.gcd (-(x)) (-(y)):Nat):Int)≠0:=by have:=ZcN (x := -(x)) Y;omega
 have Z:Rat.divInt (-(x)) (-(y))=q:=by rw[Rat.neg_divInt_neg];exact hq
 refine zT (Φ:=fun w=>(zN w (.agg #[.bool K,.slice L M N]) (x)∧zN w (.agg #[.bool true,.slice O P S]) (y))) func73 rfl qK (fun w' hf=>⟨ha.ext hf,X.ext hf⟩) ?_
 refine zC (zB (xr 3 [(2,.p 2 0),(3,.p 3 0),(4,.p 4 0)] [bR4 4 59 false none 0 0 false none 0 0,bI2 3 57 true O P S,bI2 2 57 K L M N] ?_))
 refine xe (zA (zC (zC (zB (xr 2 [(2,.p 2 0),(3,.p 3 0),(4,.p 4 0),yB 7 true] [bR4 4 59 false none 0 0 false none 0 0,bI2 3 57 true O P S,bI2 2 57 K L M N] ?_)))))
 refine xe (zA (xa ?_))
 refine xK 6 qK qK zP ?_
 refine xf 1 [(2,.p 2 0),(3,.p 3 0),(4,.p 4 0),eI2 8 K L M N] [bR4 4 59 false none 0 0 false none 0 0,bI2 3 57 true O P S,bI2 2 57 K L M N] ?_
 refine xd 55 [vI2 K L M N] 9 wO _ (fun w R Q=>yM kE (ZeT _ (x) _ Q.1)) fun⟨c,d,e,f⟩=>?_
 refine xf 1 [(2,.p 2 0),(3,.p 3 0),(4,.p 4 0),eI2 9 c d e f,eI2 10 true O P S] [bR4 4 59 false none 0 0 false none 0 0,bI2 3 57 true O P S,bI2 2 57 K L M N] ?_
 refine xd 55 [vI2 true O P S] 11 wO _ (fun w R Q=>yM kE (ZeT _ (y) _ Q.1.2)) fun⟨g,i,j,k⟩=>?_
 refine xf 2 [(2,.p 2 0),(3,.p 3 0),(4,.p 4 0)] [bI2 3 57 g i j k,bI2 2 57 c d e f,bR4 4 59 false none 0 0 false none 0 0,bI2 3 57 true O P S,bI2 2 57 K L M N] ?_
 refine xz (xe (zA (zC (zB (xr 2 [(2,.p 2 0),(3,.p 3 0),(4,.p 4 0),eI2 12 c d e f,eI2 13 g i j k] [bI2 3 57 g i j k,bI2 2 57 c d e f,bR4 4 59 false none 0 0 false none 0 0] ?_)))))
 refine xc 124 [vI2 c d e f,vI2 g i j k] 14 wO _ (fun w R Q=>yM kE (ZiG _ _ (-(x)) (-(y)) _ Q.1.2 Q.2 V F)) fun⟨l,m,n,o⟩=>?_
 refine xr 2 [(2,.p 2 0),(3,.p 3 0),(4,.p 4 0),(5,.p 5 0)] [bI2 5 57 l m n o,bI2 3 57 g i j k,bI2 2 57 c d e f,bR4 4 59 false none 0 0 false none 0 0] ?_
 refine xe (zA (zC (zC (zB (xr 1 [(2,.p 2 0),(3,.p 3 0),(4,.p 4 0),(5,.p 5 0),eI2 15 l m n o] [bI2 5 57 l m n o,bI2 3 57 g i j k,bI2 2 57 c d e f,bR4 4 59 false none 0 0 false none 0 0] ?_)))))
 refine xc 114 [vI2 l m n o] 16 (fun _:Unit=>yI ((blen (((Int.gcd (-(x)) (-(y)):Nat):Int)).natAbs:Nat):Int)) _ (fun w R Q=>yN (gB _ (((Int.gcd (-(x)) (-(y)):Nat):Int)) _ Q.2 T)) fun U=>?_
 refine xr 1 [(2,.p 2 0),(3,.p 3 0),(4,.p 4 0),(5,.p 5 0),(17,.v (.bool (decide (((blen (((Int.gcd (-(x)) (-(y)):Nat):Int)).natAbs:Nat):Int)>1))))] [bI2 5 57 l m n o,bI2 3 57 g i j k,bI2 2 57 c d e f,bR4 4 59 false none 0 0 false none 0 0] ?_
 refine xe (zA ?_)
 refine zR ((decide (((blen (((Int.gcd (-(x)) (-(y)):Nat):Int)).natAbs:Nat):Int)>1))) qK (fun G=>?_) fun G=>?_
 ·have H:=Zho Z Y (Zad.1 (by have:=uA G;omega))
  refine zC (zB (xr 2 [(2,.p 2 0),(3,.p 3 0),(4,.p 4 0),(5,.p 5 0),eI2 19 c d e f,eI2 20 l m n o] [bI2 5 57 l m n o,bI2 3 57 g i j k,bI2 2 57 c d e f,bR4 4 59 false none 0 0 false none 0 0] ?_))
  refine xc 116 [vI2 c d e f,vI2 l m n o] 21 Zao _ (fun w R Q=>yM dP (cE _ _ (-(x)) (((Int.gcd (-(x)) (-(y)):Nat):Int)) _ Q.1.1.1.2 Q.1.2 V T W)) fun U=>?_
  obtain⟨⟨r,s,t,u⟩,⟨a0,b0,d0,e0⟩⟩:=U
  refine xr 4 [(2,.p 2 0),(3,.p 3 0),(4,.p 4 0),(5,.p 5 0)] [bI2 5 57 l m n o,bI2 3 57 g i j k,bI2 2 57 r s t u,bR4 4 59 false none 0 0 false none 0 0] ?_
  refine xe (zA (zB (xr 2 [(2,.p 2 0),(3,.p 3 0),(4,.p 4 0),eI2 25 g i j k,eI2 26 l m n o] [bI2 3 57 g i j k,bI2 2 57 r s t u,bR4 4 59 false none 0 0 false none 0 0] ?_)))
  refine xc 116 [vI2 g i j k,vI2 l m n o] 27 Zao _ (fun w R Q=>yM dP (cE _ _ (-(y)) (((Int.gcd (-(x)) (-(y)):Nat):Int)) _ Q.1.1.1.2 Q.1.1.2 F T W)) fun U=>?_
  obtain⟨⟨B,C,D,E⟩,⟨f0,g0,i0,j0⟩⟩:=U
  refine xr 4 [(2,.p 2 0),(3,.p 3 0),(4,.p 4 0)] [bI2 3 57 B C D E,bI2 2 57 r s t u,bR4 4 59 false none 0 0 false none 0 0] ?_
  refine xe (zA (zC (zC (zB (xr 1 [(2,.p 2 0),(3,.p 3 0),(4,.p 4 0),eI2 30 B C D E] [bI2 3 57 B C D E,bI2 2 57 r s t u,bR4 4 59 false none 0 0 false none 0 0] ?_)))))
  refine xc 114 [vI2 B C D E] 31 (fun _:Unit=>yI ((blen ((-(y)).tdiv (((Int.gcd (-(x)) (-(y)):Nat):Int))).natAbs:Nat):Int)) _ (fun w R Q=>yN (gB _ ((-(y)).tdiv (((Int.gcd (-(x)) (-(y)):Nat):Int))) _ Q.2.1 (xZ.tdiv F))) fun U=>?_
  refine xr 1 [(2,.p 2 0),(3,.p 3 0),(4,.p 4 0),(32,.v (.bool ((((blen ((-(y)).tdiv (((Int.gcd (-(x)) (-(y)):Nat):Int))).natAbs:Nat):Int):Int) == 1)))] [bI2 3 57 B C D E,bI2 2 57 r s t u,bR4 4 59 false none 0 0 false none 0 0] ?_
  refine xe (zA ?_)
  refine zR (((((blen ((-(y)).tdiv (((Int.gcd (-(x)) (-(y)):Nat):Int))).natAbs:Nat):Int):Int) == 1)) qK (fun I=>?_) fun I=>?_
  ·have z:=iZ.1 (Zah I)
   refine zB (xr 2 [(2,.p 2 0),(3,.p 3 0),(4,.p 4 0)] [bI2 3 57 false none 0 0,bI2 2 57 r s t u,bR4 4 59 false none 0 0 false none 0 0] ?_)
   refine xe (zA (zC (zB (xr 4 [(4,.p 4 0)] [bR4 4 59 r s t u false none 0 0] ?_))))
   refine xe (zA (zG ?_))
   refine zD (v:=.agg #[.bool r,.slice s t u,.bool false,.slice none 0 0]) qK fun w' R Q=>?_
   exact⟨_,rfl,xF.of (by rw[H.1];exact Q.1.1.2.1) (by rw[dL (by have:=z;have:=H.2;have:=q.den_nz;omega)];exact (zN.nil _)),R⟩
  have z:=fun h=>Zai I (iZ.2 h)
  refine zJ (zA (zC (zB (xr 4 [(4,.p 4 0)] [bR4 4 59 r s t u B C D E] ?_))))
  refine xe (zA (zG ?_))
  refine zD (v:=.agg #[.bool r,.slice s t u,.bool B,.slice C D E]) qK fun w' R Q=>?_
  exact⟨_,rfl,xF.of (by rw[H.1];exact Q.1.1.2.1) (by rw[fI (fun h=>z (by have:=H.2;omega)),H.2];exact Q.1.2.1),R⟩
 have H:=Zhp Z Y (fun h=>absurd (Zad.2 h) (by have:=uB G;omega))
 refine zJ (zA (zC (zC (zB (xr 1 [(2,.p 2 0),(3,.p 3 0),(4,.p 4 0),eI2 30 g i j k] [bI2 3 57 g i j k,bI2 2 57 c d e f,bR4 4 59 false none 0 0 false none 0 0] ?_)))))
 refine xc 114 [vI2 g i j k] 31 (fun _:Unit=>yI ((blen (-(y)).natAbs:Nat):Int)) _ (fun w R Q=>yN (gB _ (-(y)) _ Q.1.1.2 F)) fun U=>?_
 refine xr 1 [(2,.p 2 0),(3,.p 3 0),(4,.p 4 0),(32,.v (.bool ((((blen (-(y)).natAbs:Nat):Int):Int) == 1)))] [bI2 3 57 g i j k,bI2 2 57 c d e f,bR4 4 59 false none 0 0 false none 0 0] ?_
 refine xe (zA ?_)
 refine zR (((((blen (-(y)).natAbs:Nat):Int):Int) == 1)) qK (fun J=>?_) fun J=>?_
 ·have A:=iZ.1 (Zah J)
  refine zB (xr 2 [(2,.p 2 0),(3,.p 3 0),(4,.p 4 0)] [bI2 3 57 false none 0 0,bI2 2 57 c d e f,bR4 4 59 false none 0 0 false none 0 0] ?_)
  refine xe (zA (zC (zB (xr 4 [(4,.p 4 0)] [bR4 4 59 c d e f false none 0 0] ?_))))
  refine xe (zA (zG ?_))
  refine zD (v:=.agg #[.bool c,.slice d e f,.bool false,.slice none 0 0]) qK fun w' R Q=>?_
  exact⟨_,rfl,xF.of (by rw[H.1];exact Q.1.1.1.1.2) (by rw[dL (by have:=A;have:=H.2;have:=q.den_nz;omega)];exact (zN.nil _)),R⟩
 have A:=fun h=>Zai J (iZ.2 h)
 refine zJ (zA (zC (zB (xr 4 [(4,.p 4 0)] [bR4 4 59 c d e f g i j k] ?_))))
 refine xe (zA (zG ?_))
 refine zD (v:=.agg #[.bool c,.slice d e f,.bool g,.slice i j k]) qK fun w' R Q=>?_
 exact⟨_,rfl,xF.of (by rw[H.1];exact Q.1.1.1.1.2) (by rw[fI (fun h=>A (by have:=H.2;omega)),H.2];exact Q.1.1.1.2),R⟩
theorem ZnI (a b:Value)(x y:Int)(q:Rat)(w:World)(ha:zN w a x)(N:zN w b y)(T:xZ x)(U:xZ y)(h0:0<y)(V:Rat.divInt x y=q) :
 yA 73 #[a,b] w (Zd5 w q):=by
 obtain⟨o,r,s,t,rfl⟩:=ha.shp
 obtain⟨W,l,m,n,rfl⟩:=N.shp
 obtain rfl:W=false:=N.spos qO
 have L:xZ (x):=T
 have E:xZ (y):=U
 have O:0<y:=qO
 have J:xZ ((Int.gcd (x) (y):Nat):Int):=xZ.gcd E qO
 have M:((Int.gcd (x) (y):Nat):Int)≠0:=by have:=ZcN (x:=x) O;omega
 have P:Rat.divInt (x) (y)=q:=V
 refine zT (Φ:=fun w=>(zN w (.agg #[.bool o,.slice r s t]) (x)∧zN w (.agg #[.bool false,.slice l m n]) (y))) func73 rfl qK (fun w' S=>⟨ha.ext S,N.ext S⟩) ?_
 refine zC (zB (xr 3 [(2,.p 2 0),(3,.p 3 0),(4,.p 4 0)] [bR4 4 59 false none 0 0 false none 0 0,bI2 3 57 false l m n,bI2 2 57 o r s t] ?_))
 refine xe (zA (zC (zC (zB (xr 2 [(2,.p 2 0),(3,.p 3 0),(4,.p 4 0),yB 7 false] [bR4 4 59 false none 0 0 false none 0 0,bI2 3 57 false l m n,bI2 2 57 o r s t] ?_)))))
 refine xe (zA (xb (zJ (zA (zC (zB (xr 2 [(2,.p 2 0),(3,.p 3 0),(4,.p 4 0),eI2 12 o r s t,eI2 13 false l m n] [bR4 4 59 false none 0 0 false none 0 0,bI2 3 57 false l m n,bI2 2 57 o r s t] ?_)))))))
 refine xc 124 [vI2 o r s t,vI2 false l m n] 14 wO _ (fun w R Q=>yM kE (ZiG _ _ (x) (y) _ Q.1 Q.2 L E)) fun⟨c,d,e,f⟩=>?_
 refine xr 2 [(2,.p 2 0),(3,.p 3 0),(4,.p 4 0),(5,.p 5 0)] [bI2 5 57 c d e f,bR4 4 59 false none 0 0 false none 0 0,bI2 3 57 false l m n,bI2 2 57 o r s t] ?_
 refine xe (zA (zC (zC (zB (xr 1 [(2,.p 2 0),(3,.p 3 0),(4,.p 4 0),(5,.p 5 0),eI2 15 c d e f] [bI2 5 57 c d e f,bR4 4 59 false none 0 0 false none 0 0,bI2 3 57 false l m n,bI2 2 57 o r s t] ?_)))))
 refine xc 114 [vI2 c d e f] 16 (fun _:Unit=>yI ((blen (((Int.gcd (x) (y):Nat):Int)).natAbs:Nat):Int)) _ (fun w R Q=>yN (gB _ (((Int.gcd (x) (y):Nat):Int)) _ Q.2 J)) fun K=>?_
 refine xr 1 [(2,.p 2 0),(3,.p 3 0),(4,.p 4 0),(5,.p 5 0),(17,.v (.bool (decide (((blen (((Int.gcd (x) (y):Nat):Int)).natAbs:Nat):Int)>1))))] [bI2 5 57 c d e f,bR4 4 59 false none 0 0 false none 0 0,bI2 3 57 false l m n,bI2 2 57 o r s t] ?_
 refine xe (zA ?_)
 refine zR ((decide (((blen (((Int.gcd (x) (y):Nat):Int)).natAbs:Nat):Int)>1))) qK (fun F=>?_) fun F=>?_
 ·have G:=Zho P O (Zad.1 (by have:=uA F;omega))
  refine zC (zB (xr 2 [(2,.p 2 0),(3,.p 3 0),(4,.p 4 0),(5,.p 5 0),eI2 19 o r s t,eI2 20 c d e f] [bI2 5 57 c d e f,bR4 4 59 false none 0 0 false none 0 0,bI2 3 57 false l m n,bI2 2 57 o r s t] ?_))
  refine xc 116 [vI2 o r s t,vI2 c d e f] 21 Zao _ (fun w R Q=>yM dP (cE _ _ (x) (((Int.gcd (x) (y):Nat):Int)) _ Q.1.1.1 Q.1.2 L J M)) fun K=>?_
  obtain⟨⟨g,i,j,k⟩,⟨X,Y,Z,a0⟩⟩:=K
  refine xr 4 [(2,.p 2 0),(3,.p 3 0),(4,.p 4 0),(5,.p 5 0)] [bI2 5 57 c d e f,bR4 4 59 false none 0 0 false none 0 0,bI2 3 57 false l m n,bI2 2 57 g i j k] ?_
  refine xe (zA (zB (xr 2 [(2,.p 2 0),(3,.p 3 0),(4,.p 4 0),eI2 25 false l m n,eI2 26 c d e f] [bR4 4 59 false none 0 0 false none 0 0,bI2 3 57 false l m n,bI2 2 57 g i j k] ?_)))
  refine xc 116 [vI2 false l m n,vI2 c d e f] 27 Zao _ (fun w R Q=>yM dP (cE _ _ (y) (((Int.gcd (x) (y):Nat):Int)) _ Q.1.1.1.2 Q.1.1.2 E J M)) fun K=>?_
  obtain⟨⟨A,B,C,D⟩,⟨b0,d0,e0,f0⟩⟩:=K
  refine xr 4 [(2,.p 2 0),(3,.p 3 0),(4,.p 4 0)] [bR4 4 59 false none 0 0 false none 0 0,bI2 3 57 A B C D,bI2 2 57 g i j k] ?_
  refine xe (zA (zC (zC (zB (xr 1 [(2,.p 2 0),(3,.p 3 0),(4,.p 4 0),eI2 30 A B C D] [bR4 4 59 false none 0 0 false none 0 0,bI2 3 57 A B C D,bI2 2 57 g i j k] ?_)))))
  refine xc 114 [vI2 A B C D] 31 (fun _:Unit=>yI ((blen ((y).tdiv (((Int.gcd (x) (y):Nat):Int))).natAbs:Nat):Int)) _ (fun w R Q=>yN (gB _ ((y).tdiv (((Int.gcd (x) (y):Nat):Int))) _ Q.2.1 (xZ.tdiv E))) fun K=>?_
  refine xr 1 [(2,.p 2 0),(3,.p 3 0),(4,.p 4 0),(32,.v (.bool ((((blen ((y).tdiv (((Int.gcd (x) (y):Nat):Int))).natAbs:Nat):Int):Int) == 1)))] [bR4 4 59 false none 0 0 false none 0 0,bI2 3 57 A B C D,bI2 2 57 g i j k] ?_
  refine xe (zA ?_)
  refine zR (((((blen ((y).tdiv (((Int.gcd (x) (y):Nat):Int))).natAbs:Nat):Int):Int) == 1)) qK (fun H=>?_) fun H=>?_
  ·have u:=iZ.1 (Zah H)
   refine zB (xr 2 [(2,.p 2 0),(3,.p 3 0),(4,.p 4 0)] [bR4 4 59 false none 0 0 false none 0 0,bI2 3 57 false none 0 0,bI2 2 57 g i j k] ?_)
   refine xe (zA (zC (zB (xr 4 [(4,.p 4 0)] [bR4 4 59 g i j k false none 0 0] ?_))))
   refine xe (zA (zG ?_))
   refine zD (v:=.agg #[.bool g,.slice i j k,.bool false,.slice none 0 0]) qK fun w' R Q=>?_
   exact⟨_,rfl,xF.of (by rw[G.1];exact Q.1.1.2.1) (by rw[dL (by have:=u;have:=G.2;have:=q.den_nz;omega)];exact (zN.nil _)),R⟩
  have u:=fun h=>Zai H (iZ.2 h)
  refine zJ (zA (zC (zB (xr 4 [(4,.p 4 0)] [bR4 4 59 g i j k A B C D] ?_))))
  refine xe (zA (zG ?_))
  refine zD (v:=.agg #[.bool g,.slice i j k,.bool A,.slice B C D]) qK fun w' R Q=>?_
  exact⟨_,rfl,xF.of (by rw[G.1];exact Q.1.1.2.1) (by rw[fI (fun h=>u (by have:=G.2;omega)),G.2];exact Q.1.2.1),R⟩
 have G:=Zhp P O (fun h=>absurd (Zad.2 h) (by have:=uB F;omega))
 refine zJ (zA (zC (zC (zB (xr 1 [(2,.p 2 0),(3,.p 3 0),(4,.p 4 0),eI2 30 false l m n] [bR4 4 59 false none 0 0 false none 0 0,bI2 3 57 false l m n,bI2 2 57 o r s t] ?_)))))
 refine xc 114 [vI2 false l m n] 31 (fun _:Unit=>yI ((blen (y).natAbs:Nat):Int)) _ (fun w R Q=>yN (gB _ (y) _ Q.1.1.2 E)) fun K=>?_
 refine xr 1 [(2,.p 2 0),(3,.p 3 0),(4,.p 4 0),(32,.v (.bool ((((blen (y).natAbs:Nat):Int):Int) == 1)))] [bR4 4 59 false none 0 0 false none 0 0,bI2 3 57 false l m n,bI2 2 57 o r s t] ?_
 refine xe (zA ?_)
 refine zR (((((blen (y).natAbs:Nat):Int):Int) == 1)) qK (fun I=>?_) fun I=>?_
 ·have z:=iZ.1 (Zah I)
  refine zB (xr 2 [(2,.p 2 0),(3,.p 3 0),(4,.p 4 0)] [bR4 4 59 false none 0 0 false none 0 0,bI2 3 57 false none 0 0,bI2 2 57 o r s t] ?_)
  refine xe (zA (zC (zB (xr 4 [(4,.p 4 0)] [bR4 4 59 o r s t false none 0 0] ?_))))
  refine xe (zA (zG ?_))
  refine zD (v:=.agg #[.bool o,.slice r s t,.bool false,.slice none 0 0]) qK fun w' R Q=>?_
  exact⟨_,rfl,xF.of (by rw[G.1];exact Q.1.1.1.1) (by rw[dL (by have:=z;have:=G.2;have:=q.den_nz;omega)];exact (zN.nil _)),R⟩
 have z:=fun h=>Zai I (iZ.2 h)
 refine zJ (zA (zC (zB (xr 4 [(4,.p 4 0)] [bR4 4 59 o r s t false l m n] ?_))))
 refine xe (zA (zG ?_))
 refine zD (v:=.agg #[.bool o,.slice r s t,.bool false,.slice l m n]) qK fun w' R Q=>?_
 exact⟨_,rfl,xF.of (by rw[G.1];exact Q.1.1.1.1) (by rw[fI (fun h=>z (by have:=G.2;omega)),G.2];exact Q.1.1.1.2),R⟩
theorem ZnJ (a b:Value)(x y:Int)(w:World)(ha:zN w a x)(c:zN w b y)(d:xZ x)(e:xZ y)(f:y≠0):yA 73 #[a,b] w (Zd5 w (Rat.divInt x y)):=by
 rcases Int.lt_or_gt_of_ne f with h|h
 ·exact ZnH a b x y _ w ha c d e h rfl
 exact ZnI a b x y _ w ha c d e h rfl
def eC (n:Nat) (xs:List Nat) (m:Nat):Prop:=Dig 1000000000 xs∧n=val 1000000000 xs+1000000000^xs.length*m
theorem eC.start (n:Nat):eC n [] n:=⟨Dig.nil,qS⟩
theorem eC.step {n m:Nat}{xs:qN}(h:eC n xs m):eC n (xs ++ [m%1000000000]) (m/1000000000):=by
 obtain⟨a,b⟩:=h
 refine⟨a.append (Dig.nil.cons (uM _ qO)),?_⟩
 rw[kI,vA,rF,uN,tS,uG,← uK,iJ,eL,tT,tG,sF]
 exact b
theorem eC.len {n m C:Nat}{xs:qN}(h:eC n xs m)(b:0<m)(c:n<1000000000^C):xs.length<C:=by
 obtain⟨_,d⟩:=h
 rcases vL xs.length C with a|a
 ·exact a
 have e:1000000000^C≤1000000000^xs.length:=uW qO a
 have f:1000000000^xs.length*1≤1000000000^xs.length*m:=uI _ b
 generalize 1000000000^xs.length=P at *
 generalize 1000000000^C=Q at *
 omega
theorem Zpj {n C:Nat}(a:n<1000000000^C):ml n≤C:=wT.2 (uS a (sX (by rw[zV];omega) _))
theorem zZ.len {w:World}{A:qA}{l c n:Nat}(h:zZ w (.slice A l c) n):l=ml n:=by
 obtain⟨f,g,i,a,j,k,b,d,e⟩:=h
 injection a with e1 e2 e3
 rw[e2,kJ b d,e]
theorem ZcO (b:Nat):¬ xM none b:=fun c=>by obtain⟨a,ha,_⟩:=c;cases ha
theorem ZqM {a:Nat}(h:a<4294967296):(a:Int)%4294967296=(a:Int):=qO
def dive (e:Nat):Nat:=100000000/10^e
theorem ZnK:dive 0=100000000:=by simp[dive]
theorem ZnL:dive 9=0:=qD
theorem ZdH (e:Nat):dive e/10=dive (e+1):=by unfold dive;rw[tY,uN]
theorem ZkL {e:Nat}(h:e<9):dive e=10^(9-1-e):=by
 have:e=0∨e=1∨e=2∨e=3∨e=4∨e=5∨e=6∨e=7∨e=8:=qO
 rcases this with rfl|rfl|rfl|rfl|rfl|rfl|rfl|rfl|rfl<;>decide
theorem ZqN (e:Nat):dive e≤100000000:=uY _ _
theorem Zpk {e:Nat}(h:e<9):0<dive e:=by rw[ZkL h];exact uU qO
def ZkM (C:Nat) (w wr:World) (n m:Nat) (xs:List Nat) (A:Option Addr) (cap:Nat) (mv:Value):Prop :=
 eC n xs m∧Buf .u32 143 wr A cap xs∧zZ wr mv m∧Ext w wr∧ml m≤ml n∧(∀ b,xM A b→w.heap.size≤b)∧xs.length≤C
theorem zZ.fr {S:Nat→Prop}{w w':World}{v:Value}{n:Nat}(h:zZ w v n)(d:Fr S w w')(e:∀ A l c,v=.slice A l c→0<l→∀ a,A=some a→¬ S a.block):zZ w' v n:=by
 obtain⟨A,xs,c,b,f,g,i⟩:=h
 refine⟨A,xs,c,b,f,?_,i⟩
 cases xs with
 | nil=>exact zE.nil
 | cons x xs=>exact g.fr d (fun a j _=>e A _ c b qS a j)
def ZaE (w wr:World) (xs:List Nat) (A:Option Addr) (cap h t:Nat) (A3:Option Addr) (cap3:Nat):Prop :=
 Buf .u32 143 wr A cap xs∧TBuf wr A3 cap3 (wN h)∧(wN h).length=t∧Ext w wr∧(∀ b,xM A b→w.heap.size≤b)∧(∀ b,xM A3 b→w.heap.size≤b)∧(∀ b,xM A b→¬ xM A3 b)
theorem ZiR {w wr w2:World}{xs:qN}{A:qA}{cap h g t c:Nat}{d j:qA}{e cap4:Nat}{o:Obj}(s:ZaE w wr xs A cap h t d e)(l:wN g=wN h ++ [UInt8.ofNat (48+c)])(z:c<10)(u:Buf .u8 5 w2 j cap4 (nats (wN h) ++ [48+c]))(v:Fr (xM d) (wr.alloc o) w2)(m:∀ b,xM j b→xM d b∨b=(wr.alloc o).heap.size):ZaE w w2 xs A cap g (t+1) j cap4:=by
 obtain⟨n,B,x,p,y,q,r⟩:=s
 have f:Fr (xM d) wr w2:=((Fr.refl (xM d) wr).alloc o).trans (v.mono (fun _ _ h=>h))
 refine⟨n.fr f r,?_,by rw[l];simp[x],p.next f (fun i hi a=>by have:=q i a;omega),y,?_,?_⟩
 ·show Buf _ _ _ _ _ (nats (wN g))
  rw[l,ZjS]
  have:nats [UInt8.ofNat (48+c)]=[48+c]:=by
   simp[nats];omega
  rw[this];exact u
 ·intro b a
  rcases m b a with h|h
  ·exact q b h
  have:=p.size;simp at h;omega
 intro b a k
 rcases m b k with h|h
 ·exact r b a h
 have:=n.lt a;simp at h;omega
theorem Zl5 (s:Bool)(A0:qA)(l0 c0:Nat)(n:Nat)(w:World)(hN:zZ w (.slice A0 l0 c0) n)(h0:0<n)(C:Nat)(hn:n<1000000000^C)(hC:C≤15637498706141) :
 yA 113 #[.agg #[.bool s,.slice A0 l0 c0]] w (RetV w (.string ⟨(Lib.decDigits n).toArray⟩)):=by
 have HN:=zh hN
 have H0:=zh h0
 have Hn:=zh hn
 have o0:Hid (C≤15637498706141):=hC
 have E0:Hid (ml n≤17592186044416):=by have:=Zpj hn;unfold Hid;omega
 have V0:((l0:Int) == 0)=false:=by
  obtain⟨A,o,c,h1,h2,h3,h4,h5,h6⟩:=hN
  injection h1 with e1 e2 e3
  subst e2
  have k1:=kJ h4 h5
  rw[h6] at k1
  have k2:=Zfv h0
  simp
  intro e
  rw[e] at k1
  simp at k1
  omega
 clear hN h0 hn hC
 go_enter func113,ntmps113
 go_wp2
 obtain⟨wb,Z⟩:=yE (w.alloc (.cells #[.bool s,.slice A0 l0 c0] 57))
 rw[Z]
 have p0:Hid (Ext w wb):=Z ▸ (Fr.refl _ _).alloc _
 clear Z
 go_loopw [3,4,5,6] (fun pv mv _ _ wr=>∃ (o:List Nat) (m:Nat) (A:Option Addr) (u:Nat) (A1:Option Addr) (l c:Nat),pv=.slice A o.length u∧mv=.slice A1 l c∧Hid (ZkM C w wr n m o A u (.slice A1 l c))) (fun pv _ _ _ _=>match pv with | .slice _ k _=>C-k | _=>0)
 case atStart=>exact⟨[],n,none,0,A0,l0,c0,rfl,rfl,eC.start n,Buf.nil,HN.out.ext p0.out,p0.out,uF _,fun b I=>(ZcO b I).elim,qS⟩
 case round =>
  obtain⟨o,m,A,u,A1,l,c,rfl,rfl,g⟩:=hrel
  have hl:=g.out.2.2.1.len
  by_cases hm:0<m
  ·have G:=g.out.1.len hm Hn.out
   have W0:0<l:=by rw[hl];exact Zfv hm
   have F0:=E0.out
   have G0:=o0.out
   have I0:ml m≤17592186044416:=by have:=g.out.2.2.2.2.1;omega
   have HD:=zh (Zdp _ m 1000000000 wr g.out.2.2.1 I0 qO (by rw[zV];omega))
   obtain⟨k2,ek⟩:=yE C
   rw[ek] at G
   have X0:k2≤15637498706141:=qO
   clear F0 G0
   have hr:=uM m (y:=1000000000) qO
   have T:=zh g.out.1.step
   have q0:ml (m/1000000000)≤ml m:=jI (uY _ _)
   have r0:Hid (ml (m/1000000000)≤ml n):=uD q0 g.out.2.2.2.2.1
   obtain⟨r,er⟩:=yE (m%1000000000)
   obtain⟨m2,em⟩:=yE (m/1000000000)
   rw[er] at T
   rw[em] at T r0
   clear hl q0 hr
   go_wp2_with fail
   refine HD.out.mono ?_
   rintro e w1 ⟨l2,c2,rfl,a0,s0⟩
   rw[er]
   rw[em] at a0
   have t0:=zh a0
   have b0:=zh s0
   clear HD a0 s0 er em
   go_wp2_with (at_builtin;refine Hid.out ?_)
   refine zh ?_
   have E:Hid (zE .u32 (w1.alloc (.cells #[.int .u32 (r:Int)] 143)) (some ⟨w1.heap.size,0,none⟩) [r]):=(Own.new w1 143 .u32 [r] []).shows0
   have u0:Hid (Buf .u32 143 w1 A u o):=g.out.2.1.ext b0.out
   refine wX rfl _ _ _ rfl _ .u32 4 underlying55 dI A (some ⟨w1.heap.size,0,none⟩) o.length 1 u 1 rfl rfl o [r] rfl rfl (u0.out.ext ((Fr.refl _ _).alloc _)) E.out (by simp only[maxLen];omega) qO ?_
   intro A2 W w2 v0 d0 w0
   have v:Hid (ZkM C w w2 n m2 (o ++ [r]) A2 W (.slice (some ⟨wr.heap.size,0,none⟩) l2 c2)):=by
    have X:=g.out.2.2.2.2.2.1
    have x0:Ext w w1:=g.out.2.2.2.1.trans b0.out
    refine⟨T.out,v0,(t0.out.ext ((Fr.refl _ _).alloc _)).fr d0 ?_,(x0.alloc _).next d0 (fun i hi I=>by have:=X i I;omega),r0.out,?_,by rw[vA,rF];omega⟩
    ·intro A' l' F e _ a ha I
     injection e with e1 e2 e3
     rw[←e1] at ha
     injection ha with ha
     subst ha
     have:wr.heap.size<wr.heap.size:=g.out.2.1.lt I
     omega
    intro b I
    rcases w0 b I with h|h
    ·exact X b h
    have:=x0.size;simp at h;omega
   clear v0 d0 w0 E u0 t0 b0 T g
   have J0:=zh ek
   clear ek
   go_wp2
   go_roundw
   case rel=>exact⟨o ++ [r],m2,A2,W,_,l2,c2,by rw[vA];rfl,rfl,v⟩
   case measure =>
    simp
    rw[J0.out]
    omega
  obtain rfl:m=0:=qO
  obtain⟨hC,hB,hM,Q,_,hA,K0⟩:=g.out
  have U0:o.length≤15637498706141:=by have:=o0.out;omega
  obtain rfl:l=0:=by rw[hl];rfl
  have HC:Hid (Dig 1000000000 o∧n=val 1000000000 o):=by
   obtain⟨c1,c2⟩:=hC
   exact⟨c1,by simpa using c2⟩
  have HB:=zh hB
  have HE:=zh Q
  have HA:=zh hA
  clear hC hB hM Q hA g hl hm K0
  go_wp2
  obtain⟨wo,rfl⟩:∃ wo:World,wo=wr:=⟨_,rfl⟩
  go_loopw [7,8,9,10] (fun ov iv _ _ wr=>∃ (k t:Nat) (B:Option Addr) (d:Nat),k≤o.length∧iv=.int .i64 ((k:Int)-1)∧ov=.slice B t d∧t≤9*(o.length-k)∧Hid (ZaE w wr o A u (val 1000000000 (o.drop k)) t B d)) (fun _ iv _ _ _=>(intOf iv+1).toNat)
  case atStart=>exact⟨o.length,0,none,0,uF _,rfl,rfl,qO,HB.out,by rw[List.drop_length];exact Buf.nil,by rw[List.drop_length];rfl,HE.out,HA.out,fun b I=>(ZcO b I).elim,fun b _ I=>ZcO b I⟩
  case round =>
   obtain⟨k,t,B,d,hk,rfl,rfl,ht,g⟩:=hrel
   by_cases Y0:0<k
   ·obtain⟨k,rfl⟩:∃ j,k=j+1:=⟨k-1,qO⟩
    have hi:((k+1:Nat):Int)-1=(k:Int):=qO
    rw[hi]
    clear hi
    have y0:k<o.length:=qO
    obtain⟨p,ep⟩:=yE (o[k]?.getD 0)
    have hp:p<1000000000:=ep ▸ HC.out.1.getD qO k
    obtain⟨H,eH⟩:=yE (val 1000000000 (o.drop (k+1)))
    have e0:Hid (topE H p 9 9=val 1000000000 (o.drop k)):=by
     unfold Hid
     rw[Zpe,xQ k y0,ep,eH,uH]
     omega
    have HP:=zh ep
    rw[eH] at g
    have z0:Hid (ZaE w wr o A u (topE H p 9 0) t B d):=by rw[ZlV qO];exact g
    have L0:((100000000:Nat):Int)=((dive 0:Nat):Int):=by rw[ZnK]
    clear ep eH g
    go_wp2
    obtain⟨Z0,rfl⟩:∃ wo:World,wo=wr:=⟨_,rfl⟩
    obtain⟨T0,eT⟩:=yE (9*(o.length-(k+1)))
    rw[eT] at ht
    go_loopw [7,9,10] (fun ov dv _ wr=>∃ (e t:Nat) (B:Option Addr) (d:Nat),e≤9∧dv=.int .u32 (dive e:Nat)∧ov=.slice B t d∧t≤T0+e∧Hid (ZaE w wr o A u (topE H p 9 e) t B d)) (fun _ dv _ _=>(intOf dv).toNat)
    case atStart=>exact⟨0,t,B,d,qO,by rw[←L0];rfl,rfl,qO,z0⟩
    case round =>
     clear ht z0
     obtain⟨e,t,B,d,he,rfl,rfl,ht,g⟩:=hrel
     by_cases f0:e<9
     ·have M0:=Zpk f0
      have N0:=ZqN e
      have a1:T0≤140737488355260:=qO
      obtain⟨b2,J,hA,_,O0⟩:=g.out.1.shows.at y0
      rw[HP.out] at O0
      have f:=zh (Znx (H:=H) (p:=p) (k:=9) f0)
      rw[←ZkL f0] at f
      have x:p/dive e%10<10:=uM _ qO
      have q1:(p:Int).tdiv (dive e:Int)=((p/dive e:Nat):Int):=by rw[sP qO];rfl
      have B0:(p:Int)/(dive e:Int)=((p/dive e:Nat):Int):=rfl
      have q2:((p/dive e:Nat):Int).tmod 10=((p/dive e%10:Nat):Int):=by rw[sG (pN _)];rfl
      have g0:((p/dive e:Nat):Int)%10=((p/dive e%10:Nat):Int):=rfl
      have i0:p/dive e≤p:=uY _ _
      have q3:((p/dive e:Nat):Int)%4294967296=((p/dive e:Nat):Int):=ZqM (vS i0 qO)
      have q5:(dive e:Int).tdiv 10=((dive (e+1):Nat):Int):=by rw[sP qO,← ZdH];rfl
      have C0:(dive e:Int)/10=((dive (e+1):Nat):Int):=by rw[←ZdH];rfl
      have K:dive (e+1)<dive e:=by rw[←ZdH];omega
      have q6:((dive (e+1):Nat):Int)%4294967296=((dive (e+1):Nat):Int):=qO
      obtain⟨D,eD⟩:=yE (dive e)
      obtain⟨D2,j0⟩:=yE (dive (e+1))
      have k0:=zh j0
      rw[eD] at M0 N0 f x q1 B0 q2 g0 i0 q3 q5 C0 K ⊢
      rw[j0] at q5 C0 K q6
      obtain⟨q,eq⟩:=yE (p/D)
      rw[eq] at q1 B0 q2 g0 f x q3 i0
      obtain⟨F,ec⟩:=yE (q%10)
      rw[ec] at q2 g0 f x
      have G:(0<t)↔0<topE H p 9 e:=by rw[←g.out.2.2.1];exact ZjZ
      have q7:((48:Int)+(F:Int))%4294967296=((48+F:Nat):Int):=qO
      have q8:((48+F:Nat):Int)%256=((48+F:Nat):Int):=qO
      subst hA
      clear eD j0 eq ec
      by_cases m0:0<t∨F≠0
      ·have L:=g.out.2.2.1
       have M:=zh (Zbc (h:=topE H p 9 e) x qO)
       rw[←f.out] at M
       have E:Hid (zE .u8 (wr.alloc (.cells #[.int .u8 (48+(F:Int))] 5)) (some ⟨wr.heap.size,0,none⟩) [48+F]):=(Own.new wr 5 .u8 [48+F] []).shows0
       have U:Hid (TBuf wr B d (wN (topE H p 9 e))):=g.out.2.1
       have Y:(decide (0<t) || ((48+F:Nat):Int) != 48)=true:=by
        rcases m0 with h|h
        ·simp[h]
        have:(((48+F:Nat):Int) != 48)=true:=by simp;omega
        rw[this,Bool.or_true]
       have N:=zh L
       have V:=zh g.out
       clear G L f g
       by_cases b1:0<t
       ·clear m0 Y
        go_wp2_with (at_builtin;refine Hid.out ?_)
        refine zh ?_
        refine wX rfl _ _ _ rfl _ .u8 1 underlying191 ZpV B (some ⟨wr.heap.size,0,none⟩) t 1 d 1 rfl rfl (nats (wN (topE H p 9 e))) [48+F] (by rw[ZbS];exact N.out) rfl (U.out.ext ((Fr.refl _ _).alloc _)) E.out (by simp only[maxLen];omega) qO ?_
        intro A4 z w2 O R S
        have v:Hid (ZaE w w2 o (some ⟨b2,J,none⟩) u (topE H p 9 (e+1)) (t+1) A4 z):=ZiR V.out M.out x O R S
        clear O R S E U V M
        go_wp2
        go_roundw
        case rel=>exact⟨e+1,t+1,A4,z,qO,by rw[k0.out],rfl,qO,v⟩
        case measure=>simp[intOf];omega
       have d1:(((48+F:Nat):Int) != 48)=true:=by simp;omega
       clear m0 Y
       go_wp2_with (at_builtin;refine Hid.out ?_)
       refine zh ?_
       refine wX rfl _ _ _ rfl _ .u8 1 underlying191 ZpV B (some ⟨wr.heap.size,0,none⟩) t 1 d 1 rfl rfl (nats (wN (topE H p 9 e))) [48+F] (by rw[ZbS];exact N.out) rfl (U.out.ext ((Fr.refl _ _).alloc _)) E.out (by simp only[maxLen];omega) qO ?_
       intro A4 z w2 O R S
       have v:Hid (ZaE w w2 o (some ⟨b2,J,none⟩) u (topE H p 9 (e+1)) (t+1) A4 z):=ZiR V.out M.out x O R S
       clear O R S E U V M
       go_wp2
       go_roundw
       case rel=>exact⟨e+1,t+1,A4,z,qO,by rw[k0.out],rfl,qO,v⟩
       case measure=>simp[intOf];omega
      obtain rfl:t=0:=qO
      obtain rfl:F=0:=qO
      have v:Hid (ZaE w wr o (some ⟨b2,J,none⟩) u (topE H p 9 (e+1)) 0 B d):=by
       have h0:topE H p 9 e=0:=qO
       unfold Hid
       rw[f.out,h0]
       have:=g.out
       rw[h0] at this
       exact this
      clear g G f
      go_wp2
      go_roundw
      case rel=>exact⟨e+1,0,B,d,qO,by rw[k0.out],rfl,qO,v⟩
      case measure=>simp[intOf];omega
     obtain rfl:e=9:=qO
     have P0:Hid (ZaE w wr o A u (val 1000000000 (o.drop k)) t B d):=by
      rw[←e0.out];exact g
     have Q0:t≤9*(o.length-k):=qO
     rw[ZnL]
     clear g
     go_wp2
     go_roundw
     case rel=>exact⟨k,t,B,d,qO,by go_num,rfl,Q0,P0⟩
     case measure=>simp[intOf]
   obtain rfl:k=0:=qO
   obtain⟨_,n0,_,D0,_,_,_⟩:=g.out
   rw[tX,← HC.out.2,jA H0.out] at n0
   have K:(Lib.decDigits n).length=t:=by
    have:=g.out.2.2.1
    rwa [tX,← HC.out.2,jA H0.out] at this
   obtain⟨b,rfl,hc⟩:=TBuf.bytes n0 (lT n)
   have R0:=run_convert_bytes_back (P:=prog) wr 191 9 5 ⟨b,0,none⟩ d (Lib.decDigits n) underlying191 underlying5 underlying9 hc
   rw[K] at R0
   have S0:=zh D0
   generalize Lib.decDigits n=txt at *
   clear n0 D0 hc g K
   go_wp2
   go_ret
   exact⟨rfl,S0.out⟩
theorem Zj3 (s:Bool)(b:qA)(c0:Nat)(w:World) :
 yA 113 #[.agg #[.bool s,.slice b 0 c0]] w (RetV w (.string ⟨(Lib.decDigits 0).toArray⟩)):=by
 have a:Lib.decDigits 0=[48]:=Lib.decDigits_one qO
 have c:=zh a
 clear a
 go_enter func113,ntmps113
 go_wp2
 go_ret
 exact⟨by rw[c.out];rfl,(Fr.refl _ _).alloc _⟩
theorem Zj4 (s:Bool)(a:qA)(b c0:Nat)(n:Nat)(w:World)(c:zZ w (.slice a b c0) n)(C:Nat)(e:n<1000000000^C)(f:C≤15637498706141) :
 yA 113 #[.agg #[.bool s,.slice a b c0]] w (RetV w (.string ⟨(Lib.decDigits n).toArray⟩)):=by
 rcases uJ n with h|h
 ·subst h
  have d:=c.len
  rw[Zgl] at d
  subst d
  exact Zj3 s a c0 w
 exact Zl5 s a b c0 n w c h C e f
theorem Zcd (a b:List UInt8):(⟨a.toArray⟩:ByteArray) ++ ⟨b.toArray⟩=⟨(a ++ b).toArray⟩:=by
 apply ByteArray.ext
 simp
theorem ZaR {n j:Nat}(h:n<10^j∧j≤140737488355000):(Lib.decDigits n).length≤140737488355000:=by
 rcases uJ n with e|e
 ·rw[e,Lib.decDigits_one qO];simp
 have:=ZlW _ _ h.1
 rw[jA e] at this
 omega
theorem dV (s:Bool)(a:qA)(b c0:Nat)(n:Nat)(w:World)(c:zZ w (.slice a b c0) n){j:Nat}(h:n<10^j∧j≤140737488355000) :
 yA 113 #[.agg #[.bool s,.slice a b c0]] w (RetV w (.string ⟨(Lib.decDigits n).toArray⟩)):=by
 refine Zj4 s a b c0 n w c ((j+8)/9) ?_ (by have:=h.2;omega)
 refine uS h.1 ?_
 rw[show (1000000000:Nat)=10^9 by decide,← rQ]
 exact uW qO qO
theorem ZiS {n k:Nat}(h:ml n≤k):n<10^(10*k):=by
 refine uS (Zd2 n) (uD (uW zX h) ?_)
 rw[rQ]
 exact sX (by rw[zV];decide) _
theorem ZhO (a:Value)(q:Rat)(w:World)(ha:xF w a q)(j k:Nat)(B:q.num.natAbs<10^j∧j≤140737488355000)(_:q.den<10^k∧k≤140737488355000)(x:q.num<0)(y:q.den=1) :
 yA 66 #[a] w (RetV w (.string ⟨(xE q).toArray⟩)):=by
 obtain⟨C,t,u,v,t1,H,D,I,rfl⟩:=ha.shp
 have F2:Hid (xF w (.agg #[.bool C,.slice t u v,.bool t1,.slice H D I]) (q)):=ha
 clear ha
 obtain rfl:C=true:=F2.out.num.sneg x
 have E:Hid (q.num.natAbs<10^j∧j≤140737488355000):=B
 obtain rfl:D=0:=F2.out.den.len0 (dL y)
 have F:Hid (xE q=45 :: Lib.decDigits q.num.natAbs):=by unfold Hid xE Lib.itoa;rw[vC y,vC x]
 obtain⟨J,g⟩:=yE (xE q)
 rw[g] at F ⊢
 clear x y B g
 go_enter func66,ntmps66
 go_wp2_with fail
 generalize h:World.alloc w _=w4
 obtain⟨c,d⟩:=gT h
 clear h
 have B3:=zh c
 clear c
 replace F2:=zh (F2.out.ext d)
 have HE:=zh d
 clear d
 have F5:Hid (zN w4 (.agg #[.bool true,.slice t u v]) ((q).num)):=F2.out.num
 have F8:Hid (zZ w4 (.slice t u v) (((q).num).natAbs)):=F5.out.mag
 refine (dV true t u v _ _ F8.out E.out).mono ?_
 obtain⟨G,b⟩:=yE (Lib.decDigits (((q).num).natAbs))
 rw[b];have z:G.length≤140737488355000:=by rw[←b];exact ZaR E.out
 have A:=zh b;clear b
 rintro e K ⟨rfl,f⟩
 replace B3:=zh (B3.out.ext f)
 replace F2:=zh (F2.out.ext f)
 replace F5:=zh (F5.out.ext f)
 replace F8:=zh (F8.out.ext f)
 replace HE:=zh (HE.out.trans f)
 clear f
 obtain⟨i,l,m,n,o,p,r,s⟩:=B3.out.cell4
 go_wp2
 clear i l m n o p r s
 go_ret
 refine⟨?_,HE.out⟩
 rw[F.out,A.out]
 show Ending.returned (.string ((⟨#[45]⟩:ByteArray) ++ ⟨G.toArray⟩))=_
 simp only[Zcd]
 rfl
theorem ZhP (a:Value)(q:Rat)(w:World)(ha:xF w a q)(j k:Nat)(N:q.num.natAbs<10^j∧j≤140737488355000)(O:q.den<10^k∧k≤140737488355000)(P:q.num<0)(s:¬ q.den=1) :
 yA 66 #[a] w (RetV w (.string ⟨(xE q).toArray⟩)):=by
 obtain⟨Q,F,G,H,t1,I,m1,J,rfl⟩:=ha.shp
 have F2:Hid (xF w (.agg #[.bool Q,.slice F G H,.bool t1,.slice I m1 J]) (q)):=ha
 clear ha
 obtain rfl:Q=true:=F2.out.num.sneg P
 have R:Hid (q.num.natAbs<10^j∧j≤140737488355000):=N
 have Y:0<m1:=F2.out.den.lenp (Zgz s)
 have W:decide ((0:Int)<(m1:Int))=true:=by rw[vR];omega
 have S:Hid ((denF q).natAbs<10^k∧k≤140737488355000):=by unfold Hid;rw[fI s,tO];exact O
 have T:Hid (xE q=(45 :: Lib.decDigits q.num.natAbs) ++ (47 :: Lib.decDigits (denF q).natAbs)):=by
  unfold Hid xE
  rw[uO s,fI s,tO,Lib.itoa_nonneg]
  unfold Lib.itoa
  rw[vC (show q.num<0 by omega)]
  simp
 obtain⟨Z,t⟩:=yE (xE q)
 rw[t] at T ⊢
 clear P s N O t
 go_enter func66,ntmps66
 go_wp2_with fail
 generalize u:World.alloc w _=w4
 obtain⟨f,g⟩:=gT u
 clear u
 have B3:=zh f
 clear f
 replace F2:=zh (F2.out.ext g)
 have HE:=zh g
 clear g
 have F5:Hid (zN w4 (.agg #[.bool true,.slice F G H]) ((q).num)):=F2.out.num
 have F8:Hid (zZ w4 (.slice F G H) (((q).num).natAbs)):=F5.out.mag
 refine (dV true F G H _ _ F8.out R.out).mono ?_
 obtain⟨U,d⟩:=yE (Lib.decDigits (((q).num).natAbs))
 rw[d];have L:U.length≤140737488355000:=by rw[←d];exact ZaR R.out
 have M:=zh d;clear d
 rintro e V ⟨rfl,b⟩
 replace B3:=zh (B3.out.ext b)
 replace F2:=zh (F2.out.ext b)
 replace F5:=zh (F5.out.ext b)
 replace F8:=zh (F8.out.ext b)
 replace HE:=zh (HE.out.trans b)
 clear b
 obtain⟨v,x,y,z,A,B,C,D⟩:=B3.out.cell4
 go_wp2_with fail
 clear v x y z A B C D
 have F10:Hid (zN V (.agg #[.bool t1,.slice I m1 J]) (denF (q))):=F2.out.den
 have F13:Hid (zZ V (.slice I m1 J) ((denF (q)).natAbs)):=F10.out.mag
 refine (dV t1 I m1 J _ _ F13.out S.out).mono ?_
 obtain⟨t12,c⟩:=yE (Lib.decDigits ((denF (q)).natAbs))
 rw[c];have K:t12.length≤140737488355000:=by rw[←c];exact ZaR S.out
 have E:=zh c;clear c
 rintro e X ⟨rfl,b⟩
 replace B3:=zh (B3.out.ext b)
 replace F2:=zh (F2.out.ext b)
 replace F5:=zh (F5.out.ext b)
 replace F8:=zh (F8.out.ext b)
 replace F10:=zh (F10.out.ext b)
 replace F13:=zh (F13.out.ext b)
 replace HE:=zh (HE.out.trans b)
 clear b
 obtain⟨h,i,l,m,n,o,p,r⟩:=B3.out.cell4
 go_wp2
 clear h i l m n o p r
 go_ret
 refine⟨?_,HE.out⟩
 rw[T.out,M.out,E.out]
 show Ending.returned (.string (((⟨#[45]⟩:ByteArray) ++ ⟨U.toArray⟩) ++ ((⟨#[47]⟩:ByteArray) ++ ⟨t12.toArray⟩)))=_
 simp only[Zcd]
 rfl
theorem ZhQ (a:Value)(q:Rat)(w:World)(ha:xF w a q)(j k:Nat)(A:q.num.natAbs<10^j∧j≤140737488355000)(_:q.den<10^k∧k≤140737488355000)(B:0≤q.num)(x:q.den=1) :
 yA 66 #[a] w (RetV w (.string ⟨(xE q).toArray⟩)):=by
 obtain⟨C,t,u,v,t1,H,D,I,rfl⟩:=ha.shp
 have F2:Hid (xF w (.agg #[.bool C,.slice t u v,.bool t1,.slice H D I]) (q)):=ha
 clear ha
 obtain rfl:C=false:=F2.out.num.spos B
 have E:Hid (q.num.natAbs<10^j∧j≤140737488355000):=A
 obtain rfl:D=0:=F2.out.den.len0 (dL x)
 have F:Hid (xE q=Lib.decDigits q.num.natAbs):=by unfold Hid xE Lib.itoa;rw[vC x,uO (show ¬ q.num<0 by omega)];rw[show q.num.toNat=q.num.natAbs by omega]
 obtain⟨J,g⟩:=yE (xE q)
 rw[g] at F ⊢
 clear B x A g
 go_enter func66,ntmps66
 go_wp2_with fail
 generalize h:World.alloc w _=w4
 obtain⟨c,d⟩:=gT h
 clear h
 have B3:=zh c
 clear c
 replace F2:=zh (F2.out.ext d)
 have HE:=zh d
 clear d
 have F5:Hid (zN w4 (.agg #[.bool false,.slice t u v]) ((q).num)):=F2.out.num
 have F8:Hid (zZ w4 (.slice t u v) (((q).num).natAbs)):=F5.out.mag
 refine (dV false t u v _ _ F8.out E.out).mono ?_
 obtain⟨G,b⟩:=yE (Lib.decDigits (((q).num).natAbs))
 rw[b];have y:G.length≤140737488355000:=by rw[←b];exact ZaR E.out
 have z:=zh b;clear b
 rintro e K ⟨rfl,f⟩
 replace B3:=zh (B3.out.ext f)
 replace F2:=zh (F2.out.ext f)
 replace F5:=zh (F5.out.ext f)
 replace F8:=zh (F8.out.ext f)
 replace HE:=zh (HE.out.trans f)
 clear f
 obtain⟨i,l,m,n,o,p,r,s⟩:=B3.out.cell4
 go_wp2
 clear i l m n o p r s
 go_ret
 refine⟨?_,HE.out⟩
 rw[F.out,z.out]
 show Ending.returned (.string (⟨G.toArray⟩:ByteArray))=_
 rfl
theorem ZhR (a:Value)(q:Rat)(w:World)(ha:xF w a q)(j k:Nat)(N:q.num.natAbs<10^j∧j≤140737488355000)(O:q.den<10^k∧k≤140737488355000)(P:0≤q.num)(s:¬ q.den=1) :
 yA 66 #[a] w (RetV w (.string ⟨(xE q).toArray⟩)):=by
 obtain⟨Q,F,G,H,t1,I,m1,J,rfl⟩:=ha.shp
 have F2:Hid (xF w (.agg #[.bool Q,.slice F G H,.bool t1,.slice I m1 J]) (q)):=ha
 clear ha
 obtain rfl:Q=false:=F2.out.num.spos P
 have R:Hid (q.num.natAbs<10^j∧j≤140737488355000):=N
 have Y:0<m1:=F2.out.den.lenp (Zgz s)
 have W:decide ((0:Int)<(m1:Int))=true:=by rw[vR];omega
 have S:Hid ((denF q).natAbs<10^k∧k≤140737488355000):=by unfold Hid;rw[fI s,tO];exact O
 have T:Hid (xE q=(Lib.decDigits q.num.natAbs) ++ (47 :: Lib.decDigits (denF q).natAbs)):=by
  unfold Hid xE
  rw[uO s,fI s,tO,Lib.itoa_nonneg]
  unfold Lib.itoa
  rw[uO (show ¬ q.num<0 by omega)]
  rw[show q.num.toNat=q.num.natAbs by omega]
  simp
 obtain⟨Z,t⟩:=yE (xE q)
 rw[t] at T ⊢
 clear P s N O t
 go_enter func66,ntmps66
 go_wp2_with fail
 generalize u:World.alloc w _=w4
 obtain⟨f,g⟩:=gT u
 clear u
 have B3:=zh f
 clear f
 replace F2:=zh (F2.out.ext g)
 have HE:=zh g
 clear g
 have F5:Hid (zN w4 (.agg #[.bool false,.slice F G H]) ((q).num)):=F2.out.num
 have F8:Hid (zZ w4 (.slice F G H) (((q).num).natAbs)):=F5.out.mag
 refine (dV false F G H _ _ F8.out R.out).mono ?_
 obtain⟨U,d⟩:=yE (Lib.decDigits (((q).num).natAbs))
 rw[d];have L:U.length≤140737488355000:=by rw[←d];exact ZaR R.out
 have M:=zh d;clear d
 rintro e V ⟨rfl,b⟩
 replace B3:=zh (B3.out.ext b)
 replace F2:=zh (F2.out.ext b)
 replace F5:=zh (F5.out.ext b)
 replace F8:=zh (F8.out.ext b)
 replace HE:=zh (HE.out.trans b)
 clear b
 obtain⟨v,x,y,z,A,B,C,D⟩:=B3.out.cell4
 go_wp2_with fail
 clear v x y z A B C D
 have F10:Hid (zN V (.agg #[.bool t1,.slice I m1 J]) (denF (q))):=F2.out.den
 have F13:Hid (zZ V (.slice I m1 J) ((denF (q)).natAbs)):=F10.out.mag
 refine (dV t1 I m1 J _ _ F13.out S.out).mono ?_
 obtain⟨t12,c⟩:=yE (Lib.decDigits ((denF (q)).natAbs))
 rw[c];have K:t12.length≤140737488355000:=by rw[←c];exact ZaR S.out
 have E:=zh c;clear c
 rintro e X ⟨rfl,b⟩
 replace B3:=zh (B3.out.ext b)
 replace F2:=zh (F2.out.ext b)
 replace F5:=zh (F5.out.ext b)
 replace F8:=zh (F8.out.ext b)
 replace F10:=zh (F10.out.ext b)
 replace F13:=zh (F13.out.ext b)
 replace HE:=zh (HE.out.trans b)
 clear b
 obtain⟨h,i,l,m,n,o,p,r⟩:=B3.out.cell4
 go_wp2
 clear h i l m n o p r
 go_ret
 refine⟨?_,HE.out⟩
 rw[T.out,M.out,E.out]
 show Ending.returned (.string ((⟨U.toArray⟩:ByteArray) ++ ((⟨#[47]⟩:ByteArray) ++ ⟨t12.toArray⟩)))=_
 simp only[Zcd]
 rfl
theorem ZcP (a:Value)(q:Rat)(w:World)(ha:xF w a q)(j k:Nat)(c:q.num.natAbs<10^j∧j≤140737488355000)(d:q.den<10^k∧k≤140737488355000):yA 66 #[a] w (RetV w (.string ⟨(xE q).toArray⟩)):=by
 by_cases e:q.num<0
 ·by_cases b:q.den=1
  ·exact ZhO a q w ha j k c d e b
  exact ZhP a q w ha j k c d e b
 by_cases b:q.den=1
 ·exact ZhQ a q w ha j k c d qO b
 exact ZhR a q w ha j k c d qO b
theorem ZnM (a:Value)(q:Rat)(w:World)(ha:xF w a q)(b:ml q.num.natAbs≤65536)(c:ml q.den≤65536):yA 66 #[a] w (RetV w (.string ⟨(xE q).toArray⟩)) :=
 ZcP a q w ha _ _ ⟨ZiS b,qO⟩ ⟨ZiS c,qO⟩
def ZfW (w:World) (l:List UInt8) (e:Ending) (w':World):Prop :=
 ∃ v b,e=.returned (.tuple #[v,.bool b])∧b=(l.all zW && !l.isEmpty)∧zN w' v (if l.all zW then (zI l:Int) else 0)∧Ext w w'
theorem ZiT {fn:Func}{t e:Tmp}{a:Array Value}{w w':World}{r:Nat}{x y:Value}{b:Bool}{l:List UInt8}(c:fn.results=#[.cell t 57,.tmp e])(f:a[t]? = some (.pointer (some ⟨r,0,none⟩)))(d:a[e]? = some (.bool b))(g:Blk 57 w' r #[x,y])(h:zN w' (.agg #[x,y]) (if l.all zW then (zI l:Int) else 0))(i:b=(l.all zW && !l.isEmpty))(Q:Ext w w'):bodyPost prog fn (ZfW w l) .ret ⟨a,[]⟩ w':=by
 obtain⟨j,k,_⟩:=g.cell2
 exact bodyPost_ret (v:=.tuple #[.agg #[x,y],.bool b]) (by simp[results,c,f,d,go_sem,j,k]) rfl ⟨_,_,rfl,i,h,Q⟩
theorem zZ.one_pos {w:World}{b r:Nat}(h:Own .u32 143 w b [r])(c:r<W32)(d:0<r):zZ w (.slice (some ⟨b,0,none⟩) 1 1) r :=
 ⟨_,[r],1,rfl,uF _,h.shows0,Dig.cons c Dig.nil,fun k a=>by simp at a;subst a;simp;omega,qS⟩
theorem Zr3 {n k:Nat}(h:n<10^k):ml n≤k:=wT.2 (uS h (sX (by rw[zV];omega) _))
theorem ZnN {n k:Nat}(h:n<10^k):n<1000000000^((k+8)/9):=by
 refine uS h ?_
 rw[show (1000000000:Nat)=10^9 by decide,← rQ]
 exact uW qO qO
theorem Zea {n k:Nat}(h:n<10^k):ml n≤(k+8)/9:=wT.2 (uS (ZnN h) (sX (by rw[zV];omega) _))
theorem ZiU (s:ByteArray):s.toList.isEmpty=(bytes s).isEmpty:=by
 rw[Lib.toList_data]
def FdIn (l:List UInt8) (i k v f:Nat):Prop:=k≤9∧i+k≤l.length∧(l.take (i+k)).all zW=true∧v=zI ((l.drop i).take k)∧f=10^k
theorem FdIn.bounds {l:List UInt8}{i k v f:Nat}(h:FdIn l i k v f):v<10^k∧v<1000000000∧f≤1000000000∧0<f:=by
 obtain⟨c,g,b,d,j⟩:=h
 have a:((l.drop i).take k).all zW=true:=by
  rw[uZ] at b ⊢
  intro x e
  refine b x ?_
  rw[List.take_add]
  exact List.mem_append_right _ e
 have:=kD _ a
 rw[uL,vT,uT qO,← d] at this
 have m:10^k≤10^9:=uW qO c
 have n:0<10^k:=uU qO
 exact⟨this,qO,qO,qO⟩
theorem FdIn.step {l:List UInt8}{i k v f:Nat}{c:UInt8}(h:FdIn l i k v f)(m:k<9)(a:i+k<l.length)(b:l[i+k]=c)(d:zW c=true):FdIn l i (k+1) (v*10+(c.toNat-48)) (f*10):=by
 obtain⟨n,o,e,g,j⟩:=h
 refine⟨qO,qO,?_,?_,by rw[j,uN]⟩
 ·rw[←tS,tB a,qR,e,b]
  simp[d]
 rw[tB (by simp;omega),eO,← g,List.getElem_drop,b]
 omega
theorem FdIn.done {l:List UInt8}{i k v f:Nat}(h:FdIn l i k v f):zI (l.take i)*f+v=zI (l.take (i+k)):=by
 obtain⟨c,d,e,a,b⟩:=h
 have:l.take (i+k)=l.take i ++ (l.drop i).take k:=by rw[List.take_add]
 rw[this,cJ,uL,vT,uT qO,← a,b]
theorem ZqO {l:List UInt8}{i:Nat}(h:i<l.length)(a:zW l[i]=false):l.all zW=false:=by
 rw[List.all_eq_false]
 exact⟨l[i],sD h,by simp[a]⟩
theorem dA (s:ByteArray)(w:World)(hs:s.size≤140737488351232):yA 112 #[.string s] w (ZfW w (bytes s)):=by
 have j:=zh (zQ s)
 go_enter func112,ntmps112
 go_wp2_with fail
 generalize a:World.alloc w _=w1
 obtain⟨b0,c0⟩:=gT a
 have HB:=zh b0
 have HE:=zh c0
 clear a b0 c0
 go_loopw [4,5,6,7,8] (fun mv iv _ _ _ wr=>∃ (i:Nat) (A:Option Addr) (ln c:Nat),i≤s.size∧iv=.int .i64 (i:Int)∧mv=.slice A ln c∧Hid (((bytes s).take i).all zW=true)∧Hid (zZ wr (.slice A ln c) (zI ((bytes s).take i)))∧Hid (Ext w1 wr)) (fun _ iv _ _ _ _=>s.size-(intOf iv).toNat)
 case atStart=>exact⟨0,none,0,0,qO,rfl,rfl,by unfold Hid;simp,by unfold Hid;simpa [zI] using zZ.zero _,Fr.refl _ _⟩
 case round =>
  obtain⟨i,A,ln,c,hi,rfl,rfl,t,hM,hF⟩:=hrel
  by_cases m0:i<s.size
  ·go_wp2
   go_loop [5,6,7,8] (fun iv vv fv kv=>∃ (k v f:Nat),k≤9∧i+k≤s.size∧v<1000000000∧f≤1000000000∧0<f∧iv=.int .i64 ((i+k:Nat):Int)∧vv=.int .u32 (v:Int)∧fv=.int .u32 (f:Int)∧kv=.int .i64 (k:Int)∧Hid (FdIn (bytes s) i k v f)) (fun _ _ _ kv=>9-(intOf kv).toNat)
   case atStart=>exact⟨0,0,1,qO,qO,qO,qO,qO,rfl,rfl,rfl,rfl,⟨qO,by rw[j.out];omega,t.out,by simp[zI],rfl⟩⟩
   case round =>
    obtain⟨k,v,f,hk,n0,hv,hf,f0,rfl,rfl,rfl,rfl,E⟩:=hrel
    by_cases F:k<9∧i+k<s.size
    ·obtain⟨g1,g2⟩:=F
     have d0:decide ((k:Int)<9)=true:=by rw[vR];omega
     have x:(bytes s)[i+k]'(by rw[j.out];exact g2)=s[i+k]:=Zcw s g2
     by_cases Q:zW s[i+k]=true
     ·have R:=zh (E.out.step g1 (by rw[j.out];exact g2) x Q)
      have hb:=ZdG Q
      have G:=R.out.bounds
      have e1:IntKind.u8.wrap ((s[i+k].toNat:Int)-48)=((s[i+k].toNat-48:Nat):Int):=by rw[IntKind.wrap_u8];omega
      have g0:((s[i+k].toNat:Int)-48)%256=((s[i+k].toNat-48:Nat):Int):=qO
      obtain⟨d,ed⟩:=yE (s[i+k].toNat-48)
      have o0:d≤9:=qO
      rw[ed] at R e1 g0 G
      have h0:=G.2.1
      have i0:=G.2.2.1
      have x1:(i:Int)+(k:Int)<(s.size:Int):=qO
      have x2:(0:Int)≤(i:Int)+(k:Int):=qO
      have x3:(48:Int)≤(s[i+k].toNat:Int):=qO
      have x4:¬ ((s[i+k].toNat:Int)<48):=qO
      have x5:¬ ((57:Int)<(s[i+k].toNat:Int)):=qO
      have x6:decide ((s[i+k].toNat:Int)<48)=false:=by rw[vF];omega
      have x7:decide ((57:Int)<(s[i+k].toNat:Int))=false:=by rw[vF];omega
      have x8:((i:Int)+(k:Int)).toNat=i+k:=qO
      clear G x ed Q
      go_wp2
      go_round
      case rel=>exact⟨k+1,v*10+d,f*10,qO,qO,h0,i0,qO,by go_num,by go_num,by go_num,by go_num,R⟩
      case measure=>simp[intOf];omega
     have H:Hid ((bytes s).all zW=false):=ZqO (by rw[j.out];exact g2) (by rw[x];simpa using Q)
     have I:=zh (HB.out.ext hF.out)
     have S:=zh (HE.out.trans hF.out)
     obtain⟨z0,z1,z2,z3⟩:=I.out.cell2
     have x1:(i:Int)+(k:Int)<(s.size:Int):=qO
     have x2:(0:Int)≤(i:Int)+(k:Int):=qO
     have x8:((i:Int)+(k:Int)).toNat=i+k:=qO
     have L:Hid (∀ u:Array Value,u[2]? = some (.pointer (some ⟨w.heap.size,0,none⟩))→u[3]? = some (.bool false)→bodyPost prog Tryz.f112 (ZfW w (bytes s)) .ret ⟨u,[]⟩ ((wr.setCell ⟨w.heap.size,0,none⟩ (.bool false)).setCell ⟨w.heap.size,1,none⟩ (.slice none 0 0))):=by
      intro u h2 h3
      have J:Fr (fun i=>i=w.heap.size) wr ((wr.setCell ⟨w.heap.size,0,none⟩ (.bool false)).setCell ⟨w.heap.size,1,none⟩ (.slice none 0 0)):=((Fr.refl (fun i=>i=w.heap.size) _).setCell (p:=⟨w.heap.size,0,none⟩) (Or.inl rfl) _).setCell (p:=⟨w.heap.size,1,none⟩) (Or.inl rfl) _
      refine ZiT rfl h2 h3 ((I.out.set_ 0 _).set_ 1 _) ?_ (by rw[H.out];rfl) (S.out.next J (fun i hi e=>qO))
      rw[H.out];exact zN.nil _
     by_cases p0:s[i+k].toNat < 48
     ·have x3:(s[i+k].toNat:Int)<48:=qO
      have x6:decide ((s[i+k].toNat:Int)<48)=true:=by rw[vR];omega
      clear x Q H
      go_wp2
      exact L.out _ rfl rfl
     have q0:57<s[i+k].toNat:=by
      have:zW s[i+k]=false:=by simpa using Q
      unfold zW at this
      simp at this
      omega
     have x3:¬ ((s[i+k].toNat:Int)<48):=qO
     have x4:(57:Int)<(s[i+k].toNat:Int):=qO
     have x6:decide ((s[i+k].toNat:Int)<48)=false:=by rw[vF];omega
     have x7:decide ((57:Int)<(s[i+k].toNat:Int))=true:=by rw[vR];omega
     clear x Q H
     go_wp2
     exact L.out _ rfl rfl
    have r0:1≤k:=by
     rcases uJ k with e|e
     ·subst e;exact absurd ⟨qO,qO⟩ F
     exact e
    have T:Hid (f<W32):=by unfold Hid;rw[zV];omega
    have U:Hid (v<W32):=by unfold Hid;rw[zV];omega
    have M:Hid (ml (zI ((bytes s).take i))≤17592186044416):=by
     have h1:=Zea (kD _ t.out)
     rw[uL,j.out] at h1
     unfold Hid;omega
    have N:Hid (ml f≤17592186044416):=by
     have:=wT (n:=f) (k:=1)
     rw[Nat.pow_one] at this
     have:=this.2 T.out
     unfold Hid;omega
    have O:Hid (ml v≤17592186044416):=by
     have:=wT (n:=v) (k:=1)
     rw[Nat.pow_one] at this
     have:=this.2 U.out
     unfold Hid;omega
    have l:=zh E.out.done
    have m:Hid (((bytes s).take (i+k)).all zW=true):=E.out.2.2.1
    have P:Hid (ml (zI ((bytes s).take i)*f)≤17592186044416):=by
     have h1:=Zea (kD _ m.out)
     rw[uL,j.out] at h1
     have h2:=jI (show zI ((bytes s).take i)*f≤zI ((bytes s).take (i+k)) by have:=l.out;omega)
     unfold Hid;omega
    have e0:Hid (0<f):=f0
    by_cases h9:k<9
    ·have g2:¬ ((i:Int)+(k:Int)<(s.size:Int)):=qO
     have d0:decide ((k:Int)<9)=true:=by rw[vR];omega
     have s0:decide ((i:Int)+(k:Int)<(s.size:Int))=false:=by rw[vF];omega
     clear F E
     go_wp2_with fail
     generalize a:World.alloc wr _=w2
     have y:Own .u32 143 w2 wr.heap.size [f]:=a ▸ Own.new wr 143 .u32 [f] []
     have g:Ext wr w2:=a ▸ (Fr.refl _ _).alloc _
     clear a
     refine (Zfw _ _ (zI ((bytes s).take i)) f _ (hM.out.ext g) (zZ.one_pos y T.out e0.out) M.out N.out).mono ?_
     rintro e K ⟨_,rfl,o,z⟩
     obtain⟨A3,l3,c3,rfl⟩:=o.slice
     have B:=zh o
     have C:=zh ((hF.out.trans g).trans z)
     clear o z g y
     go_wp2_with fail
     generalize a:World.alloc K _=w4
     have q:Own .u32 143 w4 K.heap.size [v]:=a ▸ Own.new K 143 .u32 [v] []
     have r:Ext K w4:=a ▸ (Fr.refl _ _).alloc _
     clear a
     refine (lX _ [v] 1 1 _ rfl q.shows0 qS qS).mono ?_
     rintro e w5 ⟨rfl,rfl⟩
     have V:=zh (zZ.one q U.out)
     have W:=zh (B.out.ext r)
     have X:=zh (C.out.trans r)
     clear q r B C
     go_wp2_with fail
     refine (Zay _ _ _ _ _ W.out V.out P.out O.out).mono ?_
     rintro e w6 ⟨_,rfl,h,D⟩
     rw[l.out] at h
     obtain⟨A6,l6,c6,rfl⟩:=h.slice
     have Y:=zh h
     have Z:=zh (X.out.trans D)
     clear h D
     go_wp2
     go_roundw
     case rel=>exact⟨i+k,A6,l6,c6,qO,by go_num,rfl,m,Y,Z⟩
     case measure=>simp[intOf];omega
    have g2:¬ ((k:Int)<9):=qO
    have d0:decide ((k:Int)<9)=false:=by rw[vF];omega
    clear F E
    go_wp2_with fail
    generalize a:World.alloc wr _=w2
    have y:Own .u32 143 w2 wr.heap.size [f]:=a ▸ Own.new wr 143 .u32 [f] []
    have g:Ext wr w2:=a ▸ (Fr.refl _ _).alloc _
    clear a
    refine (Zfw _ _ (zI ((bytes s).take i)) f _ (hM.out.ext g) (zZ.one_pos y T.out e0.out) M.out N.out).mono ?_
    rintro e K ⟨_,rfl,o,z⟩
    obtain⟨A3,l3,c3,rfl⟩:=o.slice
    have B:=zh o
    have C:=zh ((hF.out.trans g).trans z)
    clear o z g y
    go_wp2_with fail
    generalize a:World.alloc K _=w4
    have q:Own .u32 143 w4 K.heap.size [v]:=a ▸ Own.new K 143 .u32 [v] []
    have r:Ext K w4:=a ▸ (Fr.refl _ _).alloc _
    clear a
    refine (lX _ [v] 1 1 _ rfl q.shows0 qS qS).mono ?_
    rintro e w5 ⟨rfl,rfl⟩
    have V:=zh (zZ.one q U.out)
    have W:=zh (B.out.ext r)
    have X:=zh (C.out.trans r)
    clear q r B C
    go_wp2_with fail
    refine (Zay _ _ _ _ _ W.out V.out P.out O.out).mono ?_
    rintro e w6 ⟨_,rfl,h,D⟩
    rw[l.out] at h
    obtain⟨A6,l6,c6,rfl⟩:=h.slice
    have Y:=zh h
    have Z:=zh (X.out.trans D)
    clear h D
    go_wp2
    go_roundw
    case rel=>exact⟨i+k,A6,l6,c6,qO,by go_num,rfl,m,Y,Z⟩
    case measure=>simp[intOf];omega
  obtain rfl:i=s.size:=qO
  have e1:(bytes s).take s.size=bytes s:=uC (by rw[j.out];exact uF _)
  have HA:Hid ((bytes s).all zW=true):=by have:=t.out;rw[e1] at this;exact this
  have HM:Hid (zZ wr (.slice A ln c) (zI (bytes s))):=by have:=hM.out;rw[e1] at this;exact this
  have I:=zh (HB.out.ext hF.out)
  have S:=zh (HE.out.trans hF.out)
  have j0:=zh (ZiU s)
  clear e1 t hM
  go_wp2_with fail
  refine (fW false _ _ _ HM.out).mono ?_
  rintro e w2 ⟨_,rfl,E,g⟩
  obtain⟨s2,A2,l2,c2,rfl⟩:=E.shp
  have HI:=zh E
  have a0:=zh (I.out.ext g)
  have l0:=zh (S.out.trans g)
  obtain⟨k0,k1,k2,k3⟩:=a0.out.cell2
  clear E g
  go_wp2
  have J:Fr (fun i=>i=w.heap.size) w2 ((w2.setCell ⟨w.heap.size,0,none⟩ (.bool s2)).setCell ⟨w.heap.size,1,none⟩ (.slice A2 l2 c2)):=((Fr.refl (fun i=>i=w.heap.size) _).setCell (p:=⟨w.heap.size,0,none⟩) (Or.inl rfl) _).setCell (p:=⟨w.heap.size,1,none⟩) (Or.inl rfl) _
  refine ZiT (b := !s.toList.isEmpty) rfl rfl rfl ((a0.out.set_ 0 _).set_ 1 _) ?_ (by rw[HA.out,j0.out];rfl) (l0.out.next J (fun i hi e=>qO))
  rw[HA.out]
  exact HI.out.oth a0.out lJ J
def xA (c:UInt8):Bool:=c != 47
def iC (l:List UInt8):Option Rat :=
 if (((xB l).2.takeWhile xA).all zW && !((xB l).2.takeWhile xA).isEmpty)=false then none
 else if (xB l).2.drop ((xB l).2.takeWhile xA).length=[] then
  (if xE (((sg (xB l).1 (zI ((xB l).2.takeWhile xA)):Int)):Rat)=l then some (((sg (xB l).1 (zI ((xB l).2.takeWhile xA)):Int)):Rat) else none)
 else if (((xB l).2.drop (((xB l).2.takeWhile xA).length+1)).all zW && !((xB l).2.drop (((xB l).2.takeWhile xA).length+1)).isEmpty)=false∨zI ((xB l).2.drop (((xB l).2.takeWhile xA).length+1))=0 then none
 else (if xE (Rat.divInt (sg (xB l).1 (zI ((xB l).2.takeWhile xA))) (zI ((xB l).2.drop (((xB l).2.takeWhile xA).length+1)):Int))=l then some (Rat.divInt (sg (xB l).1 (zI ((xB l).2.takeWhile xA))) (zI ((xB l).2.drop (((xB l).2.takeWhile xA).length+1)):Int)) else none)
theorem Zl6 {l:List UInt8}{q:Rat}(h:iC l=some q):xE q=l:=by
 unfold iC at h
 split at h
 ·cases h
 split at h
 ·split at h
  ·rename_i e;injection h with h;rw[←h];exact e
  cases h
 split at h
 ·cases h
 split at h
 ·rename_i e;injection h with h;rw[←h];exact e
 cases h
theorem bX {l:List UInt8}(h:l.all zW=true):l.all xA=true:=by
 rw[uZ] at *
 intro x a
 have:=h x a
 unfold xA
 simp
 rintro rfl
 exact absurd this qD
theorem Zl7 (q:Rat):iC (xE q)=some q:=by
 by_cases h:q.den=1
 ·have e:xE q=Lib.itoa q.num ++ []:=by unfold xE;rw[vC h,rJ]
  have a:=Zag q.num []
  rw[←e,rJ] at a
  obtain⟨f,g⟩:=eK (bX (kZ q.num.natAbs))
  unfold iC
  rw[a]
  simp only[]
  rw[f,kZ,fU,ZfU,ZfV h]
  rw[uO (by simp[lT]),vE (uF _),vC rfl,vC rfl]
 have e:xE q=Lib.itoa q.num ++ 47 :: Lib.decDigits q.den:=by unfold xE;rw[uO h,gO];simp
 have a:=Zag q.num (47 :: Lib.decDigits q.den)
 rw[←e] at a
 obtain⟨f,g⟩:=aO (p:=xA) (r:=Lib.decDigits q.den) (c:=47) (bX (kZ q.num.natAbs)) qD
 have i:=q.den_nz
 have b:(Lib.decDigits q.num.natAbs ++ 47 :: Lib.decDigits q.den).drop (Lib.decDigits q.num.natAbs).length=47 :: Lib.decDigits q.den:=qS
 have d:(Lib.decDigits q.num.natAbs ++ 47 :: Lib.decDigits q.den).drop ((Lib.decDigits q.num.natAbs).length+1)=Lib.decDigits q.den:=by
  rw[←vV,b];rfl
 unfold iC
 rw[a]
 simp only[]
 rw[f,b,d,kZ,kZ,fU,fU,ZfU,Rat.num_divInt_den]
 rw[uO (by simp[lT]),uO qS,uO (by simp[lT];exact i),vC rfl]
theorem ZcQ (l:List UInt8):iC l=xU l:=by
 cases h:iC l with
 | some q=>rw[←Zl6 h];exact (Zhk q).symm
 | none =>
  cases k:xU l with
  | none=>rfl
  | some q =>
   have:=dN k
   rw[←this,Zl7] at h
   cases h
def ZeY (w:World) (l:List UInt8) (e:Ending) (w':World):Prop :=
 ∃ v ok q,e=.returned (.tuple #[v,.bool ok])∧Ext w w'∧xF w' v q∧((ok=true∧xU l=some q)∨(ok=false∧xU l=none))
theorem ZiV {q:Rat}{s:ByteArray}{b:Bool}(a:iC (bytes s)=if xE q=bytes s then some q else none)(c:b=decide (xE q=bytes s)):(b=true∧xU (bytes s)=some q)∨(b=false∧xU (bytes s)=none):=by
 rw[ZcQ] at a
 by_cases h:xE q=bytes s
 ·rw[vC h] at a;left;exact⟨by rw[c,vM h],a⟩
 rw[uO h] at a;right;exact⟨by rw[c,uV h],a⟩
theorem ZfX (t:ByteArray)(a b:Nat):(t.extract a b).size≤t.size:=by
 rw[←zQ,lZ,uL,vT,zQ];omega
theorem Zc8 {l:List UInt8}{k:Nat}(h:(l.take k).all xA=true)(a:∀ h:k<l.length,xA l[k]=false)(b:k≤l.length):k=(l.takeWhile xA).length:=by
 rw[(Za6 h a).1,uL];omega
theorem ZfY {t:ByteArray}{p:Nat}(a:p=((bytes t).takeWhile xA).length):bytes (t.extract 0 p)=(bytes t).takeWhile xA∧bytes (t.extract (p+1) t.size)=(bytes t).drop (p+1):=by
 rw[lZ,lZ]
 refine⟨?_,?_⟩
 ·rw[tX,Nat.sub_zero,a]
  have:=List.takeWhile_prefix xA (l:=bytes t)
  exact (List.prefix_iff_eq_take.1 this).symm
 rw[uC (by rw[vT,zQ];exact uF _)]
theorem Zl8 {l t:List UInt8}{neg:Bool}(a:xB l=(neg,t))(b:(((t.takeWhile xA)).all zW && !(t.takeWhile xA).isEmpty)=false):iC l=none:=by
 unfold iC;rw[a];simp only[];rw[vC b]
theorem Zj5 {l t:List UInt8}{neg:Bool}(a:xB l=(neg,t))(b:(((t.takeWhile xA)).all zW && !(t.takeWhile xA).isEmpty)=true)(c:t.length≤(t.takeWhile xA).length) :
 iC l=if xE ((sg neg (zI (t.takeWhile xA)):Int):Rat)=l then some ((sg neg (zI (t.takeWhile xA)):Int):Rat) else none:=by
 unfold iC;rw[a];simp only[];rw[uO (by rw[b];simp),vC (vE c)]
theorem ZfZ {l t:List UInt8}{neg:Bool}(a:xB l=(neg,t))(b:(((t.takeWhile xA)).all zW && !(t.takeWhile xA).isEmpty)=true)(d:(t.takeWhile xA).length<t.length)(c:((t.drop ((t.takeWhile xA).length+1)).all zW && !(t.drop ((t.takeWhile xA).length+1)).isEmpty)=false∨zI (t.drop ((t.takeWhile xA).length+1))=0):iC l=none:=by
 unfold iC;rw[a];simp only[];rw[uO (by rw[b];simp),uO (fun e=>by have:=vI List.length e;simp at this;omega),vC c]
theorem Zl9 {l t:List UInt8}{neg:Bool}(a:xB l=(neg,t))(b:(((t.takeWhile xA)).all zW && !(t.takeWhile xA).isEmpty)=true)(d:(t.takeWhile xA).length<t.length)(c:((t.drop ((t.takeWhile xA).length+1)).all zW && !(t.drop ((t.takeWhile xA).length+1)).isEmpty)=true)(h3:zI (t.drop ((t.takeWhile xA).length+1))≠0) :
 iC l=if xE (Rat.divInt (sg neg (zI (t.takeWhile xA))) (zI (t.drop ((t.takeWhile xA).length+1)):Int))=l then some (Rat.divInt (sg neg (zI (t.takeWhile xA))) (zI (t.drop ((t.takeWhile xA).length+1)):Int)) else none:=by
 unfold iC;rw[a];simp only[];rw[uO (by rw[b];simp),uO (fun e=>by have:=vI List.length e;simp at this;omega),uO (fun e=>e.elim (fun e=>by rw[c] at e;cases e) h3)]
theorem ZkN {x:List UInt8}{s:ByteArray}:((⟨x.toArray⟩:ByteArray).toList == s.toList)=decide (x=bytes s):=by
 rw[Lib.toList_data,Lib.toList_data]
 by_cases h:x=bytes s
 ·rw[vM h];simp[h]
 rw[uV h];simpa using h
theorem ZkO {t:ByteArray}(h:(bytes t).all zW=true):zI (bytes t)<10^t.size:=by
 have:=kD _ h
 rwa [zQ] at this
theorem ZhZ {neg:Bool}{n:Nat}:(sg neg n).natAbs=n:=by cases neg<;>simp[sg]
theorem ZiW {s:ByteArray}(h:¬ bytes s=[]):∃ c,(bytes s).head? = some c∧s[0]? = some c:=by
 obtain⟨a,_⟩:=aH h
 exact⟨s[0],Zan a,by simp[a]⟩
theorem ZeZ {s:ByteArray}(h:¬ bytes s=[]):1≤s.size:=(aH h).1
theorem ZiX {s:ByteArray}{c:UInt8}(h:(bytes s).head? = some c)(a:c=45):xB (bytes s)=(true,bytes (s.extract 1 s.size)):=by
 unfold xB
 rw[h,a,vC rfl,lZ,uC (by rw[vT,zQ];exact uF _),List.drop_one]
theorem Zj6 {s:ByteArray}{c:UInt8}(h:(bytes s).head? = some c)(a:¬ c=45):xB (bytes s)=(false,bytes s):=by
 unfold xB
 rw[h,uO (by simpa using a)]
theorem ZpY {c b:UInt8}(h:c=b):((c.toNat:Int) == (b.toNat:Int))=true:=by subst h;simp
theorem ZpZ {c b:UInt8}(h:¬ c=b):((c.toNat:Int) == (b.toNat:Int))=false:=by
 have:c.toNat≠b.toNat:=fun e=>h (UInt8.toNat_inj.1 e)
 simp;omega
theorem Zr4 {a b:Nat}(h:a<b):decide (((a:Nat):Int)<((b:Nat):Int))=true:=vM qO
theorem ZqP {a b:Nat}(h:¬ a<b):decide (((a:Nat):Int)<((b:Nat):Int))=false:=uV qO
theorem ZdI {a:Nat}(h:a≤140737488351232):IntKind.i64.wrap (((a:Nat):Int)+1)=((a+1:Nat):Int):=by rw[IntKind.wrap_i64];omega
theorem Zpl {n:Nat}(h:n=0):(((n:Int).sign:Int) == 0)=true:=by subst h;rfl
theorem ZnO {n:Nat}(h:¬ n=0):(((n:Int).sign:Int) == 0)=false:=by
 rw[sW];exact fun e=>h (by have:=sS.1 e;omega)
theorem ZkP {w w':World}{e:Ending}{l:List UInt8}(h:ZfW w l e w')(f:l.all zW=true)(a:l≠[]):wV (fun x:ShI=>.tuple #[wO x,.bool true]) (fun x w=>zN w (wO x) (zI l:Int)) w e w':=by
 obtain⟨v,b,rfl,rfl,d,Q⟩:=h
 rw[vC f] at d
 obtain⟨s,A,g,c,rfl⟩:=d.shp
 refine⟨(s,A,g,c),?_,Q,boxn Q (fun S i j k=>d.nrb j k)⟩
 rw[f,show l.isEmpty=false by simpa using a];rfl
theorem ZaF {P:Program}{o:Oper}{ρ:Operand→Value}{w:World}{t:TypeId}{x i:Operand}{b:ByteArray}{k:Nat}{c:UInt8}(a:o.op=Op.index t x i)(d:P.underlying t=some .string)(e:ρ x=.string b)(hi:ρ i=.int .i64 (k:Int))(f:b[k]? = some c):(execOp ρ o).run P w=.ok (.value (.int .u8 (c.toNat:Int))) w:=by
 simp[execOp,a,Instr.index,asIntOf,underlying,d,e,hi,f,Result.andThen]
theorem ZiY {w w':World}{e:Ending}{l:List UInt8}(h:ZfW w l e w')(a:¬ (l.all zW && !l.isEmpty)=true):wV (fun x:ShI=>.tuple #[wO x,.bool false]) (fun _ _=>True) w e w':=by
 obtain⟨v,b,rfl,rfl,d,Q⟩:=h
 obtain⟨s,A,f,c,rfl⟩:=d.shp
 exact⟨(s,A,f,c),by rw[sQ.2 a];rfl,Q,BoxN.pure trivial⟩
theorem Zhq {l:List UInt8}(h:(l.all zW && !l.isEmpty)=true):l.all zW=true∧l≠[]:=by
 rw[tD] at h
 exact⟨h.1,fun e=>by rw[e] at h;simp at h⟩
theorem xF.whole {w:World}{s:Bool}{A:qA}{l c:Nat}{z:Int}(h:zN w (.agg #[.bool s,.slice A l c]) z):xF w (.agg #[.bool s,.slice A l c,.bool false,.slice none 0 0]) ((z:Int):Rat) :=
 xF.of h (by rw[dL (by rfl)];exact zN.nil _)
theorem Zr5 {n k:Nat}(h:n<10^k)(a:k≤140737488351232):xZ ((n:Nat):Int):=by
 have:=Zea h
 unfold xZ
 rw[tO];omega
theorem ZqQ {s:Bool}{n k:Nat}(h:n<10^k)(a:k≤140737488351232):xZ (sg s n):=by
 have:=Zea h
 unfold xZ
 rw[ZhZ];omega
theorem ZkQ {x y:Int}{a b j:Nat}(c:y≠0)(d:x.natAbs<a)(e:y.natAbs<b)(f:j≤140737488351232){k:Nat}(g:k≤140737488351232):((Rat.divInt x y).num.natAbs<a∧j≤140737488355000)∧((Rat.divInt x y).den<b∧k≤140737488355000):=by
 refine⟨⟨vS ?_ d,qO⟩,vS ?_ e,qO⟩
 ·rw[Rat.num_divInt,Int.natAbs_ediv_of_dvd]
  ·refine uD (uY _ _) ?_
   rw[Int.natAbs_mul]
   rcases Int.lt_or_gt_of_ne c with h|h
   ·rw[Int.sign_eq_neg_one_of_neg h];simp
   rw[pO h];simp
  exact Int.dvd_mul_of_dvd_right (Int.gcd_dvd_right _ _)
 rw[Rat.den_divInt,uO c]
 exact uY _ _
theorem Zma {n:Nat}(h:¬ n=0):((n:Nat):Int)≠0:=qO
theorem ZqR:(1:Nat)<10^1∧1≤140737488355000:=qD
theorem ZqS {t:ByteArray}{i:Nat}{c:UInt8}(d:((bytes t).take i).all xA=true)(hc:t[i]? = some c)(h:¬ c=47):((bytes t).take (i+1)).all xA=true:=by
 have hi:i<t.size:=by
  rcases vL i t.size with b|b
  ·exact b
  rw[getElem?_neg t i qO] at hc;cases hc
 have a:t[i]=c:=by
  rw[oU t i hi] at hc;exact rK hc
 rw[Zam t i hi,qR,d,a]
 simp[xA,h]
theorem Zr6 {t:ByteArray}{i:Nat}{c:UInt8}(e:((bytes t).take i).all xA=true)(d:t[i]? = some c)(h:c=47)(hi:i≤t.size):i=((bytes t).takeWhile xA).length:=by
 refine Zc8 e (fun a=>?_) (by rw[zQ];exact hi)
 have b:i<t.size:=by rw[←zQ];exact a
 rw[oU t i b] at d
 have:(bytes t)[i]=47:=(rK d).trans h
 rw[this];rfl
theorem Zr7 {t:ByteArray}(a:((bytes t).take t.size).all xA=true):t.size=((bytes t).takeWhile xA).length :=
 Zc8 a (fun h=>by rw[zQ] at h;omega) (by rw[zQ];exact uF _)
theorem ZdJ (s:ByteArray)(w:World)(hs:s.size≤140737488351232) :
 yA 65 #[.string s] w (ZeY w (bytes s)):=by
 refine zT (Φ:=fun w=>True) func65 rfl qK (fun w' hf=>trivial) ?_
 refine yY (xr 2 [yT 0 s,(2,.p 2 0),yB 3 false] [bR4 2 59 false none 0 0 false none 0 0] ?_)
 refine yZ (yY (xr 2 [yT 0 s,(2,.p 2 0),yB 3 false,yT 4 s] [bR4 2 59 false none 0 0 false none 0 0] ?_))
 refine xe (zA ?_)
 refine Zb9 (fun F G=>∃ (b:Bool),F=ofL [yT 0 s,(2,.p 2 0),yB 3 false,yT 4 s,yB 5 b] [(2,59,[.v (.bool false),.v (.slice none 0 0),.v (.bool false),.v (.slice none 0 0)])]∧G=(fun w=>True)∧((b=true→xB (bytes s)=(true,bytes (s.extract 1 s.size))∧1≤s.size)∧(b=false→xB (bytes s)=(false,bytes s)))) ?_ ?_
 ·by_cases he:bytes s=[]
  ·have k0:s.size=0:=by rw[←zQ,he];rfl
   refine zB (xr 3 [yT 0 s,(2,.p 2 0),yB 3 false,yT 4 s,yB 16 (decide (((s).size:Int)>0))] [bR4 2 59 false none 0 0 false none 0 0] ?_)
   rw[(show decide (((s).size:Int)>0)=false from uV qO)]
   refine xr 6 [yT 0 s,(2,.p 2 0),yB 3 false,yT 4 s,yB 5 false] [bR4 2 59 false none 0 0 false none 0 0] ?_
   refine xe ?_
   refine yP [yT 0 s,(2,.p 2 0),yB 3 false,yT 4 s,yB 5 false] [(2,59,[.v (.bool false),.v (.slice none 0 0),.v (.bool false),.v (.slice none 0 0)])] (fun w=>True) (fun w Q=>trivial) ?_
   exact jJ ⟨false,rfl,rfl,⟨fun h=>(by cases h),fun _=>(by unfold xB;rw[he];rfl)⟩⟩
  obtain⟨P,h0,e0⟩:=ZiW he
  have k0:=ZeZ he
  by_cases hm:P=45
  ·refine zB (xr 3 [yT 0 s,(2,.p 2 0),yB 3 false,yT 4 s,yB 16 (decide (((s).size:Int)>0))] [bR4 2 59 false none 0 0 false none 0 0] ?_)
   rw[(show decide (((s).size:Int)>0)=true from vM qO)]
   refine xr 2 [yT 0 s,(2,.p 2 0),yB 3 false,yT 4 s,yB 17 true,yT 18 s] [bR4 2 59 false none 0 0 false none 0 0] ?_
   refine yK 19 (.int .u8 (P.toNat:Int)) (fun w R Q=>ZaF (t:=9) (x:=.tmp 18) (k:=0) (i:=.const (yI 0)) qK qK qK (by rfl) e0) ?_
   refine xr 1 [yT 0 s,(2,.p 2 0),yB 3 false,yT 4 s,yB 17 true,yB 20 (((P.toNat:Int):Int) == 45)] [bR4 2 59 false none 0 0 false none 0 0] ?_
   rw[(show ((P.toNat:Int) == 45)=true from ZpY hm)]
   refine xr 2 [yT 0 s,(2,.p 2 0),yB 3 false,yT 4 s,yB 5 true] [bR4 2 59 false none 0 0 false none 0 0] ?_
   refine xe ?_
   refine yP [yT 0 s,(2,.p 2 0),yB 3 false,yT 4 s,yB 5 true] [(2,59,[.v (.bool false),.v (.slice none 0 0),.v (.bool false),.v (.slice none 0 0)])] (fun w=>True) (fun w Q=>trivial) ?_
   exact jJ ⟨true,rfl,rfl,⟨fun _=>⟨ZiX h0 hm,ZeZ he⟩,fun h=>(by cases h)⟩⟩
  refine zB (xr 3 [yT 0 s,(2,.p 2 0),yB 3 false,yT 4 s,yB 16 (decide (((s).size:Int)>0))] [bR4 2 59 false none 0 0 false none 0 0] ?_)
  rw[(show decide (((s).size:Int)>0)=true from vM qO)]
  refine xr 2 [yT 0 s,(2,.p 2 0),yB 3 false,yT 4 s,yB 17 true,yT 18 s] [bR4 2 59 false none 0 0 false none 0 0] ?_
  refine yK 19 (.int .u8 (P.toNat:Int)) (fun w R Q=>ZaF (t:=9) (x:=.tmp 18) (k:=0) (i:=.const (yI 0)) qK qK qK (by rfl) e0) ?_
  refine xr 1 [yT 0 s,(2,.p 2 0),yB 3 false,yT 4 s,yB 17 true,yB 20 (((P.toNat:Int):Int) == 45)] [bR4 2 59 false none 0 0 false none 0 0] ?_
  rw[(show ((P.toNat:Int) == 45)=false from ZpZ (b:=45) hm)]
  refine xr 2 [yT 0 s,(2,.p 2 0),yB 3 false,yT 4 s,yB 5 false] [bR4 2 59 false none 0 0 false none 0 0] ?_
  refine xe ?_
  refine yP [yT 0 s,(2,.p 2 0),yB 3 false,yT 4 s,yB 5 false] [(2,59,[.v (.bool false),.v (.slice none 0 0),.v (.bool false),.v (.slice none 0 0)])] (fun w=>True) (fun w Q=>trivial) ?_
  exact jJ ⟨false,rfl,rfl,⟨fun h=>(by cases h),fun _=>Zj6 h0 hm⟩⟩
 rintro F G ⟨b,rfl,rfl,HB⟩
 refine Zb9 (fun F G=>∃ (t:ByteArray) (l:Bool),F=ofL [yT 0 s,(2,.p 2 0),yB 3 false,yT 4 t,yB 5 l] [(2,59,[.v (.bool false),.v (.slice none 0 0),.v (.bool false),.v (.slice none 0 0)])]∧G=(fun w=>True)∧(xB (bytes s)=(l,bytes t))∧(t.size≤140737488351232)) ?_ ?_
 ·refine yY (xr 1 [yT 0 s,(2,.p 2 0),yB 3 false,yT 4 s,yB 5 b,yB 22 b] [bR4 2 59 false none 0 0 false none 0 0] ?_)
  refine xe (zA ?_)
  refine yQ (b) (fun H=>?_) fun H=>?_
  ·have I:=H
   obtain⟨f0,l0⟩:=HB.1 I
   obtain⟨t,ht⟩:=yE (s.extract 1 s.size)
   rw[ht] at f0
   have lt:t.size≤140737488351232:=by rw[←ht,rT];omega
   refine zB (xr 1 [yT 0 s,(2,.p 2 0),yB 3 false,yT 4 s,yB 5 b,yT 23 s] [bR4 2 59 false none 0 0 false none 0 0] ?_)
   refine yK 24 (.string t) (fun w R Q=>gN 1 _ (t:=9) (x:=.tmp 23) (lo:=(some (Operand.const (Value.int IntKind.i64 1)))) (hi:=none) qK qK qK (Or.inr rfl) (Or.inl ⟨rfl,rfl⟩) l0 (uF _) ht) ?_
   refine xr 1 [yT 0 s,(2,.p 2 0),yB 3 false,yT 4 t,yB 5 b] [bR4 2 59 false none 0 0 false none 0 0] ?_
   refine xe ?_
   refine yP [yT 0 s,(2,.p 2 0),yB 3 false,yT 4 t,yB 5 b] [(2,59,[.v (.bool false),.v (.slice none 0 0),.v (.bool false),.v (.slice none 0 0)])] (fun w=>True) (fun w Q=>trivial) ?_
   exact jJ ⟨t,b,rfl,rfl,(by rw[I];exact f0),lt⟩
  have I:=H
  refine zJ ?_
  refine yP [yT 0 s,(2,.p 2 0),yB 3 false,yT 4 s,yB 5 b] [(2,59,[.v (.bool false),.v (.slice none 0 0),.v (.bool false),.v (.slice none 0 0)])] (fun w=>True) (fun w Q=>trivial) ?_
  exact jJ ⟨s,b,rfl,rfl,(by rw[I];exact HB.2 I),hs⟩
 rintro F G ⟨t,l,rfl,rfl,HM,lt⟩
 refine yY (xr 3 [yT 0 s,(2,.p 2 0),yB 3 false,yT 4 t,yB 5 l,yJ 6 ((t).size:Int)] [bR4 2 59 false none 0 0 false none 0 0] ?_)
 refine xe (zA ?_)
 refine Zb9 (fun F G=>∃ (p:Nat),F=ofL [yT 0 s,(2,.p 2 0),yB 3 false,yT 4 t,yB 5 l,yJ 6 (p:Int)] [(2,59,[.v (.bool false),.v (.slice none 0 0),.v (.bool false),.v (.slice none 0 0)])]∧G=(fun w=>True)∧(p=((bytes t).takeWhile xA).length)∧(p≤t.size)) ?_ ?_
 ·refine yY (xr 1 [yT 0 s,(2,.p 2 0),yB 3 false,yT 4 t,yB 5 l,yJ 6 ((t).size:Int),yJ 7 0] [bR4 2 59 false none 0 0 false none 0 0] ?_)
  refine yZ (zS ?_)
  refine yC [yT 0 s,(2,.p 2 0),yB 3 false,yT 4 t,yB 5 l,yJ 6 ((t).size:Int),yJ 7 ((0:Nat):Int)] [(2,59,[.v (.bool false),.v (.slice none 0 0),.v (.bool false),.v (.slice none 0 0)])] (fun w=>True) (fun w Q=>trivial) ?_
  refine xR (fun nn F G=>∃ (i:Nat),F=ofL [yT 0 s,(2,.p 2 0),yB 3 false,yT 4 t,yB 5 l,yJ 6 ((t).size:Int),yJ 7 (i:Int)] [(2,59,[.v (.bool false),.v (.slice none 0 0),.v (.bool false),.v (.slice none 0 0)])]∧G=(fun w=>True)∧(i≤t.size)∧(((bytes t).take i).all xA=true)∧nn=t.size-i) (t.size-0) ⟨0,rfl,rfl,(tA _),rfl,rfl⟩ ?_
  rintro nn F G ⟨i,rfl,rfl,hi,hI,rfl⟩
  refine zC (yY (xr 4 [yT 0 s,(2,.p 2 0),yB 3 false,yT 4 t,yB 5 l,yJ 6 ((t).size:Int),yJ 7 (i:Int),yB 30 (decide ((i:Int)<((t).size:Int)))] [bR4 2 59 false none 0 0 false none 0 0] ?_))
  refine xe (zA ?_)
  refine yQ ((decide ((i:Int)<((t).size:Int)))) (fun J=>?_) fun J=>?_
  ·have g0:i<t.size:=by have:=uA J;omega
   obtain⟨c,hc⟩:∃ c,t[i]? = some c:=⟨t[i],by simp[g0]⟩
   refine zJ (zA (zC (zS (zC ?_))))
   by_cases L:c=47
   ·refine zB (xr 2 [yT 0 s,(2,.p 2 0),yB 3 false,yT 4 t,yB 5 l,yJ 6 ((t).size:Int),yJ 7 (i:Int),yT 33 t,yJ 34 (i:Int)] [bR4 2 59 false none 0 0 false none 0 0] ?_)
    refine yK 35 (.int .u8 (c.toNat:Int)) (fun w R Q=>ZaF (t:=9) (x:=.tmp 33) (k:=i) (i:=.tmp 34) qK qK qK qK hc) ?_
    refine xr 1 [yT 0 s,(2,.p 2 0),yB 3 false,yT 4 t,yB 5 l,yJ 6 ((t).size:Int),yJ 7 (i:Int),yB 36 (((c.toNat:Int):Int) == 47)] [bR4 2 59 false none 0 0 false none 0 0] ?_
    rw[(show ((c.toNat:Int) == 47)=true from ZpY L)]
    refine xr 0 [yT 0 s,(2,.p 2 0),yB 3 false,yT 4 t,yB 5 l,yJ 6 ((t).size:Int),yJ 7 (i:Int),yB 36 true] [bR4 2 59 false none 0 0 false none 0 0] ?_
    refine yZ (xa (yY (xr 2 [yT 0 s,(2,.p 2 0),yB 3 false,yT 4 t,yB 5 l,yJ 6 (i:Int),yJ 7 (i:Int)] [bR4 2 59 false none 0 0 false none 0 0] ?_)))
    refine yZ (xN ?_)
    refine Zb2 qK ?_
    refine zK (zK (xV ?_))
    refine yP [yT 0 s,(2,.p 2 0),yB 3 false,yT 4 t,yB 5 l,yJ 6 (i:Int)] [(2,59,[.v (.bool false),.v (.slice none 0 0),.v (.bool false),.v (.slice none 0 0)])] (fun w=>True) (fun w Q=>trivial) ?_
    exact jJ ⟨i,rfl,rfl,Zr6 hI hc L hi,hi⟩
   refine zB (xr 2 [yT 0 s,(2,.p 2 0),yB 3 false,yT 4 t,yB 5 l,yJ 6 ((t).size:Int),yJ 7 (i:Int),yT 33 t,yJ 34 (i:Int)] [bR4 2 59 false none 0 0 false none 0 0] ?_)
   refine yK 35 (.int .u8 (c.toNat:Int)) (fun w R Q=>ZaF (t:=9) (x:=.tmp 33) (k:=i) (i:=.tmp 34) qK qK qK qK hc) ?_
   refine xr 1 [yT 0 s,(2,.p 2 0),yB 3 false,yT 4 t,yB 5 l,yJ 6 ((t).size:Int),yJ 7 (i:Int),yB 36 (((c.toNat:Int):Int) == 47)] [bR4 2 59 false none 0 0 false none 0 0] ?_
   rw[(show ((c.toNat:Int) == 47)=false from ZpZ (b:=47) L)]
   refine xr 0 [yT 0 s,(2,.p 2 0),yB 3 false,yT 4 t,yB 5 l,yJ 6 ((t).size:Int),yJ 7 (i:Int),yB 36 false] [bR4 2 59 false none 0 0 false none 0 0] ?_
   refine yZ (xb (zJ (xS (zA (zB (xr 2 [yT 0 s,(2,.p 2 0),yB 3 false,yT 4 t,yB 5 l,yJ 6 ((t).size:Int),yJ 7 (i:Int),yJ 32 (IntKind.i64.wrap ((i:Int)+1))] [bR4 2 59 false none 0 0 false none 0 0] ?_))))))
   rw[ZdI (a:=i) qO]
   refine xr 1 [yT 0 s,(2,.p 2 0),yB 3 false,yT 4 t,yB 5 l,yJ 6 ((t).size:Int),yJ 7 ((i+1:Nat):Int)] [bR4 2 59 false none 0 0 false none 0 0] ?_
   refine xe ?_
   refine yP [yT 0 s,(2,.p 2 0),yB 3 false,yT 4 t,yB 5 l,yJ 6 ((t).size:Int),yJ 7 (((i+1):Nat):Int)] [(2,59,[.v (.bool false),.v (.slice none 0 0),.v (.bool false),.v (.slice none 0 0)])] (fun w=>True) (fun w Q=>trivial) ?_
   exact xI (t.size-(i+1)) qO ⟨(i+1),rfl,rfl,g0,ZqS hI hc L,rfl⟩
  have m0:i=t.size:=by have:=uB J;omega
  refine xN (zK (zK (xV ?_)))
  refine yP [yT 0 s,(2,.p 2 0),yB 3 false,yT 4 t,yB 5 l,yJ 6 ((t.size:Nat):Int)] [(2,59,[.v (.bool false),.v (.slice none 0 0),.v (.bool false),.v (.slice none 0 0)])] (fun w=>True) (fun w Q=>trivial) ?_
  exact jJ ⟨t.size,rfl,rfl,Zr7 (m0 ▸ hI),(uF _)⟩
 rintro F G ⟨p,rfl,rfl,K,i0⟩
 refine zC ?_
 obtain⟨x,hx⟩:=yE (t.extract 0 p)
 have S:bytes x=(bytes t).takeWhile xA:=by rw[←hx];exact (ZfY K).1
 have lx:x.size≤140737488351232:=uD (by rw[←hx];exact ZfX _ _ _) lt
 by_cases T:((bytes x).all zW && !(bytes x).isEmpty)=true
 ·obtain⟨dx,nx⟩:=Zhq T
  have MX:=ZkO dx
  refine zB (xr 2 [yT 0 s,(2,.p 2 0),yB 3 false,yT 4 t,yB 5 l,yJ 6 (p:Int),yT 39 t,yJ 40 (p:Int)] [bR4 2 59 false none 0 0 false none 0 0] ?_)
  refine yK 41 (.string x) (fun w R Q=>gN 0 p (t:=9) (x:=.tmp 39) (lo:=none) (hi:=(some (Operand.tmp 40))) qK qK qK (Or.inl ⟨rfl,rfl⟩) (Or.inr qK) qO i0 hx) ?_
  refine xr 0 [yT 0 s,(2,.p 2 0),yB 3 false,yT 4 t,yB 5 l,yJ 6 (p:Int),yT 41 x] [bR4 2 59 false none 0 0 false none 0 0] ?_
  refine xc 112 [.string x] 42 (fun x:ShI=>.tuple #[wO x,.bool true]) _ (fun w R Q=>(dA x _ qO).mono (fun _ _ h=>ZkP h dx nx)) fun⟨j0,M,N,O⟩=>?_
  refine xr 6 [yT 0 s,(2,.p 2 0),yB 3 false,yT 4 t,yB 5 l,yJ 6 (p:Int),(8,.p 8 0),yB 9 true] [bI2 8 57 j0 M N O,bR4 2 59 false none 0 0 false none 0 0] ?_
  refine yZ (zC (yY (xr 2 [yT 0 s,(2,.p 2 0),yB 3 false,yT 4 t,yB 5 l,yJ 6 (p:Int),(8,.p 8 0),yB 46 false] [bI2 8 57 j0 M N O,bR4 2 59 false none 0 0 false none 0 0] ?_)))
  refine yZ (xb (zJ (zA (yY (xr 3 [yT 0 s,(2,.p 2 0),yB 3 false,yT 4 t,yJ 6 (p:Int),yB 48 l,eS1 50 M N O] [bR4 2 59 false none 0 0 false none 0 0] ?_)))))
  refine xc 93 [.bool l,.slice M N O] 51 wO _ (fun w R Q=>(fW _ _ _ _ Q.2.mag).mono (fun _ _ h=>kE (by rw[show sg l ((zI (bytes x):Int)).natAbs=sg l (zI (bytes x)) by rw[tO]] at h;exact h))) fun⟨d,e,f,g⟩=>?_
  refine xr 3 [yT 0 s,(2,.p 2 0),yB 3 false,yT 4 t,yJ 6 (p:Int),(10,.p 10 0)] [bR4 10 59 d e f g false none 0 0,bR4 2 59 false none 0 0 false none 0 0] ?_
  refine yZ (zC (zC ?_))
  by_cases hl:p<t.size
  ·obtain⟨q,hq⟩:=yE (t.extract (p+1) t.size)
   have HQ:bytes q=(bytes t).drop (p+1):=by rw[←hq];exact (ZfY K).2
   have lq:q.size≤140737488351232:=uD (by rw[←hq];exact ZfX _ _ _) lt
   refine zB (xr 4 [yT 0 s,(2,.p 2 0),yB 3 false,yT 4 t,yJ 6 (p:Int),(10,.p 10 0),yB 56 (decide ((p:Int)<((t).size:Int)))] [bR4 10 59 d e f g false none 0 0,bR4 2 59 false none 0 0 false none 0 0] ?_)
   rw[Zr4 hl]
   refine xr 0 [yT 0 s,(2,.p 2 0),yB 3 false,yT 4 t,yJ 6 (p:Int),(10,.p 10 0),yB 56 true] [bR4 10 59 d e f g false none 0 0,bR4 2 59 false none 0 0 false none 0 0] ?_
   refine yZ (xa (zC ?_))
   by_cases hQ:((bytes q).all zW && !(bytes q).isEmpty)=true
   ·obtain⟨dq,nq⟩:=Zhq hQ
    have MQ:=ZkO dq
    refine zB (xr 3 [yT 0 s,(2,.p 2 0),yB 3 false,(10,.p 10 0),yT 58 t,yJ 60 (IntKind.i64.wrap ((p:Int)+1))] [bR4 10 59 d e f g false none 0 0,bR4 2 59 false none 0 0 false none 0 0] ?_)
    rw[ZdI (a:=p) qO]
    refine yK 61 (.string q) (fun w R Q=>gN (p+1) _ (t:=9) (x:=.tmp 58) (lo:=(some (Operand.tmp 60))) (hi:=none) qK qK qK (Or.inr qK) (Or.inl ⟨rfl,rfl⟩) qO (uF _) hq) ?_
    refine xr 0 [yT 0 s,(2,.p 2 0),yB 3 false,(10,.p 10 0),yT 61 q] [bR4 10 59 d e f g false none 0 0,bR4 2 59 false none 0 0 false none 0 0] ?_
    refine xc 112 [.string q] 62 (fun x:ShI=>.tuple #[wO x,.bool true]) _ (fun w R Q=>(dA q _ qO).mono (fun _ _ h=>ZkP h dq nq)) fun⟨m,n,o,r⟩=>?_
    refine xr 6 [yT 0 s,(2,.p 2 0),yB 3 false,(10,.p 10 0),(11,.p 11 0),yB 12 true] [bI2 11 57 m n o r,bR4 10 59 d e f g false none 0 0,bR4 2 59 false none 0 0 false none 0 0] ?_
    refine yZ (zC (zC ?_))
    by_cases U:zI (bytes q)=0
    ·refine zB (xr 4 [yT 0 s,(2,.p 2 0),yB 3 false,(10,.p 10 0),(11,.p 11 0),yB 67 false,eI2 68 m n o r] [bI2 11 57 m n o r,bR4 10 59 d e f g false none 0 0,bR4 2 59 false none 0 0 false none 0 0] ?_)
     refine xc 71 [vI2 m n o r] 69 (fun _:Unit=>yI ((zI (bytes q):Int)).sign) _ (fun w R Q=>yN (bG _ ((zI (bytes q):Int)) _ Q.2)) fun xx=>?_
     refine xr 1 [yT 0 s,(2,.p 2 0),yB 3 false,(10,.p 10 0),(11,.p 11 0),yB 67 false,(70,.v (.bool ((((zI (bytes q):Int)).sign:Int) == 0)))] [bI2 11 57 m n o r,bR4 10 59 d e f g false none 0 0,bR4 2 59 false none 0 0 false none 0 0] ?_
     rw[Zpl U]
     refine xr 1 [yT 0 s,(2,.p 2 0),yB 3 false,(10,.p 10 0),(11,.p 11 0),yB 71 true] [bI2 11 57 m n o r,bR4 10 59 d e f g false none 0 0,bR4 2 59 false none 0 0 false none 0 0] ?_
     refine yZ (xa (yY (xr 3 [yT 0 s,(2,.p 2 0),yB 3 false,(10,.p 10 0),(11,.p 11 0)] [bI2 11 57 m n o r,bR4 10 59 d e f g false none 0 0,bR4 2 59 false none 0 0 false none 0 0] ?_)))
     refine yZ (zG (zH (zH ?_)))
     refine yR (.tuple #[.agg #[.bool false,.slice none 0 0,.bool false,.slice none 0 0],.bool false]) fun w' R Q=>?_
     exact⟨_,false,0,rfl,R,xF.nil _,Or.inr ⟨rfl,by rw[←ZcQ];exact ZfZ HM (by rw[←S];exact T) (by rw[←K,zQ];exact hl) (by rw[←K,← HQ];exact Or.inr U)⟩⟩
    refine zB (xr 4 [yT 0 s,(2,.p 2 0),yB 3 false,(10,.p 10 0),(11,.p 11 0),yB 67 false,eI2 68 m n o r] [bI2 11 57 m n o r,bR4 10 59 d e f g false none 0 0,bR4 2 59 false none 0 0 false none 0 0] ?_)
    refine xc 71 [vI2 m n o r] 69 (fun _:Unit=>yI ((zI (bytes q):Int)).sign) _ (fun w R Q=>yN (bG _ ((zI (bytes q):Int)) _ Q.2)) fun xx=>?_
    refine xr 1 [yT 0 s,(2,.p 2 0),yB 3 false,(10,.p 10 0),(11,.p 11 0),yB 67 false,(70,.v (.bool ((((zI (bytes q):Int)).sign:Int) == 0)))] [bI2 11 57 m n o r,bR4 10 59 d e f g false none 0 0,bR4 2 59 false none 0 0 false none 0 0] ?_
    rw[ZnO U]
    refine xr 1 [yT 0 s,(2,.p 2 0),yB 3 false,(10,.p 10 0),(11,.p 11 0),yB 71 false] [bI2 11 57 m n o r,bR4 10 59 d e f g false none 0 0,bR4 2 59 false none 0 0 false none 0 0] ?_
    refine yZ (xb (zJ (zA (zB (xr 3 [yT 0 s,(2,.p 2 0),yB 3 false,(10,.p 10 0),eI2 74 d e f g,eI2 75 m n o r] [bR4 10 59 d e f g false none 0 0,bR4 2 59 false none 0 0 false none 0 0] ?_)))))
    refine xc 73 [vI2 d e f g,vI2 m n o r] 76 fZ _ (fun w R Q=>yM Zm5 (ZnJ _ _ (sg l (zI (bytes x))) ((zI (bytes q):Int)) _ Q.1.1.2 Q.1.2 (ZqQ MX lx) (Zr5 MQ lq) (Zma U))) fun⟨u,y,z,A,B,C,D,E⟩=>?_
    refine xr 1 [yT 0 s,(2,.p 2 0),yB 3 false,(10,.p 10 0)] [bR4 10 59 u y z A B C D E,bR4 2 59 false none 0 0 false none 0 0] ?_
    refine yZ (zC ?_)
    refine yO 7 zP ?_
    refine xf 2 [yT 0 s,(2,.p 2 0),yB 3 false,eR4 77 u y z A B C D E,eR4 78 u y z A B C D E] [bR4 10 59 u y z A B C D E,bR4 2 59 false none 0 0 false none 0 0] ?_
    refine xd 66 [vR4 u y z A B C D E] 79 (fun _:Unit=>.string ⟨(xE (Rat.divInt (sg l (zI (bytes x))) ((zI (bytes q):Int)))).toArray⟩) _ (fun w R Q=>yN (ZcP _ (Rat.divInt (sg l (zI (bytes x))) ((zI (bytes q):Int))) _ Q.2 x.size q.size (ZkQ (k:=q.size) (Zma U) (by rw[ZhZ];exact MX) MQ lx lq).1 (ZkQ (j:=x.size) (Zma U) (by rw[ZhZ];exact MX) MQ lx lq).2)) fun xx=>?_
    refine xf 4 [(2,.p 2 0),(3,.v (.bool ((⟨(xE (Rat.divInt (sg l (zI (bytes x))) ((zI (bytes q):Int)))).toArray⟩:ByteArray).toList == (s:ByteArray).toList)))] [bR4 2 59 u y z A B C D E,bR4 10 59 u y z A B C D E,bR4 2 59 false none 0 0 false none 0 0] ?_
    refine xz (yZ (zG ?_))
    refine yR (.tuple #[.agg #[.bool u,.slice y z A,.bool B,.slice C D E],.bool ((⟨(xE (Rat.divInt (sg l (zI (bytes x))) ((zI (bytes q):Int)))).toArray⟩:ByteArray).toList == (s:ByteArray).toList)]) fun w' R Q=>?_
    exact⟨_,_,_,rfl,R,Q.1.2,ZiV (by rw[Zl9 HM (by rw[←S];exact T) (by rw[←K,zQ];exact hl) (by rw[←K,← HQ];exact hQ) (by rw[←K,← HQ];exact U),← K,← HQ,← S]) ZkN⟩
   refine zB (xr 3 [yT 0 s,(2,.p 2 0),yB 3 false,(10,.p 10 0),yT 58 t,yJ 60 (IntKind.i64.wrap ((p:Int)+1))] [bR4 10 59 d e f g false none 0 0,bR4 2 59 false none 0 0 false none 0 0] ?_)
   rw[ZdI (a:=p) qO]
   refine yK 61 (.string q) (fun w R Q=>gN (p+1) _ (t:=9) (x:=.tmp 58) (lo:=(some (Operand.tmp 60))) (hi:=none) qK qK qK (Or.inr qK) (Or.inl ⟨rfl,rfl⟩) qO (uF _) hq) ?_
   refine xr 0 [yT 0 s,(2,.p 2 0),yB 3 false,(10,.p 10 0),yT 61 q] [bR4 10 59 d e f g false none 0 0,bR4 2 59 false none 0 0 false none 0 0] ?_
   refine xc 112 [.string q] 62 (fun x:ShI=>.tuple #[wO x,.bool false]) _ (fun w R Q=>(dA q _ qO).mono (fun _ _ h=>ZiY h hQ)) fun⟨V,W,X,Y⟩=>?_
   refine xr 6 [yT 0 s,(2,.p 2 0),yB 3 false,(10,.p 10 0),(11,.p 11 0),yB 12 false] [bI2 11 57 V W X Y,bR4 10 59 d e f g false none 0 0,bR4 2 59 false none 0 0 false none 0 0] ?_
   refine yZ (zC (yY (xr 7 [yT 0 s,(2,.p 2 0),yB 3 false,(10,.p 10 0),(11,.p 11 0),yB 71 true] [bI2 11 57 V W X Y,bR4 10 59 d e f g false none 0 0,bR4 2 59 false none 0 0 false none 0 0] ?_)))
   refine yZ (xa (yY (xr 3 [yT 0 s,(2,.p 2 0),yB 3 false,(10,.p 10 0),(11,.p 11 0)] [bI2 11 57 V W X Y,bR4 10 59 d e f g false none 0 0,bR4 2 59 false none 0 0 false none 0 0] ?_)))
   refine yZ (zG (zH (zH ?_)))
   refine yR (.tuple #[.agg #[.bool false,.slice none 0 0,.bool false,.slice none 0 0],.bool false]) fun w' R Q=>?_
   exact⟨_,false,0,rfl,R,xF.nil _,Or.inr ⟨rfl,by rw[←ZcQ];exact ZfZ HM (by rw[←S];exact T) (by rw[←K,zQ];exact hl) (by rw[←K,← HQ];exact Or.inl (sQ.2 hQ))⟩⟩
  refine zB (xr 4 [yT 0 s,(2,.p 2 0),yB 3 false,yT 4 t,yJ 6 (p:Int),(10,.p 10 0),yB 56 (decide ((p:Int)<((t).size:Int)))] [bR4 10 59 d e f g false none 0 0,bR4 2 59 false none 0 0 false none 0 0] ?_)
  rw[ZqP hl]
  refine xr 0 [yT 0 s,(2,.p 2 0),yB 3 false,yT 4 t,yJ 6 (p:Int),(10,.p 10 0),yB 56 false] [bR4 10 59 d e f g false none 0 0,bR4 2 59 false none 0 0 false none 0 0] ?_
  refine yZ (xb (zJ (zA (zC ?_))))
  refine yO 7 zP ?_
  refine xf 2 [yT 0 s,(2,.p 2 0),yB 3 false,eR4 77 d e f g false none 0 0,eR4 78 d e f g false none 0 0] [bR4 10 59 d e f g false none 0 0,bR4 2 59 false none 0 0 false none 0 0] ?_
  refine xd 66 [vR4 d e f g false none 0 0] 79 (fun _:Unit=>.string ⟨(xE (((sg l (zI (bytes x)):Int):Rat))).toArray⟩) _ (fun w R Q=>yN (ZcP _ (((sg l (zI (bytes x)):Int):Rat)) _ (xF.whole Q.2) x.size 1 ⟨by show (sg l (zI (bytes x))).natAbs<_;rw[ZhZ];exact MX,qO⟩ ZqR)) fun xx=>?_
  refine xf 4 [(2,.p 2 0),(3,.v (.bool ((⟨(xE (((sg l (zI (bytes x)):Int):Rat))).toArray⟩:ByteArray).toList == (s:ByteArray).toList)))] [bR4 2 59 d e f g false none 0 0,bR4 10 59 d e f g false none 0 0,bR4 2 59 false none 0 0 false none 0 0] ?_
  refine xz (yZ (zG ?_))
  refine zD (v:=.tuple #[.agg #[.bool d,.slice e f g,.bool false,.slice none 0 0],.bool ((⟨(xE (((sg l (zI (bytes x)):Int):Rat))).toArray⟩:ByteArray).toList == (s:ByteArray).toList)]) qK fun w' R Q=>?_
  exact⟨_,_,_,rfl,R,(xF.whole Q.1.2),ZiV (by rw[Zj5 HM (by rw[←S];exact T) (by rw[←K,zQ];omega),← S]) ZkN⟩
 refine zB (xr 2 [yT 0 s,(2,.p 2 0),yB 3 false,yT 4 t,yB 5 l,yJ 6 (p:Int),yT 39 t,yJ 40 (p:Int)] [bR4 2 59 false none 0 0 false none 0 0] ?_)
 refine yK 41 (.string x) (fun w R Q=>gN 0 p (t:=9) (x:=.tmp 39) (lo:=none) (hi:=(some (Operand.tmp 40))) qK qK qK (Or.inl ⟨rfl,rfl⟩) (Or.inr qK) qO i0 hx) ?_
 refine xr 0 [yT 0 s,(2,.p 2 0),yB 3 false,yT 4 t,yB 5 l,yJ 6 (p:Int),yT 41 x] [bR4 2 59 false none 0 0 false none 0 0] ?_
 refine xc 112 [.string x] 42 (fun x:ShI=>.tuple #[wO x,.bool false]) _ (fun w R Q=>(dA x _ qO).mono (fun _ _ h=>ZiY h T)) fun⟨Z,a0,b0,d0⟩=>?_
 refine xr 6 [yT 0 s,(2,.p 2 0),yB 3 false,yT 4 t,yB 5 l,yJ 6 (p:Int),(8,.p 8 0),yB 9 false] [bI2 8 57 Z a0 b0 d0,bR4 2 59 false none 0 0 false none 0 0] ?_
 refine yZ (zC (yY (xr 2 [yT 0 s,(2,.p 2 0),yB 3 false,yT 4 t,yB 5 l,yJ 6 (p:Int),(8,.p 8 0),yB 46 true] [bI2 8 57 Z a0 b0 d0,bR4 2 59 false none 0 0 false none 0 0] ?_)))
 refine yZ (xa (yY (xr 3 [yT 0 s,(2,.p 2 0),yB 3 false,yT 4 t,yB 5 l,yJ 6 (p:Int),(8,.p 8 0)] [bI2 8 57 Z a0 b0 d0,bR4 2 59 false none 0 0 false none 0 0] ?_)))
 refine yZ (zG (zH ?_))
 refine yR (.tuple #[.agg #[.bool false,.slice none 0 0,.bool false,.slice none 0 0],.bool false]) fun w' R Q=>?_
 exact⟨_,false,0,rfl,R,xF.nil _,Or.inr ⟨rfl,by rw[←ZcQ];exact Zl8 HM (by rw[←S];exact sQ.2 T)⟩⟩
section
variable {w w':World} {e:Ending} {l:List UInt8}
theorem Zf0 (h:ZeY w l e w')(b:xU l=none):wV (fun x:ShQ=>.tuple #[fZ x,.bool false]) (fun x w=>∃ q,xF w (fZ x) q) w e w':=by
 obtain⟨v,j,q,rfl,Q,a,⟨rfl,h1⟩|⟨rfl,h1⟩⟩:=h
 ·rw[b] at h1;cases h1
 obtain⟨s,A,l,c,t,B,m,d,rfl⟩:=a.shp
 exact⟨(s,A,l,c,t,B,m,d),rfl,Q,boxn Q (fun S f g i=>⟨q,a.nrb g i⟩)⟩
theorem ZbD {q:Rat}(h:ZeY w l e w')(a:xU l=some q):wV (fun x:ShQ=>.tuple #[fZ x,.bool true]) (fun x w=>xF w (fZ x) q) w e w':=by
 obtain⟨v,j,k,rfl,Q,b,⟨rfl,h1⟩|⟨rfl,h1⟩⟩:=h
 ·rw[a] at h1;injection h1 with h1;subst h1
  obtain⟨s,A,l,c,t,B,m,d,rfl⟩:=b.shp
  exact⟨(s,A,l,c,t,B,m,d),rfl,Q,boxn Q (fun S f g i=>b.nrb g i)⟩
 rw[a] at h1;cases h1
end
theorem ZbT:∀ l:List UInt8,Lib.indexByte l 47=if (l.takeWhile xA).length<l.length then ((l.takeWhile xA).length:Int) else -1
 | []=>by simp[Lib.indexByte]
 | b :: l=>by
  have e:=ZbT l
  unfold Lib.indexByte
  by_cases a:b=47
  ·subst a;simp[xA]
  have f:(b == (47:UInt8))=false:=by simpa using a
  have g:xA b=true:=by simp[xA,a]
  rw[f,e]
  simp only[oN,g,sE,if_true,qX,if_false]
  generalize (l.takeWhile xA).length=k
  generalize l.length=n
  by_cases d:k<n
  ·have c:k+1<n+1:=qO
   have h:((k:Int) == -1)=false:=qS
   rw[vC c,vC d]
   simp only[h,qX,if_false]
   omega
  have c:¬ k+1<n+1:=qO
  rw[uO c,uO d]
  rfl
theorem Zr8 {s:ByteArray}(h:bytes s=[47]):(0:Int)=Lib.indexByte (bytes s) 47:=by rw[h];rfl
theorem ZqT {s:ByteArray}(h:bytes s=[47]):((⟨#[47]⟩:ByteArray).toList == s.toList)=true:=by
 rw[Lib.toList_data,Lib.toList_data,show s.data.toList=[47] from h];rfl
theorem ZqU {s:ByteArray}(h:¬ bytes s=[47]):((⟨#[47]⟩:ByteArray).toList == s.toList)=false:=by
 rw[Lib.toList_data,Lib.toList_data];exact sW.2 (fun e=>h e.symm)
theorem ZqV {p:Nat}(h:p≤1000000):IntKind.i64.wrap (((p:Nat):Int)+((⟨#[47]⟩:ByteArray).size:Int))=((p+1:Nat):Int):=by
 rw[show (((⟨#[47]⟩:ByteArray).size:Nat):Int)=1 from rfl,IntKind.wrap_i64];omega
theorem ZkR (z:Int):(Lib.itoa z).all xA=true:=by
 rcases nF z 0 with h|h
 ·rw[ZcL h,qR,bX (kZ _)];rfl
 rw[show z=((z.toNat:Nat):Int) by omega,gO];exact bX (kZ _)
theorem Zhr {l:List UInt8}{q:Rat}(h:xU l=some q)(a:q.den=1):l=Lib.itoa q.num∧l.length≤(l.takeWhile xA).length:=by
 have b:xE q=l:=dN h
 have e:l=Lib.itoa q.num:=by rw[←b];unfold xE;rw[vC a]
 refine⟨e,?_⟩
 have:=ZkR q.num
 rw[←e] at this
 rw[(eK this).1]
 exact uF _
theorem ZnP {l:List UInt8}{q:Rat}(h:xU l=some q)(b:¬ q.den=1):l.takeWhile xA=Lib.itoa q.num∧l.drop ((l.takeWhile xA).length+1)=Lib.itoa (q.den:Int)∧(l.takeWhile xA).length<l.length:=by
 have d:xE q=l:=dN h
 have e:l=Lib.itoa q.num ++ 47 :: Lib.itoa (q.den:Int):=by rw[←d];unfold xE;rw[uO b];simp
 obtain⟨a,f⟩:=aO (p:=xA) (r:=Lib.itoa (q.den:Int)) (c:=47) (ZkR q.num) qD
 rw[←e] at a f
 refine⟨a,?_,?_⟩
 ·rw[a,e,← vV,List.drop_left];rfl
 rw[a,e];simp
theorem Zmb:Ending.returned (.tuple #[.string ⟨#[48]⟩,.string ⟨#[49]⟩])=Ending.returned (.tuple #[.string ⟨(Lib.itoa (0:Rat).num).toArray⟩,.string ⟨(Lib.itoa ((0:Rat).den:Int)).toArray⟩]):=by
 rw[show (0:Rat).num=((0:Nat):Int) from rfl,show ((0:Rat).den:Int)=((1:Nat):Int) from rfl,aP qD,aP qD];rfl
theorem Zj7 (s:ByteArray):Ending.returned (.tuple #[.string s,.string ⟨#[49]⟩])=Ending.returned (.tuple #[.string ⟨(bytes s).toArray⟩,.string ⟨(Lib.itoa ((1:Nat):Int)).toArray⟩]):=by
 rw[aP qD];rfl
theorem Zpm (x:Int):xE ((x:Int):Rat)=Lib.itoa x:=by unfold xE;exact vC rfl
theorem ZnQ (s:ByteArray)(w:World):yA 245 #[.string s,.int .u8 (((47:UInt8).toNat:Nat):Int)] w (RetV w (.int .i64 (Lib.indexByte (bytes s) 47))):=by
 refine (Tryz.stringslite_IndexByte s (((47:UInt8).toNat:Nat):Int) w).mono ?_
 rintro e w' ⟨rfl,rfl⟩
 exact⟨rfl,Fr.refl _ _⟩
theorem Zce (s:ByteArray)(w:World) :
 yA 219 #[.string s,.string ⟨#[47]⟩] w (RetV w (.int .i64 (Lib.indexByte (bytes s) 47))):=by
 refine zT (Φ:=fun w=>True) func219 rfl qK (fun w' d=>trivial) ?_
 refine yY (xr 1 [yT 0 s,yT 1 ⟨#[47]⟩,yJ 4 0] [] ?_)
 refine yZ (yY (xr 2 [yT 0 s,yT 1 ⟨#[47]⟩,yJ 4 0,yJ 15 ((⟨#[47]⟩:ByteArray).size:Int)] [] ?_))
 rw[(show (((⟨#[47]⟩:ByteArray).size:Nat):Int)=1 from rfl)]
 refine xr 1 [yT 0 s,yT 1 ⟨#[47]⟩,yJ 4 0,yJ 5 1] [] ?_
 refine yZ (zC (zS (zC ?_)))
 by_cases a:bytes s=[47]
 ·refine zB (xr 6 [yT 0 s,yT 1 ⟨#[47]⟩,yJ 4 0,yJ 5 1,yB 19 false,yB 22 ((⟨#[47]⟩:ByteArray).toList == (s:ByteArray).toList)] [] ?_)
  rw[ZqT a]
  refine xr 2 [yT 0 s,yT 1 ⟨#[47]⟩,yJ 4 0,yJ 5 1,yB 16 true] [] ?_
  refine yZ (xa (yY (xr 1 [yT 0 s,yT 1 ⟨#[47]⟩,yJ 4 0,yJ 5 1] [] ?_)))
  refine yZ (zG (xT (zH ?_)))
  refine yR (yI 0) fun w' R Q=>?_
  exact⟨by rw[←Zr8 a],R⟩
 refine zB (xr 6 [yT 0 s,yT 1 ⟨#[47]⟩,yJ 4 0,yJ 5 1,yB 19 false,yB 22 ((⟨#[47]⟩:ByteArray).toList == (s:ByteArray).toList)] [] ?_)
 rw[ZqU a]
 refine xr 2 [yT 0 s,yT 1 ⟨#[47]⟩,yJ 4 0,yJ 5 1,yB 16 false] [] ?_
 refine yZ (xb (yY (xr 3 [yT 0 s,yT 1 ⟨#[47]⟩,yJ 4 0,yJ 5 1,yB 24 true] [] ?_)))
 refine yZ (xa (yY (xr 2 [yT 0 s,yT 1 ⟨#[47]⟩,yJ 4 0,yJ 5 1,yT 27 s,yT 28 ⟨#[47]⟩] [] ?_)))
 refine yK 29 (.int .u8 (((47:UInt8).toNat:Nat):Int)) (fun w R Q=>cF (c:=47) (b:=⟨#[47]⟩) (t:=9) (x:=.tmp 28) (k:=0) (i:=.const (yI 0)) qK qK qK (by rfl) (by rfl)) ?_
 refine xr 0 [yT 0 s,yT 1 ⟨#[47]⟩,yJ 4 0,yJ 5 1,yT 27 s,(29,.v (.int .u8 (((47:UInt8).toNat:Nat):Int)))] [] ?_
 refine xc 245 [.string s,.int .u8 (((47:UInt8).toNat:Nat):Int)] 30 (fun _:Unit=>yI (Lib.indexByte (bytes s) 47)) _ (fun w R Q=>yN (ZnQ s _)) fun e=>?_
 refine xr 1 [yT 0 s,yT 1 ⟨#[47]⟩,yJ 4 (Lib.indexByte (bytes s) 47),yJ 5 1] [] ?_
 refine yZ (zG (xT (zH ?_)))
 refine yR (yI (Lib.indexByte (bytes s) 47)) fun w' R Q=>?_
 exact⟨rfl,R⟩
theorem ZiZ (s x y:ByteArray)(p:Nat)(w:World)(f:s.size≤100000)(c:p=((bytes s).takeWhile xA).length)(b:p<s.size)(d:s.extract 0 p=x)(e:s.extract (p+1) s.size=y) :
 yA 193 #[.string s,.string ⟨#[47]⟩] w (RetV w (.tuple #[.string x,.string y,.bool true])):=by
 have a:((bytes s).takeWhile xA).length<(bytes s).length:=by rw[←c,zQ];exact b
 refine zT (Φ:=fun w=>True) func193 rfl qK (fun w' g=>trivial) ?_
 refine yY (xr 3 [yT 0 s,yT 1 ⟨#[47]⟩,yT 4 ⟨#[]⟩,yT 5 ⟨#[]⟩,yB 6 false] [] ?_)
 refine yZ (zC (yY (xr 2 [yT 0 s,yT 1 ⟨#[47]⟩,yT 4 ⟨#[]⟩,yT 5 ⟨#[]⟩,yB 6 false,yT 8 s,yT 9 ⟨#[47]⟩] [] ?_)))
 refine xc 219 [.string s,.string ⟨#[47]⟩] 10 (fun _:Unit=>yI (p:Int)) _ (fun w R Q=>(Zce s _).mono (fun _ _ h=>zL h (by rw[ZbT,vC a,← c]))) fun i=>?_
 refine xr 1 [yT 0 s,yT 1 ⟨#[47]⟩,yT 4 ⟨#[]⟩,yT 5 ⟨#[]⟩,yB 6 false,yJ 7 (p:Int)] [] ?_
 refine yZ (yY (xr 2 [yT 0 s,yT 1 ⟨#[47]⟩,yT 4 ⟨#[]⟩,yT 5 ⟨#[]⟩,yB 6 false,yJ 7 (p:Int),yB 12 (decide ((p:Int)≥0))] [] ?_))
 rw[(show decide ((p:Int)≥0)=true from vM qO)]
 refine xr 0 [yT 0 s,yT 1 ⟨#[47]⟩,yT 4 ⟨#[]⟩,yT 5 ⟨#[]⟩,yB 6 false,yJ 7 (p:Int),yB 12 true] [] ?_
 refine yZ (xa (zC ?_))
 refine yO 12 zP ?_
 refine xf 2 [yT 0 s,yT 1 ⟨#[47]⟩,yT 4 ⟨#[]⟩,yT 5 ⟨#[]⟩,yB 6 false,yJ 7 (p:Int),yT 13 s,yJ 14 (p:Int)] [] ?_
 refine ZaJ 15 (.string x) qK qK qK qK qK qK (fun w Q=>gN 0 p (t:=9) (x:=.tmp 13) (lo:=none) (hi:=(some (Operand.tmp 14))) qK qK qK (Or.inl ⟨rfl,rfl⟩) (Or.inr qK) qO qO d) ?_
 refine xf 5 [yT 0 s,yT 4 ⟨#[]⟩,yT 5 ⟨#[]⟩,yB 6 false,yT 15 x,yT 16 s,yJ 20 (IntKind.i64.wrap ((p:Int)+((⟨#[47]⟩:ByteArray).size:Int)))] [] ?_
 rw[ZqV (p:=p) qO]
 refine ZaJ 21 (.string y) qK qK qK qK qK qK (fun w Q=>gN (p+1) _ (t:=9) (x:=.tmp 16) (lo:=(some (Operand.tmp 20))) (hi:=none) qK qK qK (Or.inr qK) (Or.inl ⟨rfl,rfl⟩) qO (uF _) e) ?_
 refine xf 3 [yT 0 s,yT 4 x,yT 5 y,yB 6 true] [] ?_
 refine xz (yZ (zG (zH ?_)))
 refine yR (.tuple #[.string x,.string y,.bool true]) fun w' R Q=>?_
 exact⟨rfl,R⟩
theorem Zj8 (s:ByteArray)(w:World)(a:¬ ((bytes s).takeWhile xA).length<(bytes s).length) :
 yA 193 #[.string s,.string ⟨#[47]⟩] w (RetV w (.tuple #[.string s,.string ⟨#[]⟩,.bool false])):=by
 refine zT (Φ:=fun w=>True) func193 rfl qK (fun w' b=>trivial) ?_
 refine yY (xr 3 [yT 0 s,yT 1 ⟨#[47]⟩,yT 4 ⟨#[]⟩,yT 5 ⟨#[]⟩,yB 6 false] [] ?_)
 refine yZ (zC (yY (xr 2 [yT 0 s,yT 1 ⟨#[47]⟩,yT 4 ⟨#[]⟩,yT 5 ⟨#[]⟩,yB 6 false,yT 8 s,yT 9 ⟨#[47]⟩] [] ?_)))
 refine xc 219 [.string s,.string ⟨#[47]⟩] 10 (fun _:Unit=>yI (-1)) _ (fun w R Q=>(Zce s _).mono (fun _ _ h=>zL h (by rw[ZbT,uO a]))) fun c=>?_
 refine xr 1 [yT 0 s,yT 1 ⟨#[47]⟩,yT 4 ⟨#[]⟩,yT 5 ⟨#[]⟩,yB 6 false,yJ 7 (-1)] [] ?_
 refine yZ (yY (xr 2 [yT 0 s,yT 1 ⟨#[47]⟩,yT 4 ⟨#[]⟩,yT 5 ⟨#[]⟩,yB 6 false,yJ 7 (-1),yB 12 false] [] ?_))
 refine yZ (xb (zJ (zA (yY (xr 4 [yT 4 s,yT 5 ⟨#[]⟩,yB 6 false] [] ?_)))))
 refine yZ (zG ?_)
 refine yR (.tuple #[.string s,.string ⟨#[]⟩,.bool false]) fun w' R Q=>?_
 exact⟨rfl,R⟩
theorem Zmc (s x y:ByteArray)(p:Nat)(w:World)(b:s.size≤100000)(c:p=((bytes s).takeWhile xA).length)(a:p<s.size)(d:s.extract 0 p=x)(e:s.extract (p+1) s.size=y) :
 yA 157 #[.string s,.string ⟨#[47]⟩] w (RetV w (.tuple #[.string x,.string y,.bool true])):=by
 refine zT (Φ:=fun w=>True) func157 rfl qK (fun w' f=>trivial) ?_
 refine yY (xr 3 [yT 0 s,yT 1 ⟨#[47]⟩,yT 4 ⟨#[]⟩,yT 5 ⟨#[]⟩,yB 6 false] [] ?_)
 refine yZ (yY (xr 2 [yT 4 ⟨#[]⟩,yT 5 ⟨#[]⟩,yB 6 false,yT 7 s,yT 8 ⟨#[47]⟩] [] ?_))
 refine xc 193 [.string s,.string ⟨#[47]⟩] 9 (fun _:Unit=>.tuple #[.string x,.string y,.bool true]) _ (fun w R Q=>yN (ZiZ s x y p _ b c a d e)) fun g=>?_
 refine xr 6 [yT 4 x,yT 5 y,yB 6 true] [] ?_
 refine yZ (zG ?_)
 refine yR (.tuple #[.string x,.string y,.bool true]) fun w' R Q=>?_
 exact⟨rfl,R⟩
theorem ZnR (s:ByteArray)(w:World)(a:¬ ((bytes s).takeWhile xA).length<(bytes s).length) :
 yA 157 #[.string s,.string ⟨#[47]⟩] w (RetV w (.tuple #[.string s,.string ⟨#[]⟩,.bool false])):=by
 refine zT (Φ:=fun w=>True) func157 rfl qK (fun w' b=>trivial) ?_
 refine yY (xr 3 [yT 0 s,yT 1 ⟨#[47]⟩,yT 4 ⟨#[]⟩,yT 5 ⟨#[]⟩,yB 6 false] [] ?_)
 refine yZ (yY (xr 2 [yT 4 ⟨#[]⟩,yT 5 ⟨#[]⟩,yB 6 false,yT 7 s,yT 8 ⟨#[47]⟩] [] ?_))
 refine xc 193 [.string s,.string ⟨#[47]⟩] 9 (fun _:Unit=>.tuple #[.string s,.string ⟨#[]⟩,.bool false]) _ (fun w R Q=>yN (Zj8 s _ a)) fun c=>?_
 refine xr 6 [yT 4 s,yT 5 ⟨#[]⟩,yB 6 false] [] ?_
 refine yZ (zG ?_)
 refine yR (.tuple #[.string s,.string ⟨#[]⟩,.bool false]) fun w' R Q=>?_
 exact⟨rfl,R⟩
theorem Zmd (s:ByteArray)(w:World)(n:Glob w)(i:(bytes s).length≤570) :
 yA 109 #[.string s] w (RetV w (.tuple #[.string ⟨(Lib.itoa (valF (bytes s)).num).toArray⟩,.string ⟨(Lib.itoa ((valF (bytes s)).den:Int)).toArray⟩])):=by
 refine zT (Φ:=fun w=>Glob w) func109 rfl qK (fun w' o=>n.ext o) ?_
 refine yY (xr 2 [yT 0 s,yT 2 ⟨#[]⟩,yT 3 ⟨#[]⟩] [] ?_)
 refine yZ (zC (yY (xr 1 [yT 0 s,yT 2 ⟨#[]⟩,yT 3 ⟨#[]⟩,yT 7 s] [] ?_)))
 by_cases b:(xU (bytes s)).isSome=true
 ·obtain⟨q,c⟩:=sC.1 b
  have d:=dO c
  refine xc 61 [.string s] 8 (fun _:Unit=>.bool true) _ (fun w R Q=>(bK s _ Q i).mono (fun _ _ h=>zL h (by rw[b]))) fun f=>?_
  refine xr 1 [yT 0 s,yT 2 ⟨#[]⟩,yT 3 ⟨#[]⟩,yB 9 false] [] ?_
  refine yZ (xb (zJ (zA (yY (xr 1 [yT 2 ⟨#[]⟩,yT 3 ⟨#[]⟩,yT 11 s] [] ?_)))))
  by_cases a:q.den=1
  ·refine xc 157 [.string s,.string ⟨#[47]⟩] 12 (fun _:Unit=>.tuple #[.string s,.string ⟨#[]⟩,.bool false]) _ (fun w R Q=>yN (ZnR s _ (by have:=(Zhr c a).2;omega))) fun f=>?_
   refine xr 7 [yT 2 ⟨#[]⟩,yT 3 ⟨#[]⟩,yT 4 s,yT 5 ⟨#[]⟩,yB 6 false] [] ?_
   refine yZ (zC (yY (xr 2 [yT 2 ⟨#[]⟩,yT 3 ⟨#[]⟩,yT 4 s,yT 5 ⟨#[]⟩,yB 17 true] [] ?_)))
   refine yZ (xa (yY (xr 3 [yT 2 s,yT 3 ⟨#[49]⟩,yT 4 s,yT 5 ⟨#[]⟩] [] ?_)))
   refine yZ (zG (zH ?_))
   refine yR (.tuple #[.string s,.string ⟨#[49]⟩]) fun w' R Q=>?_
   exact⟨by rw[d,a,← (Zhr c a).1];exact Zj7 s,R⟩
  obtain⟨r,j,k⟩:=ZnP c a
  obtain⟨p,e⟩:∃ p,p=((bytes s).takeWhile xA).length:=⟨_,rfl⟩
  rw[←e] at j k
  have g:p<s.size:=by rw[←zQ];exact k
  obtain⟨x,l⟩:=yE (s.extract 0 p)
  obtain⟨y,m⟩:=yE (s.extract (p+1) s.size)
  have t:x=⟨(Lib.itoa (q.num)).toArray⟩:=ZgB (by rw[←l,(ZfY e).1,r,gP])
  have u:y=⟨(Lib.itoa (q.den:Int)).toArray⟩:=ZgB (by rw[←m,(ZfY e).2,j,gP])
  refine xc 157 [.string s,.string ⟨#[47]⟩] 12 (fun _:Unit=>.tuple #[.string x,.string y,.bool true]) _ (fun w R Q=>yN (Zmc s x y p _ (by rw[←zQ];omega) e g l m)) fun f=>?_
  refine xr 7 [yT 2 ⟨#[]⟩,yT 3 ⟨#[]⟩,yT 4 x,yT 5 y,yB 6 true] [] ?_
  refine yZ (zC (yY (xr 2 [yT 2 ⟨#[]⟩,yT 3 ⟨#[]⟩,yT 4 x,yT 5 y,yB 17 false] [] ?_)))
  refine yZ (xb (zJ (zA (yY (xr 4 [yT 2 x,yT 3 y] [] ?_)))))
  refine yZ (zG ?_)
  refine yR (.tuple #[.string x,.string y]) fun w' R Q=>?_
  exact⟨by rw[d,t,u],R⟩
 have d:valF (bytes s)=0:=ZnC (by cases h:xU (bytes s) with|none=>rfl|some q=>rw[h] at b;exact absurd rfl b)
 refine xc 61 [.string s] 8 (fun _:Unit=>.bool false) _ (fun w R Q=>(bK s _ Q i).mono (fun _ _ h=>zL h (by rw[sQ.2 b]))) fun f=>?_
 refine xr 1 [yT 0 s,yT 2 ⟨#[]⟩,yT 3 ⟨#[]⟩,yB 9 true] [] ?_
 refine yZ (xa (yY (xr 2 [yT 0 s,yT 2 ⟨#[48]⟩,yT 3 ⟨#[49]⟩] [] ?_)))
 refine yZ (zG (zH ?_))
 refine yR (.tuple #[.string ⟨#[48]⟩,.string ⟨#[49]⟩]) fun w' R Q=>?_
 exact⟨by rw[d];exact Zmb,R⟩
def ZkS (s:ByteArray) (w:World) (e:Ending) (w':World):Prop:=∃ (r:ByteArray) (neg:Bool),e=.returned (.tuple #[.bool neg,.string r])∧xB (bytes s)=(neg,bytes r)∧Ext w w'
def Zf1 (x:ByteArray×Bool):Value:=.tuple #[.bool x.2,.string x.1]
theorem ZdK {s:ByteArray}{w w':World}{e:Ending}(h:ZkS s w e w'):wV Zf1 (fun x _=>xB (bytes s)=(x.2,bytes x.1)) w e w':=by
 obtain⟨r,neg,rfl,h,Q⟩:=h
 exact⟨(r,neg),rfl,Q,BoxN.pure h⟩
theorem Zpn {t:ByteArray}{i:Nat}{c:UInt8}(d:((bytes t).take i).all zW=true)(hc:t[i]? = some c)(e:¬ (c.toNat:Int)<48)(f:¬ (c.toNat:Int)>57):((bytes t).take (i+1)).all zW=true:=by
 have hi:i<t.size:=by
  rcases vL i t.size with b|b
  ·exact b
  rw[getElem?_neg t i qO] at hc;cases hc
 have a:t[i]=c:=by
  rw[oU t i hi] at hc
  injection hc
 rw[Zam _ _ hi,qR,d,a]
 have:zW c=true:=by unfold zW;simp;omega
 simp[this]
theorem ZkT {t:ByteArray}{i:Nat}{c:UInt8}(hc:t[i]? = some c)(h:(c.toNat:Int)<48∨(c.toNat:Int)>57):¬ (bytes t).all zW=true:=by
 have hi:i<t.size:=by
  rcases vL i t.size with b|b
  ·exact b
  rw[getElem?_neg t i qO] at hc;cases hc
 have a:t[i]=c:=by
  rw[oU t i hi] at hc
  injection hc
 intro d
 have e:t[i]∈bytes t:=by
  rw[←Zcw t hi];exact sD _
 have:=dK (uZ.1 d _ e)
 rw[a] at this
 unfold zW at *
 have f:=uZ.1 d _ e
 rw[a] at f
 simp at f
 omega
section
variable {s r:ByteArray} {neg:Bool} {x:Int}
theorem ZsH (h:bytes s=[48]):fvB (bytes s) x=(x == 0):=by unfold fvB;rw[vC h];rfl
theorem Zcf (h:¬ bytes s=[48])(b:xB (bytes s)=(neg,bytes r))(a:bytes r=[]∨(bytes r).head? = some 48∨¬ okE x∨¬ (bytes r).all zW=true):fvB (bytes s) x=false:=by
 unfold fvB
 rw[uO h,b]
 refine uV ?_
 rintro⟨c,d,e,f,_⟩
 rcases a with a|a|a|a
 ·exact c a
 ·exact d a
 ·exact a e
 exact a f
theorem ZqW {c c0:UInt8}(h:¬ bytes s=[48])(i:xB (bytes s)=(neg,bytes r))(b:r[0]? = some c0)(o:¬ (c0.toNat:Int)=48)(p:¬ x < -1048576)(t:¬ x>1048576)(f:(bytes r).all zW=true){k:Nat}(u:r.size=k+1)(d:r[k]? = some c):fvB (bytes s) x=(((c.toNat % 2:Nat):Int) == 1):=by
 have e:bytes r=(bytes r).take k ++ [c]:=by
  have a:k<r.size:=qO
  have:=Zam r k a
  rw[uC (by rw[zQ];omega)] at this
  rw[oU r k a] at d
  injection d with d
  rw[d] at this
  exact this
 have g:zI (bytes r)%2=c.toNat % 2:=by
  rw[e] at f ⊢
  exact Zpi f
 have j:(bytes r).head? = some c0:=by
  have a:0<r.size:=qO
  rw[oU r 0 a] at b
  injection b with b
  rw[←b];exact Zan a
 unfold fvB
 rw[uO h,i]
 have l:c0.toNat≠48:=qO
 show decide _=decide _
 refine pL.2 ⟨fun q=>?_,fun q=>⟨?_,?_,⟨qO,qO⟩,f,?_⟩⟩
 ·have:=q.2.2.2.2
  show ((c.toNat % 2:Nat):Int)=1
  rw[g] at this;omega
 ·intro m
  have n:bytes r=[]:=m
  have:(bytes r).length=0:=by rw[n];rfl
  rw[zQ] at this;omega
 ·rw[j];intro e;injection e with e;exact l (by rw[e];rfl)
 have v:((c.toNat % 2:Nat):Int)=1:=q
 show zI (bytes r)%2=1
 rw[g];omega
end
theorem Zpo {P:Program}{o:Oper}{ρ:Operand→Value}{w:World}{t k:TypeId}{x y:Operand}{c:UInt8}(a:o.op=Op.binOp .and t x y k)(b:ρ x=.int .u8 (c.toNat:Int))(d:ρ y=.int .u8 1):(execOp ρ o).run P w=.ok (.value (.int .u8 ((c.toNat % 2:Nat):Int))) w:=by
 have h:bits .and .u8 (c.toNat:Int) 1=((c.toNat % 2:Nat):Int):=by
  have f:=c.toNat_lt
  have e:(BitVec.ofInt 8 (c.toNat:Int)).toNat=c.toNat:=by
   rw[pX,oP];exact vH qO
  show IntKind.u8.wrap ((BitVec.ofInt 8 (c.toNat:Int) &&& BitVec.ofInt 8 1).toNat:Int)=_
  rw[BitVec.toNat_and,e,show (BitVec.ofInt 8 1).toNat=1 from rfl,oO,IntKind.wrap_u8];omega
 rw[←h]
 simp only[execOp,a,b,d,eqGuard,binOp]
 rfl
theorem ZdL (s:ByteArray)(w:World) :
 yA 70 #[.string s] w (ZkS s w):=by
 refine zT (Φ:=fun w=>True) func70 rfl qK (fun w' a=>trivial) ?_
 refine yY (xr 2 [yT 0 s,yB 2 false,yT 3 ⟨#[]⟩] [] ?_)
 refine yZ (yY (xr 1 [yB 2 false,yT 3 ⟨#[]⟩,yT 7 s] [] ?_))
 refine xc 120 [.string s,.string ⟨#[45]⟩] 8 (fun x:ByteArray×Bool=>.tuple #[.string x.1,.bool x.2]) _ (fun w R Q=>yM Zl4 (Zdu s _)) fun⟨r,neg⟩=>?_
 refine xr 5 [yB 2 false,yT 3 ⟨#[]⟩,yT 4 r,yB 5 neg] [] ?_
 refine yZ (yY (xr 4 [yB 2 neg,yT 3 r] [] ?_))
 refine yZ (zG ?_)
 refine yR (.tuple #[.bool neg,.string r]) fun w' R Q=>?_
 exact⟨r,neg,rfl,Q.2,R⟩
theorem ZcR (s:ByteArray)(x:Int)(w:World)(S:(bytes s).length≤1000000) :
 yA 44 #[yS s x] w (RetV w (.bool (fvB (bytes s) x))):=by
 refine zT (Φ:=fun w=>True) func44 rfl qK (fun w' T=>trivial) ?_
 refine yY (xq 2 [(1,.p 1 0),yB 2 false] [yG 1 76 s x] ?_)
 refine yZ (zC (zC ?_))
 by_cases a:bytes s=[48]
 ·refine zB (xq 3 [yB 8 ((s:ByteArray).toList == (⟨#[48]⟩:ByteArray).toList)] [] ?_)
  rw[ZkJ a]
  refine yZ (xa (yY (xq 4 [yB 2 ((x:Int) == 0)] [] ?_)))
  refine yZ (zG (zH ?_))
  refine yR (.bool ((x:Int) == 0)) fun w' R Q=>?_
  exact⟨by rw[ZsH a],R⟩
 refine zB (xq 3 [yB 8 ((s:ByteArray).toList == (⟨#[48]⟩:ByteArray).toList)] [] ?_)
 rw[ZkK a]
 refine yZ (xb (zJ (zA (yY (xq 2 [yT 14 s] [] ?_)))))
 refine xqc 70 [.string s] 15 Zf1 _ (fun w R Q=>yM ZdK (ZdL s _)) fun⟨r,neg⟩=>?_
 refine xq 5 [yT 4 r] [] ?_
 refine yZ (zC (zC ?_))
 refine SXc.know (p:=xB (bytes s)=(neg,bytes r)) (fun w _ Q=>Q.2) fun l=>?_
 have L:r.size≤1000000:=by have:=Zg5 l;rw[zQ] at this;omega
 by_cases B:bytes r=[]
 ·refine zB (xq 2 [yB 19 ((r:ByteArray).toList == (⟨#[]⟩:ByteArray).toList)] [] ?_)
  rw[ZkG B]
  refine xq 15 [yB 34 true] [] ?_
  refine yZ (xa (yY (xq 1 [yB 2 false] [] ?_)))
  refine yZ (zG (zH ?_))
  refine yR (.bool false) fun w' R Q=>?_
  exact⟨by rw[Zcf a l (Or.inl B)],R⟩
 obtain⟨C,M,D⟩:=ZiW B
 have N:=ZeZ B
 refine zB (xq 2 [yB 19 ((r:ByteArray).toList == (⟨#[]⟩:ByteArray).toList)] [] ?_)
 rw[ZkH B]
 refine xq 2 [yB 20 false,yT 21 r] [] ?_
 refine xqk 22 (.int .u8 (C.toNat:Int)) (fun w R Q=>cF (t:=9) (x:=.tmp 21) (k:=0) (i:=.const (yI 0)) qK qK qK (by rfl) D) ?_
 refine xq 3 [yB 25 (((C.toNat:Int):Int) == 48)] [] ?_
 rcases bl2 ((((C.toNat:Int):Int) == 48)) with b|b
 ·rw[b]
  have n:=tV.1 b
  refine xq 9 [yB 34 true] [] ?_
  refine yZ (xa (yY (xq 1 [yB 2 false] [] ?_)))
  refine yZ (zG (zH ?_))
  refine yR (.bool false) fun w' R Q=>?_
  exact⟨by rw[Zcf a l (Or.inr (Or.inl (by rw[M,show C=48 from UInt8.toNat_inj.1 (by show C.toNat=48;omega)])))],R⟩
 rw[b]
 have n:=lG b
 refine xq 5 [yB 30 (decide (x<(-1048576)))] [] ?_
 rcases bl2 ((decide (x<(-1048576)))) with d|d
 ·rw[d]
  have o:=uA d
  refine xq 4 [yB 34 true] [] ?_
  refine yZ (xa (yY (xq 1 [yB 2 false] [] ?_)))
  refine yZ (zG (zH ?_))
  refine yR (.bool false) fun w' R Q=>?_
  exact⟨by rw[Zcf a l (Or.inr (Or.inr (Or.inl (by rintro⟨O,P⟩;omega))))],R⟩
 rw[d]
 have o:=uB d
 refine xq 4 [yB 34 (decide (x>1048576))] [] ?_
 refine xe (zA ?_)
 refine yQ ((decide (x>1048576))) (fun f=>?_) fun f=>?_
 ·have q:=uA f
  refine yY (xq 1 [yB 2 false] [] ?_)
  refine yZ (zG (zH ?_))
  refine yR (.bool false) fun w' R Q=>?_
  exact⟨by rw[Zcf a l (Or.inr (Or.inr (Or.inl (by rintro⟨O,P⟩;omega))))],R⟩
 have q:=uB f
 refine zJ (zA (zC (yY (xq 3 [yJ 36 ((r).size:Int),yJ 37 0] [] ?_))))
 refine yZ (zS ?_)
 refine yC [yB 2 false,yT 4 r,yJ 36 ((r).size:Int),yJ 37 ((0:Nat):Int)] [] (fun w=>True) (fun w Q=>trivial) ?_
 refine xR (fun H I J=>∃ (k:Nat),I=ofL [yB 2 false,yT 4 r,yJ 36 ((r).size:Int),yJ 37 (k:Int)] []∧J=(fun w=>True)∧(k≤r.size)∧(((bytes r).take k).all zW=true)∧H=(r.size-k)) ((r.size-0)) ⟨0,rfl,rfl,(tA _),rfl,rfl⟩ ?_
 rintro H I J ⟨k,rfl,rfl,U,K,rfl⟩
 refine yY (xq 1 [yB 38 (decide ((k:Int)<((r).size:Int)))] [] ?_)
 refine yZ (zC ?_)
 refine yQ ((decide ((k:Int)<((r).size:Int)))) (fun g=>?_) fun g=>?_
 ·have u:=uA g
  have E:k<r.size:=qO
  obtain⟨c,m⟩:∃ c,r[k]? = some c:=⟨r[k],by simp[E]⟩
  refine zJ (zA (zC (zS (yY (xq 2 [yJ 5 (k:Int)] [] ?_)))))
  refine yZ (yY (xq 2 [yT 40 r,yJ 41 (k:Int)] [] ?_))
  refine xqk 42 (.int .u8 (c.toNat:Int)) (fun w R Q=>cF (t:=9) (x:=.tmp 40) (k:=k) (i:=.tmp 41) qK qK qK qK m) ?_
  refine xq 2 [yB 44 (decide ((c.toNat:Int)<48))] [] ?_
  rcases bl2 ((decide ((c.toNat:Int)<48))) with e|e
  ·rw[e]
   have v:=uA e
   refine xq 5 [yB 49 true] [] ?_
   refine yZ (xa (yY (xq 1 [yB 2 false] [] ?_)))
   refine yZ (zG (xT (zH (zH (xT (zH ?_))))))
   refine yR (.bool false) fun w' R Q=>?_
   exact⟨by rw[Zcf a l (Or.inr (Or.inr (Or.inr (ZkT m qO))))],R⟩
  rw[e]
  have v:=uB e
  refine xq 2 [yT 45 r,yJ 46 (k:Int)] [] ?_
  refine xqk 47 (.int .u8 (c.toNat:Int)) (fun w R Q=>cF (t:=9) (x:=.tmp 45) (k:=k) (i:=.tmp 46) qK qK qK qK m) ?_
  refine xq 2 [yB 49 (decide ((c.toNat:Int)>57))] [] ?_
  refine xe (zA ?_)
  refine yQ ((decide ((c.toNat:Int)>57))) (fun j=>?_) fun j=>?_
  ·have z:=uA j
   refine yY (xq 1 [yB 2 false] [] ?_)
   refine yZ (zG (xT (zH (zH (xT (zH ?_))))))
   refine yR (.bool false) fun w' R Q=>?_
   exact⟨by rw[Zcf a l (Or.inr (Or.inr (Or.inr (ZkT m qO))))],R⟩
  have z:=uB j
  refine zJ (xS (zA (zB (xq 1 [yJ 50 (IntKind.i64.wrap ((k:Int)+1))] [] ?_))))
  rw[yW ((k:Int)+1) (((k+1:Nat):Int)) qO]
  refine xq 1 [yJ 37 ((k+1:Nat):Int)] [] ?_
  refine xe ?_
  refine yP [yB 2 false,yT 4 r,yJ 36 ((r).size:Int),yJ 37 (((k+1):Nat):Int)] [] (fun w=>True) (fun w Q=>trivial) ?_
  exact xI ((r.size-(k+1))) qO ⟨(k+1),rfl,rfl,E,(Zpn K m qO qO),rfl⟩
 have u:=uB g
 have F:(bytes r).all zW=true:=by have h:=K;rw[uC (by rw[zQ];omega)] at h;exact h
 refine xN (zK (zK (xV (zA (zC ?_)))))
 obtain⟨A,G⟩:∃ A,r.size=A+1:=⟨r.size-1,qO⟩
 obtain⟨c,m⟩:∃ c,r[A]? = some c:=⟨r[A],by simp[G]⟩
 refine zB (xq 4 [yT 51 r,yJ 54 (IntKind.i64.wrap (((r).size:Int)-1))] [] ?_)
 rw[yW ((r.size:Int)-1) ((A:Int)) qO]
 refine xqk 55 (.int .u8 (c.toNat:Int)) (fun w R Q=>cF (t:=9) (x:=.tmp 51) (k:=A) (i:=.tmp 54) qK qK qK qK m) ?_
 refine xqk 56 (.int .u8 ((c.toNat % 2:Nat):Int)) (fun w R Q=>Zpo (t:=5) (k:=5) (x:=.tmp 55) (y:=.const (.int .u8 1)) qK qK qK) ?_
 refine xq 2 [yB 2 ((((c.toNat % 2:Nat):Int):Int) == 1)] [] ?_
 refine yZ (zG ?_)
 refine yR (.bool ((((c.toNat % 2:Nat):Int):Int) == 1)) fun w' R Q=>?_
 exact⟨by rw[ZqW a l D qO qO qO F G m],R⟩
theorem ZeC (b:Int)(w:World) :
 yA 62 #[.int .i64 b] w (RetV w (.bool (decide (8≤b∧b≤1024)))):=by
 refine zT (Φ:=fun w=>True) func62 rfl qK (fun w' d=>trivial) ?_
 refine yY (xq 1 [yB 2 false] [] ?_)
 refine yZ (yY (xq 3 [yB 5 (decide (b≥8))] [] ?_))
 rcases bl2 ((decide (b≥8))) with a|a
 ·rw[a]
  have c:=uA a
  refine xq 4 [yB 2 (decide (b≤1024))] [] ?_
  refine yZ (zG ?_)
  refine yR (.bool (decide (b≤1024))) fun w' R Q=>?_
  exact⟨vI (fun b=>Ending.returned (Value.bool b)) (pL.2 ⟨fun h=>⟨qO,h⟩,fun h=>h.2⟩),R⟩
 rw[a]
 have c:=uB a
 refine xq 4 [yB 2 false] [] ?_
 refine yZ (zG ?_)
 refine yR (.bool false) fun w' R Q=>?_
 exact⟨by rw[uV (p:=8≤b∧b≤1024) qO],R⟩
section
open Go.RowKit Go.Sort
def Zbd (w:World) (l:List UInt8) (e:Ending) (w':World):Prop:=e=.returned (.string ⟨l.toArray⟩)∧Ext w w'
theorem Zda (u:Nat)(w:World)(a:u<100) :
 yA 176 #[.int .u64 (u:Int),.int .i64 10] w (Zbd w (Lib.decDigits u)):=by
 have b:(u:Int)<100:=qO
 go_enter func176,ntmps176
 go_wp2_with (go_at_call 201;refine (Tryz.internal_strconv_small u a _).mono ?_;rintro e w' ⟨rfl,rfl⟩)
 go_ret
 exact⟨rfl,Fr.refl _ _⟩
theorem Zel (u i:Nat)(w:World)(v:Glob w)(C:100≤u)(a:u<18446744073709551616)(c:Lib.nDigits u=i) :
 yA 176 #[.int .u64 (u:Int),.int .i64 10] w (Zbd w (Lib.decDigits u)):=by
 have n:=Ziv u (by rw[zO];exact a)
 have g:=Lib.decDigits_length u
 rw[c] at g
 rw[g] at n
 have o:prog.arrayLen 247=24:=by simp[Program.arrayLen,underlying247]
 have z:∀ W,(Instr.sliceAt 247 (.pointer (some ⟨w.heap.size,0,none⟩)) none (some (.int .i64 (i:Int))) none).run prog W=.ok (.slice (some ⟨w.heap.size,0,none⟩) i 24) W:=fun W=>by
  rw[run_sliceAt_array_h W 247 ⟨w.heap.size,0,none⟩ (by simp[Program.arrayLen,Program.elem,underlying247]) .i64 (i:Int) qO (by rw[o];omega)]
  go_simp
 have l:=Lib.holds_zero0 w 247 i qO
 have d:=Tryz.internal_strconv_formatBase10 w.heap.size 0 24 u (Array.replicate i 0) (w.alloc (.cells Lib.zeros24 247)) l (by rw[oF,← c];exact Lib.lt_pow_nDigits u) a (by rw[oF];omega)
 have f:=Tryz.internal_strconv_numDigits u qO a (w.alloc (.cells Lib.zeros24 247)) (Lib.tabIs_alloc v.1 _)
 rw[oF] at d
 rw[c] at f
 have q:=zh l
 have x:=zh g
 have r:=zh c
 have D:(100:Int)≤(u:Int):=qO
 clear l o g c v
 go_enter func176,ntmps176
 go_wp2_with (go_at_call 202;refine f.mono ?_;rintro e w' ⟨rfl,rfl⟩)
 go_at_call 203
 refine d.mono ?_
 rintro e w' ⟨rfl,k,E,m,rfl,p⟩
 have s:(convert 191 9 (.slice (some ⟨w.heap.size,0,none⟩) i 24)).run prog ((putRow (fun (b:UInt8)=>Value.int .u8 (b.toNat:Int)) (w.alloc (.cells Lib.zeros24 247)) w.heap.size 0 m).drewN k)=.ok (.string ⟨(Lib.decDigits u).toArray⟩) ((putRow (fun (b:UInt8)=>Value.int .u8 (b.toNat:Int)) (w.alloc (.cells Lib.zeros24 247)) w.heap.size 0 m).drewN k):=by
  have h:=run_convert_bytes_back (P:=prog) ((putRow (fun (b:UInt8)=>Value.int .u8 (b.toNat:Int)) (w.alloc (.cells Lib.zeros24 247)) w.heap.size 0 m).drewN k) 191 9 5 ⟨w.heap.size,0,none⟩ 24 (Lib.decDigits u) underlying191 underlying5 underlying9 (fun j t=>by
   rw[Lib.row_is_numeral (by rw[r.out];exact p) j t,Lib.add_plain,World.cell?_drewN]
   exact cell?_putRow (fun (b:UInt8)=>Value.int .u8 (b.toNat:Int)) _ w.heap.size 0 _ m q.out (by rw[p.size,oF]) j (by rw[p.size];rw[x.out] at t;exact t))
  rw[x.out] at h
  exact h
 obtain⟨A,y⟩:=Lib.fin_at w (.cells Lib.zeros24 247) m k 0
 have Q:Ext w ((putRow (fun (b:UInt8)=>Value.int .u8 (b.toNat:Int)) (w.alloc (.cells Lib.zeros24 247)) w.heap.size 0 m).drewN k):=by
  rw[y];exact Fr.ofBelow (Lib.below_grow _ w (uF _) k A)
 generalize (putRow (fun (b:UInt8)=>Value.int .u8 (b.toNat:Int)) (w.alloc (.cells Lib.zeros24 247)) w.heap.size 0 m).drewN k=w1 at Q s ⊢
 have B:=zh Q
 clear Q y p d f
 go_wp2
 go_ret
 exact⟨rfl,B.out⟩
theorem ZgC (u:Nat)(w:World)(b:Glob w)(a:u<W64) :
 yA 148 #[.int .u64 (u:Int),.int .i64 10] w (Zbd w (Lib.decDigits u)):=by
 have h:yA 176 #[.int .u64 (u:Int),.int .i64 10] w (Zbd w (Lib.decDigits u)):=by
  rcases vL u 100 with h|h
  ·exact Zda u w h
  exact Zel u _ w b h (by rw[zO] at a;exact a) rfl
 have H:=zh h
 clear h b a
 go_enter func148,ntmps148
 go_wp2_with fail
 refine H.out.mono ?_
 rintro e w' ⟨rfl,Q⟩
 have c:=zh Q
 clear Q
 go_wp2
 go_ret
 exact⟨rfl,c.out⟩
end
def chV:List Nat→Nat
 | []=>0
 | c :: cs=>c+10^19*chV cs
theorem ZcT (c:Nat):∀ a:List Nat,chV (a ++ [c])=chV a+(10^19)^a.length*c
 | []=>by simp[chV]
 | d :: a=>by
  show d+10^19*chV (a ++ [c])=d+10^19*chV a+(10^19)^(a.length+1)*c
  rw[ZcT c a,uN (m:=a.length) (n:=10^19),uK,← uG,uH (10^19) ((10^19)^a.length),tS]
structure ChR (n:Nat) (cs:List Nat) (r:Nat):Prop where
 eq:n=chV cs+(10^19)^cs.length*r
 lt:∀ c∈cs,c<10^19
 top:r=0→cs≠[]→∃ l c,cs=l ++ [c]∧0<c
theorem ChR.start (n:Nat):ChR n [] n:=⟨by simp[chV],fun c h=>by simp at h,fun _ h=>absurd rfl h⟩
theorem ChR.step {n r:Nat}{cs:qN}(h:ChR n cs r)(e:0<r):ChR n (cs ++ [r%10^19]) (r/10^19):=by
 refine⟨?_,fun c b=>?_,fun d _=>⟨cs,_,rfl,?_⟩⟩
 ·rw[ZcT,vA,rF,uN (m:=cs.length) (n:=10^19),uG,tS,← uK,sF]
  exact h.eq
 ·rcases sN.1 b with a|a
  ·exact h.lt c a
  rw[rN.1 a];exact uM _ qD
 have a:=sF r (10^19)
 rw[d,tT,tG] at a
 omega
theorem ZkU {cs:qN}(h:∃ l c,cs=l ++ [c]∧0<c):0<chV cs:=by
 obtain⟨l,c,rfl,a⟩:=h
 rw[ZcT]
 have:=sL (uU (n:=l.length) (show 0<10^19 by decide)) a
 omega
theorem Zi2 {cs:qN}{i:Nat}(hi:i<cs.length)(h:∃ l c,cs=l ++ [c]∧0<c):∃ l c,cs.drop i=l ++ [c]∧0<c:=by
 obtain⟨l,c,rfl,a⟩:=h
 rw[vA,rF] at hi
 exact⟨l.drop i,c,List.drop_append_of_le_length qO,a⟩
theorem Zpp {cs:qN}{i c:Nat}(hi:i<cs.length)(a:cs[i]?.getD 0=c)(d:∀ c∈cs,c<10^19)(e:∃ l c,cs=l ++ [c]∧0<c) :
 wN (chV (cs.drop i))=if i+1<cs.length then wN (chV (cs.drop (i+1))) ++ (List.replicate (19-(Lib.decDigits c).length) 48 ++ Lib.decDigits c) else Lib.decDigits c:=by
 have f:cs.drop i=c :: cs.drop (i+1):=by
  rw[tP hi]
  rw[uP hi] at a
  simp only[qG] at a
  rw[a]
 have b:c<10^19:=by
  rw[uP hi] at a
  simp only[qG] at a
  rw[←a];exact d _ (sD hi)
 rw[f]
 show wN (c+10^19*chV (cs.drop (i+1)))=_
 by_cases h:i+1<cs.length
 ·rw[vC h,vP,uH,ZhM (ZkU (Zi2 h e)) 19 c b,Zpf qO b]
 rw[uO h,vE qO]
 show wN (c+10^19*0)=_
 have g:=ZkU (Zi2 hi e)
 rw[f,vE qO] at g
 rw[tT,tG]
 exact jA (by simp[chV] at g;omega)
theorem Zi6 (t:ByteArray)(v:Nat)(w:World)(b:(bytes t).all zW=true)(a:zI (bytes t)=v)(g:t.size≠0)(k:t.size≤1099511627776)(c:v<18446744073709551616) :
 yA 160 #[.string t,.int .i64 10,.int .i64 64] w fun e w'=>e=.returned (.tuple #[.int .u64 (v:Int),.nilIface])∧Ext w w':=by
 have d:Lib.parseUint10 0 t.data.toList=.ok v:=by
  have h:=pu10 (bytes t) 0 b (by rw[sM,vW,a];exact c)
  rw[sM,vW,a] at h
  exact h
 have h:=Tryz.internal_strconv_ParseUint_10_b64 t g qO w
 rw[d] at h
 have f:yA 196 #[.string t,.int .i64 10,.int .i64 64] w fun e w'=>e=.returned (.tuple #[.int .u64 (v:Int),.nilIface])∧Ext w w':=by
  refine h.mono ?_
  rintro e w' ⟨rfl,rfl⟩
  exact⟨rfl,rfl,rfl,rfl,by rw[Lib.bytesWorld_size];omega,fun i hi _=>Lib.bytesWorld_at_old _ _ _ i hi⟩
 have H:=zh f
 clear h f d b a c
 go_enter func160,ntmps160
 go_wp2_with fail
 refine H.out.mono ?_
 rintro e w' ⟨rfl,Q⟩
 have j:=zh Q
 clear Q
 go_wp2
 go_ret2
 exact⟨rfl,j.out⟩
def Zme (w wr:World) (T:Nat) (d:ByteArray) (A:Option Addr) (cap:Nat) (xs:List Nat):Prop :=
 Buf .u64 141 wr A cap xs∧PaR T (bytes d) xs∧Ext w wr∧∀ b,xM A b→w.heap.size≤b
theorem ZcV (d:ByteArray)(w:World)(T:Nat)(hd:(bytes d).all zW=true)(hT:zI (bytes d)=T)(hw:wl T≤1048576)(hl:d.size≤1099511627776) :
 yA 111 #[.string d] w (lB w T):=by
 have HS:=zh (PaR.start hd hT)
 clear hd hT
 have ha:=ZaV
 go_enter func111,ntmps111
 go_wp2
 go_loopw [0,3] (fun v0 v3 wr=>∃ (d:ByteArray) (A:Option Addr) (f:Nat) (j:List Nat),v0=.string d∧v3=.slice A j.length f∧d.size≤1099511627776∧Hid (Zme w wr T d A f j)) (fun v0 _ _=>match v0 with | .string d=>d.size | _=>0)
 case atStart=>exact⟨d,none,0,[],rfl,rfl,hl,Buf.nil,HS.out,Fr.refl _ _,fun b t=>by obtain⟨a,ha,_⟩:=t;cases ha⟩
 case round =>
  obtain⟨d,A,f,j,rfl,rfl,hl,B⟩:=hrel
  by_cases t0:0<d.size
  ·have u0:=B.out.2.1.len
   obtain⟨n,hn⟩:=yE d.size
   obtain⟨z,hz⟩:=yE ((n-1)%19)
   have w0:z≤18:=qO
   have c0:z+1≤n:=by have:=nG (n-1) 19;omega
   have e1:((n:Int)-1)%19=(z:Int):=qO
   have y0:(1:Int)≤(n:Int):=qO
   have z0:(0:Int)≤(n:Int)-1:=qO
   have A0:((z:Int)+1)≤(n:Int):=qO
   have B0:((z:Int)+1).toNat=z+1:=qO
   have I:(bytes d).length=n:=by rw[zQ];exact hn
   have J:(d.extract 0 (z+1)).size=z+1:=by rw[rT];omega
   have K:bytes (d.extract 0 (z+1))=(bytes d).take (z+1):=by rw[lZ];simp
   obtain⟨c,hc⟩:=yE (zI ((bytes d).take (z+1)))
   have d0:=B.out.2.1.chunk (z:=z) qO (by rw[I];exact hz)
   rw[hc] at d0
   have P:∀ W,yA 160 #[.string (d.extract 0 (z+1)),.int .i64 10,.int .i64 64] W fun e w'=>e=.returned (.tuple #[.int .u64 (c:Int),.nilIface])∧Ext W w':=fun W =>
    Zi6 _ c W (by
     rw[K,uZ];intro x hx
     exact uZ.1 B.out.2.1.all _ (tZ hx)) (by rw[K];exact hc) (by rw[J];omega) (by rw[J];omega) qO
   have Q:bytes (d.extract (z+1) d.size)=(bytes d).drop (z+1):=by
    rw[lZ,uC (by rw[vT,zQ];exact uF _)]
   have C:(d.extract (z+1) d.size).size=d.size-(z+1):=by rw[rT];omega
   have e0:=zh Q
   have D:=zh C
   have f0:=zh P
   have g0:Hid (((bytes d).length-1)%19=z):=by unfold Hid;rw[I];exact hz
   have i0:Hid (0<(bytes d).length):=by unfold Hid;omega
   have Hc:=zh hc
   have Hn:=zh hn
   clear Q C P K J I hc hz
   go_wp2_with fail
   refine (f0.out _).mono ?_
   rintro e wB ⟨rfl,E⟩
   have HX:=zh E
   clear E
   have C0:z+1≤d.size:=by rw[Hn.out];exact c0
   clear hn
   go_wp2_with fail
   have j0:=zh B.out.1
   have HP:=zh B.out.2.1
   have k0:=zh B.out.2.2.1
   have u:=zh B.out.2.2.2
   have F:(d.extract (z+1) d.size).size≤1099511627776:=by rw[D.out];omega
   have l:Hid ((d.extract (z+1) d.size).size<d.size):=by rw[Hid,D.out];omega
   have o:Hid (∀ m q,iT j 10000000000000000000 c j.length m q→PaR T (bytes (d.extract (z+1) d.size)) (if q=0 then m else m ++ [q])):=by
    intro m q G
    rw[e0.out]
    exact HP.out.step i0.out g0.out (by rw[Hc.out];exact G)
   generalize d.extract (z+1) d.size=d2 at *
   have l0:Hid (c<W64):=by unfold Hid;rw[zO];omega
   have L:Hid (10000000000000000000<W64):=by unfold Hid;rw[zO];omega
   go_loopw [5,32] (fun v9 m0 wx=>∃ (k q:Nat) (m:List Nat),k≤j.length∧m0=.int .i64 (k:Int)∧v9=.int .u64 (q:Int)∧Hid (iT j 10000000000000000000 c k m q)∧Hid (Buf .u64 141 wx A f m)∧Hid (Fr (xM A) wB wx)) (fun _ v _=>j.length-(intOf v).toNat)
   case atStart=>exact⟨0,c,j,qO,rfl,rfl,iT.start HP.out.dig l0.out,j0.out.ext HX.out,Fr.refl _ _⟩
   case round =>
    obtain⟨k,q,m,hk,rfl,rfl,G,hB,hF⟩:=hrel
    have g:m.length=j.length:=G.out.1
    by_cases n0:k<j.length
    ·obtain⟨b,rfl,R,hC,S,U⟩:=hB.out.open_ (by intro e;rw[e] at g;simp at g;omega)
     obtain⟨y,hy⟩:=yE (m[k]?.getD 0)
     have M:=R.cell (i:=k) qO
     rw[hy] at M
     have x0:=R.frozen k
     have V:Hid (y<W64):=hy ▸ G.out.2.2.1.getD zM k
     have o0:=zh (G.out.step n0 hy L.out)
     have X:=fun v=>Buf.set_ R hC S U k v qO
     have p0:=zh X
     have q0:=zh G.out.2.2.2.1
     have HW:Hid (IntKind.u64.wrap ((wK y 10000000000000000000:Int)+(xL (xC y 10000000000000000000) q 0:Int))=(maHi y 10000000000000000000 q:Int)):=by
      have h:=Zb8 V.out L.out q0.out
      unfold Hid maHi at *
      rw[←rH,wG _ h]
     have r0:=R.lt
     have r:=zh g
     clear R hC S U hy X g
     go_wp2_with (go_at_call 161;refine (Zaj _ _ V.out L.out _).mono ?_;rintro e w' ⟨rfl,rfl⟩)
     go_roundw
     case rel=>exact⟨k+1,_,_,qO,by go_num,by rw[HW.out],o0.out,p0.out _,hF.out.setCell (p:=⟨b,k,none⟩) (Or.inl ⟨_,rfl,rfl⟩) _⟩
     case measure=>simp[intOf];omega
    obtain rfl:k=j.length:=qO
    have N:Hid (Ext w wr):=(k0.out.trans HX.out).next hF.out (fun i hi t=>by have:=u.out i t;omega)
    by_cases hq:q=0
    ·subst hq
     have O:=o.out m 0 G.out
     rw[vC rfl] at O
     have s:Hid (Zme w wr T d2 A f m):=⟨hB.out,O,N.out,u.out⟩
     have r:=zh g
     clear O g
     go_wp2
     go_roundw
     case rel=>exact⟨d2,A,f,m,rfl,by rw[r.out],F,s.out⟩
     case measure=>exact l.out
    have D0:(0:Int)<(q:Int):=qO
    have O:=o.out m q G.out
    rw[uO hq] at O
    have Y:=zh O
    have r:=zh g
    have s0:Hid (zE .u64 (wr.alloc (.cells #[.int .u64 (q:Int)] 141)) (some ⟨wr.heap.size,0,none⟩) [q]):=(Own.new wr 141 .u64 [q] []).shows0
    clear O g hq
    go_wp2_with (at_builtin;refine Hid.out ?_)
    refine zh ?_
    refine wX rfl _ _ _ rfl _ .u64 8 underlying107 eE A (some ⟨wr.heap.size,0,none⟩) j.length 1 f 1 rfl rfl m [q] r.out rfl (hB.out.ext ((Fr.refl _ _).alloc _)) s0.out (by simp only[maxLen];omega) qO ?_
    intro A1 H w2 Z a0 b0
    have s:Hid (Zme w w2 T d2 A1 H (m ++ [q])):=by
     refine⟨Z,Y.out,?_,?_⟩
     ·exact (N.out.alloc _).next a0 (fun i hi t=>by have:=u.out i t;omega)
     intro b t
     rcases b0 b t with h|h
     ·exact u.out b h
     have:=N.out.size;simp at h;omega
    clear Z a0 b0
    go_wp2
    go_roundw
    case rel=>exact⟨d2,A1,H,m ++ [q],rfl,by rw[vA,r.out];rfl,F,s.out⟩
    case measure=>exact l.out
  have h0:d.size=0:=qO
  obtain⟨h1,h2,h3,h4⟩:=B.out
  have hN:Hid (lB w T (.returned (.slice A j.length f)) wr):=by
   refine⟨_,rfl,?_,h3⟩
   have t:bytes d=[]:=qM (by rw[zQ];exact h0)
   rw[t] at h2
   exact⟨A,j,f,rfl,h1.len,h1.shows,h2.dig,h2.trim,h2.done⟩
  clear h1 h2 h3 h4
  go_wp2
  go_ret
  exact hN.out
def RowD (w:World) (v:Value) (m:Nat):Prop:=∃ xs,fK w v xs∧Dig W32 xs∧val W32 xs=m
theorem RowD.nrb {S:Nat→Prop}{w w':World}{v:Value}{m:Nat}(h:RowD w v m)(a:∀ i,S i→NRB w i)(b:Fr S w w'):RowD w' v m:=by
 obtain⟨c,d,e⟩:=h
 exact⟨c,d.nrb a b,e⟩
theorem Zjb {w w':World}{e:Ending}{m:Nat}(h:dJ w m e w'):wV xH (fun x w=>zZ w (xH x) m) w e w':=by
 obtain⟨v,rfl,b,Q⟩:=h
 obtain⟨A,a,c,rfl,h⟩:=b
 exact⟨(A,a.length,c),rfl,Q,boxn Q (fun S d f g=>zZ.nrb (u:=.slice A a.length c) ⟨A,a,c,rfl,h⟩ f g)⟩
theorem Zn3 {A:qA}{l c m s:Nat}(w:World)(h:zZ w (.slice A l c) m)(x:l≤17592186044416)(a:s≤31) :
 yA 164 #[.slice A l c,.int .u64 (s:Int)] w (wV (fun b:Nat=>.slice (some ⟨b,0,none⟩) (l+1) (l+1)) (fun b w=>RowD w (.slice (some ⟨b,0,none⟩) (l+1) (l+1)) (m*2^s)) w):=by
 obtain⟨d,f,g,_,i⟩:=h.row
 obtain⟨j,y,k⟩:=f.shows
 refine (Zdy A d l c s w j k qO g a).mono ?_
 rintro e w' ⟨n,rfl,o,p,q,r,Q⟩
 refine⟨w.heap.size,rfl,Q,boxn Q (fun S t u v=>RowD.nrb ⟨n,?_,q,by rw[r,i]⟩ u v)⟩
 have:=p.row (c:=l+1) qO
 rw[o] at this;exact this
theorem Ze4 {P:Program}{o:Oper}{ρ:Operand→Value}{w:World}{x y:Operand}{t e:TypeId}(u:o.op=.call { callee:=.builtin .append,args:=#[x,y],argTypes:=#[t,t] })(B:P.underlying t=some (.slice e))(a:(P.info? e).map (fun i=>(i.zero,i.size,i.bytes))=some (some (.int .u32 0),1,4)){b:Addr}{A:qA}{n k cap c m:Nat}(C:ρ x=.slice (some b) n cap)(D:ρ y=.slice A k c)(E:fK w (.slice (some b) n cap) (List.replicate n 0))(F:RowD w (.slice A k c) m)(G:cap<n+k)(h:n+k≤35184372088832) :
 Does P o ρ w (DoR (fun z:Option Addr×Nat=>.slice z.1 (n+k) z.2) (fun z w=>RowD w (.slice z.1 (n+k) z.2) (W32^n*m)) w):=by
 obtain⟨r,s,H,I⟩:=F
 have g:∀ {w:World} {z:ShN},z.2.1=n+k→fK w (xH z) (List.replicate n 0 ++ r)→RowD w (.slice z.1 (n+k) z.2.2) (W32^n*m):=fun {w z} e hR =>
  ⟨_,by rw[←e];exact hR,(Dig.replicate zX n).append H,by rw[kI,kO,sI,I,vW]⟩
 have len:∀ {w:World} {z:ShN},fK w (xH z) (List.replicate n 0 ++ r)→z.2.1=n+k:=fun {w z} hR=>by
  have J:=hR.shows.1
  have M:=s.shows.1
  simp at J;omega
 rcases ZhL u B a C D E s G h with ⟨v,w',l,z,rfl,Q,j⟩|⟨f,args,K,l,L⟩
 ·have e:=len (j (fun _=>False) (fun _ f=>f.elim) w' (Fr.refl _ _))
  exact Or.inl ⟨_,w',l,(z.1,z.2.2),by simp[xH,e],Q,fun S p d q=>g e (j S p d q)⟩
 exact Or.inr ⟨f,args,K,l,L.mono (fun N w' h=>by
  obtain⟨v,rfl,z,rfl,Q,j⟩:=h
  have e:=len (j (fun _=>False) (fun _ f=>f.elim) w' (Fr.refl _ _))
  exact⟨_,rfl,(z.1,z.2.2),by simp[xH,e],Q,fun S p d q=>g e (j S p d q)⟩)⟩
theorem Zhx {A:qA}{l c m:Nat}(w:World)(h:RowD w (.slice A l c) m)(k:l≤70368744177664):yA 94 #[.slice A l c] w (dJ w m):=by
 obtain⟨a,f,g,i⟩:=h
 obtain⟨j,b,d⟩:=f.shows
 refine (lX A a l c w j d b qO).mono ?_
 rintro e w' ⟨rfl,rfl⟩
 exact⟨_,rfl,⟨A,wH a,c,by rw[wJ],by rw[wJ];exact uD (iR _ _) b,d.take _,jW g,jZ a,by rw[lA,i]⟩,Fr.refl _ _⟩
theorem Zpu {w:World}{s:Bool}{A:qA}{l c k:Nat}{z:Int}(h:zN w (.agg #[.bool s,.slice A l c]) z):sg s (W32^(k/32)*(z.natAbs*2^(k%32)))=z*2^k:=by
 obtain⟨_,h2,_⟩:=h.opn
 have e:W32^(k/32)*(z.natAbs*2^(k%32))=z.natAbs*2^k:=by
  rw[zV,show (4294967296:Nat)=2^32 from rfl,← rQ,tF,← uQ,vX]
 rw[e]
 have b:(z.natAbs:Int)=z∧s=false∨(z.natAbs:Int) = -z∧s=true:=by
  cases s<;>simp[sg] at h2 ⊢<;>omega
 rcases b with ⟨a,rfl⟩|⟨a,rfl⟩
 ·simp only[sg,if_false,qX,tL,a,tE];rfl
 simp only[sg,if_true,tL,a,tE];rw[Int.neg_mul,Int.neg_neg];rfl
theorem ZsI {k:Nat}(a:k≤1099511627776):IntKind.i64.wrap ((k:Int).tdiv 32)=((k/32:Nat):Int):=by
 rw[sP qO,IntWalk.i64_in _ qO];omega
theorem ZsJ {k:Nat}:(k:Int).tmod 32=((k%32:Nat):Int):=by
 rw[sG qO];omega
theorem Zsa {k:Nat}:IntKind.u64.wrap ((k%32:Nat):Int)=((k%32:Nat):Int):=by
 rw[IntKind.wrap_u64];omega
theorem ZbI (a:Value)(x:Int)(k:Nat)(w:World)(ha:zN w a x)(D:xZ x)(E:k≤1099511627776) :
 yA 115 #[a,.int .i64 (k:Int)] w (lW w (x*2^k)):=by
 obtain⟨f,g,e,i,rfl⟩:=ha.shp
 have F:e≤17592186044416:=by obtain⟨M,G,H,I,J⟩:=ha.mag.row;have N:=G.shows.1;have K:=kJ H I;rw[J] at K;unfold xZ at D;omega
 have B:decide ((k:Int)≥0)=true:=vM qO
 refine zT (Φ:=fun w=>zN w (.agg #[.bool f,.slice g e i]) (x)) func115 rfl qK (fun w' L=>ha.ext L) ?_
 refine yY (xr 2 [yJ 1 (k:Int),(2,.p 2 0),(4,.p 4 0)] [bI2 4 57 false none 0 0,bI2 2 57 f g e i] ?_)
 refine yZ (zC (yY (xr 2 [yJ 1 (k:Int),(2,.p 2 0),(4,.p 4 0),yB 11 (decide ((k:Int)≥0))] [bI2 4 57 false none 0 0,bI2 2 57 f g e i] ?_)))
 rw[B]
 refine xr 0 [yJ 1 (k:Int),(2,.p 2 0),(4,.p 4 0),yB 11 true] [bI2 4 57 false none 0 0,bI2 2 57 f g e i] ?_
 refine yZ (xa (yY (xr 2 [yJ 1 (k:Int),(2,.p 2 0),(4,.p 4 0),yJ 13 (IntKind.i64.wrap (((k:Int)).tdiv 32))] [bI2 4 57 false none 0 0,bI2 2 57 f g e i] ?_)))
 rw[ZsI E]
 refine yD (d:=14) (fun b:Nat=>.slice (yL b) (k/32) (k/32)) (fun b w=>fK w (.slice (yL b) (k/32) (k/32)) (List.replicate (k/32) 0)) (fun w R Q=>ZjR (l:=.tmp 13) (c:=.tmp 13) (kl:=.i64) (kc:=.i64) qK underlying55 dI qK qK qO) fun j=>?_
 refine xr 1 [yJ 1 (k:Int),(2,.p 2 0),(4,.p 4 0),eS1 5 (yL j) (k/32) (k/32)] [bI2 4 57 false none 0 0,bI2 2 57 f g e i] ?_
 refine yZ (zC ?_)
 refine yO 13 zP ?_
 refine xf 7 [yJ 1 (k:Int),(2,.p 2 0),(4,.p 4 0),yB 16 f,eS1 17 (yL j) (k/32) (k/32),eS1 19 g e i,yJ 21 (((k:Int)).tmod 32)] [bI2 4 57 false none 0 0,bI2 2 57 f g e i] ?_
 rw[ZsJ]
 refine xf 1 [yJ 1 (k:Int),(2,.p 2 0),(4,.p 4 0),yB 16 f,eS1 17 (yL j) (k/32) (k/32),eS1 19 g e i,yU 22 (IntKind.u64.wrap (((k%32:Nat):Int)))] [bI2 4 57 false none 0 0,bI2 2 57 f g e i] ?_
 rw[Zsa]
 refine xd 164 [.slice g e i, yX ((k%32:Nat):Int)] 23 (fun b:Nat=>.slice (yL b) (e+1) (e+1)) _ (fun w R Q=>Zn3 (s:=k%32) _ Q.1.mag F qO) fun C=>?_
 refine xf 0 [yJ 1 (k:Int),(2,.p 2 0),(4,.p 4 0),yB 16 f,eS1 17 (yL j) (k/32) (k/32),eS1 23 (yL C) (e+1) (e+1)] [bI2 4 57 false none 0 0,bI2 2 57 f g e i] ?_
 refine ZaK 24 (fun z:Option Addr×Nat=>.slice z.1 (k/32+(e+1)) z.2) (fun z w=>RowD w (.slice z.1 (k/32+(e+1)) z.2) (W32^(k/32)*((x).natAbs*2^(k%32)))) qK qK qK qK qK qK qK (fun w R Q=>Ze4 (x:=.tmp 17) (y:=.tmp 23) qK underlying55 dI qK qK Q.1.2 Q.2 qO qO) fun⟨m,n⟩=>?_
 refine xf 0 [yJ 1 (k:Int),(2,.p 2 0),(4,.p 4 0),yB 16 f,eS1 24 m (k/32+(e+1)) n] [bI2 4 57 false none 0 0,bI2 2 57 f g e i] ?_
 refine xd 94 [.slice m (k/32+(e+1)) n] 25 xH _ (fun w R Q=>yM Zjb (Zhx _ Q.2 qO)) fun⟨o,q,r⟩=>?_
 refine xf 0 [yJ 1 (k:Int),(2,.p 2 0),(4,.p 4 0),yB 16 f,eS1 25 o q r] [bI2 4 57 false none 0 0,bI2 2 57 f g e i] ?_
 refine xd 93 [.bool f,.slice o q r] 26 wO _ (fun w R Q=>(fW _ _ (W32^(k/32)*((x).natAbs*2^(k%32))) _ Q.2).mono (fun _ _ h=>kE (by rw[Zpu Q.1.1.1.1] at h;exact h))) fun⟨t,u,v,A⟩=>?_
 refine xf 1 [yJ 1 (k:Int),(2,.p 2 0),(4,.p 4 0)] [bI2 4 57 t u v A,bI2 4 57 false none 0 0,bI2 2 57 f g e i] ?_
 refine xz (yZ (zG (zH ?_)))
 refine yR (.agg #[.bool t,.slice u v A]) fun w' R Q=>?_
 exact⟨_,rfl,Q.2,R⟩
/-! ### Newton's step -/
theorem Zk1 {x r:Nat}(a:0<r)(k:0<x):x<((r+x/r)/2^1+1)*((r+x/r)/2^1+1)∧0<(r+x/r)/2^1:=by
 obtain⟨q,c⟩:=yE (x/r)
 have f:=vX x r
 have l:=uM x a
 rw[c] at f ⊢
 obtain⟨m,g⟩:=yE ((r+q)/2^1)
 rw[g]
 have i:r+q≤2*m+1:=qO
 have j:x<r*(q+1):=by rw[uK,sB];omega
 have n:4*(r*(q+1))≤(r+q+1)*(r+q+1):=by
  rcases Nat.le_total r (q+1) with h|h
  ·obtain⟨d,b⟩:=oR h
   have e:r+q+1=r+(r+d):=qO
   rw[e,b]
   simp only[uK,uX]
   have:=tA (d*d)
   rw[uH d r];omega
  obtain⟨d,b⟩:=oR h
  have e:r+q+1=(q+1+d)+(q+1):=qO
  rw[e,b]
  generalize q+1=p
  simp only[uK,uX]
  have:=tA (d*d)
  rw[uH d p];omega
 have o:(r+q+1)*(r+q+1)≤(2*(m+1))*(2*(m+1)):=vY qO qO
 have s:(2*(m+1))*(2*(m+1))=4*((m+1)*(m+1)):=by
  rw[qP]
 refine⟨qO,?_⟩
 rcases uJ m with e|e
 ·exfalso
  subst e
  have:r=1:=qO
  subst this
  have:q=0:=qO
  subst this
  omega
 exact e
theorem Zsb {x r r0:Nat}(h:¬ (r+x/r)/2^1<r)(c:x<(r+1)*(r+1))(d:r0*r0≤x)(e:x<(r0+1)*(r0+1)):r=r0:=by
 have b:r≤x/r:=qO
 have f:r*r≤x:=by
  have:=pI x r
  have:=uE r b
  omega
 rcases pV r r0 with a|a|a
 ·have:=vY (show r+1≤r0 by omega) (show r+1≤r0 by omega);omega
 ·exact a
 have:=vY (show r0+1≤r by omega) (show r0+1≤r by omega);omega
theorem Zjc {x k:Nat}(h:x<2^k):x<(1*2^((k+1)/2)+1)*(1*2^((k+1)/2)+1)∧0<1*2^((k+1)/2):=by
 rw[rZ]
 have b:2^k≤2^((k+1)/2)*2^((k+1)/2):=by rw[←uQ];exact uW qO qO
 have a:=uU (n:=(k+1)/2) (show 0<2 by omega)
 refine⟨?_,a⟩
 have:=vY (Nat.le_succ (2^((k+1)/2))) (Nat.le_succ (2^((k+1)/2)))
 simp only[oM] at this
 omega
theorem ZsK {k m:Nat}(h:k≤64*m):wl (1*2^((k+1)/2))≤m+1:=by
 rw[rZ]
 refine kN.2 ?_
 rw[zO,show (18446744073709551616:Nat)=2^64 from rfl,← rQ]
 exact Nat.pow_lt_pow_right qO qO
theorem Zn7 {q r:Nat}{w w':World}{e:Ending}(h:Zb4 w q r e w'):wV (fun x:ShN×ShN=>.tuple #[xH x.1,xH x.2]) (fun x w=>zF w (xH x.1) q∧zF w (xH x.2) r) w e w':=by
 obtain⟨u,v,rfl,a,b,Q⟩:=h
 obtain⟨A,l,c,rfl⟩:=a.slice
 obtain⟨g,i,j,rfl⟩:=b.slice
 exact⟨((A,l,c),(g,i,j)),rfl,Q,boxn Q (fun S k d f=>⟨a.nrb d f,b.nrb d f⟩)⟩
theorem rw1 {k:Nat}(h:k≤100000):IntKind.i64.wrap ((k:Int)+1)=((k+1:Nat):Int):=by rw[IntKind.wrap_i64];omega
theorem Zq0 (n:Nat):blen n≤32*ml n:=by
 refine wZ.2 ?_
 have:=Zd2 n
 rwa [aF] at this
section
variable {a b:Value} {x r k:Nat} {w:World}
theorem Ze5 (ha:zN w a ((x:Nat):Int))(c:zN w b ((r:Nat):Int))(d:ml x≤100000)(e:ml r≤100000)(f:0<r):yA 116 #[a,b] w (Zd6 w ((x/r:Nat):Int) ((x%r:Nat):Int)):=by
 have h:=cE a b x r w ha c (nfit (mlc d) qD) (nfit (mlc e) qD) qO
 rwa [←Int.ofNat_tdiv,← Int.ofNat_tmod] at h
theorem Zjd (ha:zN w a ((x:Nat):Int))(c:zN w b ((r:Nat):Int))(d:ml x≤100000)(e:ml r≤100000):yA 72 #[a,b] w (lW w ((x+r:Nat):Int)) :=
 Zik a b x r w ha c (nfit (mlc d) qD) (nfit (mlc e) qD)
end
inductive RootIs (p:Rat):ByteArray→Bool→Prop
 | neg (h:p.num<0):RootIs p ⟨#[]⟩ false
 | no1 (n d:Nat) (h0:0≤p.num) (hn1:n*n≤p.num.natAbs) (hn2:p.num.natAbs<(n+1)*(n+1)) (hd1:d*d≤(p.den:Int).natAbs) (hd2:(p.den:Int).natAbs<(d+1)*(d+1)) (h:¬ n*n=p.num.natAbs):RootIs p ⟨#[]⟩ false
 | no2 (n d:Nat) (h0:0≤p.num) (hn1:n*n≤p.num.natAbs) (hn2:p.num.natAbs<(n+1)*(n+1)) (hd1:d*d≤(p.den:Int).natAbs) (hd2:(p.den:Int).natAbs<(d+1)*(d+1)) (hnn:n*n=p.num.natAbs) (h:¬ d*d=(p.den:Int).natAbs):RootIs p ⟨#[]⟩ false
 | yes (n d:Nat) (Q:Rat) (h0:0≤p.num) (hn1:n*n≤p.num.natAbs) (hn2:p.num.natAbs<(n+1)*(n+1)) (hd1:d*d≤(p.den:Int).natAbs) (hd2:(p.den:Int).natAbs<(d+1)*(d+1)) (hnn:n*n=p.num.natAbs) (hdd:d*d=(p.den:Int).natAbs) (hQn:Q.num=(n:Int)) (hQd:(Q.den:Int)=(d:Int)):RootIs p ⟨(xE Q).toArray⟩ true
theorem ZhA {xs:qN}{i x:Nat}(b:Dig W32 xs)(c:i/32<xs.length)(d:xs[i/32]?.getD 0=x):x/2^(i%32)%2=val W32 xs/2^i%2:=by
 have a:=Zg8 xs (i/32) (i%32) b qO
 rw[show 32*(i/32)+i%32=i by omega] at a
 rw[←a,xQ _ c,d]
 have g:i%32<32:=uM _ qD
 generalize i%32=t at *
 generalize val W32 (xs.drop (i/32+1))=r
 have e:W32*r=2^t*(2^(32-t)*r):=by rw[←uG,← uQ,show t+(32-t)=32 by omega,zV]
 have f:2^(32-t)=2*2^(31-t):=by rw[show 32-t=(31-t)+1 by omega,uN,uH]
 rw[e,Nat.add_mul_div_left _ _ (p2 t),f,uG,sR]
theorem Zom {n k:Nat}(a:0<n)(b:k≤tzn n):n/2^k=oddM n*2^(tzn n-k):=by
 obtain⟨d,c⟩:=jV a
 have e:n=oddM n*2^(tzn n-k)*2^k:=by rw[uG,← uQ,pP b];exact c
 have:=vI (· / 2^k) e
 simp only[qZ _ (p2 k)] at this
 exact this
theorem Zrm {n k:Nat}(a:0<n)(b:k≤tzn n)(h:n/2^k%2=0):k+1≤tzn n:=by
 rcases vL k (tzn n) with c|c
 ·omega
 have:=jV a
 rw[Zom a b,show tzn n-k=0 by omega,tC,sB] at h
 omega
theorem Zrn {n k:Nat}(a:0<n)(b:k≤tzn n)(h:n/2^k%2≠0):k=tzn n:=by
 rcases vL k (tzn n) with c|c
 ·rw[Zom a b,show tzn n-k=(tzn n-k-1)+1 by omega,uN,← uG] at h
  omega
 omega
theorem Zon {xs:qN}(a:Dig W32 xs)(b:0<val W32 xs){k:Nat}(c:k≤tzn (val W32 xs)):k/32<xs.length:=by
 obtain⟨d,e⟩:=jV b
 have f:=xW a
 refine qI fun g=>?_
 have h:2^(32*xs.length)≤2^tzn (val W32 xs):=uW qD qO
 have i:1*2^tzn (val W32 xs)≤oddM (val W32 xs)*2^tzn (val W32 xs):=uE _ qO
 have j:W32^xs.length=2^(32*xs.length):=by rw[show W32=2^32 by rw[zV],← rQ]
 omega
/-! ### the search for the exponent -/
theorem Zlc (n d bits:Nat):rndK n d bits=rk0 n d bits∨rndK n d bits=rk0 n d bits+1:=by
 unfold rndK;split
 ·exact Or.inl rfl
 exact Or.inr rfl
theorem Zld {n d bits:Nat}(b:0<n)(c:0<d)(f:0<bits){k:Int}(g:k=rk0 n d bits∨k=rndK n d bits)(h:bits<blen (fq n d k)):k+1=rndK n d bits∧(rndK n d bits-k).toNat=1:=by
 have i:=bI b c f
 have a:k≠rndK n d bits:=fun e=>by rw[e,i] at h;omega
 have j:k=rk0 n d bits:=g.resolve_right a
 rcases Zlc n d bits with e|e
 ·exact absurd (j.trans e.symm) a
 omega
theorem Zle {n d bits:Nat}(a:0<n)(b:0<d)(c:0<bits){k:Int}(f:k=rk0 n d bits∨k=rndK n d bits)(h:¬ bits<blen (fq n d k)):k=rndK n d bits:=by
 rcases f with e|e
 ·have g:=(ZeU a b c).1
  unfold rndK
  rw[e] at h
  rw[vC qO];exact e
 exact e
theorem Zlf {n d bits:Nat}{k:Int}(a:k=rk0 n d bits∨k=rndK n d bits):(blen n:Int)-blen d-bits≤k∧k≤(blen n:Int)-blen d-bits+1:=by
 have h:=Zlc n d bits
 unfold rk0 at *
 omega
theorem Zss {n:Nat}{k:Int}(h:0≤k):fa n k=n:=by unfold fa;rw[show (-k).toNat=0 by omega];simp
theorem Zst {d:Nat}{k:Int}(h:¬ 0≤k):fb d k=d:=by unfold fb;rw[show k.toNat=0 by omega];simp
/-! ### the nearest integer -/
theorem Zlg {a b:Nat}(h:0<((2*(a%b):Nat):Int)-(b:Int)∨((2*(a%b):Nat):Int)-(b:Int)=0∧a/b%2=1):kR a b=a/b+1:=vC qO
theorem ZgL {a b:Nat}(h:¬ (0<((2*(a%b):Nat):Int)-(b:Int)∨((2*(a%b):Nat):Int)-(b:Int)=0∧a/b%2=1)):kR a b=a/b:=uO qO
/-! ### roots -/
end Go.Proofs.YtenchljfmfgeoaaGreatDoor
