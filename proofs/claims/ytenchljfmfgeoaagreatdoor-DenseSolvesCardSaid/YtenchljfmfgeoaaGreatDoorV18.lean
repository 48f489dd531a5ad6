/-
 My texts.
-/
import Derived.Test.YtenchljfmfgeoaaGreatDoorV17
set_option maxRecDepth 100000
set_option maxHeartbeats 8000000
namespace Go.Proofs.YtenchljfmfgeoaaGreatDoor
open Go.RowKit Tryz
theorem Zj2 (s:Bool)(b:qA)(c0:Nat)(w:World) :
 yA 113 #[.agg #[.bool s,.slice b 0 c0]] w (RetV w (.string ⟨(Lib.decDigits 0).toArray⟩)):=by
 have a:Lib.decDigits 0=[48]:=Lib.decDigits_one qO
 have c:=zh a
 clear a
 go_enter func113,ntmps113
 go_wp2
 go_ret
 exact⟨by rw[c.out];rfl,(Fr.refl _ _).alloc _⟩
theorem Zj3 (s:Bool)(a:qA)(b c0:Nat)(n:Nat)(w:World)(c:zW w (.slice a b c0) n)(C:Nat)(e:n<1000000000^C)(f:C≤15637498706141) :
 yA 113 #[.agg #[.bool s,.slice a b c0]] w (RetV w (.string ⟨(Lib.decDigits n).toArray⟩)):=by
 rcases uJ n with h|h
 ·subst h
  have d:=c.len
  rw[ZgG] at d
  subst d
  exact Zj2 s a c0 w
 exact ZlR s a b c0 n w c h C e f
theorem Zce (a b:List UInt8):(⟨a.toArray⟩:ByteArray) ++ ⟨b.toArray⟩=⟨(a ++ b).toArray⟩:=by
 apply ByteArray.ext
 simp
theorem ZaQ {n j:Nat}(h:n<10^j∧j≤140737488355000):(Lib.decDigits n).length≤140737488355000:=by
 rcases uJ n with e|e
 ·rw[e,Lib.decDigits_one qO];simp
 have:=Zli _ _ h.1
 rw[jF e] at this
 omega
theorem dV (s:Bool)(a:qA)(b c0:Nat)(n:Nat)(w:World)(c:zW w (.slice a b c0) n){j:Nat}(h:n<10^j∧j≤140737488355000) :
 yA 113 #[.agg #[.bool s,.slice a b c0]] w (RetV w (.string ⟨(Lib.decDigits n).toArray⟩)):=by
 refine Zj3 s a b c0 n w c ((j+8)/9) ?_ (by have:=h.2;omega)
 refine uT h.1 ?_
 rw[show (1000000000:Nat)=10^9 by decide,← qV]
 exact vA qO qO
theorem Zi0 {n k:Nat}(h:ml n≤k):n<10^(10*k):=by
 refine uT (ZfO n) (uB (vA zY h) ?_)
 rw[qV]
 exact rG (by rw[xB];decide) _
theorem ZhY (a:Value)(q:Rat)(w:World)(ha:zS w a q)(j k:Nat)(B:q.num.natAbs<10^j∧j≤140737488355000)(_:q.den<10^k∧k≤140737488355000)(x:q.num<0)(y:q.den=1) :
 yA 66 #[a] w (RetV w (.string ⟨(xP q).toArray⟩)):=by
 obtain⟨C,t,u,v,t1,H,D,I,rfl⟩:=ha.shp
 have F2:Hid (zS w (.agg #[.bool C,.slice t u v,.bool t1,.slice H D I]) (q)):=ha
 clear ha
 obtain rfl:C=true:=F2.out.num.sneg x
 have E:Hid (q.num.natAbs<10^j∧j≤140737488355000):=B
 obtain rfl:D=0:=F2.out.den.len0 (jB y)
 have F:Hid (xP q=45 :: Lib.decDigits q.num.natAbs):=by unfold Hid xP Lib.itoa;rw[uS y,uS x]
 obtain⟨J,g⟩:=yE (xP q)
 rw[g] at F ⊢
 clear x y B g
 go_enter func66,ntmps66
 go_wp2_with fail
 generalize h:World.alloc w _=w4
 obtain⟨c,d⟩:=fQ h
 clear h
 have B3:=zh c
 clear c
 replace F2:=zh (F2.out.ext d)
 have HE:=zh d
 clear d
 have F5:Hid (zZ w4 (.agg #[.bool true,.slice t u v]) ((q).num)):=F2.out.num
 have F8:Hid (zW w4 (.slice t u v) (((q).num).natAbs)):=F5.out.mag
 refine (dV true t u v _ _ F8.out E.out).mono ?_
 obtain⟨G,b⟩:=yE (Lib.decDigits (((q).num).natAbs))
 rw[b];have z:G.length≤140737488355000:=by rw[←b];exact ZaQ E.out
 have A:=zh b;clear b
 rintro e K ⟨rfl,f⟩
 replace B3:=zh (B3.out.ext f)
 replace F2:=zh (F2.out.ext f)
 replace F5:=zh (F5.out.ext f)
 replace F8:=zh (F8.out.ext f)
 replace HE:=zh (HE.out.trans f)
 clear f
 obtain⟨i,l,m,n,o,p,r,s⟩:=B3.out.cell4
 go_wp2
 clear i l m n o p r s
 go_ret
 refine⟨?_,HE.out⟩
 rw[F.out,A.out]
 show Ending.returned (.string ((⟨#[45]⟩:ByteArray) ++ ⟨G.toArray⟩))=_
 simp only[Zce]
 rfl
theorem ZhZ (a:Value)(q:Rat)(w:World)(ha:zS w a q)(j k:Nat)(N:q.num.natAbs<10^j∧j≤140737488355000)(O:q.den<10^k∧k≤140737488355000)(P:q.num<0)(s:¬ q.den=1) :
 yA 66 #[a] w (RetV w (.string ⟨(xP q).toArray⟩)):=by
 obtain⟨Q,F,G,H,t1,I,m1,J,rfl⟩:=ha.shp
 have F2:Hid (zS w (.agg #[.bool Q,.slice F G H,.bool t1,.slice I m1 J]) (q)):=ha
 clear ha
 obtain rfl:Q=true:=F2.out.num.sneg P
 have R:Hid (q.num.natAbs<10^j∧j≤140737488355000):=N
 have Y:0<m1:=F2.out.den.lenp (aJ s)
 have W:decide ((0:Int)<(m1:Int))=true:=by rw[tF];omega
 have S:Hid ((denF q).natAbs<10^k∧k≤140737488355000):=by unfold Hid;rw[fH s,sY];exact O
 have T:Hid (xP q=(45 :: Lib.decDigits q.num.natAbs) ++ (47 :: Lib.decDigits (denF q).natAbs)):=by
  unfold Hid xP
  rw[uM s,fH s,sY,Lib.itoa_nonneg]
  unfold Lib.itoa
  rw[uS (show q.num<0 by omega)]
  simp
 obtain⟨Z,t⟩:=yE (xP q)
 rw[t] at T ⊢
 clear P s N O t
 go_enter func66,ntmps66
 go_wp2_with fail
 generalize u:World.alloc w _=w4
 obtain⟨f,g⟩:=fQ u
 clear u
 have B3:=zh f
 clear f
 replace F2:=zh (F2.out.ext g)
 have HE:=zh g
 clear g
 have F5:Hid (zZ w4 (.agg #[.bool true,.slice F G H]) ((q).num)):=F2.out.num
 have F8:Hid (zW w4 (.slice F G H) (((q).num).natAbs)):=F5.out.mag
 refine (dV true F G H _ _ F8.out R.out).mono ?_
 obtain⟨U,d⟩:=yE (Lib.decDigits (((q).num).natAbs))
 rw[d];have L:U.length≤140737488355000:=by rw[←d];exact ZaQ R.out
 have M:=zh d;clear d
 rintro e V ⟨rfl,b⟩
 replace B3:=zh (B3.out.ext b)
 replace F2:=zh (F2.out.ext b)
 replace F5:=zh (F5.out.ext b)
 replace F8:=zh (F8.out.ext b)
 replace HE:=zh (HE.out.trans b)
 clear b
 obtain⟨v,x,y,z,A,B,C,D⟩:=B3.out.cell4
 go_wp2_with fail
 clear v x y z A B C D
 have F10:Hid (zZ V (.agg #[.bool t1,.slice I m1 J]) (denF (q))):=F2.out.den
 have F13:Hid (zW V (.slice I m1 J) ((denF (q)).natAbs)):=F10.out.mag
 refine (dV t1 I m1 J _ _ F13.out S.out).mono ?_
 obtain⟨t12,c⟩:=yE (Lib.decDigits ((denF (q)).natAbs))
 rw[c];have K:t12.length≤140737488355000:=by rw[←c];exact ZaQ S.out
 have E:=zh c;clear c
 rintro e X ⟨rfl,b⟩
 replace B3:=zh (B3.out.ext b)
 replace F2:=zh (F2.out.ext b)
 replace F5:=zh (F5.out.ext b)
 replace F8:=zh (F8.out.ext b)
 replace F10:=zh (F10.out.ext b)
 replace F13:=zh (F13.out.ext b)
 replace HE:=zh (HE.out.trans b)
 clear b
 obtain⟨h,i,l,m,n,o,p,r⟩:=B3.out.cell4
 go_wp2
 clear h i l m n o p r
 go_ret
 refine⟨?_,HE.out⟩
 rw[T.out,M.out,E.out]
 show Ending.returned (.string (((⟨#[45]⟩:ByteArray) ++ ⟨U.toArray⟩) ++ ((⟨#[47]⟩:ByteArray) ++ ⟨t12.toArray⟩)))=_
 simp only[Zce]
 rfl
theorem Zh0 (a:Value)(q:Rat)(w:World)(ha:zS w a q)(j k:Nat)(A:q.num.natAbs<10^j∧j≤140737488355000)(_:q.den<10^k∧k≤140737488355000)(B:0≤q.num)(x:q.den=1) :
 yA 66 #[a] w (RetV w (.string ⟨(xP q).toArray⟩)):=by
 obtain⟨C,t,u,v,t1,H,D,I,rfl⟩:=ha.shp
 have F2:Hid (zS w (.agg #[.bool C,.slice t u v,.bool t1,.slice H D I]) (q)):=ha
 clear ha
 obtain rfl:C=false:=F2.out.num.spos B
 have E:Hid (q.num.natAbs<10^j∧j≤140737488355000):=A
 obtain rfl:D=0:=F2.out.den.len0 (jB x)
 have F:Hid (xP q=Lib.decDigits q.num.natAbs):=by unfold Hid xP Lib.itoa;rw[uS x,uM (show ¬ q.num<0 by omega)];rw[show q.num.toNat=q.num.natAbs by omega]
 obtain⟨J,g⟩:=yE (xP q)
 rw[g] at F ⊢
 clear B x A g
 go_enter func66,ntmps66
 go_wp2_with fail
 generalize h:World.alloc w _=w4
 obtain⟨c,d⟩:=fQ h
 clear h
 have B3:=zh c
 clear c
 replace F2:=zh (F2.out.ext d)
 have HE:=zh d
 clear d
 have F5:Hid (zZ w4 (.agg #[.bool false,.slice t u v]) ((q).num)):=F2.out.num
 have F8:Hid (zW w4 (.slice t u v) (((q).num).natAbs)):=F5.out.mag
 refine (dV false t u v _ _ F8.out E.out).mono ?_
 obtain⟨G,b⟩:=yE (Lib.decDigits (((q).num).natAbs))
 rw[b];have y:G.length≤140737488355000:=by rw[←b];exact ZaQ E.out
 have z:=zh b;clear b
 rintro e K ⟨rfl,f⟩
 replace B3:=zh (B3.out.ext f)
 replace F2:=zh (F2.out.ext f)
 replace F5:=zh (F5.out.ext f)
 replace F8:=zh (F8.out.ext f)
 replace HE:=zh (HE.out.trans f)
 clear f
 obtain⟨i,l,m,n,o,p,r,s⟩:=B3.out.cell4
 go_wp2
 clear i l m n o p r s
 go_ret
 refine⟨?_,HE.out⟩
 rw[F.out,z.out]
 show Ending.returned (.string (⟨G.toArray⟩:ByteArray))=_
 rfl
theorem Zh1 (a:Value)(q:Rat)(w:World)(ha:zS w a q)(j k:Nat)(N:q.num.natAbs<10^j∧j≤140737488355000)(O:q.den<10^k∧k≤140737488355000)(P:0≤q.num)(s:¬ q.den=1) :
 yA 66 #[a] w (RetV w (.string ⟨(xP q).toArray⟩)):=by
 obtain⟨Q,F,G,H,t1,I,m1,J,rfl⟩:=ha.shp
 have F2:Hid (zS w (.agg #[.bool Q,.slice F G H,.bool t1,.slice I m1 J]) (q)):=ha
 clear ha
 obtain rfl:Q=false:=F2.out.num.spos P
 have R:Hid (q.num.natAbs<10^j∧j≤140737488355000):=N
 have Y:0<m1:=F2.out.den.lenp (aJ s)
 have W:decide ((0:Int)<(m1:Int))=true:=by rw[tF];omega
 have S:Hid ((denF q).natAbs<10^k∧k≤140737488355000):=by unfold Hid;rw[fH s,sY];exact O
 have T:Hid (xP q=(Lib.decDigits q.num.natAbs) ++ (47 :: Lib.decDigits (denF q).natAbs)):=by
  unfold Hid xP
  rw[uM s,fH s,sY,Lib.itoa_nonneg]
  unfold Lib.itoa
  rw[uM (show ¬ q.num<0 by omega)]
  rw[show q.num.toNat=q.num.natAbs by omega]
  simp
 obtain⟨Z,t⟩:=yE (xP q)
 rw[t] at T ⊢
 clear P s N O t
 go_enter func66,ntmps66
 go_wp2_with fail
 generalize u:World.alloc w _=w4
 obtain⟨f,g⟩:=fQ u
 clear u
 have B3:=zh f
 clear f
 replace F2:=zh (F2.out.ext g)
 have HE:=zh g
 clear g
 have F5:Hid (zZ w4 (.agg #[.bool false,.slice F G H]) ((q).num)):=F2.out.num
 have F8:Hid (zW w4 (.slice F G H) (((q).num).natAbs)):=F5.out.mag
 refine (dV false F G H _ _ F8.out R.out).mono ?_
 obtain⟨U,d⟩:=yE (Lib.decDigits (((q).num).natAbs))
 rw[d];have L:U.length≤140737488355000:=by rw[←d];exact ZaQ R.out
 have M:=zh d;clear d
 rintro e V ⟨rfl,b⟩
 replace B3:=zh (B3.out.ext b)
 replace F2:=zh (F2.out.ext b)
 replace F5:=zh (F5.out.ext b)
 replace F8:=zh (F8.out.ext b)
 replace HE:=zh (HE.out.trans b)
 clear b
 obtain⟨v,x,y,z,A,B,C,D⟩:=B3.out.cell4
 go_wp2_with fail
 clear v x y z A B C D
 have F10:Hid (zZ V (.agg #[.bool t1,.slice I m1 J]) (denF (q))):=F2.out.den
 have F13:Hid (zW V (.slice I m1 J) ((denF (q)).natAbs)):=F10.out.mag
 refine (dV t1 I m1 J _ _ F13.out S.out).mono ?_
 obtain⟨t12,c⟩:=yE (Lib.decDigits ((denF (q)).natAbs))
 rw[c];have K:t12.length≤140737488355000:=by rw[←c];exact ZaQ S.out
 have E:=zh c;clear c
 rintro e X ⟨rfl,b⟩
 replace B3:=zh (B3.out.ext b)
 replace F2:=zh (F2.out.ext b)
 replace F5:=zh (F5.out.ext b)
 replace F8:=zh (F8.out.ext b)
 replace F10:=zh (F10.out.ext b)
 replace F13:=zh (F13.out.ext b)
 replace HE:=zh (HE.out.trans b)
 clear b
 obtain⟨h,i,l,m,n,o,p,r⟩:=B3.out.cell4
 go_wp2
 clear h i l m n o p r
 go_ret
 refine⟨?_,HE.out⟩
 rw[T.out,M.out,E.out]
 show Ending.returned (.string ((⟨U.toArray⟩:ByteArray) ++ ((⟨#[47]⟩:ByteArray) ++ ⟨t12.toArray⟩)))=_
 simp only[Zce]
 rfl
theorem ZlS (a:Value)(q:Rat)(w:World)(ha:zS w a q)(j k:Nat)(c:q.num.natAbs<10^j∧j≤140737488355000)(d:q.den<10^k∧k≤140737488355000):yA 66 #[a] w (RetV w (.string ⟨(xP q).toArray⟩)):=by
 by_cases e:q.num<0
 ·by_cases b:q.den=1
  ·exact ZhY a q w ha j k c d e b
  exact ZhZ a q w ha j k c d e b
 by_cases b:q.den=1
 ·exact Zh0 a q w ha j k c d qO b
 exact Zh1 a q w ha j k c d qO b
theorem Znq (a:Value)(q:Rat)(w:World)(ha:zS w a q)(b:ml q.num.natAbs≤65536)(c:ml q.den≤65536):yA 66 #[a] w (RetV w (.string ⟨(xP q).toArray⟩)) :=
 ZlS a q w ha _ _ ⟨Zi0 b,qO⟩ ⟨Zi0 c,qO⟩
theorem Zgd {n k:Nat}(h:n<10^k):ml n≤k:=fX.2 (uT h (rG (by rw[xB];omega) _))
def lF (c:UInt8):Bool:=c != 47
theorem ZdW {l:List UInt8}(h:l.all xE=true):l.all lF=true:=by
 rw[vH] at *
 intro x a
 have:=h x a
 unfold lF
 simp
 rintro rfl
 exact absurd this qD
theorem Znr {t:ByteArray}{p:Nat}(a:p=((bytes t).takeWhile lF).length):bytes (t.extract 0 p)=(bytes t).takeWhile lF∧bytes (t.extract (p+1) t.size)=(bytes t).drop (p+1):=by
 rw[kY,kY]
 refine⟨?_,?_⟩
 ·rw[tV,Nat.sub_zero,a]
  have:=List.takeWhile_prefix lF (l:=bytes t)
  exact (List.prefix_iff_eq_take.1 this).symm
 rw[uA (by rw[tL,zX];exact uG _)]
theorem ZoP {s:ByteArray}(h:¬ bytes s=[]):∃ c,(bytes s).head? = some c∧s[0]? = some c:=by
 obtain⟨a,_⟩:=aI h
 exact⟨s[0],Zaj a,by simp[a]⟩
theorem ZoQ {s:ByteArray}(h:¬ bytes s=[]):1≤s.size:=(aI h).1
theorem ZbU:∀ l:List UInt8,Lib.indexByte l 47=if (l.takeWhile lF).length<l.length then ((l.takeWhile lF).length:Int) else -1
 | []=>by simp[Lib.indexByte]
 | b :: l=>by
  have e:=ZbU l
  unfold Lib.indexByte
  by_cases a:b=47
  ·subst a;simp[lF]
  have f:(b == (47:UInt8))=false:=by simpa using a
  have g:lF b=true:=by simp[lF,a]
  rw[f,e]
  simp only[oE,g,sK,if_true,pH,if_false]
  generalize (l.takeWhile lF).length=k
  generalize l.length=n
  by_cases d:k<n
  ·have c:k+1<n+1:=qO
   have h:((k:Int) == -1)=false:=qS
   rw[uS c,uS d]
   simp only[h,pH,if_false]
   omega
  have c:¬ k+1<n+1:=qO
  rw[uM c,uM d]
  rfl
theorem Zrk {s:ByteArray}(h:bytes s=[47]):(0:Int)=Lib.indexByte (bytes s) 47:=by rw[h];rfl
theorem Zqj {s:ByteArray}(h:bytes s=[47]):((⟨#[47]⟩:ByteArray).toList == s.toList)=true:=by
 rw[Lib.toList_data,Lib.toList_data,show s.data.toList=[47] from h];rfl
theorem Zqk {s:ByteArray}(h:¬ bytes s=[47]):((⟨#[47]⟩:ByteArray).toList == s.toList)=false:=by
 rw[Lib.toList_data,Lib.toList_data];exact rN.2 (fun e=>h e.symm)
theorem Zql {p:Nat}(h:p≤1000000):IntKind.i64.wrap (((p:Nat):Int)+((⟨#[47]⟩:ByteArray).size:Int))=((p+1:Nat):Int):=by
 rw[show (((⟨#[47]⟩:ByteArray).size:Nat):Int)=1 from rfl,IntKind.wrap_i64];omega
theorem ZkM (z:Int):(Lib.itoa z).all lF=true:=by
 rcases oP z 0 with h|h
 ·rw[ZcK h,pL,ZdW (gS _)];rfl
 rw[show z=((z.toNat:Nat):Int) by omega,fI];exact ZdW (gS _)
theorem ZhG {l:List UInt8}{q:Rat}(h:wW l=some q)(a:q.den=1):l=Lib.itoa q.num∧l.length≤(l.takeWhile lF).length:=by
 have b:xP q=l:=aA h
 have e:l=Lib.itoa q.num:=by rw[←b];unfold xP;rw[uS a]
 refine⟨e,?_⟩
 have:=ZkM q.num
 rw[←e] at this
 rw[(cU this).1]
 exact uG _
theorem Zns {l:List UInt8}{q:Rat}(h:wW l=some q)(b:¬ q.den=1):l.takeWhile lF=Lib.itoa q.num∧l.drop ((l.takeWhile lF).length+1)=Lib.itoa (q.den:Int)∧(l.takeWhile lF).length<l.length:=by
 have d:xP q=l:=aA h
 have e:l=Lib.itoa q.num ++ 47 :: Lib.itoa (q.den:Int):=by rw[←d];unfold xP;rw[uM b];simp
 obtain⟨a,f⟩:=Zcd (p:=lF) (r:=Lib.itoa (q.den:Int)) (c:=47) (ZkM q.num) qD
 rw[←e] at a f
 refine⟨a,?_,?_⟩
 ·rw[a,e,← vX,List.drop_left];rfl
 rw[a,e];simp
theorem ZlT:Ending.returned (.tuple #[.string ⟨#[48]⟩,.string ⟨#[49]⟩])=Ending.returned (.tuple #[.string ⟨(Lib.itoa (0:Rat).num).toArray⟩,.string ⟨(Lib.itoa ((0:Rat).den:Int)).toArray⟩]):=by
 rw[show (0:Rat).num=((0:Nat):Int) from rfl,show ((0:Rat).den:Int)=((1:Nat):Int) from rfl,aM qD,aM qD];rfl
theorem Zj4 (s:ByteArray):Ending.returned (.tuple #[.string s,.string ⟨#[49]⟩])=Ending.returned (.tuple #[.string ⟨(bytes s).toArray⟩,.string ⟨(Lib.itoa ((1:Nat):Int)).toArray⟩]):=by
 rw[aM qD];rfl
theorem Znt (s:ByteArray)(w:World):yA 245 #[.string s,.int .u8 (((47:UInt8).toNat:Nat):Int)] w (RetV w (.int .i64 (Lib.indexByte (bytes s) 47))):=by
 refine (Tryz.stringslite_IndexByte s (((47:UInt8).toNat:Nat):Int) w).mono ?_
 rintro e w' ⟨rfl,rfl⟩
 exact⟨rfl,Fr.refl _ _⟩
theorem Zcf (s:ByteArray)(w:World) :
 yA 219 #[.string s,.string ⟨#[47]⟩] w (RetV w (.int .i64 (Lib.indexByte (bytes s) 47))):=by
 refine zQ (Φ:=fun w=>True) func219 rfl qK (fun w' d=>trivial) ?_
 refine yY (xr 1 [yT 0 s,yT 1 ⟨#[47]⟩,yJ 4 0] [] ?_)
 refine yZ (yY (xr 2 [yT 0 s,yT 1 ⟨#[47]⟩,yJ 4 0,yJ 15 ((⟨#[47]⟩:ByteArray).size:Int)] [] ?_))
 rw[(show (((⟨#[47]⟩:ByteArray).size:Nat):Int)=1 from rfl)]
 refine xr 1 [yT 0 s,yT 1 ⟨#[47]⟩,yJ 4 0,yJ 5 1] [] ?_
 refine yZ (zC (zP (zC ?_)))
 by_cases a:bytes s=[47]
 ·refine zB (xr 6 [yT 0 s,yT 1 ⟨#[47]⟩,yJ 4 0,yJ 5 1,yB 19 false,yB 22 ((⟨#[47]⟩:ByteArray).toList == (s:ByteArray).toList)] [] ?_)
  rw[Zqj a]
  refine xr 2 [yT 0 s,yT 1 ⟨#[47]⟩,yJ 4 0,yJ 5 1,yB 16 true] [] ?_
  refine yZ (xa (yY (xr 1 [yT 0 s,yT 1 ⟨#[47]⟩,yJ 4 0,yJ 5 1] [] ?_)))
  refine yZ (zH (wM (zN ?_)))
  refine yR (yI 0) fun w' R Q=>?_
  exact⟨by rw[←Zrk a],R⟩
 refine zB (xr 6 [yT 0 s,yT 1 ⟨#[47]⟩,yJ 4 0,yJ 5 1,yB 19 false,yB 22 ((⟨#[47]⟩:ByteArray).toList == (s:ByteArray).toList)] [] ?_)
 rw[Zqk a]
 refine xr 2 [yT 0 s,yT 1 ⟨#[47]⟩,yJ 4 0,yJ 5 1,yB 16 false] [] ?_
 refine yZ (xb (yY (xr 3 [yT 0 s,yT 1 ⟨#[47]⟩,yJ 4 0,yJ 5 1,yB 24 true] [] ?_)))
 refine yZ (xa (yY (xr 2 [yT 0 s,yT 1 ⟨#[47]⟩,yJ 4 0,yJ 5 1,yT 27 s,yT 28 ⟨#[47]⟩] [] ?_)))
 refine yK 29 (.int .u8 (((47:UInt8).toNat:Nat):Int)) (fun w R Q=>cL (c:=47) (b:=⟨#[47]⟩) (t:=9) (x:=.tmp 28) (k:=0) (i:=.const (yI 0)) qK qK qK (by rfl) (by rfl)) ?_
 refine xr 0 [yT 0 s,yT 1 ⟨#[47]⟩,yJ 4 0,yJ 5 1,yT 27 s,(29,.v (.int .u8 (((47:UInt8).toNat:Nat):Int)))] [] ?_
 refine xc 245 [.string s,.int .u8 (((47:UInt8).toNat:Nat):Int)] 30 (fun _:Unit=>yI (Lib.indexByte (bytes s) 47)) _ (fun w R Q=>yN (Znt s _)) fun e=>?_
 refine xr 1 [yT 0 s,yT 1 ⟨#[47]⟩,yJ 4 (Lib.indexByte (bytes s) 47),yJ 5 1] [] ?_
 refine yZ (zH (wM (zN ?_)))
 refine yR (yI (Lib.indexByte (bytes s) 47)) fun w' R Q=>?_
 exact⟨rfl,R⟩
theorem Zi1 (s x y:ByteArray)(p:Nat)(w:World)(f:s.size≤100000)(c:p=((bytes s).takeWhile lF).length)(b:p<s.size)(d:s.extract 0 p=x)(e:s.extract (p+1) s.size=y) :
 yA 193 #[.string s,.string ⟨#[47]⟩] w (RetV w (.tuple #[.string x,.string y,.bool true])):=by
 have a:((bytes s).takeWhile lF).length<(bytes s).length:=by rw[←c,zX];exact b
 refine zQ (Φ:=fun w=>True) func193 rfl qK (fun w' g=>trivial) ?_
 refine yY (xr 3 [yT 0 s,yT 1 ⟨#[47]⟩,yT 4 ⟨#[]⟩,yT 5 ⟨#[]⟩,yB 6 false] [] ?_)
 refine yZ (zC (yY (xr 2 [yT 0 s,yT 1 ⟨#[47]⟩,yT 4 ⟨#[]⟩,yT 5 ⟨#[]⟩,yB 6 false,yT 8 s,yT 9 ⟨#[47]⟩] [] ?_)))
 refine xc 219 [.string s,.string ⟨#[47]⟩] 10 (fun _:Unit=>yI (p:Int)) _ (fun w R Q=>(Zcf s _).mono (fun _ _ h=>zM h (by rw[ZbU,uS a,← c]))) fun i=>?_
 refine xr 1 [yT 0 s,yT 1 ⟨#[47]⟩,yT 4 ⟨#[]⟩,yT 5 ⟨#[]⟩,yB 6 false,yJ 7 (p:Int)] [] ?_
 refine yZ (yY (xr 2 [yT 0 s,yT 1 ⟨#[47]⟩,yT 4 ⟨#[]⟩,yT 5 ⟨#[]⟩,yB 6 false,yJ 7 (p:Int),yB 12 (decide ((p:Int)≥0))] [] ?_))
 rw[(show decide ((p:Int)≥0)=true from vJ qO)]
 refine xr 0 [yT 0 s,yT 1 ⟨#[47]⟩,yT 4 ⟨#[]⟩,yT 5 ⟨#[]⟩,yB 6 false,yJ 7 (p:Int),yB 12 true] [] ?_
 refine yZ (xa (zC ?_))
 refine yO 12 zL ?_
 refine xf 2 [yT 0 s,yT 1 ⟨#[47]⟩,yT 4 ⟨#[]⟩,yT 5 ⟨#[]⟩,yB 6 false,yJ 7 (p:Int),yT 13 s,yJ 14 (p:Int)] [] ?_
 refine ZaJ 15 (.string x) qK qK qK qK qK qK (fun w Q=>ZdG 0 p (t:=9) (x:=.tmp 13) (lo:=none) (hi:=(some (Operand.tmp 14))) qK qK qK (Or.inl ⟨rfl,rfl⟩) (Or.inr qK) qO qO d) ?_
 refine xf 5 [yT 0 s,yT 4 ⟨#[]⟩,yT 5 ⟨#[]⟩,yB 6 false,yT 15 x,yT 16 s,yJ 20 (IntKind.i64.wrap ((p:Int)+((⟨#[47]⟩:ByteArray).size:Int)))] [] ?_
 rw[Zql (p:=p) qO]
 refine ZaJ 21 (.string y) qK qK qK qK qK qK (fun w Q=>ZdG (p+1) _ (t:=9) (x:=.tmp 16) (lo:=(some (Operand.tmp 20))) (hi:=none) qK qK qK (Or.inr qK) (Or.inl ⟨rfl,rfl⟩) qO (uG _) e) ?_
 refine xf 3 [yT 0 s,yT 4 x,yT 5 y,yB 6 true] [] ?_
 refine xz (yZ (zH (zN ?_)))
 refine yR (.tuple #[.string x,.string y,.bool true]) fun w' R Q=>?_
 exact⟨rfl,R⟩
theorem Zj5 (s:ByteArray)(w:World)(a:¬ ((bytes s).takeWhile lF).length<(bytes s).length) :
 yA 193 #[.string s,.string ⟨#[47]⟩] w (RetV w (.tuple #[.string s,.string ⟨#[]⟩,.bool false])):=by
 refine zQ (Φ:=fun w=>True) func193 rfl qK (fun w' b=>trivial) ?_
 refine yY (xr 3 [yT 0 s,yT 1 ⟨#[47]⟩,yT 4 ⟨#[]⟩,yT 5 ⟨#[]⟩,yB 6 false] [] ?_)
 refine yZ (zC (yY (xr 2 [yT 0 s,yT 1 ⟨#[47]⟩,yT 4 ⟨#[]⟩,yT 5 ⟨#[]⟩,yB 6 false,yT 8 s,yT 9 ⟨#[47]⟩] [] ?_)))
 refine xc 219 [.string s,.string ⟨#[47]⟩] 10 (fun _:Unit=>yI (-1)) _ (fun w R Q=>(Zcf s _).mono (fun _ _ h=>zM h (by rw[ZbU,uM a]))) fun c=>?_
 refine xr 1 [yT 0 s,yT 1 ⟨#[47]⟩,yT 4 ⟨#[]⟩,yT 5 ⟨#[]⟩,yB 6 false,yJ 7 (-1)] [] ?_
 refine yZ (yY (xr 2 [yT 0 s,yT 1 ⟨#[47]⟩,yT 4 ⟨#[]⟩,yT 5 ⟨#[]⟩,yB 6 false,yJ 7 (-1),yB 12 false] [] ?_))
 refine yZ (xb (zI (zA (yY (xr 4 [yT 4 s,yT 5 ⟨#[]⟩,yB 6 false] [] ?_)))))
 refine yZ (zH ?_)
 refine yR (.tuple #[.string s,.string ⟨#[]⟩,.bool false]) fun w' R Q=>?_
 exact⟨rfl,R⟩
theorem ZlU (s x y:ByteArray)(p:Nat)(w:World)(b:s.size≤100000)(c:p=((bytes s).takeWhile lF).length)(a:p<s.size)(d:s.extract 0 p=x)(e:s.extract (p+1) s.size=y) :
 yA 157 #[.string s,.string ⟨#[47]⟩] w (RetV w (.tuple #[.string x,.string y,.bool true])):=by
 refine zQ (Φ:=fun w=>True) func157 rfl qK (fun w' f=>trivial) ?_
 refine yY (xr 3 [yT 0 s,yT 1 ⟨#[47]⟩,yT 4 ⟨#[]⟩,yT 5 ⟨#[]⟩,yB 6 false] [] ?_)
 refine yZ (yY (xr 2 [yT 4 ⟨#[]⟩,yT 5 ⟨#[]⟩,yB 6 false,yT 7 s,yT 8 ⟨#[47]⟩] [] ?_))
 refine xc 193 [.string s,.string ⟨#[47]⟩] 9 (fun _:Unit=>.tuple #[.string x,.string y,.bool true]) _ (fun w R Q=>yN (Zi1 s x y p _ b c a d e)) fun g=>?_
 refine xr 6 [yT 4 x,yT 5 y,yB 6 true] [] ?_
 refine yZ (zH ?_)
 refine yR (.tuple #[.string x,.string y,.bool true]) fun w' R Q=>?_
 exact⟨rfl,R⟩
theorem Znu (s:ByteArray)(w:World)(a:¬ ((bytes s).takeWhile lF).length<(bytes s).length) :
 yA 157 #[.string s,.string ⟨#[47]⟩] w (RetV w (.tuple #[.string s,.string ⟨#[]⟩,.bool false])):=by
 refine zQ (Φ:=fun w=>True) func157 rfl qK (fun w' b=>trivial) ?_
 refine yY (xr 3 [yT 0 s,yT 1 ⟨#[47]⟩,yT 4 ⟨#[]⟩,yT 5 ⟨#[]⟩,yB 6 false] [] ?_)
 refine yZ (yY (xr 2 [yT 4 ⟨#[]⟩,yT 5 ⟨#[]⟩,yB 6 false,yT 7 s,yT 8 ⟨#[47]⟩] [] ?_))
 refine xc 193 [.string s,.string ⟨#[47]⟩] 9 (fun _:Unit=>.tuple #[.string s,.string ⟨#[]⟩,.bool false]) _ (fun w R Q=>yN (Zj5 s _ a)) fun c=>?_
 refine xr 6 [yT 4 s,yT 5 ⟨#[]⟩,yB 6 false] [] ?_
 refine yZ (zH ?_)
 refine yR (.tuple #[.string s,.string ⟨#[]⟩,.bool false]) fun w' R Q=>?_
 exact⟨rfl,R⟩
theorem ZlV (s:ByteArray)(w:World)(n:Glob w)(i:(bytes s).length≤570) :
 yA 109 #[.string s] w (RetV w (.tuple #[.string ⟨(Lib.itoa (valF (bytes s)).num).toArray⟩,.string ⟨(Lib.itoa ((valF (bytes s)).den:Int)).toArray⟩])):=by
 refine zQ (Φ:=fun w=>Glob w) func109 rfl qK (fun w' o=>n.ext o) ?_
 refine yY (xr 2 [yT 0 s,yT 2 ⟨#[]⟩,yT 3 ⟨#[]⟩] [] ?_)
 refine yZ (zC (yY (xr 1 [yT 0 s,yT 2 ⟨#[]⟩,yT 3 ⟨#[]⟩,yT 7 s] [] ?_)))
 by_cases b:(wW (bytes s)).isSome=true
 ·obtain⟨q,c⟩:=sU.1 b
  have d:=bL c
  refine xc 61 [.string s] 8 (fun _:Unit=>.bool true) _ (fun w R Q=>(bN s _ Q i).mono (fun _ _ h=>zM h (by rw[b]))) fun f=>?_
  refine xr 1 [yT 0 s,yT 2 ⟨#[]⟩,yT 3 ⟨#[]⟩,yB 9 false] [] ?_
  refine yZ (xb (zI (zA (yY (xr 1 [yT 2 ⟨#[]⟩,yT 3 ⟨#[]⟩,yT 11 s] [] ?_)))))
  by_cases a:q.den=1
  ·refine xc 157 [.string s,.string ⟨#[47]⟩] 12 (fun _:Unit=>.tuple #[.string s,.string ⟨#[]⟩,.bool false]) _ (fun w R Q=>yN (Znu s _ (by have:=(ZhG c a).2;omega))) fun f=>?_
   refine xr 7 [yT 2 ⟨#[]⟩,yT 3 ⟨#[]⟩,yT 4 s,yT 5 ⟨#[]⟩,yB 6 false] [] ?_
   refine yZ (zC (yY (xr 2 [yT 2 ⟨#[]⟩,yT 3 ⟨#[]⟩,yT 4 s,yT 5 ⟨#[]⟩,yB 17 true] [] ?_)))
   refine yZ (xa (yY (xr 3 [yT 2 s,yT 3 ⟨#[49]⟩,yT 4 s,yT 5 ⟨#[]⟩] [] ?_)))
   refine yZ (zH (zN ?_))
   refine yR (.tuple #[.string s,.string ⟨#[49]⟩]) fun w' R Q=>?_
   exact⟨by rw[d,a,← (ZhG c a).1];exact Zj4 s,R⟩
  obtain⟨r,j,k⟩:=Zns c a
  obtain⟨p,e⟩:∃ p,p=((bytes s).takeWhile lF).length:=⟨_,rfl⟩
  rw[←e] at j k
  have g:p<s.size:=by rw[←zX];exact k
  obtain⟨x,l⟩:=yE (s.extract 0 p)
  obtain⟨y,m⟩:=yE (s.extract (p+1) s.size)
  have t:x=⟨(Lib.itoa (q.num)).toArray⟩:=ZgT (by rw[←l,(Znr e).1,r,gI])
  have u:y=⟨(Lib.itoa (q.den:Int)).toArray⟩:=ZgT (by rw[←m,(Znr e).2,j,gI])
  refine xc 157 [.string s,.string ⟨#[47]⟩] 12 (fun _:Unit=>.tuple #[.string x,.string y,.bool true]) _ (fun w R Q=>yN (ZlU s x y p _ (by rw[←zX];omega) e g l m)) fun f=>?_
  refine xr 7 [yT 2 ⟨#[]⟩,yT 3 ⟨#[]⟩,yT 4 x,yT 5 y,yB 6 true] [] ?_
  refine yZ (zC (yY (xr 2 [yT 2 ⟨#[]⟩,yT 3 ⟨#[]⟩,yT 4 x,yT 5 y,yB 17 false] [] ?_)))
  refine yZ (xb (zI (zA (yY (xr 4 [yT 2 x,yT 3 y] [] ?_)))))
  refine yZ (zH ?_)
  refine yR (.tuple #[.string x,.string y]) fun w' R Q=>?_
  exact⟨by rw[d,t,u],R⟩
 have d:valF (bytes s)=0:=Znf (by cases h:wW (bytes s) with|none=>rfl|some q=>rw[h] at b;exact absurd rfl b)
 refine xc 61 [.string s] 8 (fun _:Unit=>.bool false) _ (fun w R Q=>(bN s _ Q i).mono (fun _ _ h=>zM h (by rw[qY.2 b]))) fun f=>?_
 refine xr 1 [yT 0 s,yT 2 ⟨#[]⟩,yT 3 ⟨#[]⟩,yB 9 true] [] ?_
 refine yZ (xa (yY (xr 2 [yT 0 s,yT 2 ⟨#[48]⟩,yT 3 ⟨#[49]⟩] [] ?_)))
 refine yZ (zH (zN ?_))
 refine yR (.tuple #[.string ⟨#[48]⟩,.string ⟨#[49]⟩]) fun w' R Q=>?_
 exact⟨by rw[d];exact ZlT,R⟩
def ZkN (s:ByteArray) (w:World) (e:Ending) (w':World):Prop:=∃ (r:ByteArray) (neg:Bool),e=.returned (.tuple #[.bool neg,.string r])∧xI (bytes s)=(neg,bytes r)∧Ext w w'
def Zge (x:ByteArray×Bool):Value:=.tuple #[.bool x.2,.string x.1]
theorem ZdX {s:ByteArray}{w w':World}{e:Ending}(h:ZkN s w e w'):lR Zge (fun x _=>xI (bytes s)=(x.2,bytes x.1)) w e w':=by
 obtain⟨r,neg,rfl,h,Q⟩:=h
 exact⟨(r,neg),rfl,Q,BoxN.pure h⟩
theorem ZoR {t:ByteArray}{i:Nat}{c:UInt8}(d:((bytes t).take i).all xE=true)(hc:t[i]? = some c)(e:¬ (c.toNat:Int)<48)(f:¬ (c.toNat:Int)>57):((bytes t).take (i+1)).all xE=true:=by
 have hi:i<t.size:=by
  rcases vO i t.size with b|b
  ·exact b
  rw[getElem?_neg t i qO] at hc;cases hc
 have a:t[i]=c:=by
  rw[getElem?_pos t i hi] at hc
  injection hc
 rw[Zbq _ _ hi,pL,d,a]
 have:xE c=true:=by unfold xE;simp;omega
 simp[this]
theorem ZkO {t:ByteArray}{i:Nat}{c:UInt8}(hc:t[i]? = some c)(h:(c.toNat:Int)<48∨(c.toNat:Int)>57):¬ (bytes t).all xE=true:=by
 have hi:i<t.size:=by
  rcases vO i t.size with b|b
  ·exact b
  rw[getElem?_neg t i qO] at hc;cases hc
 have a:t[i]=c:=by
  rw[getElem?_pos t i hi] at hc
  injection hc
 intro d
 have e:t[i]∈bytes t:=by
  rw[←Ze8 t hi];exact sJ _
 have:=dN (vH.1 d _ e)
 rw[a] at this
 unfold xE at *
 have f:=vH.1 d _ e
 rw[a] at f
 simp at f
 omega
section
variable {s r:ByteArray} {neg:Bool} {x:Int}
theorem ZrO (h:bytes s=[48]):fvB (bytes s) x=(x == 0):=by unfold fvB;rw[uS h];rfl
theorem Zcg (h:¬ bytes s=[48])(b:xI (bytes s)=(neg,bytes r))(a:bytes r=[]∨(bytes r).head? = some 48∨¬ okE x∨¬ (bytes r).all xE=true):fvB (bytes s) x=false:=by
 unfold fvB
 rw[uM h,b]
 refine uV ?_
 rintro⟨c,d,e,f,_⟩
 rcases a with a|a|a|a
 ·exact c a
 ·exact d a
 ·exact a e
 exact a f
theorem Zqm {c c0:UInt8}(h:¬ bytes s=[48])(i:xI (bytes s)=(neg,bytes r))(b:r[0]? = some c0)(o:¬ (c0.toNat:Int)=48)(p:¬ x < -1048576)(t:¬ x>1048576)(f:(bytes r).all xE=true){k:Nat}(u:r.size=k+1)(d:r[k]? = some c):fvB (bytes s) x=(((c.toNat % 2:Nat):Int) == 1):=by
 have e:bytes r=(bytes r).take k ++ [c]:=by
  have a:k<r.size:=qO
  have:=Zbq r k a
  rw[uA (by rw[zX];omega)] at this
  rw[getElem?_pos r k a] at d
  injection d with d
  rw[d] at this
  exact this
 have g:zO (bytes r)%2=c.toNat % 2:=by
  rw[e] at f ⊢
  exact ZoM f
 have j:(bytes r).head? = some c0:=by
  have a:0<r.size:=qO
  rw[getElem?_pos r 0 a] at b
  injection b with b
  rw[←b];exact Zaj a
 unfold fvB
 rw[uM h,i]
 have l:c0.toNat≠48:=qO
 show decide _=decide _
 refine pG.2 ⟨fun q=>?_,fun q=>⟨?_,?_,⟨qO,qO⟩,f,?_⟩⟩
 ·have:=q.2.2.2.2
  show ((c.toNat % 2:Nat):Int)=1
  rw[g] at this;omega
 ·intro m
  have n:bytes r=[]:=m
  have:(bytes r).length=0:=by rw[n];rfl
  rw[zX] at this;omega
 ·rw[j];intro e;injection e with e;exact l (by rw[e];rfl)
 have v:((c.toNat % 2:Nat):Int)=1:=q
 show zO (bytes r)%2=1
 rw[g];omega
end
theorem ZoS {P:Program}{o:Oper}{ρ:Operand→Value}{w:World}{t k:TypeId}{x y:Operand}{c:UInt8}(a:o.op=Op.binOp .and t x y k)(b:ρ x=.int .u8 (c.toNat:Int))(d:ρ y=.int .u8 1):(execOp ρ o).run P w=.ok (.value (.int .u8 ((c.toNat % 2:Nat):Int))) w:=by
 have h:bits .and .u8 (c.toNat:Int) 1=((c.toNat % 2:Nat):Int):=by
  have f:=c.toNat_lt
  have e:(BitVec.ofInt 8 (c.toNat:Int)).toNat=c.toNat:=by
   rw[BitVec.ofInt_natCast,BitVec.toNat_ofNat];exact vF qO
  show IntKind.u8.wrap ((BitVec.ofInt 8 (c.toNat:Int) &&& BitVec.ofInt 8 1).toNat:Int)=_
  rw[BitVec.toNat_and,e,show (BitVec.ofInt 8 1).toNat=1 from rfl,Nat.and_one_is_mod,IntKind.wrap_u8];omega
 rw[←h]
 simp only[execOp,a,b,d,eqGuard,binOp]
 rfl
theorem ZdY (s:ByteArray)(w:World) :
 yA 70 #[.string s] w (ZkN s w):=by
 refine zQ (Φ:=fun w=>True) func70 rfl qK (fun w' a=>trivial) ?_
 refine yY (xr 2 [yT 0 s,yB 2 false,yT 3 ⟨#[]⟩] [] ?_)
 refine yZ (yY (xr 1 [yB 2 false,yT 3 ⟨#[]⟩,yT 7 s] [] ?_))
 refine xc 120 [.string s,.string ⟨#[45]⟩] 8 (fun x:ByteArray×Bool=>.tuple #[.string x.1,.bool x.2]) _ (fun w R Q=>yM ZlQ (ZdD s _)) fun⟨r,neg⟩=>?_
 refine xr 5 [yB 2 false,yT 3 ⟨#[]⟩,yT 4 r,yB 5 neg] [] ?_
 refine yZ (yY (xr 4 [yB 2 neg,yT 3 r] [] ?_))
 refine yZ (zH ?_)
 refine yR (.tuple #[.bool neg,.string r]) fun w' R Q=>?_
 exact⟨r,neg,rfl,Q.2,R⟩
theorem ZcN (s:ByteArray)(x:Int)(w:World)(S:(bytes s).length≤1000000) :
 yA 44 #[yS s x] w (RetV w (.bool (fvB (bytes s) x))):=by
 refine zQ (Φ:=fun w=>True) func44 rfl qK (fun w' T=>trivial) ?_
 refine yY (xq 2 [(1,.p 1 0),yB 2 false] [yG 1 76 s x] ?_)
 refine yZ (zC (zC ?_))
 by_cases a:bytes s=[48]
 ·refine zB (xq 3 [yB 8 ((s:ByteArray).toList == (⟨#[48]⟩:ByteArray).toList)] [] ?_)
  rw[ZkI a]
  refine yZ (xa (yY (xq 4 [yB 2 ((x:Int) == 0)] [] ?_)))
  refine yZ (zH (zN ?_))
  refine yR (.bool ((x:Int) == 0)) fun w' R Q=>?_
  exact⟨by rw[ZrO a],R⟩
 refine zB (xq 3 [yB 8 ((s:ByteArray).toList == (⟨#[48]⟩:ByteArray).toList)] [] ?_)
 rw[ZkJ a]
 refine yZ (xb (zI (zA (yY (xq 2 [yT 14 s] [] ?_)))))
 refine xqc 70 [.string s] 15 Zge _ (fun w R Q=>yM ZdX (ZdY s _)) fun⟨r,neg⟩=>?_
 refine xq 5 [yT 4 r] [] ?_
 refine yZ (zC (zC ?_))
 refine SXc.know (p:=xI (bytes s)=(neg,bytes r)) (fun w _ Q=>Q.2) fun l=>?_
 have L:r.size≤1000000:=by have:=Zho l;rw[zX] at this;omega
 by_cases B:bytes r=[]
 ·refine zB (xq 2 [yB 19 ((r:ByteArray).toList == (⟨#[]⟩:ByteArray).toList)] [] ?_)
  rw[ZkF B]
  refine xq 15 [yB 34 true] [] ?_
  refine yZ (xa (yY (xq 1 [yB 2 false] [] ?_)))
  refine yZ (zH (zN ?_))
  refine yR (.bool false) fun w' R Q=>?_
  exact⟨by rw[Zcg a l (Or.inl B)],R⟩
 obtain⟨C,M,D⟩:=ZoP B
 have N:=ZoQ B
 refine zB (xq 2 [yB 19 ((r:ByteArray).toList == (⟨#[]⟩:ByteArray).toList)] [] ?_)
 rw[ZkG B]
 refine xq 2 [yB 20 false,yT 21 r] [] ?_
 refine xqk 22 (.int .u8 (C.toNat:Int)) (fun w R Q=>cL (t:=9) (x:=.tmp 21) (k:=0) (i:=.const (yI 0)) qK qK qK (by rfl) D) ?_
 refine xq 3 [yB 25 (((C.toNat:Int):Int) == 48)] [] ?_
 rcases bl2 ((((C.toNat:Int):Int) == 48)) with b|b
 ·rw[b]
  have n:=sO.1 b
  refine xq 9 [yB 34 true] [] ?_
  refine yZ (xa (yY (xq 1 [yB 2 false] [] ?_)))
  refine yZ (zH (zN ?_))
  refine yR (.bool false) fun w' R Q=>?_
  exact⟨by rw[Zcg a l (Or.inr (Or.inl (by rw[M,show C=48 from UInt8.toNat_inj.1 (by show C.toNat=48;omega)])))],R⟩
 rw[b]
 have n:=lK b
 refine xq 5 [yB 30 (decide (x<(-1048576)))] [] ?_
 rcases bl2 ((decide (x<(-1048576)))) with d|d
 ·rw[d]
  have o:=uC d
  refine xq 4 [yB 34 true] [] ?_
  refine yZ (xa (yY (xq 1 [yB 2 false] [] ?_)))
  refine yZ (zH (zN ?_))
  refine yR (.bool false) fun w' R Q=>?_
  exact⟨by rw[Zcg a l (Or.inr (Or.inr (Or.inl (by rintro⟨O,P⟩;omega))))],R⟩
 rw[d]
 have o:=uD d
 refine xq 4 [yB 34 (decide (x>1048576))] [] ?_
 refine xe (zA ?_)
 refine yQ ((decide (x>1048576))) (fun f=>?_) fun f=>?_
 ·have q:=uC f
  refine yY (xq 1 [yB 2 false] [] ?_)
  refine yZ (zH (zN ?_))
  refine yR (.bool false) fun w' R Q=>?_
  exact⟨by rw[Zcg a l (Or.inr (Or.inr (Or.inl (by rintro⟨O,P⟩;omega))))],R⟩
 have q:=uD f
 refine zI (zA (zC (yY (xq 3 [yJ 36 ((r).size:Int),yJ 37 0] [] ?_))))
 refine yZ (zP ?_)
 refine yC [yB 2 false,yT 4 r,yJ 36 ((r).size:Int),yJ 37 ((0:Nat):Int)] [] (fun w=>True) (fun w Q=>trivial) ?_
 refine xU (fun H I J=>∃ (k:Nat),I=ofL [yB 2 false,yT 4 r,yJ 36 ((r).size:Int),yJ 37 (k:Int)] []∧J=(fun w=>True)∧(k≤r.size)∧(((bytes r).take k).all xE=true)∧H=(r.size-k)) ((r.size-0)) ⟨0,rfl,rfl,(vL _),rfl,rfl⟩ ?_
 rintro H I J ⟨k,rfl,rfl,U,K,rfl⟩
 refine yY (xq 1 [yB 38 (decide ((k:Int)<((r).size:Int)))] [] ?_)
 refine yZ (zC ?_)
 refine yQ ((decide ((k:Int)<((r).size:Int)))) (fun g=>?_) fun g=>?_
 ·have u:=uC g
  have E:k<r.size:=qO
  obtain⟨c,m⟩:∃ c,r[k]? = some c:=⟨r[k],by simp[E]⟩
  refine zI (zA (zC (zP (yY (xq 2 [yJ 5 (k:Int)] [] ?_)))))
  refine yZ (yY (xq 2 [yT 40 r,yJ 41 (k:Int)] [] ?_))
  refine xqk 42 (.int .u8 (c.toNat:Int)) (fun w R Q=>cL (t:=9) (x:=.tmp 40) (k:=k) (i:=.tmp 41) qK qK qK qK m) ?_
  refine xq 2 [yB 44 (decide ((c.toNat:Int)<48))] [] ?_
  rcases bl2 ((decide ((c.toNat:Int)<48))) with e|e
  ·rw[e]
   have v:=uC e
   refine xq 5 [yB 49 true] [] ?_
   refine yZ (xa (yY (xq 1 [yB 2 false] [] ?_)))
   refine yZ (zH (wM (zN (zN (wM (zN ?_))))))
   refine yR (.bool false) fun w' R Q=>?_
   exact⟨by rw[Zcg a l (Or.inr (Or.inr (Or.inr (ZkO m qO))))],R⟩
  rw[e]
  have v:=uD e
  refine xq 2 [yT 45 r,yJ 46 (k:Int)] [] ?_
  refine xqk 47 (.int .u8 (c.toNat:Int)) (fun w R Q=>cL (t:=9) (x:=.tmp 45) (k:=k) (i:=.tmp 46) qK qK qK qK m) ?_
  refine xq 2 [yB 49 (decide ((c.toNat:Int)>57))] [] ?_
  refine xe (zA ?_)
  refine yQ ((decide ((c.toNat:Int)>57))) (fun j=>?_) fun j=>?_
  ·have z:=uC j
   refine yY (xq 1 [yB 2 false] [] ?_)
   refine yZ (zH (wM (zN (zN (wM (zN ?_))))))
   refine yR (.bool false) fun w' R Q=>?_
   exact⟨by rw[Zcg a l (Or.inr (Or.inr (Or.inr (ZkO m qO))))],R⟩
  have z:=uD j
  refine zI (xS (zA (zB (xq 1 [yJ 50 (IntKind.i64.wrap ((k:Int)+1))] [] ?_))))
  rw[yW ((k:Int)+1) (((k+1:Nat):Int)) qO]
  refine xq 1 [yJ 37 ((k+1:Nat):Int)] [] ?_
  refine xe ?_
  refine yP [yB 2 false,yT 4 r,yJ 36 ((r).size:Int),yJ 37 (((k+1):Nat):Int)] [] (fun w=>True) (fun w Q=>trivial) ?_
  exact xH ((r.size-(k+1))) qO ⟨(k+1),rfl,rfl,E,(ZoR K m qO qO),rfl⟩
 have u:=uD g
 have F:(bytes r).all xE=true:=by have h:=K;rw[uA (by rw[zX];omega)] at h;exact h
 refine xO (zG (zG (xW (zA (zC ?_)))))
 obtain⟨A,G⟩:∃ A,r.size=A+1:=⟨r.size-1,qO⟩
 obtain⟨c,m⟩:∃ c,r[A]? = some c:=⟨r[A],by simp[G]⟩
 refine zB (xq 4 [yT 51 r,yJ 54 (IntKind.i64.wrap (((r).size:Int)-1))] [] ?_)
 rw[yW ((r.size:Int)-1) ((A:Int)) qO]
 refine xqk 55 (.int .u8 (c.toNat:Int)) (fun w R Q=>cL (t:=9) (x:=.tmp 51) (k:=A) (i:=.tmp 54) qK qK qK qK m) ?_
 refine xqk 56 (.int .u8 ((c.toNat % 2:Nat):Int)) (fun w R Q=>ZoS (t:=5) (k:=5) (x:=.tmp 55) (y:=.const (.int .u8 1)) qK qK qK) ?_
 refine xq 2 [yB 2 ((((c.toNat % 2:Nat):Int):Int) == 1)] [] ?_
 refine yZ (zH ?_)
 refine yR (.bool ((((c.toNat % 2:Nat):Int):Int) == 1)) fun w' R Q=>?_
 exact⟨by rw[Zqm a l D qO qO qO F G m],R⟩
theorem ZeU (b:Int)(w:World) :
 yA 62 #[.int .i64 b] w (RetV w (.bool (decide (8≤b∧b≤1024)))):=by
 refine zQ (Φ:=fun w=>True) func62 rfl qK (fun w' d=>trivial) ?_
 refine yY (xq 1 [yB 2 false] [] ?_)
 refine yZ (yY (xq 3 [yB 5 (decide (b≥8))] [] ?_))
 rcases bl2 ((decide (b≥8))) with a|a
 ·rw[a]
  have c:=uC a
  refine xq 4 [yB 2 (decide (b≤1024))] [] ?_
  refine yZ (zH ?_)
  refine yR (.bool (decide (b≤1024))) fun w' R Q=>?_
  exact⟨vI (fun b=>Ending.returned (Value.bool b)) (pG.2 ⟨fun h=>⟨qO,h⟩,fun h=>h.2⟩),R⟩
 rw[a]
 have c:=uD a
 refine xq 4 [yB 2 false] [] ?_
 refine yZ (zH ?_)
 refine yR (.bool false) fun w' R Q=>?_
 exact⟨by rw[uV (p:=8≤b∧b≤1024) qO],R⟩
section
open Go.RowKit Go.Sort
def Za8 (w:World) (l:List UInt8) (e:Ending) (w':World):Prop:=e=.returned (.string ⟨l.toArray⟩)∧Ext w w'
theorem Zdg (u:Nat)(w:World)(a:u<100) :
 yA 176 #[.int .u64 (u:Int),.int .i64 10] w (Za8 w (Lib.decDigits u)):=by
 have b:(u:Int)<100:=qO
 go_enter func176,ntmps176
 go_wp2_with (go_at_call 201;refine (Tryz.internal_strconv_small u a _).mono ?_;rintro e w' ⟨rfl,rfl⟩)
 go_ret
 exact⟨rfl,Fr.refl _ _⟩
theorem ZeD (u i:Nat)(w:World)(v:Glob w)(C:100≤u)(a:u<18446744073709551616)(c:Lib.nDigits u=i) :
 yA 176 #[.int .u64 (u:Int),.int .i64 10] w (Za8 w (Lib.decDigits u)):=by
 have n:=Zii u (by rw[zK];exact a)
 have g:=Lib.decDigits_length u
 rw[c] at g
 rw[g] at n
 have o:prog.arrayLen 247=24:=by simp[Program.arrayLen,underlying247]
 have z:∀ W,(Instr.sliceAt 247 (.pointer (some ⟨w.heap.size,0,none⟩)) none (some (.int .i64 (i:Int))) none).run prog W=.ok (.slice (some ⟨w.heap.size,0,none⟩) i 24) W:=fun W=>by
  rw[run_sliceAt_array_h W 247 ⟨w.heap.size,0,none⟩ (by simp[Program.arrayLen,Program.elem,underlying247]) .i64 (i:Int) qO (by rw[o];omega)]
  go_simp
 have l:=Lib.holds_zero0 w 247 i qO
 have d:=Tryz.internal_strconv_formatBase10 w.heap.size 0 24 u (Array.replicate i 0) (w.alloc (.cells Lib.zeros24 247)) l (by rw[pT,← c];exact Lib.lt_pow_nDigits u) a (by rw[pT];omega)
 have f:=Tryz.internal_strconv_numDigits u qO a (w.alloc (.cells Lib.zeros24 247)) (Lib.tabIs_alloc v.1 _)
 rw[pT] at d
 rw[c] at f
 have q:=zh l
 have x:=zh g
 have r:=zh c
 have D:(100:Int)≤(u:Int):=qO
 clear l o g c v
 go_enter func176,ntmps176
 go_wp2_with (go_at_call 202;refine f.mono ?_;rintro e w' ⟨rfl,rfl⟩)
 go_at_call 203
 refine d.mono ?_
 rintro e w' ⟨rfl,k,E,m,rfl,p⟩
 have s:(convert 191 9 (.slice (some ⟨w.heap.size,0,none⟩) i 24)).run prog ((putRow (fun (b:UInt8)=>Value.int .u8 (b.toNat:Int)) (w.alloc (.cells Lib.zeros24 247)) w.heap.size 0 m).drewN k)=.ok (.string ⟨(Lib.decDigits u).toArray⟩) ((putRow (fun (b:UInt8)=>Value.int .u8 (b.toNat:Int)) (w.alloc (.cells Lib.zeros24 247)) w.heap.size 0 m).drewN k):=by
  have h:=run_convert_bytes_back (P:=prog) ((putRow (fun (b:UInt8)=>Value.int .u8 (b.toNat:Int)) (w.alloc (.cells Lib.zeros24 247)) w.heap.size 0 m).drewN k) 191 9 5 ⟨w.heap.size,0,none⟩ 24 (Lib.decDigits u) underlying191 underlying5 underlying9 (fun j t=>by
   rw[Lib.row_is_numeral (by rw[r.out];exact p) j t,Lib.add_plain,World.cell?_drewN]
   exact cell?_putRow (fun (b:UInt8)=>Value.int .u8 (b.toNat:Int)) _ w.heap.size 0 _ m q.out (by rw[p.size,pT]) j (by rw[p.size];rw[x.out] at t;exact t))
  rw[x.out] at h
  exact h
 obtain⟨A,y⟩:=Lib.fin_at w (.cells Lib.zeros24 247) m k 0
 have Q:Ext w ((putRow (fun (b:UInt8)=>Value.int .u8 (b.toNat:Int)) (w.alloc (.cells Lib.zeros24 247)) w.heap.size 0 m).drewN k):=by
  rw[y];exact Fr.ofBelow (Lib.below_grow _ w (uG _) k A)
 generalize (putRow (fun (b:UInt8)=>Value.int .u8 (b.toNat:Int)) (w.alloc (.cells Lib.zeros24 247)) w.heap.size 0 m).drewN k=w1 at Q s ⊢
 have B:=zh Q
 clear Q y p d f
 go_wp2
 go_ret
 exact⟨rfl,B.out⟩
theorem ZgU (u:Nat)(w:World)(b:Glob w)(a:u<W64) :
 yA 148 #[.int .u64 (u:Int),.int .i64 10] w (Za8 w (Lib.decDigits u)):=by
 have h:yA 176 #[.int .u64 (u:Int),.int .i64 10] w (Za8 w (Lib.decDigits u)):=by
  rcases vO u 100 with h|h
  ·exact Zdg u w h
  exact ZeD u _ w b h (by rw[zK] at a;exact a) rfl
 have H:=zh h
 clear h b a
 go_enter func148,ntmps148
 go_wp2_with fail
 refine H.out.mono ?_
 rintro e w' ⟨rfl,Q⟩
 have c:=zh Q
 clear Q
 go_wp2
 go_ret
 exact⟨rfl,c.out⟩
end
def chV:List Nat→Nat
 | []=>0
 | c :: cs=>c+10^19*chV cs
theorem ZcP (c:Nat):∀ a:List Nat,chV (a ++ [c])=chV a+(10^19)^a.length*c
 | []=>by simp[chV]
 | d :: a=>by
  show d+10^19*chV (a ++ [c])=d+10^19*chV a+(10^19)^(a.length+1)*c
  rw[ZcP c a,uP (m:=a.length) (n:=10^19),uL,← uH,uF (10^19) ((10^19)^a.length),tY]
structure ChR (n:Nat) (cs:List Nat) (r:Nat):Prop where
 eq:n=chV cs+(10^19)^cs.length*r
 lt:∀ c∈cs,c<10^19
 top:r=0→cs≠[]→∃ l c,cs=l ++ [c]∧0<c
theorem ChR.start (n:Nat):ChR n [] n:=⟨by simp[chV],fun c h=>by simp at h,fun _ h=>absurd rfl h⟩
theorem ChR.step {n r:Nat}{cs:qN}(h:ChR n cs r)(e:0<r):ChR n (cs ++ [r%10^19]) (r/10^19):=by
 refine⟨?_,fun c b=>?_,fun d _=>⟨cs,_,rfl,?_⟩⟩
 ·rw[ZcP,uK,rH,uP (m:=cs.length) (n:=10^19),uH,tY,← uL,sA]
  exact h.eq
 ·rcases tR.1 b with a|a
  ·exact h.lt c a
  rw[rK.1 a];exact uO _ qD
 have a:=sA r (10^19)
 rw[d,tP,tD] at a
 omega
theorem ZkP {cs:qN}(h:∃ l c,cs=l ++ [c]∧0<c):0<chV cs:=by
 obtain⟨l,c,rfl,a⟩:=h
 rw[ZcP]
 have:=sL (uX (n:=l.length) (show 0<10^19 by decide)) a
 omega
theorem Zi4 {cs:qN}{i:Nat}(hi:i<cs.length)(h:∃ l c,cs=l ++ [c]∧0<c):∃ l c,cs.drop i=l ++ [c]∧0<c:=by
 obtain⟨l,c,rfl,a⟩:=h
 rw[uK,rH] at hi
 exact⟨l.drop i,c,List.drop_append_of_le_length qO,a⟩
theorem ZoT {cs:qN}{i c:Nat}(hi:i<cs.length)(a:cs[i]?.getD 0=c)(d:∀ c∈cs,c<10^19)(e:∃ l c,cs=l ++ [c]∧0<c) :
 wL (chV (cs.drop i))=if i+1<cs.length then wL (chV (cs.drop (i+1))) ++ (List.replicate (19-(Lib.decDigits c).length) 48 ++ Lib.decDigits c) else Lib.decDigits c:=by
 have f:cs.drop i=c :: cs.drop (i+1):=by
  rw[tM hi]
  rw[uN hi] at a
  simp only[rW] at a
  rw[a]
 have b:c<10^19:=by
  rw[uN hi] at a
  simp only[rW] at a
  rw[←a];exact d _ (sJ hi)
 rw[f]
 show wL (c+10^19*chV (cs.drop (i+1)))=_
 by_cases h:i+1<cs.length
 ·rw[uS h,vU,uF,ZhQ (ZkP (Zi4 h e)) 19 c b,Zob qO b]
 rw[uM h,vC qO]
 show wL (c+10^19*0)=_
 have g:=ZkP (Zi4 hi e)
 rw[f,vC qO] at g
 rw[tP,tD]
 exact jF (by simp[chV] at g;omega)
theorem Zi8 (t:ByteArray)(v:Nat)(w:World)(b:(bytes t).all xE=true)(a:zO (bytes t)=v)(g:t.size≠0)(k:t.size≤1099511627776)(c:v<18446744073709551616) :
 yA 160 #[.string t,.int .i64 10,.int .i64 64] w fun e w'=>e=.returned (.tuple #[.int .u64 (v:Int),.nilIface])∧Ext w w':=by
 have d:Lib.parseUint10 0 t.data.toList=.ok v:=by
  have h:=pu10 (bytes t) 0 b (by rw[tX,vY,a];exact c)
  rw[tX,vY,a] at h
  exact h
 have h:=Tryz.internal_strconv_ParseUint_10_b64 t g qO w
 rw[d] at h
 have f:yA 196 #[.string t,.int .i64 10,.int .i64 64] w fun e w'=>e=.returned (.tuple #[.int .u64 (v:Int),.nilIface])∧Ext w w':=by
  refine h.mono ?_
  rintro e w' ⟨rfl,rfl⟩
  exact⟨rfl,rfl,rfl,rfl,by rw[Lib.bytesWorld_size];omega,fun i hi _=>Lib.bytesWorld_at_old _ _ _ i hi⟩
 have H:=zh f
 clear h f d b a c
 go_enter func160,ntmps160
 go_wp2_with fail
 refine H.out.mono ?_
 rintro e w' ⟨rfl,Q⟩
 have j:=zh Q
 clear Q
 go_wp2
 go_ret2
 exact⟨rfl,j.out⟩
def ZlW (w wr:World) (T:Nat) (d:ByteArray) (A:Option Addr) (cap:Nat) (xs:List Nat):Prop :=
 Buf .u64 141 wr A cap xs∧PaR T (bytes d) xs∧Ext w wr∧∀ b,xR A b→w.heap.size≤b
theorem ZcR (d:ByteArray)(w:World)(T:Nat)(hd:(bytes d).all xE=true)(hT:zO (bytes d)=T)(hw:wl T≤1048576)(hl:d.size≤1099511627776) :
 yA 111 #[.string d] w (lB w T):=by
 have HS:=zh (PaR.start hd hT)
 clear hd hT
 have ha:=ZaW
 go_enter func111,ntmps111
 go_wp2
 go_loopw [0,3] (fun v0 v3 wr=>∃ (d:ByteArray) (A:Option Addr) (f:Nat) (j:List Nat),v0=.string d∧v3=.slice A j.length f∧d.size≤1099511627776∧Hid (ZlW w wr T d A f j)) (fun v0 _ _=>match v0 with | .string d=>d.size | _=>0)
 case atStart=>exact⟨d,none,0,[],rfl,rfl,hl,Buf.nil,HS.out,Fr.refl _ _,fun b t=>by obtain⟨a,ha,_⟩:=t;cases ha⟩
 case round =>
  obtain⟨d,A,f,j,rfl,rfl,hl,B⟩:=hrel
  by_cases t0:0<d.size
  ·have u0:=B.out.2.1.len
   obtain⟨n,hn⟩:=yE d.size
   obtain⟨z,hz⟩:=yE ((n-1)%19)
   have w0:z≤18:=qO
   have c0:z+1≤n:=by have:=nM (n-1) 19;omega
   have e1:((n:Int)-1)%19=(z:Int):=qO
   have y0:(1:Int)≤(n:Int):=qO
   have z0:(0:Int)≤(n:Int)-1:=qO
   have A0:((z:Int)+1)≤(n:Int):=qO
   have B0:((z:Int)+1).toNat=z+1:=qO
   have I:(bytes d).length=n:=by rw[zX];exact hn
   have J:(d.extract 0 (z+1)).size=z+1:=by rw[qG];omega
   have K:bytes (d.extract 0 (z+1))=(bytes d).take (z+1):=by rw[kY];simp
   obtain⟨c,hc⟩:=yE (zO ((bytes d).take (z+1)))
   have d0:=B.out.2.1.chunk (z:=z) qO (by rw[I];exact hz)
   rw[hc] at d0
   have P:∀ W,yA 160 #[.string (d.extract 0 (z+1)),.int .i64 10,.int .i64 64] W fun e w'=>e=.returned (.tuple #[.int .u64 (c:Int),.nilIface])∧Ext W w':=fun W =>
    Zi8 _ c W (by
     rw[K,vH];intro x hx
     exact vH.1 B.out.2.1.all _ (sQ hx)) (by rw[K];exact hc) (by rw[J];omega) (by rw[J];omega) qO
   have Q:bytes (d.extract (z+1) d.size)=(bytes d).drop (z+1):=by
    rw[kY,uA (by rw[tL,zX];exact uG _)]
   have C:(d.extract (z+1) d.size).size=d.size-(z+1):=by rw[qG];omega
   have e0:=zh Q
   have D:=zh C
   have f0:=zh P
   have g0:Hid (((bytes d).length-1)%19=z):=by unfold Hid;rw[I];exact hz
   have i0:Hid (0<(bytes d).length):=by unfold Hid;omega
   have Hc:=zh hc
   have Hn:=zh hn
   clear Q C P K J I hc hz
   go_wp2_with fail
   refine (f0.out _).mono ?_
   rintro e wB ⟨rfl,E⟩
   have HX:=zh E
   clear E
   have C0:z+1≤d.size:=by rw[Hn.out];exact c0
   clear hn
   go_wp2_with fail
   have j0:=zh B.out.1
   have HP:=zh B.out.2.1
   have k0:=zh B.out.2.2.1
   have u:=zh B.out.2.2.2
   have F:(d.extract (z+1) d.size).size≤1099511627776:=by rw[D.out];omega
   have l:Hid ((d.extract (z+1) d.size).size<d.size):=by rw[Hid,D.out];omega
   have o:Hid (∀ m q,iR j 10000000000000000000 c j.length m q→PaR T (bytes (d.extract (z+1) d.size)) (if q=0 then m else m ++ [q])):=by
    intro m q G
    rw[e0.out]
    exact HP.out.step i0.out g0.out (by rw[Hc.out];exact G)
   generalize d.extract (z+1) d.size=d2 at *
   have l0:Hid (c<W64):=by unfold Hid;rw[zK];omega
   have L:Hid (10000000000000000000<W64):=by unfold Hid;rw[zK];omega
   go_loopw [5,32] (fun v9 m0 wx=>∃ (k q:Nat) (m:List Nat),k≤j.length∧m0=.int .i64 (k:Int)∧v9=.int .u64 (q:Int)∧Hid (iR j 10000000000000000000 c k m q)∧Hid (Buf .u64 141 wx A f m)∧Hid (Fr (xR A) wB wx)) (fun _ v _=>j.length-(intOf v).toNat)
   case atStart=>exact⟨0,c,j,qO,rfl,rfl,iR.start HP.out.dig l0.out,j0.out.ext HX.out,Fr.refl _ _⟩
   case round =>
    obtain⟨k,q,m,hk,rfl,rfl,G,hB,hF⟩:=hrel
    have g:m.length=j.length:=G.out.1
    by_cases n0:k<j.length
    ·obtain⟨b,rfl,R,hC,S,U⟩:=hB.out.open_ (by intro e;rw[e] at g;simp at g;omega)
     obtain⟨y,hy⟩:=yE (m[k]?.getD 0)
     have M:=R.cell (i:=k) qO
     rw[hy] at M
     have x0:=R.frozen k
     have V:Hid (y<W64):=hy ▸ G.out.2.2.1.getD zJ k
     have o0:=zh (G.out.step n0 hy L.out)
     have X:=fun v=>Buf.set_ R hC S U k v qO
     have p0:=zh X
     have q0:=zh G.out.2.2.2.1
     have HW:Hid (IntKind.u64.wrap ((wI y 10000000000000000000:Int)+(xQ (xA y 10000000000000000000) q 0:Int))=(maHi y 10000000000000000000 q:Int)):=by
      have h:=Zb4 V.out L.out q0.out
      unfold Hid maHi at *
      rw[←sZ,wG _ h]
     have r0:=R.lt
     have r:=zh g
     clear R hC S U hy X g
     go_wp2_with (go_at_call 161;refine (Zaf _ _ V.out L.out _).mono ?_;rintro e w' ⟨rfl,rfl⟩)
     go_roundw
     case rel=>exact⟨k+1,_,_,qO,by go_num,by rw[HW.out],o0.out,p0.out _,hF.out.setCell (p:=⟨b,k,none⟩) (Or.inl ⟨_,rfl,rfl⟩) _⟩
     case measure=>simp[intOf];omega
    obtain rfl:k=j.length:=qO
    have N:Hid (Ext w wr):=(k0.out.trans HX.out).next hF.out (fun i hi t=>by have:=u.out i t;omega)
    by_cases hq:q=0
    ·subst hq
     have O:=o.out m 0 G.out
     rw[uS rfl] at O
     have s:Hid (ZlW w wr T d2 A f m):=⟨hB.out,O,N.out,u.out⟩
     have r:=zh g
     clear O g
     go_wp2
     go_roundw
     case rel=>exact⟨d2,A,f,m,rfl,by rw[r.out],F,s.out⟩
     case measure=>exact l.out
    have D0:(0:Int)<(q:Int):=qO
    have O:=o.out m q G.out
    rw[uM hq] at O
    have Y:=zh O
    have r:=zh g
    have s0:Hid (zE .u64 (wr.alloc (.cells #[.int .u64 (q:Int)] 141)) (some ⟨wr.heap.size,0,none⟩) [q]):=(Own.new wr 141 .u64 [q] []).shows0
    clear O g hq
    go_wp2_with (at_builtin;refine Hid.out ?_)
    refine zh ?_
    refine wY rfl _ _ _ rfl _ .u64 8 underlying107 eN A (some ⟨wr.heap.size,0,none⟩) j.length 1 f 1 rfl rfl m [q] r.out rfl (hB.out.ext ((Fr.refl _ _).alloc _)) s0.out (by simp only[maxLen];omega) qO ?_
    intro A1 H w2 Z a0 b0
    have s:Hid (ZlW w w2 T d2 A1 H (m ++ [q])):=by
     refine⟨Z,Y.out,?_,?_⟩
     ·exact (N.out.alloc _).next a0 (fun i hi t=>by have:=u.out i t;omega)
     intro b t
     rcases b0 b t with h|h
     ·exact u.out b h
     have:=N.out.size;simp at h;omega
    clear Z a0 b0
    go_wp2
    go_roundw
    case rel=>exact⟨d2,A1,H,m ++ [q],rfl,by rw[uK,r.out];rfl,F,s.out⟩
    case measure=>exact l.out
  have h0:d.size=0:=qO
  obtain⟨h1,h2,h3,h4⟩:=B.out
  have hN:Hid (lB w T (.returned (.slice A j.length f)) wr):=by
   refine⟨_,rfl,?_,h3⟩
   have t:bytes d=[]:=rZ (by rw[zX];exact h0)
   rw[t] at h2
   exact⟨A,j,f,rfl,h1.len,h1.shows,h2.dig,h2.trim,h2.done⟩
  clear h1 h2 h3 h4
  go_wp2
  go_ret
  exact hN.out
theorem ZkT {x r:Nat}(a:0<r)(k:0<x):x<((r+x/r)/2^1+1)*((r+x/r)/2^1+1)∧0<(r+x/r)/2^1:=by
 obtain⟨q,c⟩:=yE (x/r)
 have f:=vW x r
 have l:=uO x a
 rw[c] at f ⊢
 obtain⟨m,g⟩:=yE ((r+q)/2^1)
 rw[g]
 have i:r+q≤2*m+1:=qO
 have j:x<r*(q+1):=by rw[uL,tT];omega
 have n:4*(r*(q+1))≤(r+q+1)*(r+q+1):=by
  rcases Nat.le_total r (q+1) with h|h
  ·obtain⟨d,b⟩:=oN h
   have e:r+q+1=r+(r+d):=qO
   rw[e,b]
   simp only[uL,uW]
   have:=vL (d*d)
   rw[uF d r];omega
  obtain⟨d,b⟩:=oN h
  have e:r+q+1=(q+1+d)+(q+1):=qO
  rw[e,b]
  generalize q+1=p
  simp only[uL,uW]
  have:=vL (d*d)
  rw[uF d p];omega
 have o:(r+q+1)*(r+q+1)≤(2*(m+1))*(2*(m+1)):=uZ qO qO
 have s:(2*(m+1))*(2*(m+1))=4*((m+1)*(m+1)):=by
  rw[rL]
 refine⟨qO,?_⟩
 rcases uJ m with e|e
 ·exfalso
  subst e
  have:r=1:=qO
  subst this
  have:q=0:=qO
  subst this
  omega
 exact e
theorem Zrl {x r r0:Nat}(h:¬ (r+x/r)/2^1<r)(c:x<(r+1)*(r+1))(d:r0*r0≤x)(e:x<(r0+1)*(r0+1)):r=r0:=by
 have b:r≤x/r:=qO
 have f:r*r≤x:=by
  have:=pC x r
  have:=uE r b
  omega
 rcases qW r r0 with a|a|a
 ·have:=uZ (show r+1≤r0 by omega) (show r+1≤r0 by omega);omega
 ·exact a
 have:=uZ (show r0+1≤r by omega) (show r0+1≤r by omega);omega
theorem Zjb {x k:Nat}(h:x<2^k):x<(1*2^((k+1)/2)+1)*(1*2^((k+1)/2)+1)∧0<1*2^((k+1)/2):=by
 rw[rP]
 have b:2^k≤2^((k+1)/2)*2^((k+1)/2):=by rw[←uR];exact vA qO qO
 have a:=uX (n:=(k+1)/2) (show 0<2 by omega)
 refine⟨?_,a⟩
 have:=uZ (Nat.le_succ (2^((k+1)/2))) (Nat.le_succ (2^((k+1)/2)))
 simp only[oD] at this
 omega
theorem ZrP {k m:Nat}(h:k≤64*m):wl (1*2^((k+1)/2))≤m+1:=by
 rw[rP]
 refine kE.2 ?_
 rw[zK,show (18446744073709551616:Nat)=2^64 from rfl,← qV]
 exact Nat.pow_lt_pow_right qO qO
theorem ZnA {q r:Nat}{w w':World}{e:Ending}(h:Zb0 w q r e w'):lR (fun x:ShN×ShN=>.tuple #[xK x.1,xK x.2]) (fun x w=>zF w (xK x.1) q∧zF w (xK x.2) r) w e w':=by
 obtain⟨u,v,rfl,a,b,Q⟩:=h
 obtain⟨A,l,c,rfl⟩:=a.slice
 obtain⟨g,i,j,rfl⟩:=b.slice
 exact⟨((A,l,c),(g,i,j)),rfl,Q,boxn Q (fun S k d f=>⟨a.nrb d f,b.nrb d f⟩)⟩
theorem rw1 {k:Nat}(h:k≤100000):IntKind.i64.wrap ((k:Int)+1)=((k+1:Nat):Int):=by rw[IntKind.wrap_i64];omega
inductive RootIs (p:Rat):ByteArray→Bool→Prop
 | neg (h:p.num<0):RootIs p ⟨#[]⟩ false
 | no1 (n d:Nat) (h0:0≤p.num) (hn1:n*n≤p.num.natAbs) (hn2:p.num.natAbs<(n+1)*(n+1)) (hd1:d*d≤(p.den:Int).natAbs) (hd2:(p.den:Int).natAbs<(d+1)*(d+1)) (h:¬ n*n=p.num.natAbs):RootIs p ⟨#[]⟩ false
 | no2 (n d:Nat) (h0:0≤p.num) (hn1:n*n≤p.num.natAbs) (hn2:p.num.natAbs<(n+1)*(n+1)) (hd1:d*d≤(p.den:Int).natAbs) (hd2:(p.den:Int).natAbs<(d+1)*(d+1)) (hnn:n*n=p.num.natAbs) (h:¬ d*d=(p.den:Int).natAbs):RootIs p ⟨#[]⟩ false
 | yes (n d:Nat) (Q:Rat) (h0:0≤p.num) (hn1:n*n≤p.num.natAbs) (hn2:p.num.natAbs<(n+1)*(n+1)) (hd1:d*d≤(p.den:Int).natAbs) (hd2:(p.den:Int).natAbs<(d+1)*(d+1)) (hnn:n*n=p.num.natAbs) (hdd:d*d=(p.den:Int).natAbs) (hQn:Q.num=(n:Int)) (hQd:(Q.den:Int)=(d:Int)):RootIs p ⟨(xP Q).toArray⟩ true
def frz (b g:Nat):AV→AV
 | .v x=>.v x
 | .p b' off=>bif Nat.beq b' b then .v (.pointer (some ⟨g,off,none⟩)) else .p b' off
theorem Zjc (L:Nat→Nat)(b:Nat)(x:AV):(frz b (L b) x).conc L=x.conc L:=by
 cases x with
 | v x=>rfl
 | p b' off =>
  show (bif Nat.beq b' b then AV.v (.pointer (some ⟨L b,off,none⟩)) else .p b' off).conc L=_
  cases h:Nat.beq b' b with
  | true =>
   have e:=oU h
   subst e
   rfl
  | false=>rfl
section
variable {N:Nat} {S0:Nat→Prop} {w0:World} {s:St} {Φ:World→Prop} {P:Program} {Q:Exit→Act→World→Prop}
theorem SXc.freeze {c:Code}(b:Nat)(t:TypeId)(cs:List Value)(k:Nat→SlL)(j:BlL)(z:s.bl b=some (t,cs.map .v))(E:∀ g,(k g).map (fun q=>(s.sl q.1).map (frz b g))=(k g).map (fun q=>some q.2))(F:j.map (fun q=>s.bl q.1)=j.map (fun q=>some q.2))(G:j.all (fun q => !(Nat.beq q.1 b))=true)(H:∀ g,wfB (k g) j=true)(h:∀ g,SXc P N S0 w0 Q c (ofL (k g) j) (fun w=>Φ w∧Blk t w g cs.toArray)):SXc P N S0 w0 Q c s Φ:=by
 intro L a w hi
 refine h (L b) L a w ?_
 have m:=H (L b)
 unfold wfB at m
 rw[tZ] at m
 have r:∀ i x,(ofL (k (L b)) j).bl i=some x→s.bl i=some x:=fun i x o=>iP (f:=fun q:Nat × TypeId×List AV=>s.bl q.1) (g:=fun q=>some q.2) F (lQ o)
 have A:∀ i x,(ofL (k (L b)) j).bl i=some x→i≠b:=fun i x o e=>by
  have:=vH.1 G _ (lQ o)
  simp[e] at this
 have l:∀ i,((ofL (k (L b)) j).bl i).isSome=true→(s.bl i).isSome=true∧i≠b:=fun i u=>by
  obtain⟨q,e⟩:=sU.1 u
  exact⟨by rw[r i q e];rfl,A i q e⟩
 have n:(s.bl b).isSome=true:=by rw[z];rfl
 have I:=hi.mem.blk b t _ z
 refine⟨hi.size,hi.df,fun i x o=>?_,⟨fun c t cs e=>hi.mem.blk c t cs (r c _ e),fun c d p J=>hi.mem.inj c d (l c p).1 (l d J).1,fun c p=>hi.mem.old c (l c p).1,hi.mem.ext,fun i c B e=>?_,fun c t cs e x o=>⟨(hi.mem.cel c t cs (r c _ e) x o).1,fun d B K=>?_⟩⟩,fun w' C=>⟨hi.box w' (C.mono (fun i _ u=>?_)),?_⟩⟩
 ·have D:=iP (f:=fun q:Nat × AV=>(s.sl q.1).map (frz b (L b))) (g:=fun q=>some q.2) (E (L b)) (lQ o)
  simp only at D
  obtain⟨y,M,e⟩:=vQ.1 D
  have:=hi.sl i y M
  rw[this,← e,Zjc]
 ·exact vH.1 m.1 _ (lQ e)
 ·have:=vH.1 (vH.1 m.2 _ (lQ e)) x o
  rw[K] at this
  exact this
 ·obtain⟨c,p,e⟩:=u
  exact⟨c,(l c p).1,e⟩
 have:Blk t w (L b) cs.toArray:=by simpa [qZ,Function.comp_def,AV.conc] using I
 refine this.fr C fun⟨c,p,e⟩=>?_
 exact (l c p).2 (hi.mem.inj c b (l c p).1 n e)
end
section
variable {N:Nat} {S0:Nat→Prop} {w0:World} {s:St} {Φ Ψ:World→Prop} {L:Nat→Nat} {a:Act} {w:World} {P:Program} {ops:Array Oper} {Q:Exit→Act→World→Prop}
theorem Zqp {i:Nat}{t bt:TypeId}{x y:Operand}{cs:List Value}(b off:Nat)(v:Value)(Ψ:World→Prop)(p:∀ w,Φ w→Blk bt w b cs.toArray)(l:off<cs.length)(d:w0.heap.size≤b∨S0 b)(r:v.oneCell'=true)(k:v.cells.toList=[v])(u:∀ w w',Φ w→Fr (fun i=>i=b) w w'→Ψ w')(K:SXi P N S0 w0 ops Q (i+1) s (fun w=>Ψ w∧Blk bt w b (cs.set off v).toArray))(m:Nat.blt i ops.size=true:=by kernel_rfl)(z:s.wantB ops (opAt ops i)=some true:=by kernel_rfl)(A:(opAt ops i).op=.store t x y:=by kernel_rfl)(B:(opAt ops i).dst=none:=by kernel_rfl)(C:(teOf P t).map (fun e=>e.size)=some 1:=by kernel_rfl)(D:s.eval x=some (.v (.pointer (some ⟨b,off,none⟩))):=by kernel_rfl)(E:s.eval y=some (.v v):=by kernel_rfl):SXi P N S0 w0 ops Q i s Φ:=by
 unfold SXi
 rw[iW m]
 intro L a w hi
 refine wpList_step fun W F=>?_
 rw[uS (hi.want z)]
 obtain⟨X,n,G⟩:=vQ.1 C
 have q:=p w hi.box.self
 obtain⟨w',H,f,I⟩:=aS (P:=P) n (g:=b) (bt:=bt) (off:=off) (cur:=cs) (v:=v) q (by rw[k];exact G.symm) (by rw[k];simp;omega) (fun c o=>by rw[k] at o;simp at o;rw[o];exact r)
 rw[k,Zf0 _ _ _ l] at f
 unfold Oper.wp
 have J:=hi.eval D
 have M:=hi.eval E
 have h:(execOp a.eval (opAt ops i)).run P w=.ok .skip w':=by simp only[execOp,A,Sem.run_bind,J,M,AV.conc,H,Result.andThen_ok,Sem.run_pure]
 rw[h,Oper.upon_skip,B]
 refine F _ _ (K L _ _ (hi.eff I (hi.notOwn (c:=cs[off]'l) (j:=off) (fun w R=>by have:=(p w R).cell off;rw[this];simp[l])) d q.lt (fun O S T U V=>⟨u O S T U,V.trans f⟩)))
end
section
variable {N:Nat} {S0:Nat→Prop} {w0:World} {s:St} {Φ Ψ:World→Prop} {L:Nat→Nat} {a:Act} {w:World} {P:Program} {ops:Array Oper} {Q:Exit→Act→World→Prop}
theorem Zrn {c:Code}{sl:SlL}{tmps:Array Value}(m:tmps.size=N)(k:sl.map (fun q=>tmps[q.1]?.map AV.v)=sl.map (fun q=>some q.2))(R:Box (fun _=>False) w Φ)(h:SXc P N S0 w Q c (ofL sl []) Φ):c.wp P Q { tmps:=tmps,defers:=[] } w:=by
 refine h (fun _=>0) _ w ⟨m,rfl,fun i x n=>?_,⟨fun b t o e=>(by cases e),fun b c e=>(by cases e),fun b e=>(by cases e),Fr.refl _ _,fun i b off e=>?_,fun b t o e=>(by cases e)⟩,?_⟩
 ·have d:=iP (f:=fun q:Nat × AV=>tmps[q.1]?.map AV.v) (g:=fun q=>some q.2) k (lQ n)
  obtain⟨v,l,rfl⟩:=vQ.1 d
  exact l
 ·have d:=iP (f:=fun q:Nat × AV=>tmps[q.1]?.map AV.v) (g:=fun q=>some q.2) k (lQ e)
  obtain⟨v,l,e'⟩:=vQ.1 d
  cases e'
 intro w' j
 exact R w' (j.mono (fun i _ p=>by obtain⟨b,e,_⟩:=p;cases e))
end
section
variable {N:Nat} {S0:Nat→Prop} {w0:World} {s:St} {Φ Ψ:World→Prop} {L:Nat→Nat} {a:Act} {w:World} {P:Program} {ops:Array Oper} {Q:Exit→Act→World→Prop}
theorem SXc.freezeN {c:Code}(b:Nat)(t:TypeId)(cs:List Value)(k:Nat→SlL)(j:BlL)(r:s.bl b=some (t,cs.map .v))(E:∀ g,(k g).map (fun q=>(s.sl q.1).map (frz b g))=(k g).map (fun q=>some q.2))(F:j.map (fun q=>s.bl q.1)=j.map (fun q=>some q.2))(G:j.all (fun q => !(Nat.beq q.1 b))=true)(H:∀ g,wfB (k g) j=true)(h:∀ g,(w0.heap.size≤g∨S0 g)→SXc P N S0 w0 Q c (ofL (k g) j) (fun w=>Φ w∧Blk t w g cs.toArray)):SXc P N S0 w0 Q c s Φ:=by
 intro L a w hi
 refine h (L b) (hi.mem.old b (by rw[r];rfl)) L a w ?_
 have m:=H (L b)
 unfold wfB at m
 rw[tZ] at m
 have u:∀ i x,(ofL (k (L b)) j).bl i=some x→s.bl i=some x:=fun i x o=>iP (f:=fun q:Nat × TypeId×List AV=>s.bl q.1) (g:=fun q=>some q.2) F (lQ o)
 have A:∀ i x,(ofL (k (L b)) j).bl i=some x→i≠b:=fun i x o e=>by
  have:=vH.1 G _ (lQ o)
  simp[e] at this
 have l:∀ i,((ofL (k (L b)) j).bl i).isSome=true→(s.bl i).isSome=true∧i≠b:=fun i z=>by
  obtain⟨q,e⟩:=sU.1 z
  exact⟨by rw[u i q e];rfl,A i q e⟩
 have n:(s.bl b).isSome=true:=by rw[r];rfl
 have I:=hi.mem.blk b t _ r
 refine⟨hi.size,hi.df,fun i x o=>?_,⟨fun c t cs e=>hi.mem.blk c t cs (u c _ e),fun c d p J=>hi.mem.inj c d (l c p).1 (l d J).1,fun c p=>hi.mem.old c (l c p).1,hi.mem.ext,fun i c B e=>?_,fun c t cs e x o=>⟨(hi.mem.cel c t cs (u c _ e) x o).1,fun d B K=>?_⟩⟩,fun w' C=>⟨hi.box w' (C.mono (fun i _ z=>?_)),?_⟩⟩
 ·have D:=iP (f:=fun q:Nat × AV=>(s.sl q.1).map (frz b (L b))) (g:=fun q=>some q.2) (E (L b)) (lQ o)
  simp only at D
  obtain⟨y,M,e⟩:=vQ.1 D
  have:=hi.sl i y M
  rw[this,← e,Zjc]
 ·exact vH.1 m.1 _ (lQ e)
 ·have:=vH.1 (vH.1 m.2 _ (lQ e)) x o
  rw[K] at this
  exact this
 ·obtain⟨c,p,e⟩:=z
  exact⟨c,(l c p).1,e⟩
 have:Blk t w (L b) cs.toArray:=by simpa [qZ,Function.comp_def,AV.conc] using I
 refine this.fr C fun⟨c,p,e⟩=>?_
 exact (l c p).2 (hi.mem.inj c b (l c p).1 n e)
end
structure TermR where
 coef:ByteArray
 A:Option Addr
 cap:Nat
 exps:List Int
instance:Inhabited TermR:=⟨⟨⟨#[]⟩,none,0,[]⟩⟩
section
variable {P:Program} {o:Oper} {ρ:Operand→Value} {w:World} {t e:TypeId} {x ix:Operand}
theorem xJ {A:qA}{len cap i sz:Nat}(hA:A≠none)(h:i<len)(c:o.op=Op.indexAddr t x ix:=by kernel_rfl)(d:P.underlying t=some (.slice e):=by kernel_rfl)(f:(P.info? e).map (fun i=>i.size)=some sz:=by kernel_rfl)(g:ρ x=.slice A len cap:=by kernel_rfl)(hi:ρ ix=.int .i64 (i:Int):=by kernel_rfl):(execOp ρ o).run P w=.ok (.value (atA A (i*sz))) w:=by
 obtain⟨j,b,k⟩:=vQ.1 f
 obtain⟨a,rfl⟩:∃ a,A=some a:=by cases A;exact absurd rfl hA;exact⟨_,rfl⟩
 have l:(0:Int)≤(i:Int)∧(i:Int)<(len:Int):=qO
 simp[execOp,c,Instr.indexAt,asIntOf,underlying,d,g,hi,h,sizeOf,typeInfo,b,k,Result.andThen,atA]
theorem aO {bt:TypeId}{g:Nat}{cs:List Value}(b:Blk bt w g cs.toArray)(c:o.op=Op.load t x:=by kernel_rfl)(d:ρ x=.pointer (some ⟨g,0,none⟩):=by kernel_rfl)(ha:(teOf P t).map (fun e=>(e.agg,e.size))=some (true,cs.length):=by kernel_rfl) :
 (execOp ρ o).run P w=.ok (.value (.agg cs.toArray)) w:=by
 obtain⟨f,a,h⟩:=vQ.1 ha
 injection h with ha hn
 have:=bW (P:=P) (w:=w) a (g:=g) (off:=0) (cs:=cs) hn.symm (fun i hi=>by rw[vY,b.cell];simp[hi]) ha
 simp only[execOp,c,d,Sem.run_bind,this,Result.andThen_ok,Sem.run_pure]
end
end Go.Proofs.YtenchljfmfgeoaaGreatDoor
