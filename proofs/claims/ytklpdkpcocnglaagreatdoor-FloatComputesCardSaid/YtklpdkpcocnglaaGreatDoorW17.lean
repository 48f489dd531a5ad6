/-
 My texts Fnb, Fnc, Fnd, Nu, Nq, Nv, Nad, RStr, Frac, Rt, FlT, Reduce, Whole, Ra, Reduce2, Ts, Fs, Cmp, Tx, Dc, Len, Vl, PaM, Pa, Px, Gq put together.
-/
import Derived.Test.YtklpdkpcocnglaaGreatDoorW16
import Derived.Test.YtklpdkpcocnglaaGreatDoorW07
import Derived.Test.YtklpdkpcocnglaaGreatDoorW08
import Derived.Test.YtklpdkpcocnglaaGreatDoorW11
import Derived.Test.YtklpdkpcocnglaaGreatDoorW02
set_option maxRecDepth 100000
set_option maxHeartbeats 8000000
namespace Go.Proofs.YtklpdkpcocnglaaGreatDoor
open Go.RowKit
section
variable {N:Nat} {S0:Nat→Prop} {w:World} {Φ:World→Prop} {P:Program}
theorem jH (S0:Nat→Prop){fn:Func}{f:FuncId}{c:Code}{args:List Value}{R:Ending→World→Prop}(j:P.funcs[f]? = some fn)(l:fn.body=some c)(m:Nat.ble args.length fn.ntmps=true)(Q:Box (fun _=>False) w Φ)(h:SXc P fn.ntmps S0 w (bodyPost P fn R) c (ofL (ZdY 0 args) []) Φ):Calls P f args.toArray w R:=by
 refine calls_of_wp j l (h (fun _=>0) _ w ⟨?_,rfl,fun i x n=>?_,⟨fun b t p e=>(by cases e),fun b c e=>(by cases e),fun b e=>(by cases e),Fr.refl _ _,fun i b off e=>?_,fun b t p e=>(by cases e)⟩,?_⟩)
 ·have:=sF m
  simp;omega
 ·obtain⟨_,v,hv,rfl⟩:=Zba args 0 i x n
  have d:i<args.length:=by
   rcases vJ i args.length with a|a
   ·exact a
   rw[List.getElem?_eq_none (by omega)] at hv;cases hv
  simp only[AV.conc]
  rw[Array.getElem?_append_left (by simpa using d)]
  simpa using hv
 ·obtain⟨_,v,hv,e'⟩:=Zba args 0 i _ e
  cases e'
 intro w' g
 exact Q w' (g.mono (fun i _ a=>by obtain⟨b,e,_⟩:=a;cases e))
end
section
variable {P:Program} {o:Oper} {ρ:Operand→Value} {w:World} {x y:Operand} {t k:TypeId}
theorem Zpp {a:Nat}(b:o.op=Op.binOp .and t x y k:=by kernel_rfl)(c:ρ x=.int .u64 (a:Int):=by kernel_rfl)(d:ρ y=.int .u64 1:=by kernel_rfl)(ha:a<W64:=by assumption):(execOp ρ o).run P w=.ok (.value (.int .u64 ((a%2:Nat):Int))) w:=by
 have h:bits .and .u64 (a:Int) 1=((a%2:Nat):Int):=by
  have:=bits_and_u64_nat a 1 (by rw[←zO];exact ha) (by decide)
  rw[qE] at this
  exact this
 rw[←h]
 simp only[execOp,b,c,d,eqGuard,binOp]
 rfl
end
/-! ### length -/
theorem Zeu {xs:List Nat}{k t:Nat}(d:Dig W64 xs)(e:xs.length=k+1)(f:Trim xs)(b:xs[k]?.getD 0=t):blen (val W64 xs)=64*k+blen t:=by
 have g:0<t:=sQ (by rw[←b];exact f k e)
 have c:=zR (B:=W64) k (show k<xs.length by omega)
 rw[uB (by omega),b] at c
 have a:=xV (d.take k)
 rw[vE,uX (by omega),cG] at a
 rw[c,cG]
 exact Zij a g
theorem Zev {t:Nat}(h:t<W64):Lib.bitLen t=blen t:=by
 rcases uH t with rfl|a
 ·rfl
 obtain⟨b,_,c,d⟩:=eO a h
 have:=Zd5 (k:=Lib.bitLen t-1) c (by rw[qF b];exact d)
 omega
theorem ZmB (t:Nat)(w:World)(h:t<W64):yA 105 #[.int .u64 (t:Int)] w (RetV w (.int .i64 ((blen t:Nat):Int))):=by
 have a:=h
 rw[zO] at a
 refine (Tryz.bits_Len64 (t:Int) w (by omega) (by omega)).mono ?_
 rintro e w' ⟨rfl,rfl⟩
 exact⟨by rw[qY,Zev h],Fr.refl _ _⟩
theorem Zld (t:Nat)(w:World)(h:t<W64):yA 174 #[.int .u64 (t:Int)] w (RetV w (.int .i64 ((64-blen t:Nat):Int))):=by
 refine (aU t w h).mono ?_
 rintro e w' ⟨rfl,rfl⟩
 have:blen t≤64:=wT.2 (by rw[zO] at h;exact h)
 exact⟨by rw[Zev h];congr 2;omega,Fr.refl _ _⟩
/-! ### zeros -/
theorem Zn9 (x:Nat)(w:World)(a:Glob w)(b:0<x)(h:x<W64):yA 186 #[.int .u64 (x:Int)] w (RetV w (.int .i64 ((tzn x:Nat):Int))):=by
 obtain⟨g,c⟩:=fO b
 have d:tzn x<64:=by
  refine rO fun f=>?_
  have:=uY (n:=2) (by decide) f
  have i:1*2^tzn x≤oddM x*2^tzn x:=uE _ (by omega)
  rw[zO] at h
  omega
 refine (Zcl x (tzn x) (oddM x/2) w a (by rw[show 2*(oddM x/2)+1=oddM x by omega,uG];exact c) d h).mono ?_
 rintro e w' ⟨rfl,rfl⟩
 exact⟨rfl,Fr.refl _ _⟩
def ZerR (xs:List Nat) (k:Nat):Prop:=val W64 (xs.take k)=0
theorem ZerR.start (xs:List Nat):ZerR xs 0:=by unfold ZerR;simp
theorem ZerR.lt {xs:List Nat}{k:Nat}(h:ZerR xs k)(b:0<val W64 xs):k<xs.length:=by
 rcases vJ k xs.length with a|a
 ·exact a
 unfold ZerR at h;rw[uB a] at h;omega
theorem ZerR.step {xs:List Nat}{k:Nat}(h:ZerR xs k)(a:k<xs.length)(b:xs[k]?.getD 0=0):ZerR xs (k+1):=by
 unfold ZerR at *
 rw[zR k a,h,b];simp
theorem Zpq {x r:Nat}(a:0<x)(b:x<W64):tzn (x+W64*r)=tzn x:=by
 obtain⟨g,c⟩:=fO a
 have h:tzn x<64:=by
  refine rO fun d=>?_
  have:=uY (n:=2) (by decide) d
  have i:1*2^tzn x≤oddM x*2^tzn x:=uE _ (by omega)
  rw[zO] at b
  omega
 have e:x+W64*r=(oddM x+2^(64-tzn x)*r)*2^tzn x:=by
  rw[vF,← c,Nat.mul_right_comm,← uT,qF (by omega),zO]
 have f:2^(64-tzn x)=2*2^(63-tzn x):=by rw[show 64-tzn x=(63-tzn x)+1 by omega,uR,uG]
 rw[e]
 exact ZfH (by rw[f,uF];omega) _
theorem ZerR.done {xs:List Nat}{k x:Nat}(h:ZerR xs k)(c:Dig W64 xs)(d:k<xs.length)(a:xs[k]?.getD 0=x)(e:x≠0):tzn (val W64 xs)=64*k+tzn x:=by
 unfold ZerR at h
 have b:=xR (B:=W64) (xs:=xs) k
 rw[h,uX (by omega),xS k d,a,tU,cG,uG] at b
 rw[b,Zb8 (by omega),Zpq (by omega) (a ▸ c.getD zN k),vL]
theorem ZerR.bound {xs:List Nat}{k x:Nat}(b:Dig W64 xs)(c:xs[k]?.getD 0=x)(e:x≠0):tzn x<64:=by
 have a:x<W64:=c ▸ b.getD zN k
 obtain⟨f,g⟩:=fO (show 0<x by omega)
 refine rO fun d=>?_
 have:=uY (n:=2) (by decide) d
 have h:1*2^tzn x≤oddM x*2^tzn x:=uE _ (by omega)
 rw[zO] at a
 omega
/-! ### bit -/
theorem Zpr {xs:List Nat}{i x:Nat}(b:Dig W64 xs)(c:i/64<xs.length)(d:xs[i/64]?.getD 0=x):val W64 xs/2^i%2=x/2^(i%64)%2:=by
 have a:=Zf4 xs (i/64) (i%64) b (by omega)
 rw[show 64*(i/64)+i%64=i by omega] at a
 rw[←a,xS _ c,d]
 have g:i%64<64:=uM _ (by decide)
 generalize i%64=t at *
 generalize val W64 (xs.drop (i/64+1))=r
 have e:W64*r=2^t*(2^(64-t)*r):=by rw[←uF,← uT,show t+(64-t)=64 by omega,zO]
 have f:2^(64-t)=2*2^(63-t):=by rw[show 64-t=(63-t)+1 by omega,uR,uG]
 rw[e,Nat.add_mul_div_left _ _ (p2 t),f,uF,tZ]
theorem Zoa {xs:List Nat}{i:Nat}(a:Dig W64 xs)(b:¬ i/64<xs.length):val W64 xs/2^i%2=0:=by
 rw[ZeE a (by omega)]
theorem Zqk (m:Nat):(((m%2:Nat):Int) == 1)=decide (m%2=1):=by
 rcases Nat.mod_two_eq_zero_or_one m with h|h<;>rw[h]<;>rfl
/-! ### division by a word,in place -/
def DwR (xs:List Nat) (u k:Nat) (qs:List Nat) (r:Nat):Prop:=cU xs u k qs r∧qs.take k=xs.take k
theorem DwR.start {xs:List Nat}{u:Nat}(a:Dig W64 xs)(b:0<u):DwR xs u xs.length xs 0 :=
 ⟨⟨rfl,a,b,by rw[vA (uK _)];simp⟩,rfl⟩
theorem DwR.at {xs a:List Nat}{u k r:Nat}(h:DwR xs u (k+1) a r):a[k]?.getD 0=xs[k]?.getD 0:=by
 have:=vG (fun l=>l[k]?.getD 0) h.2
 simp only[List.getElem?_take_of_lt (show k<k+1 by omega)] at this
 exact this
theorem DwR.step {xs a:List Nat}{u k r x:Nat}(h:DwR xs u (k+1) a r)(c:k<xs.length)(d:a[k]?.getD 0=x)(b:x<W64):DwR xs u k (a.set k (divQ r x u)) (divR r x u):=by
 refine⟨h.1.step c (h.at.symm.trans d) b,?_⟩
 have:=vG (List.take k) h.2
 rw[List.take_take,List.take_take,uX (by omega)] at this
 rw[sK (uK k)];exact this
theorem ZgV (hi lo y:Nat)(w:World)(b:hi<y)(c:y<W64)(a:lo<W64):yA 149 #[.int .u64 (hi:Int),.int .u64 (lo:Int),.int .u64 (y:Int)] w (RetV w (.tuple #[.int .u64 ((divQ hi lo y:Nat):Int),.int .u64 ((divR hi lo y:Nat):Int)])):=by
 refine (Zbq hi lo y w b c a).mono ?_
 rintro e w' ⟨rfl,n,rfl⟩
 exact⟨rfl,(Fr.refl _ _).drewN n⟩
/-! ### a multiple subtracted within a row -/
def SpR (zs0 ys:List Nat) (q o k:Nat) (zs:List Nat) (c b:Nat):Prop :=
 zs.length=zs0.length∧Dig W64 zs∧c<W64∧b≤1∧zs.take o=zs0.take o∧zs.drop (o+k)=zs0.drop (o+k) ∧
  val W64 (zs.take (o+k))+W64^o*(q*val W64 (ys.take k))=val W64 (zs0.take (o+k))+W64^(o+k)*(c+b)
theorem SpR.start {a:List Nat}(ys:List Nat)(q o:Nat)(h:Dig W64 a):SpR a ys q o 0 a 0 0:=⟨rfl,h,zN,by omega,rfl,rfl,by simp⟩
theorem aH {b a:List Nat}{k:Nat}(h:b.drop k=a.drop k):b[k]?.getD 0=a[k]?.getD 0:=by
 have:=vG (fun l=>l[0]?.getD 0) h
 simpa [List.getElem?_drop] using this
theorem Zio {x q c:Nat}(a:x<W64)(b:q<W64)(d:c<W64):wL x q+xM (xB x q) c 0<W64:=by
 have e:=dN x q
 have f:=fK (xB x q) c 0
 have g:=Zci a b
 refine bZ _ (vI (m:=x*q+c) ?_ (by omega))
 rw[uL];omega
theorem SpR.step {a ys f:List Nat}{q o k c b x z:Nat}(h:SpR a ys q o k f c b)(r:o+k<a.length)(l:ys[k]?.getD 0=x)(m:f[o+k]?.getD 0=z)(s:Dig W64 ys)(u:q<W64) :
 SpR a ys q o (k+1) (f.set (o+k) (lQ z (xI (xB x q) c 0) b)) (wL x q+xM (xB x q) c 0) (lR z (xI (xB x q) c 0) b):=by
 obtain⟨v,n,A,B,C,p,D⟩:=h
 have g:x<W64:=l ▸ s.getD zN k
 have i:z<W64:=m ▸ n.getD zN _
 have E:a[o+k]?.getD 0=z:=(aH p).symm.trans m
 have G:=dN x q
 have H:=fK (xB x q) c 0
 have I:=Za3 i (dM (xB x q) c 0) B
 refine⟨by simpa using v,n.set _ (aS _ _ _),Zio g u A,Zch _ _ _,?_,?_,?_⟩
 ·rw[sK (by omega)];exact C
 ·have e:=vG (List.drop 1) p
  rw[vN,vN] at e
  rw[vY (by omega),show o+(k+1)=o+k+1 by omega];exact e
 rw[show o+(k+1)=(o+k)+1 by omega,xL _ _ _ _ (by omega),zR (o+k) r,lM k,E,l,uR]
 have j:lQ z (xI (xB x q) c 0) b+x*q+c+b=z+W64*(wL x q+xM (xB x q) c 0+lR z (xI (xB x q) c 0) b):=by
  rw[uL,uL];omega
 have d:=vG (W64^(o+k) * ·) j
 simp only[uL] at d
 have F:W64^o*(q*(val W64 (ys.take k)+W64^k*x))=W64^o*(q*val W64 (ys.take k))+W64^(o+k)*(x*q):=by
  rw[uL q,uL (W64^o),uT,vW q (W64^k) x,uF (W64^o),uG q x]
 rw[F,uF (W64^(o+k)) W64]
 simp only[uL]
 rw[uL] at D
 omega
def Zdu (zs0 ys:List Nat) (q o:Nat) (zs:List Nat) (b:Nat):Prop :=
 zs.length=zs0.length∧Dig W64 zs∧b≤1∧zs.take o=zs0.take o∧zs.drop (o+ys.length+1)=zs0.drop (o+ys.length+1) ∧
  val W64 (zs.take (o+ys.length+1))+W64^o*(q*val W64 ys)=val W64 (zs0.take (o+ys.length+1))+W64^(o+ys.length+1)*b
theorem SpR.done {a ys f:List Nat}{q o c b z:Nat}(h:SpR a ys q o ys.length f c b)(n:o+ys.length<a.length)(i:f[o+ys.length]?.getD 0=z):Zdu a ys q o (f.set (o+ys.length) (lQ z c b)) (lR z c b):=by
 obtain⟨p,j,r,s,u,l,m⟩:=h
 have g:z<W64:=i ▸ j.getD zN _
 have v:a[o+ys.length]?.getD 0=z:=(aH l).symm.trans i
 have A:=Za3 g r s
 refine⟨by simpa using p,j.set _ (aS _ _ _),Zch _ _ _,?_,?_,?_⟩
 ·rw[sK (by omega)];exact u
 ·have e:=vG (List.drop 1) l
  rw[vN,vN] at e
  rw[vY (by omega)];exact e
 rw[uB (uK ys.length)] at m
 rw[xL _ _ _ _ (by omega),zR _ n,v,uR]
 have d:=vG (W64^(o+ys.length) * ·) A
 simp only[uL] at d
 rw[uF (W64^(o+ys.length)) W64]
 rw[uL] at m
 omega
/-! ### the divisor added within a row -/
def AbR (zs0 ys:List Nat) (o k:Nat) (zs:List Nat) (c:Nat):Prop :=
 zs.length=zs0.length∧Dig W64 zs∧c≤1∧zs.take o=zs0.take o∧zs.drop (o+k)=zs0.drop (o+k) ∧
  val W64 (zs.take (o+k))+W64^(o+k)*c=val W64 (zs0.take (o+k))+W64^o*val W64 (ys.take k)
theorem AbR.start {a:List Nat}(ys:List Nat)(o:Nat)(h:Dig W64 a):AbR a ys o 0 a 0:=⟨rfl,h,by omega,rfl,rfl,by simp⟩
theorem AbR.step {a ys d:List Nat}{o k c x z:Nat}(h:AbR a ys o k d c)(l:o+k<a.length)(f:ys[k]?.getD 0=x)(g:d[o+k]?.getD 0=z)(m:Dig W64 ys):AbR a ys o (k+1) (d.set (o+k) (xI z x c)) (xM z x c):=by
 obtain⟨n,i,p,q,j,s⟩:=h
 have r:a[o+k]?.getD 0=z:=(aH j).symm.trans g
 refine⟨by simpa using n,i.set _ (dM _ _ _),Zcg (g ▸ i.getD zN _) (f ▸ m.getD zN k) p,?_,?_,?_⟩
 ·rw[sK (by omega)];exact q
 ·have e:=vG (List.drop 1) j
  rw[vN,vN] at e
  rw[vY (by omega),show o+(k+1)=o+k+1 by omega];exact e
 rw[show o+(k+1)=(o+k)+1 by omega,xL _ _ _ _ (by omega),zR (o+k) l,lM k,r,f,uR]
 have b:=vG (W64^(o+k) * ·) (fK z x c)
 simp only[uL] at b
 rw[uL (W64^o),← uF (W64^o) (W64^k),← uT,uF (W64^(o+k)) W64]
 omega
def Zdv (zs0 ys:List Nat) (o:Nat) (zs:List Nat) (c:Nat):Prop :=
 zs.length=zs0.length∧Dig W64 zs∧c≤1∧zs.take o=zs0.take o∧zs.drop (o+ys.length+1)=zs0.drop (o+ys.length+1) ∧
  val W64 (zs.take (o+ys.length+1))+W64^(o+ys.length+1)*c=val W64 (zs0.take (o+ys.length+1))+W64^o*val W64 ys
theorem AbR.done {a ys d:List Nat}{o c z:Nat}(h:AbR a ys o ys.length d c)(j:o+ys.length<a.length)(f:d[o+ys.length]?.getD 0=z):Zdv a ys o (d.set (o+ys.length) (xI z 0 c)) (xM z 0 c):=by
 obtain⟨l,g,m,n,i,p⟩:=h
 have q:a[o+ys.length]?.getD 0=z:=(aH i).symm.trans f
 refine⟨by simpa using l,g.set _ (dM _ _ _),Zcg (f ▸ g.getD zN _) zN m,?_,?_,?_⟩
 ·rw[sK (by omega)];exact n
 ·have e:=vG (List.drop 1) i
  rw[vN,vN] at e
  rw[vY (by omega)];exact e
 rw[uB (uK ys.length)] at p
 rw[xL _ _ _ _ (by omega),zR _ j,q,uR]
 have b:=vG (W64^(o+ys.length) * ·) (fK z 0 c)
 simp only[uL] at b
 rw[uF (W64^(o+ys.length)) W64]
 omega
theorem Zjy (A:Option Addr)(xs:List Nat)(c:Nat)(w:World)(l:zH .u64 w A xs)(p:xs.length≤4294967296)(g:Dig W64 xs)(m:Trim xs) :
 yA 65 #[.slice A xs.length c] w (RetV w (.int .i64 ((blen (val W64 xs):Nat):Int))):=by
 refine zX (Φ:=fun w=>zH .u64 w A xs) Tryz.func65 rfl (by kernel_rfl) (fun w' n=>l.ext n) ?_
 refine zC (zB (xq 1 [yJ 2 0] [] ?_))
 refine xe (zA (zC (zC (zB (xq 3 [yB 5 ((((xs.length:Nat):Int):Int) == 0)] [] ?_)))))
 refine xe (zA ?_)
 refine yQ (((((xs.length:Nat):Int):Int) == 0)) (fun d=>?_) fun d=>?_
 ·have f:=tA.1 d
  refine zC (zB (xq 1 [yJ 2 0] [] ?_))
  refine xe (zA (zF (zE ?_)))
  refine yR (.int .i64 0) fun w' R Q=>?_
  exact⟨by obtain rfl:xs=[]:=tH.1 (by omega);rfl,R⟩
 have f:=lB d
 refine zK (zA (zC (zB (xq 3 [yJ 8 (IntKind.i64.wrap (((xs.length:Nat):Int)-1))] [] ?_))))
 rw[yW (((xs.length:Nat):Int)-1) (((xs.length-1:Nat):Int)) (by omega)]
 refine xq 1 [yJ 9 (IntKind.i64.wrap (64*((xs.length-1:Nat):Int)))] [] ?_
 rw[yW (64*((xs.length-1:Nat):Int)) (((64*(xs.length-1):Nat):Int)) (by omega)]
 refine xq 4 [eS1 10 A xs.length c,yJ 13 (IntKind.i64.wrap (((xs.length:Nat):Int)-1))] [] ?_
 rw[yW (((xs.length:Nat):Int)-1) (((xs.length-1:Nat):Int)) (by omega)]
 refine xqk 14 (atA A (xs.length-1)) (fun w R Q=>xO (t:=77) (e:=94) (x:=.tmp 10) (ix:=.tmp 13) (len:=xs.length) (cap:=c) (i:=xs.length-1) ((Q).ne (j:=xs.length-1) (by omega)) (by omega)) ?_
 obtain⟨a,b⟩:=yE (xs[xs.length-1]?.getD 0)
 refine xqk 15 (.int .u64 (a:Int)) (fun w R Q=>by rw[←b];exact xW (t:=94) (x:=.tmp 14) (Q) (j:=xs.length-1) (by omega)) ?_
 refine xqc 105 [.int .u64 (a:Int)] 16 (fun _:Unit=>.int .i64 ((blen a:Nat):Int)) _ (fun w R Q=>yN (ZmB a _ (by rw[←b];exact g.getD zN _))) fun q=>?_
 refine xq 1 [(17,.v (.int .i64 (IntKind.i64.wrap (((64*(xs.length-1):Nat):Int)+((blen a:Nat):Int)))))] [] ?_
 rw[show IntKind.i64.wrap (((64*(xs.length-1):Nat):Int)+((blen a:Nat):Int))=((blen (val W64 xs):Nat):Int) by rw[Zeu (k:=xs.length-1) g (by omega) m b,IntKind.wrap_i64];have:=wT.2 (show a<2^64 by have h:a<W64:=(by rw[←b];exact g.getD zN _);rw[zO] at h;exact h);omega]
 refine xq 1 [yJ 2 ((blen (val W64 xs):Nat):Int)] [] ?_
 refine xe (zA (zF ?_))
 refine yR (.int .i64 ((blen (val W64 xs):Nat):Int)) fun w' R Q=>?_
 exact⟨rfl,R⟩
theorem Zle (A:Option Addr)(xs:List Nat)(c:Nat)(w:World)(u:zH .u64 w A xs)(B:xs.length≤4294967296)(m:Dig W64 xs)(v:Glob w)(z:0<val W64 xs) :
 yA 157 #[.slice A xs.length c] w (RetV w (.int .i64 ((tzn (val W64 xs):Nat):Int))):=by
 refine zX (Φ:=fun w=>(zH .u64 w A xs∧Glob w)) Tryz.func157 rfl (by kernel_rfl) (fun w' p=>⟨u.ext p,v.ext p⟩) ?_
 refine zC (zB (xq 1 [yJ 2 0] [] ?_))
 refine xe (zA (zC (zB (xq 1 [yJ 3 0] [] ?_))))
 refine xe (zA (zC (xH ?_)))
 refine yC [eS1 0 A xs.length c,yJ 2 0,yJ 3 ((0:Nat):Int)] [] (fun w=>(zH .u64 w A (xs)∧Glob w)) (fun w Q=>⟨Q.1,Q.2⟩) ?_
 refine lW (fun q r s=>∃ (k:Nat),r=ofL [eS1 0 A xs.length c,yJ 2 0,yJ 3 (k:Int)] []∧s=(fun w=>(zH .u64 w A (xs)∧Glob w))∧(ZerR xs k)∧q=(xs.length-k)) ((xs.length-0)) ⟨0,rfl,rfl,ZerR.start xs,rfl⟩ ?_
 rintro q r s ⟨k,rfl,rfl,n,rfl⟩
 refine zC (zC ?_)
 have h:=n.lt z
 refine zB (xq 2 [eS1 4 A xs.length c,yJ 5 (k:Int)] [] ?_)
 refine xqk 6 (atA A k) (fun w R Q=>xO (t:=77) (e:=94) (x:=.tmp 4) (ix:=.tmp 5) (len:=xs.length) (cap:=c) (i:=k) ((Q.1).ne (j:=k) (by omega)) (by omega)) ?_
 obtain⟨b,a⟩:=yE (xs[k]?.getD 0)
 refine xqk 7 (.int .u64 (b:Int)) (fun w R Q=>by rw[←a];exact xW (t:=94) (x:=.tmp 6) (Q.1) (j:=k) (by omega)) ?_
 refine xq 1 [yB 8 (((b:Int):Int) == 0)] [] ?_
 refine xe (zA ?_)
 refine yQ ((((b:Int):Int) == 0)) (fun d=>?_) fun d=>?_
 ·have g:=tA.1 d
  refine zK (zA (xH (zB (xq 2 [yJ 10 (IntKind.i64.wrap ((k:Int)+1))] [] ?_))))
  rw[yW ((k:Int)+1) (((k+1:Nat):Int)) (by omega)]
  refine xq 1 [yJ 3 ((k+1:Nat):Int)] [] ?_
  refine xe (wX ?_)
  refine yP [eS1 0 A xs.length c,yJ 2 0,yJ 3 (((k+1):Nat):Int)] [] (fun w=>(zH .u64 w A (xs)∧Glob w)) (fun w Q=>⟨Q.1,Q.2⟩) ?_
  exact wG ((xs.length-(k+1))) (by omega) ⟨(k+1),rfl,rfl,(n.step h (by rw[a];omega)),rfl⟩
 have g:=lB d
 refine lG (zW (zW (lV (zA (zC (zB (xq 2 [yJ 12 (IntKind.i64.wrap (64*(k:Int)))] [] ?_)))))))
 rw[yW (64*(k:Int)) (((64*k:Nat):Int)) (by omega)]
 refine xq 2 [eS1 13 A xs.length c,yJ 14 (k:Int)] [] ?_
 refine xqk 15 (atA A k) (fun w R Q=>xO (t:=77) (e:=94) (x:=.tmp 13) (ix:=.tmp 14) (len:=xs.length) (cap:=c) (i:=k) ((Q.1).ne (j:=k) (by omega)) (by omega)) ?_
 obtain⟨l,f⟩:=yE (xs[k]?.getD 0)
 refine xqk 16 (.int .u64 (l:Int)) (fun w R Q=>by rw[←f];exact xW (t:=94) (x:=.tmp 15) (Q.1) (j:=k) (by omega)) ?_
 obtain rfl:b=l:=by rw[←a,f]
 refine xqc 186 [.int .u64 (b:Int)] 17 (fun _:Unit=>.int .i64 ((tzn b:Nat):Int)) _ (fun w R Q=>yN (Zn9 b _ Q.2 (by omega) (by rw[←a];exact m.getD zN _))) fun C=>?_
 refine xq 1 [yJ 18 (IntKind.i64.wrap (((64*k:Nat):Int)+((tzn b:Nat):Int)))] [] ?_
 rw[show IntKind.i64.wrap (((64*k:Nat):Int)+((tzn b:Nat):Int))=((tzn (val W64 xs):Nat):Int) by rw[n.done m h a (by omega),IntKind.wrap_i64];have:=ZerR.bound m a (by omega);omega]
 refine xq 1 [yJ 2 ((tzn (val W64 xs):Nat):Int)] [] ?_
 refine xe (zA (zF ?_))
 refine yR (.int .i64 ((tzn (val W64 xs):Nat):Int)) fun w' R Q=>?_
 exact⟨rfl,R⟩
theorem Zob (A:Option Addr)(xs:List Nat)(c:Nat)(w:World)(m:zH .u64 w A xs)(l:Dig W64 xs)(i:Nat)(hi:i≤274877906944) :
 yA 158 #[.slice A xs.length c,.int .i64 ((i:Nat):Int)] w (RetV w (.bool (decide (val W64 xs/2^i%2=1)))):=by
 refine zX (Φ:=fun w=>zH .u64 w A xs) Tryz.func158 rfl (by kernel_rfl) (fun w' p=>m.ext p) ?_
 refine zC (zB (xq 1 [yB 4 false] [] ?_))
 refine xe (zA (zC (zB (xq 2 [(6,.v (.int .i64 (IntKind.i64.wrap (((i:Int)).tdiv 64))))] [] ?_))))
 rw[show IntKind.i64.wrap ((((i:Int)).tdiv 64))=((i/64:Nat):Int) from tdq (i) 64 (by omega)]
 refine xq 4 [yB 10 (decide (((i/64:Nat):Int)<((xs.length:Nat):Int)))] [] ?_
 rcases bl2 ((decide (((i/64:Nat):Int)<((xs.length:Nat):Int)))) with b|b
 ·rw[b]
  have g:=uC b
  have h:i/64<xs.length:=by omega
  refine xq 3 [eS1 11 A xs.length c,(13,.v (.int .i64 (IntKind.i64.wrap (((i:Int)).tdiv 64))))] [] ?_
  rw[show IntKind.i64.wrap ((((i:Int)).tdiv 64))=((i/64:Nat):Int) from tdq (i) 64 (by omega)]
  refine xqk 14 (atA A (i/64)) (fun w R Q=>xO (t:=77) (e:=94) (x:=.tmp 11) (ix:=.tmp 13) (len:=xs.length) (cap:=c) (i:=i/64) ((Q).ne (j:=i/64) (by omega)) (by omega)) ?_
  obtain⟨d,f⟩:=yE (xs[i/64]?.getD 0)
  refine xqk 15 (.int .u64 (d:Int)) (fun w R Q=>by rw[←f];exact xW (t:=94) (x:=.tmp 14) (Q) (j:=i/64) (by omega)) ?_
  refine xq 2 [yJ 17 (((i:Int)).tmod 64)] [] ?_
  rw[show ((i:Int)).tmod 64=((i%64:Nat):Int) from tdr (i) 64]
  refine xqk 18 (.int .u64 ((d/2^(i%64):Nat):Int)) (fun w R Q=>Zid (t:=94) (x:=.tmp 15) (y:=.tmp 17) (k:=3) (ky:=.i64) (a:=d) (n:=(i%64)) (by omega)) ?_
  refine xqk 19 (.int .u64 (((d/2^(i%64))%2:Nat):Int)) (fun w R Q=>Zpp (t:=94) (x:=.tmp 18) (y:=(Operand.const (Value.int IntKind.u64 1))) (k:=94) (a:=(d/2^(i%64))) (ha:=vI (uO _ _) (by rw[←f];exact l.getD zN _))) ?_
  refine xq 1 [(20,.v (.bool (((((d/2^(i%64))%2:Nat):Int):Int) == 1)))] [] ?_
  rw[show ((((d/2^(i%64))%2:Nat):Int) == 1)=decide (val W64 xs/2^i%2=1) from (Zqk _).trans (by rw[Zpr l h f])]
  refine xq 2 [yB 4 (decide (val W64 xs/2^i%2=1))] [] ?_
  refine xe (zA (zF ?_))
  refine yR (.bool (decide (val W64 xs/2^i%2=1))) fun w' R Q=>?_
  exact⟨rfl,R⟩
 rw[b]
 have g:=uD b
 have h:¬ i/64<xs.length:=by omega
 refine xq 12 [yB 4 false] [] ?_
 refine xe (zA (zF ?_))
 refine yR (.bool false) fun w' R Q=>?_
 exact⟨by rw[Zoa l h];rfl,R⟩
theorem Zps {xs ys:List Nat}{j x y:Nat}(c:j<xs.length)(d:j<ys.length)(h:xs.drop (j+1)=ys.drop (j+1))(a:xs[j]?.getD 0=x)(b:ys[j]?.getD 0=y)(e:x=y):xs.drop j=ys.drop j:=by
 subst e
 rw[tI c,tI d,h]
 rw[List.getElem?_eq_getElem c] at a
 rw[List.getElem?_eq_getElem d] at b
 simp only[sR] at a b
 rw[a,b]
theorem Zip (A d:Option Addr)(xs ys:List Nat)(c c2:Nat)(w:World)(S:zH .u64 w A xs)(T:zH .u64 w d ys)(V:xs.length≤4294967296)(G:Dig W64 xs)(H:Dig W64 ys)(I:Trim xs)(J:Trim ys) :
 yA 122 #[.slice A xs.length c,.slice d ys.length c2] w (RetV w (.int .i64 (cmpI ((val W64 xs:Nat):Int) ((val W64 ys:Nat):Int)))):=by
 refine zX (Φ:=fun w=>(zH .u64 w A xs∧zH .u64 w d ys)) Tryz.func122 rfl (by kernel_rfl) (fun w' K=>⟨S.ext K,T.ext K⟩) ?_
 refine zC (zB (xq 1 [yJ 4 0] [] ?_))
 refine xe (zA (zC (zC (zB (xq 5 [yB 10 ((((xs.length:Nat):Int):Int) != ((ys.length:Nat):Int))] [] ?_)))))
 refine xe (zA ?_)
 refine yQ (((((xs.length:Nat):Int):Int) != ((ys.length:Nat):Int))) (fun h=>?_) fun h=>?_
 ·have s:=gK h
  refine zC (zC (zB (xq 5 [yB 15 (decide (((xs.length:Nat):Int)<((ys.length:Nat):Int)))] [] ?_)))
  refine xe (zA ?_)
  refine yQ ((decide (((xs.length:Nat):Int)<((ys.length:Nat):Int)))) (fun l=>?_) fun l=>?_
  ·have u:=uC l
   refine zC (zB (xq 1 [yJ 4 (-1)] [] ?_))
   refine xe (zA (zF (zE (zE ?_))))
   refine yR (.int .i64 (-1)) fun w' R Q=>?_
   exact⟨by rw[←Zf0 G H I J (by omega),iD (by omega)],R⟩
  have u:=uD l
  refine zK (zA (zC (zB (xq 1 [yJ 4 1] [] ?_))))
  refine xe (zA (zF (zE ?_)))
  refine yR (.int .i64 1) fun w' R Q=>?_
  exact⟨by rw[←Zf0 G H I J (by omega),gO (by omega)],R⟩
 have s:=gL h
 refine zK (zA (zC (zC (zB (xq 3 [yJ 18 (IntKind.i64.wrap (((xs.length:Nat):Int)-1))] [] ?_)))))
 rw[yW (((xs.length:Nat):Int)-1) (((xs.length:Nat):Int)-1) (by omega)]
 refine xq 1 [yJ 5 (((xs.length:Nat):Int)-1)] [] ?_
 refine xe (zA (xH ?_))
 refine yC [eS1 0 A xs.length c,eS1 1 d ys.length c2,yJ 4 0,yJ 5 (((xs.length:Nat):Int)-1)] [] (fun w=>(zH .u64 w A (xs)∧zH .u64 w d (ys))) (fun w Q=>⟨Q.1,Q.2⟩) ?_
 refine lW (fun L M O=>∃ (k:Nat),M=ofL [eS1 0 A xs.length c,eS1 1 d ys.length c2,yJ 4 0,yJ 5 ((k:Int)-1)] []∧O=(fun w=>(zH .u64 w A (xs)∧zH .u64 w d (ys)))∧(xs.drop k=ys.drop k)∧(k≤xs.length)∧L=(1+k)) ((1+xs.length)) ⟨xs.length,rfl,rfl,(by rw[vA (uK _),vA (by omega)]),uK _,rfl⟩ ?_
 rintro L M O ⟨k,rfl,rfl,D,W,rfl⟩
 refine zC (zC (zB (xq 2 [(20,.v (.bool (decide (((k:Int)-1)≥0))))] [] ?_)))
 refine xe (zA ?_)
 refine yQ ((decide (((k:Int)-1)≥0))) (fun m=>?_) fun m=>?_
 ·have z:=uC m
  obtain⟨j,rfl⟩:∃ j,k=j+1:=⟨k-1,by omega⟩
  rw[show ((((j+1):Nat):Int)-1)=(j:Int) by omega]
  refine zK (zA (zC (xH (zC ?_))))
  refine yO 9 zM ?_
  refine xqf 2 [eS1 23 A xs.length c,yJ 24 (j:Int)] [] ?_
  refine xqj 25 (atA A j) (fun w Q=>xO (t:=77) (e:=94) (x:=.tmp 23) (ix:=.tmp 24) (len:=xs.length) (cap:=c) (i:=j) ((Q.1).ne (j:=j) (by omega)) (by omega)) ?_
  obtain⟨f,a⟩:=yE (xs[j]?.getD 0)
  refine xqj 26 (.int .u64 (f:Int)) (fun w Q=>by rw[←a];exact xW (t:=94) (x:=.tmp 25) (Q.1) (j:=j) (by omega)) ?_
  refine xqf 2 [eS1 27 d ys.length c2,yJ 28 (j:Int)] [] ?_
  refine xqj 29 (atA d j) (fun w Q=>xO (t:=77) (e:=94) (x:=.tmp 27) (ix:=.tmp 28) (len:=ys.length) (cap:=c2) (i:=j) ((Q.2).ne (j:=j) (by omega)) (by omega)) ?_
  obtain⟨g,b⟩:=yE (ys[j]?.getD 0)
  refine xqj 30 (.int .u64 (g:Int)) (fun w Q=>by rw[←b];exact xW (t:=94) (x:=.tmp 29) (Q.2) (j:=j) (by omega)) ?_
  refine xqf 1 [yB 31 (((f:Int):Int) != (g:Int))] [] ?_
  refine xz (xe (zA ?_))
  refine yQ ((((f:Int):Int) != (g:Int))) (fun n=>?_) fun n=>?_
  ·have B:=gK n
   refine zC (zC ?_)
   refine yO 9 zM ?_
   refine xqf 2 [eS1 32 A xs.length c,yJ 33 (j:Int)] [] ?_
   refine xqj 34 (atA A j) (fun w Q=>xO (t:=77) (e:=94) (x:=.tmp 32) (ix:=.tmp 33) (len:=xs.length) (cap:=c) (i:=j) ((Q.1).ne (j:=j) (by omega)) (by omega)) ?_
   obtain⟨E,q⟩:=yE (xs[j]?.getD 0)
   refine xqj 35 (.int .u64 (E:Int)) (fun w Q=>by rw[←q];exact xW (t:=94) (x:=.tmp 34) (Q.1) (j:=j) (by omega)) ?_
   obtain rfl:f=E:=by rw[←a,q]
   refine xqf 2 [eS1 36 d ys.length c2,yJ 37 (j:Int)] [] ?_
   refine xqj 38 (atA d j) (fun w Q=>xO (t:=77) (e:=94) (x:=.tmp 36) (ix:=.tmp 37) (len:=ys.length) (cap:=c2) (i:=j) ((Q.2).ne (j:=j) (by omega)) (by omega)) ?_
   obtain⟨F,r⟩:=yE (ys[j]?.getD 0)
   refine xqj 39 (.int .u64 (F:Int)) (fun w Q=>by rw[←r];exact xW (t:=94) (x:=.tmp 38) (Q.2) (j:=j) (by omega)) ?_
   obtain rfl:g=F:=by rw[←b,r]
   refine xqf 1 [yB 40 (decide ((f:Int)<(g:Int)))] [] ?_
   refine xz (xe (zA ?_))
   refine yQ ((decide ((f:Int)<(g:Int)))) (fun p=>?_) fun p=>?_
   ·have C:=uC p
    refine zC (zB (xq 1 [yJ 4 (-1)] [] ?_))
    refine xe (zA (zF (zE (lA (zE (zE (lA (zE ?_))))))))
    refine yR (.int .i64 (-1)) fun w' R Q=>?_
    exact⟨by rw[←Zc4 G H (by omega) (k:=j) (by omega) D a b (by omega),iD (by omega)],R⟩
   have C:=uD p
   refine zK (zA (zC (zB (xq 1 [yJ 4 1] [] ?_))))
   refine xe (zA (zF (lA (zE (zE (lA (zE ?_)))))))
   refine yR (.int .i64 1) fun w' R Q=>?_
   exact⟨by rw[←Zc4 G H (by omega) (k:=j) (by omega) D a b (by omega),gO (by omega)],R⟩
  have B:=gL n
  have U:xs.drop j=ys.drop j:=Zps (by omega) (by omega) D a b (by omega)
  refine zK (wX (zA (zB (xq 2 [yJ 22 (IntKind.i64.wrap ((j:Int)-1))] [] ?_))))
  rw[yW ((j:Int)-1) ((j:Int)-1) (by omega)]
  refine xq 1 [yJ 5 ((j:Int)-1)] [] ?_
  refine xe ?_
  refine yP [eS1 0 A xs.length c,eS1 1 d ys.length c2,yJ 4 0,yJ 5 ((j:Int)-1)] [] (fun w=>(zH .u64 w A (xs)∧zH .u64 w d (ys))) (fun w Q=>⟨Q.1,Q.2⟩) ?_
  exact wG ((1+j)) (by omega) ⟨j,rfl,rfl,U,by omega,rfl⟩
 have z:=uD m
 obtain rfl:k=0:=by omega
 refine lG (zW (zW (lV (zA (zC (zB (xq 1 [yJ 4 0] [] ?_)))))))
 refine xe (zA (zF ?_))
 refine yR (.int .i64 0) fun w' R Q=>?_
 exact⟨by rw[tT,tT] at D;rw[D,Zbl],R⟩
def Zql (b:Nat) (xs:List Nat) (u:Nat) (w:World) (e:Ending) (w':World):Prop:=∃ qs,e=.returned (.int .u64 ((val W64 xs%u:Nat):Int))∧(qs.length=xs.length∧Dig W64 qs∧val W64 qs=val W64 xs/u)∧Fr (fun i=>i=b) w w'∧Own .u64 94 w' b qs
theorem ZbB (b c:Nat)(xs:List Nat)(u:Nat)(w:World)(m:Own .u64 94 w b xs)(D:xs.length≤4294967296)(z:Dig W64 xs)(A:0<u)(n:u<W64) :
 yA 108 #[.slice (some ⟨b,0,none⟩) xs.length c,.int .u64 ((u:Nat):Int)] w (Zql b xs u w):=by
 refine jH (fun i=>i=b) (Φ:=fun w=>Own .u64 94 w b xs) Tryz.func108 rfl (by kernel_rfl) (fun w' B=>m.ext B) ?_
 refine zC (zB (xq 1 [yU 4 0] [] ?_))
 refine xe (zA (zC (zB (xq 1 [yU 5 0] [] ?_))))
 refine xe (zA (zC (zC (zB (xq 3 [yJ 9 (IntKind.i64.wrap (((xs.length:Nat):Int)-1))] [] ?_)))))
 rw[yW (((xs.length:Nat):Int)-1) (((xs.length:Nat):Int)-1) (by omega)]
 refine xq 1 [yJ 6 (((xs.length:Nat):Int)-1)] [] ?_
 refine xe (zA (xH ?_))
 refine yC [eS1 0 (some ⟨b,0,none⟩) xs.length c,yU 1 (u:Int),yU 4 0,yU 5 ((0:Nat):Int),yJ 6 (((xs.length:Nat):Int)-1)] [] (fun w=>Own .u64 94 w b (xs)) (fun w Q=>Q) ?_
 refine lW (fun p q s=>∃ (k:Nat) (r:Nat) (h:List Nat),q=ofL [eS1 0 (some ⟨b,0,none⟩) xs.length c,yU 1 (u:Int),yU 4 0,yU 5 (r:Int),yJ 6 ((k:Int)-1)] []∧s=(fun w=>Own .u64 94 w b (h))∧(DwR xs u k h r)∧(k≤xs.length)∧p=(1+k)) ((1+xs.length)) ⟨xs.length,0,xs,rfl,rfl,DwR.start z A,uK _,rfl⟩ ?_
 rintro p q s ⟨k,r,h,rfl,rfl,g,E,rfl⟩
 refine zC (zC (zB (xq 2 [(11,.v (.bool (decide (((k:Int)-1)≥0))))] [] ?_)))
 refine xe (zA ?_)
 refine yQ ((decide (((k:Int)-1)≥0))) (fun f=>?_) fun f=>?_
 ·have l:=uC f
  obtain⟨j,rfl⟩:∃ j,k=j+1:=⟨k-1,by omega⟩
  rw[show ((((j+1):Nat):Int)-1)=(j:Int) by omega]
  have C:=g.1.1
  refine zK (zA (zC (xH (zB (xq 5 [eS1 15 (some ⟨b,0,none⟩) xs.length c,yJ 16 (j:Int),yU 17 (r:Int),eS1 18 (some ⟨b,0,none⟩) xs.length c,yJ 19 (j:Int)] [] ?_)))))
  refine xqk 20 (.pointer (some ⟨b,j,none⟩)) (fun w R Q=>lX (t:=77) (e:=94) (x:=.tmp 18) (ix:=.tmp 19) (len:=xs.length) (cap:=c) (i:=j) (by omega)) ?_
  obtain⟨a,d⟩:=yE (h[j]?.getD 0)
  refine xqk 21 (.int .u64 (a:Int)) (fun w R Q=>by rw[←d];exact gQ (t:=94) (x:=.tmp 20) (Q) (j:=j) (by omega)) ?_
  refine xq 1 [yU 22 (u:Int)] [] ?_
  refine xqc 149 [.int .u64 (r:Int),.int .u64 (a:Int),.int .u64 (u:Int)] 23 (fun _:Unit=>.tuple #[.int .u64 ((divQ r a u:Nat):Int),.int .u64 ((divR r a u:Nat):Int)]) _ (fun w R Q=>yN (ZgV r a u _ g.1.2.2.1 n (by rw[←d];exact g.1.2.1.getD zN _))) fun F=>?_
  refine xq 3 [yU 24 ((divQ r a u:Nat):Int),yU 25 ((divR r a u:Nat):Int)] [] ?_
  refine xqk 26 (.pointer (some ⟨b,j,none⟩)) (fun w R Q=>lX (t:=77) (e:=94) (x:=.tmp 15) (ix:=.tmp 16) (len:=xs.length) (cap:=c) (i:=j) (by omega)) ?_
  refine jN (t:=94) (x:=.tmp 26) (y:=.tmp 24) b (j) (divQ r a u) (fun w=>(Own .u64 94 w b ((h).set (j) (divQ r a u))∧True)) (fun w Q=>Q.1) (by omega) (Or.inr rfl) (fun w w' Q G m=>⟨m,trivial⟩) ?_
  refine xq 1 [yU 5 ((divR r a u:Nat):Int)] [] ?_
  refine xe (wX (zA (zB (xq 2 [yJ 13 (IntKind.i64.wrap ((j:Int)-1))] [] ?_))))
  rw[yW ((j:Int)-1) ((j:Int)-1) (by omega)]
  refine xq 1 [yJ 6 ((j:Int)-1)] [] ?_
  refine xe ?_
  refine yP [eS1 0 (some ⟨b,0,none⟩) xs.length c,yU 1 (u:Int),yU 4 0,yU 5 (((divR r a u):Nat):Int),yJ 6 ((j:Int)-1)] [] (fun w=>Own .u64 94 w b (((h).set (j) (divQ r a u)))) (fun w Q=>Q.1) ?_
  exact wG ((1+j)) (by omega) ⟨j,(divR r a u),((h).set (j) (divQ r a u)),rfl,rfl,(g.step (by omega) d (by rw[←d];exact g.1.2.1.getD zN _)),by omega,rfl⟩
 have l:=uD f
 obtain rfl:k=0:=by omega
 refine lG (zW (zW (lV (zA (zC (zB (xq 2 [yU 4 (r:Int)] [] ?_)))))))
 refine xe (zA (zF ?_))
 refine yR (.int .u64 (r:Int)) fun w' R Q=>?_
 exact⟨h,by rw[g.1.done.2],⟨g.1.1,g.1.2.1,g.1.done.1⟩,R,Q⟩
def Zkb (b:Nat) (w:World) (p:List Nat→Nat→Prop) (e:Ending) (w':World):Prop:=∃ x:List Nat × Nat,e=.returned (.bool (((x.2:Nat):Int) == 1))∧p x.1 x.2∧Fr (fun i=>i=b) w w'∧Own .u64 94 w' b x.1
theorem Ziq (b c o:Nat)(m ys:List Nat)(A:Option Addr)(c2:Nat)(w:World)(C:Own .u64 94 w b m)(S:zH .u64 w A ys)(J:∀ a,A=some a→a.block≠b)(U:o+ys.length<m.length)(V:m.length≤4294967296)(T:Dig W64 m)(D:Dig W64 ys)(q:Nat)(E:q<W64) :
 yA 199 #[.slice (some ⟨b,o,none⟩) (ys.length+1) c,.slice A ys.length c2,.int .u64 ((q:Nat):Int)] w (Zkb b w (Zdu m ys q o)):=by
 refine jH (fun i=>i=b) (Φ:=fun w=>(Own .u64 94 w b m∧zH .u64 w A ys)) Tryz.func199 rfl (by kernel_rfl) (fun w' K=>⟨C.ext K,S.ext K⟩) ?_
 refine zC (zB (xq 1 [yB 6 false] [] ?_))
 refine xe (zA (zC (zB (xq 2 [yU 7 0,yU 8 0] [] ?_))))
 refine xe (zA (zC (zC (zB (xq 3 [eS1 14 A ys.length c2,yJ 15 ((ys.length:Nat):Int),yJ 16 0] [] ?_)))))
 refine xe (zA (xH ?_))
 refine yC [eS1 0 (some ⟨b,o,none⟩) (ys.length+1) c,eS1 1 A ys.length c2,yU 2 (q:Int),yB 6 false,yU 7 ((0:Nat):Int),yU 8 ((0:Nat):Int),eS1 14 A ys.length c2,yJ 15 ((ys.length:Nat):Int),yJ 16 ((0:Nat):Int)] [] (fun w=>(Own .u64 94 w b (m)∧zH .u64 w A (ys))) (fun w Q=>⟨Q.1,Q.2⟩) ?_
 refine lW (fun L M O=>∃ (f g k:Nat) (r:List Nat),M=ofL [eS1 0 (some ⟨b,o,none⟩) (ys.length+1) c,eS1 1 A ys.length c2,yU 2 (q:Int),yB 6 false,yU 7 (f:Int),yU 8 (g:Int),eS1 14 A ys.length c2,yJ 15 ((ys.length:Nat):Int),yJ 16 (k:Int)] []∧O=(fun w=>(Own .u64 94 w b (r)∧zH .u64 w A (ys)))∧(SpR m ys q o k r f g)∧(k≤ys.length)∧L=(ys.length-k)) ((ys.length-0)) ⟨0,0,0,m,rfl,rfl,SpR.start ys q o T,by omega,rfl⟩ ?_
 rintro L M O ⟨f,g,k,r,rfl,rfl,z,W,rfl⟩
 refine zC (zB (xq 1 [yB 17 (decide ((k:Int)<((ys.length:Nat):Int)))] [] ?_))
 refine xe (zA (zC ?_))
 refine yQ ((decide ((k:Int)<((ys.length:Nat):Int)))) (fun p=>?_) fun p=>?_
 ·have B:=uC p
  have F:=z.1
  have G:=z.2.2.2.1
  refine zK (zA (zC (xH (zC (zB (xq 1 [yJ 18 (k:Int)] [] ?_))))))
  refine xqk 19 (atA A k) (fun w R Q=>xO (t:=77) (e:=94) (x:=.tmp 14) (ix:=.tmp 16) (len:=ys.length) (cap:=c2) (i:=k) ((Q.2).ne (j:=k) (by omega)) (by omega)) ?_
  obtain⟨d,n⟩:=yE (ys[k]?.getD 0)
  refine xqk 20 (.int .u64 (d:Int)) (fun w R Q=>by rw[←n];exact xW (t:=94) (x:=.tmp 19) (Q.2) (j:=k) (by omega)) ?_
  refine xq 2 [yJ 9 (k:Int),yU 10 (d:Int)] [] ?_
  refine xe (zA (zC (zB (xq 2 [yU 22 (d:Int),yU 23 (q:Int)] [] ?_))))
  refine xqc 145 [.int .u64 (d:Int),.int .u64 (q:Int)] 24 (fun _:Unit=>.tuple #[.int .u64 ((wL d q:Nat):Int),.int .u64 ((xB d q:Nat):Int)]) _ (fun w R Q=>yN (Zdo d q _ (by rw[←n];exact D.getD zN _) E)) fun X=>?_
  refine xq 5 [yU 11 ((wL d q:Nat):Int),yU 12 ((xB d q:Nat):Int)] [] ?_
  refine xe (zA (zC (zB (xq 2 [yU 28 ((xB d q:Nat):Int),yU 29 (f:Int)] [] ?_))))
  refine xqk 30 (.tuple #[.int .u64 ((xI (xB d q) f 0:Nat):Int),.int .u64 ((xM (xB d q) f 0:Nat):Int)]) (fun w R Q=>fW (args:=[Operand.tmp 28,Operand.tmp 29,Operand.const (Value.int IntKind.u64 0)]) (ts:=#[94,94,94]) (fC (xB d q) f 0 (by omega) w)) ?_
  refine xq 5 [yU 12 ((xI (xB d q) f 0:Nat):Int),yU 13 ((xM (xB d q) f 0:Nat):Int)] [] ?_
  refine xe (zA (zC (zB (xq 3 [(35,.v (.int .u64 (IntKind.u64.wrap (((wL d q:Nat):Int)+((xM (xB d q) f 0:Nat):Int)))))] [] ?_))))
  rw[ZfE (a:=wL d q) (b:=xM (xB d q) f 0) (Zio (by rw[←n];exact D.getD zN _) E z.2.2.1)]
  refine xq 1 [yU 7 ((wL d q+xM (xB d q) f 0:Nat):Int)] [] ?_
  refine xe (zA (zB (xq 4 [eS1 37 (some ⟨b,o,none⟩) (ys.length+1) c,yJ 38 (k:Int),eS1 39 (some ⟨b,o,none⟩) (ys.length+1) c,yJ 40 (k:Int)] [] ?_)))
  refine xqk 41 (.pointer (some ⟨b,o+k,none⟩)) (fun w R Q=>iE (t:=77) (e:=94) (x:=.tmp 39) (ix:=.tmp 40) (len:=(ys.length+1)) (cap:=c) (i:=k) (by omega)) ?_
  obtain⟨h,s⟩:=yE (r[o+k]?.getD 0)
  refine xqk 42 (.int .u64 (h:Int)) (fun w R Q=>by rw[←s];exact gQ (t:=94) (x:=.tmp 41) (Q.1.1) (j:=o+k) (by omega)) ?_
  refine xq 2 [yU 43 ((xI (xB d q) f 0:Nat):Int),yU 44 (g:Int)] [] ?_
  refine xqk 45 (.tuple #[.int .u64 ((lQ h (xI (xB d q) f 0) g:Nat):Int),.int .u64 ((lR h (xI (xB d q) f 0) g:Nat):Int)]) (fun w R Q=>fW (args:=[Operand.tmp 42,Operand.tmp 43,Operand.tmp 44]) (ts:=#[94,94,94]) (fD h (xI (xB d q) f 0) g (by omega) w)) ?_
  refine xq 3 [yU 46 ((lQ h (xI (xB d q) f 0) g:Nat):Int),yU 47 ((lR h (xI (xB d q) f 0) g:Nat):Int)] [] ?_
  refine xqk 48 (.pointer (some ⟨b,o+k,none⟩)) (fun w R Q=>iE (t:=77) (e:=94) (x:=.tmp 37) (ix:=.tmp 38) (len:=(ys.length+1)) (cap:=c) (i:=k) (by omega)) ?_
  refine jN (t:=94) (x:=.tmp 48) (y:=.tmp 46) b (o+k) (lQ h (xI (xB d q) f 0) g) (fun w=>((Own .u64 94 w b ((r).set (o+k) (lQ h (xI (xB d q) f 0) g))∧zH .u64 w A (ys))∧True)) (fun w Q=>Q.1.1) (by omega) (Or.inr rfl) (fun w w' Q H C=>⟨⟨C,((Q.1.2).fr H (fun a I _=>J a I))⟩,trivial⟩) ?_
  refine xr 1 [eS1 0 (some ⟨b,o,none⟩) (ys.length+1) c,eS1 1 A ys.length c2,yU 2 (q:Int),yB 6 false,yU 7 ((wL d q+xM (xB d q) f 0:Nat):Int),yU 8 ((lR h (xI (xB d q) f 0) g:Nat):Int),eS1 14 A ys.length c2,yJ 15 ((ys.length:Nat):Int),yJ 16 (k:Int)] [] ?_
  refine xe (wX (zA (zB (xq 1 [yJ 49 (IntKind.i64.wrap ((k:Int)+1))] [] ?_))))
  rw[yW ((k:Int)+1) (((k+1:Nat):Int)) (by omega)]
  refine xq 1 [yJ 16 ((k+1:Nat):Int)] [] ?_
  refine xe ?_
  refine yP [eS1 0 (some ⟨b,o,none⟩) (ys.length+1) c,eS1 1 A ys.length c2,yU 2 (q:Int),yB 6 false,yU 7 (((wL d q+xM (xB d q) f 0):Nat):Int),(8,.v (.int .u64 (((lR h (xI (xB d q) f 0) g):Nat):Int))),eS1 14 A ys.length c2,yJ 15 ((ys.length:Nat):Int),yJ 16 (((k+1):Nat):Int)] [] (fun w=>(Own .u64 94 w b (((r).set (o+k) (lQ h (xI (xB d q) f 0) g)))∧zH .u64 w A (ys))) (fun w Q=>⟨Q.1.1,Q.1.2⟩) ?_
  exact wG ((ys.length-(k+1))) (by omega) ⟨(wL d q+xM (xB d q) f 0),(lR h (xI (xB d q) f 0) g),(k+1),((r).set (o+k) (lQ h (xI (xB d q) f 0) g)),rfl,rfl,(z.step (by omega) n s D E),by omega,rfl⟩
 have B:=uD p
 have F:=z.1
 have G:=z.2.2.2.1
 obtain rfl:k=ys.length:=by omega
 refine lG (zW (zW (lV (zA (zC (zB (xq 6 [eS1 51 (some ⟨b,o,none⟩) (ys.length+1) c,yJ 53 ((ys.length:Nat):Int),eS1 54 (some ⟨b,o,none⟩) (ys.length+1) c,yJ 56 ((ys.length:Nat):Int)] [] ?_)))))))
 refine xqk 57 (.pointer (some ⟨b,o+ys.length,none⟩)) (fun w R Q=>iE (t:=77) (e:=94) (x:=.tmp 54) (ix:=.tmp 56) (len:=(ys.length+1)) (cap:=c) (i:=ys.length) (by omega)) ?_
 obtain⟨l,u⟩:=yE (r[o+ys.length]?.getD 0)
 refine xqk 58 (.int .u64 (l:Int)) (fun w R Q=>by rw[←u];exact gQ (t:=94) (x:=.tmp 57) (Q.1) (j:=o+ys.length) (by omega)) ?_
 refine xq 2 [yU 59 (f:Int),yU 60 (g:Int)] [] ?_
 refine xqk 61 (.tuple #[.int .u64 ((lQ l f g:Nat):Int),.int .u64 ((lR l f g:Nat):Int)]) (fun w R Q=>fW (args:=[Operand.tmp 58,Operand.tmp 59,Operand.tmp 60]) (ts:=#[94,94,94]) (fD l f g (by omega) w)) ?_
 refine xq 3 [yU 62 ((lQ l f g:Nat):Int),yU 63 ((lR l f g:Nat):Int)] [] ?_
 refine xqk 64 (.pointer (some ⟨b,o+ys.length,none⟩)) (fun w R Q=>iE (t:=77) (e:=94) (x:=.tmp 51) (ix:=.tmp 53) (len:=(ys.length+1)) (cap:=c) (i:=ys.length) (by omega)) ?_
 refine jN (t:=94) (x:=.tmp 64) (y:=.tmp 62) b (o+ys.length) (lQ l f g) (fun w=>(Own .u64 94 w b ((r).set (o+ys.length) (lQ l f g))∧zH .u64 w A (ys))) (fun w Q=>Q.1) (by omega) (Or.inr rfl) (fun w w' Q H C=>⟨C,((Q.2).fr H (fun a I _=>J a I))⟩) ?_
 refine xq 1 [yU 8 ((lR l f g:Nat):Int)] [] ?_
 refine xe (zA (zC (zB (xq 3 [yB 6 ((((lR l f g:Nat):Int):Int) == 1)] [] ?_))))
 refine xe (zA (zF ?_))
 refine yR (.bool ((((lR l f g:Nat):Int):Int) == 1)) fun w' R Q=>?_
 exact⟨(_,_),rfl,z.done (by omega) u,R,Q.1⟩
theorem Zir (b c o:Nat)(l ys:List Nat)(A:Option Addr)(c2:Nat)(w:World)(v:Own .u64 94 w b l)(J:zH .u64 w A ys)(E:∀ a,A=some a→a.block≠b)(M:o+ys.length<l.length)(O:l.length≤4294967296)(K:Dig W64 l)(L:Dig W64 ys) :
 yA 200 #[.slice (some ⟨b,o,none⟩) (ys.length+1) c,.slice A ys.length c2] w (Zkb b w (Zdv l ys o)):=by
 refine jH (fun i=>i=b) (Φ:=fun w=>(Own .u64 94 w b l∧zH .u64 w A ys)) Tryz.func200 rfl (by kernel_rfl) (fun w' F=>⟨v.ext F,J.ext F⟩) ?_
 refine zC (zB (xq 1 [yB 4 false] [] ?_))
 refine xe (zA (zC (zB (xq 1 [yU 5 0] [] ?_))))
 refine xe (zA (zC (zC (zB (xq 3 [eS1 8 A ys.length c2,yJ 9 ((ys.length:Nat):Int),yJ 10 0] [] ?_)))))
 refine xe (zA (xH ?_))
 refine yC [eS1 0 (some ⟨b,o,none⟩) (ys.length+1) c,eS1 1 A ys.length c2,yB 4 false,yU 5 ((0:Nat):Int),eS1 8 A ys.length c2,yJ 9 ((ys.length:Nat):Int),yJ 10 ((0:Nat):Int)] [] (fun w=>(Own .u64 94 w b (l)∧zH .u64 w A (ys))) (fun w Q=>⟨Q.1,Q.2⟩) ?_
 refine lW (fun G H I=>∃ (f k:Nat) (n:List Nat),H=ofL [eS1 0 (some ⟨b,o,none⟩) (ys.length+1) c,eS1 1 A ys.length c2,yB 4 false,yU 5 (f:Int),eS1 8 A ys.length c2,yJ 9 ((ys.length:Nat):Int),yJ 10 (k:Int)] []∧I=(fun w=>(Own .u64 94 w b (n)∧zH .u64 w A (ys)))∧(AbR l ys o k n f)∧(k≤ys.length)∧G=(ys.length-k)) ((ys.length-0)) ⟨0,0,l,rfl,rfl,AbR.start ys o K,by omega,rfl⟩ ?_
 rintro G H I ⟨f,k,n,rfl,rfl,u,S,rfl⟩
 refine zC (zB (xq 1 [yB 11 (decide ((k:Int)<((ys.length:Nat):Int)))] [] ?_))
 refine xe (zA (zC ?_))
 refine yQ ((decide ((k:Int)<((ys.length:Nat):Int)))) (fun m=>?_) fun m=>?_
 ·have s:=uC m
  have z:=u.1
  have B:=u.2.2.1
  refine zK (zA (zC (xH (zC (zB (xq 1 [yJ 12 (k:Int)] [] ?_))))))
  refine xqk 13 (atA A k) (fun w R Q=>xO (t:=77) (e:=94) (x:=.tmp 8) (ix:=.tmp 10) (len:=ys.length) (cap:=c2) (i:=k) ((Q.2).ne (j:=k) (by omega)) (by omega)) ?_
  obtain⟨d,p⟩:=yE (ys[k]?.getD 0)
  refine xqk 14 (.int .u64 (d:Int)) (fun w R Q=>by rw[←p];exact xW (t:=94) (x:=.tmp 13) (Q.2) (j:=k) (by omega)) ?_
  refine xq 2 [yJ 6 (k:Int),yU 7 (d:Int)] [] ?_
  refine xe (zA (zB (xq 4 [eS1 16 (some ⟨b,o,none⟩) (ys.length+1) c,yJ 17 (k:Int),eS1 18 (some ⟨b,o,none⟩) (ys.length+1) c,yJ 19 (k:Int)] [] ?_)))
  refine xqk 20 (.pointer (some ⟨b,o+k,none⟩)) (fun w R Q=>iE (t:=77) (e:=94) (x:=.tmp 18) (ix:=.tmp 19) (len:=(ys.length+1)) (cap:=c) (i:=k) (by omega)) ?_
  obtain⟨g,q⟩:=yE (n[o+k]?.getD 0)
  refine xqk 21 (.int .u64 (g:Int)) (fun w R Q=>by rw[←q];exact gQ (t:=94) (x:=.tmp 20) (Q.1) (j:=o+k) (by omega)) ?_
  refine xq 2 [yU 22 (d:Int),yU 23 (f:Int)] [] ?_
  refine xqk 24 (.tuple #[.int .u64 ((xI g d f:Nat):Int),.int .u64 ((xM g d f:Nat):Int)]) (fun w R Q=>fW (args:=[Operand.tmp 21,Operand.tmp 22,Operand.tmp 23]) (ts:=#[94,94,94]) (fC g d f (by omega) w)) ?_
  refine xq 3 [yU 25 ((xI g d f:Nat):Int),yU 26 ((xM g d f:Nat):Int)] [] ?_
  refine xqk 27 (.pointer (some ⟨b,o+k,none⟩)) (fun w R Q=>iE (t:=77) (e:=94) (x:=.tmp 16) (ix:=.tmp 17) (len:=(ys.length+1)) (cap:=c) (i:=k) (by omega)) ?_
  refine jN (t:=94) (x:=.tmp 27) (y:=.tmp 25) b (o+k) (xI g d f) (fun w=>(Own .u64 94 w b ((n).set (o+k) (xI g d f))∧zH .u64 w A (ys))) (fun w Q=>Q.1) (by omega) (Or.inr rfl) (fun w w' Q C v=>⟨v,((Q.2).fr C (fun a D _=>E a D))⟩) ?_
  refine xq 1 [yU 5 ((xM g d f:Nat):Int)] [] ?_
  refine xe (wX (zA (zB (xq 1 [yJ 28 (IntKind.i64.wrap ((k:Int)+1))] [] ?_))))
  rw[yW ((k:Int)+1) (((k+1:Nat):Int)) (by omega)]
  refine xq 1 [yJ 10 ((k+1:Nat):Int)] [] ?_
  refine xe ?_
  refine yP [eS1 0 (some ⟨b,o,none⟩) (ys.length+1) c,eS1 1 A ys.length c2,yB 4 false,yU 5 (((xM g d f):Nat):Int),eS1 8 A ys.length c2,yJ 9 ((ys.length:Nat):Int),yJ 10 (((k+1):Nat):Int)] [] (fun w=>(Own .u64 94 w b (((n).set (o+k) (xI g d f)))∧zH .u64 w A (ys))) (fun w Q=>⟨Q.1,Q.2⟩) ?_
  exact wG ((ys.length-(k+1))) (by omega) ⟨(xM g d f),(k+1),((n).set (o+k) (xI g d f)),rfl,rfl,(u.step (by omega) p q L),by omega,rfl⟩
 have s:=uD m
 have z:=u.1
 have B:=u.2.2.1
 obtain rfl:k=ys.length:=by omega
 refine lG (zW (zW (lV (zA (zC (zB (xq 6 [eS1 30 (some ⟨b,o,none⟩) (ys.length+1) c,yJ 32 ((ys.length:Nat):Int),eS1 33 (some ⟨b,o,none⟩) (ys.length+1) c,yJ 35 ((ys.length:Nat):Int)] [] ?_)))))))
 refine xqk 36 (.pointer (some ⟨b,o+ys.length,none⟩)) (fun w R Q=>iE (t:=77) (e:=94) (x:=.tmp 33) (ix:=.tmp 35) (len:=(ys.length+1)) (cap:=c) (i:=ys.length) (by omega)) ?_
 obtain⟨h,r⟩:=yE (n[o+ys.length]?.getD 0)
 refine xqk 37 (.int .u64 (h:Int)) (fun w R Q=>by rw[←r];exact gQ (t:=94) (x:=.tmp 36) (Q.1) (j:=o+ys.length) (by omega)) ?_
 refine xq 1 [yU 38 (f:Int)] [] ?_
 refine xqk 39 (.tuple #[.int .u64 ((xI h 0 f:Nat):Int),.int .u64 ((xM h 0 f:Nat):Int)]) (fun w R Q=>fW (args:=[Operand.tmp 37,Operand.const (Value.int IntKind.u64 0),Operand.tmp 38]) (ts:=#[94,94,94]) (fC h 0 f (by omega) w)) ?_
 refine xq 3 [yU 40 ((xI h 0 f:Nat):Int),yU 41 ((xM h 0 f:Nat):Int)] [] ?_
 refine xqk 42 (.pointer (some ⟨b,o+ys.length,none⟩)) (fun w R Q=>iE (t:=77) (e:=94) (x:=.tmp 30) (ix:=.tmp 32) (len:=(ys.length+1)) (cap:=c) (i:=ys.length) (by omega)) ?_
 refine jN (t:=94) (x:=.tmp 42) (y:=.tmp 40) b (o+ys.length) (xI h 0 f) (fun w=>(Own .u64 94 w b ((n).set (o+ys.length) (xI h 0 f))∧zH .u64 w A (ys))) (fun w Q=>Q.1) (by omega) (Or.inr rfl) (fun w w' Q C v=>⟨v,((Q.2).fr C (fun a D _=>E a D))⟩) ?_
 refine xq 1 [yU 5 ((xM h 0 f:Nat):Int)] [] ?_
 refine xe (zA (zC (zB (xq 3 [yB 4 ((((xM h 0 f:Nat):Int):Int) == 1)] [] ?_))))
 refine xe (zA (zF ?_))
 refine yR (.bool ((((xM h 0 f:Nat):Int):Int) == 1)) fun w' R Q=>?_
 exact⟨(_,_),rfl,u.done (by omega) r,R,Q.1⟩
noncomputable def win (o n:Nat) (zs:List Nat):Nat:=val W64 ((zs.drop o).take (n+1))
theorem Zaa {o n:Nat}{zs:List Nat}(h:o≤zs.length):val W64 (zs.take (o+n+1))=val W64 (zs.take o)+W64^o*win o n zs:=by
 unfold win
 rw[show o+n+1=o+(n+1) by omega,List.take_add,kN,vE,uX h]
theorem ZmC {o n:Nat}{a:List Nat}(b:Dig W64 a):win o n a<W64^(n+1):=by
 have:=xV ((b.drop o).take (n+1))
 refine uU this (uY zN (by rw[vE];exact Nat.min_le_left _ _))
def WinR (o n:Nat) (zs0 zs:List Nat):Prop:=zs.length=zs0.length∧Dig W64 zs∧zs.take o=zs0.take o∧zs.drop (o+n+1)=zs0.drop (o+n+1)
theorem WinR.start {o n:Nat}{zs0:List Nat}(h:Dig W64 zs0):WinR o n zs0 zs0:=⟨rfl,h,rfl,rfl⟩
theorem ZfI {o a b c d x:Nat}(h:x+W64^o*a+W64^o*b=x+W64^o*c+W64^o*d):a+b=c+d:=by
 have e:W64^o*(a+b)=W64^o*(c+d):=by rw[uL,uL];omega
 exact Nat.eq_of_mul_eq_mul_left (uV zN) e
theorem Zdu.win {a c ys d:List Nat}{q o b:Nat}(h:Zdu c ys q o d b)(r:o≤a.length)(k:WinR o ys.length a c):WinR o ys.length a d∧b≤1∧win o ys.length d+q*val W64 ys=win o ys.length c+W64^(ys.length+1)*b:=by
 obtain⟨g,i,j,e,l,f⟩:=h
 obtain⟨m,s,n,p⟩:=k
 refine⟨⟨g.trans m,i,e.trans n,l.trans p⟩,j,?_⟩
 rw[Zaa (by omega),Zaa (by omega),e,show o+ys.length+1=o+(ys.length+1) by omega,uT,uF (W64^o)] at f
 exact ZfI f
theorem Zdv.win {a b ys d:List Nat}{o c:Nat}(h:Zdv b ys o d c)(q:o≤a.length)(k:WinR o ys.length a b):WinR o ys.length a d∧c≤1∧win o ys.length d+W64^(ys.length+1)*c=win o ys.length b+val W64 ys:=by
 obtain⟨g,i,j,e,l,f⟩:=h
 obtain⟨m,r,n,p⟩:=k
 refine⟨⟨g.trans m,i,e.trans n,l.trans p⟩,j,?_⟩
 rw[Zaa (by omega),Zaa (by omega),e,show o+ys.length+1=o+(ys.length+1) by omega,uT,uF (W64^o)] at f
 exact ZfI f
theorem Zpt {o n:Nat}{a:List Nat}{u0 u1 u2:Nat}(f:2≤n)(h:o+n<a.length)(d:a[o+n]?.getD 0=u0)(b:a[o+(n-1)]?.getD 0=u1)(c:a[o+(n-2)]?.getD 0=u2)(e:Dig W64 a) :
 ∃ l,l<W64^(n-2)∧win o n a=l+W64^(n-2)*(u2+W64*(u1+W64*u0)):=by
 obtain⟨m,rfl⟩:∃ m,n=m+2:=⟨n-2,by omega⟩
 refine⟨val W64 ((a.drop o).take m),?_,?_⟩
 ·have:=xV ((e.drop o).take m)
  rw[vE,vX,uX (by omega)] at this
  exact this
 unfold win
 simp only[show m+2-1=m+1 by omega,show m+2-2=m by omega] at b c ⊢
 have g:∀ j,(a.drop o)[j]?.getD 0=a[o+j]?.getD 0:=fun j=>by rw[List.getElem?_drop]
 rw[lM (m+2),lM (m+1),lM m,g,g,g,d,b,c]
 simp only[uR,uL,uF,tQ]
theorem Zpu {n:Nat}{ys:List Nat}{t v2:Nat}(c:2≤n)(d:ys.length=n)(a:ys[n-1]?.getD 0=t)(b:ys[n-2]?.getD 0=v2):∃ l,val W64 ys=l+W64^(n-2)*(v2+W64*t):=by
 obtain⟨m,rfl⟩:∃ m,n=m+2:=⟨n-2,by omega⟩
 refine⟨val W64 (ys.take m),?_⟩
 simp only[show m+2-1=m+1 by omega,show m+2-2=m by omega] at a b ⊢
 have:=lM (B:=W64) (xs:=ys) (m+1)
 rw[uB (by omega),lM m,a,b,uR] at this
 rw[this]
 simp only[uL,uF,tQ]
theorem Zoc {B l U V a u0 u1 u2 v2 t:Nat}(f:l<B)(g:U=l+B*(u2+W64*(u1+W64*u0)))(b:V=a+B*(v2+W64*t))(h:u2<W64)(c:0<t):U/V≤divQ u0 u1 t:=by
 unfold divQ
 rw[rT c]
 have i:=rY U V
 generalize U/V=q at *
 have j:q*(B*(W64*t))≤q*V:=uI _ (by rw[b,uL];omega)
 have d:B*(q*(W64*t))<B*(u2+W64*(u1+W64*u0)+1):=by
  rw[vW,uL B (_+_) 1];omega
 have k:=tX d
 have e:W64*(q*t)<W64*(u1+W64*u0+1):=by
  rw[vW,uL W64 (_+_) 1];omega
 have m:=tX e
 rw[uG u0];omega
theorem ZfJ {B l U V b u0 u1 u2 v2 t g r:Nat}(j:l<B)(k:U=l+B*(u2+W64*(u1+W64*u0)))(c:V=b+B*(v2+W64*t))(d:r+g*t=u0*W64+u1)(h:r*W64+u2<g*v2)(a:0<V):U/V+1≤g:=by
 rw[Nat.add_one_le_iff,vH a]
 have f:u2+W64*(u1+W64*u0)+1≤g*(v2+W64*t):=by
  have e:W64*(r+g*t)=W64*(u1+W64*u0):=by rw[d,vL,uG u0]
  rw[uL g,vW g]
  rw[uL W64 r] at e
  rw[uG r] at h
  omega
 have i:B*(u2+W64*(u1+W64*u0)+1)≤g*V:=by
  refine uA (uI B f) ?_
  rw[vW,c]
  exact uI _ (by omega)
 rw[uL B (_+_) 1] at i
 omega
theorem ZmD {U V:Nat}(h:U<W64*V):U/V≤W64-1:=by
 have a:0<V:=sQ (fun e=>by subst e;omega)
 have:=(vH a).2 h
 omega
theorem Zkc {hi lo r u g v:Nat}(h:lo+W64*hi=g*v)(b:¬ hi<r)(c:hi=r→¬ lo≤u)(d:u<W64):r*W64+u<g*v:=by
 rw[←h,uG r]
 rcases qK hi r with a|a|a
 ·exact absurd a b
 ·have:=c a;subst a;omega
 have:=uI W64 a
 rw[Nat.mul_succ] at this
 omega
def CorR (U V P:Nat) (g b wn:Nat):Prop:=b≤1∧wn<P∧U/V≤g∧wn+g*V=U+P*b
theorem CorR.pos {U V P g b a:Nat}(h:CorR U V P g b a)(c:b=1)(d:0<V):U/V+1≤g:=by
 obtain⟨_,e,_,f⟩:=h
 subst c
 rw[Nat.add_one_le_iff,vH d]
 omega
theorem CorR.step {U V P g b d wn' c:Nat}(h:CorR U V P g b d)(e:b=1)(i:0<V)(l:c≤1)(j:wn'<P)(f:wn'+P*c=d+V):CorR U V P (g-1) (1-c) wn':=by
 have m:=h.pos e i
 obtain⟨n,o,p,a⟩:=h
 subst e
 unfold CorR
 generalize U/V=q at *
 refine⟨by omega,j,by omega,?_⟩
 obtain⟨k,rfl⟩:∃ k,g=k+1:=⟨g-1,by omega⟩
 rw[tE]
 rw[vF] at a
 rcases (by omega:c=0∨c=1) with rfl|rfl
 ·simp at f a ⊢;omega
 simp at f a ⊢;omega
theorem CorR.done {U V P g a:Nat}(h:CorR U V P g 0 a)(b:0<V):g=U/V∧a=U%V:=by
 obtain⟨d,f,i,c⟩:=h
 rw[tL,vV] at c
 have j:g≤U/V:=by rw[rT b];omega
 have e:g=U/V:=by omega
 refine⟨e,?_⟩
 have:=vS U V
 rw[←e,uG] at this
 omega
theorem ZqX:(18446744073709551615:Int)=((W64-1:Nat):Int):=by rw[zO];rfl
theorem ZoM {a b:Nat}(h:¬ a+b<W64)(ha:a<W64)(c:b<W64):IntKind.u64.wrap ((a:Int)+(b:Int))=((a+b-W64:Nat):Int):=by
 rw[IntKind.wrap_u64]
 rw[zO] at *
 omega
theorem Zpv {c:Nat}(h:c≤1):(!(((c:Nat):Int) == 1))=(((1-c:Nat):Int) == 1):=by
 rcases (by omega:c=0∨c=1) with rfl|rfl<;>rfl
def Zqm (b o:Nat) (zs0 ys:List Nat) (w:World) (e:Ending) (w':World):Prop:=∃ zs,e=.returned (.int .u64 ((win o ys.length zs0/val W64 ys:Nat):Int))∧(WinR o ys.length zs0 zs∧win o ys.length zs=win o ys.length zs0%val W64 ys)∧Fr (fun i=>i=b) w w'∧Own .u64 94 w' b zs
theorem ZfK (b c o:Nat)(g ys:List Nat)(A:Option Addr)(c2:Nat)(w:World)(hO:Own .u64 94 w b g)(hY:zH .u64 w A ys)(hA:∀ a,A=some a→a.block≠b)(ho:o+ys.length<g.length)(hl:g.length≤4294967296)(O:Dig W64 g)(hy:Dig W64 ys)(q0:2≤ys.length)(C:0<val W64 ys)(r0:win o ys.length g<W64*val W64 ys) :
 yA 175 #[.slice (some ⟨b,o,none⟩) (ys.length+1) c,.slice A ys.length c2] w (Zqm b o g ys w):=by
 obtain⟨u2,D⟩:=yE (g[o+(ys.length-2)]?.getD 0)
 refine jH (fun i=>i=b) (Φ:=fun w=>(Own .u64 94 w b g∧zH .u64 w A ys)) Tryz.func175 rfl (by kernel_rfl) (fun w' hf=>⟨hO.ext hf,hY.ext hf⟩) ?_
 refine zC (zB (xq 1 [yU 4 0] [] ?_))
 refine xe (zA (zC (zB (xq 3 [yJ 5 ((ys.length:Nat):Int)] [] ?_))))
 refine xe (zA (zC (zB (xq 3 [eS1 14 A ys.length c2,yJ 16 (IntKind.i64.wrap (((ys.length:Nat):Int)-1))] [] ?_))))
 rw[yW (((ys.length:Nat):Int)-1) (((ys.length-1:Nat):Int)) (by omega)]
 refine xqk 17 (atA A (ys.length-1)) (fun w R Q=>xO (t:=77) (e:=94) (x:=.tmp 14) (ix:=.tmp 16) (len:=ys.length) (cap:=c2) (i:=ys.length-1) ((Q.2).ne (j:=ys.length-1) (by omega)) (by omega)) ?_
 obtain⟨x10,q⟩:=yE (ys[ys.length-1]?.getD 0)
 refine xqk 18 (.int .u64 (x10:Int)) (fun w R Q=>by rw[←q];exact xW (t:=94) (x:=.tmp 17) (Q.2) (j:=ys.length-1) (by omega)) ?_
 refine xq 1 [yU 6 (x10:Int)] [] ?_
 refine xe (zA (zC (zB (xq 1 [yU 7 18446744073709551615] [] ?_))))
 rw[ZqX]
 refine xe (zA ?_)
 refine Zbg (fun P S=>∃ (f:Nat),P=ofL [eS1 0 (some ⟨b,o,none⟩) (ys.length+1) c,eS1 1 A ys.length c2,yU 7 (f:Int)] []∧S=(fun w=>(Own .u64 94 w b (g)∧zH .u64 w A (ys)))∧(win o ys.length g/val W64 ys≤f)∧(f<W64)) ?_ ?_
 ·refine zC (zB (xq 2 [eS1 19 (some ⟨b,o,none⟩) (ys.length+1) c,yJ 20 ((ys.length:Nat):Int)] [] ?_))
  refine xqk 21 (.pointer (some ⟨b,o+ys.length,none⟩)) (fun w R Q=>iE (t:=77) (e:=94) (x:=.tmp 19) (ix:=.tmp 20) (len:=(ys.length+1)) (cap:=c) (i:=ys.length) (by omega)) ?_
  obtain⟨k,E⟩:=yE (g[o+ys.length]?.getD 0)
  refine xqk 22 (.int .u64 (k:Int)) (fun w R Q=>by rw[←E];exact gQ (t:=94) (x:=.tmp 21) (Q.1) (j:=o+ys.length) (by omega)) ?_
  refine xq 2 [yB 24 (decide ((k:Int)<(x10:Int)))] [] ?_
  refine xe (zA ?_)
  refine yQ ((decide ((k:Int)<(x10:Int)))) (fun F=>?_) fun F=>?_
  ·have a0:=uC F
   refine zC (zB (xq 1 [yU 8 0] [] ?_))
   refine xe (zA (zC ?_))
   refine bN 16 [0,0,3,7,0,0,32,112,240,0,1023,2047,4095,4095,8191,32767] (by kernel_rfl) (by kernel_rfl) zM ?_
   refine xqf 2 [eS1 26 (some ⟨b,o,none⟩) (ys.length+1) c,yJ 27 ((ys.length:Nat):Int)] [] ?_
   refine xqj 28 (.pointer (some ⟨b,o+ys.length,none⟩)) (fun w Q=>iE (t:=77) (e:=94) (x:=.tmp 26) (ix:=.tmp 27) (len:=(ys.length+1)) (cap:=c) (i:=ys.length) (by omega)) ?_
   obtain⟨l0,T⟩:=yE (g[o+ys.length]?.getD 0)
   refine xqj 29 (.int .u64 (l0:Int)) (fun w Q=>by rw[←T];exact gQ (t:=94) (x:=.tmp 28) (Q.1) (j:=o+ys.length) (by omega)) ?_
   obtain rfl:k=l0:=by rw[←E,T]
   refine xqf 3 [eS1 30 (some ⟨b,o,none⟩) (ys.length+1) c,yJ 32 (IntKind.i64.wrap (((ys.length:Nat):Int)-1))] [] ?_
   rw[yW (((ys.length:Nat):Int)-1) (((ys.length-1:Nat):Int)) (by omega)]
   refine xqj 33 (.pointer (some ⟨b,o+(ys.length-1),none⟩)) (fun w Q=>iE (t:=77) (e:=94) (x:=.tmp 30) (ix:=.tmp 32) (len:=(ys.length+1)) (cap:=c) (i:=ys.length-1) (by omega)) ?_
   obtain⟨l,B⟩:=yE (g[o+(ys.length-1)]?.getD 0)
   refine xqj 34 (.int .u64 (l:Int)) (fun w Q=>by rw[←B];exact gQ (t:=94) (x:=.tmp 33) (Q.1) (j:=o+(ys.length-1)) (by omega)) ?_
   refine xqf 1 [yU 35 (x10:Int)] [] ?_
   refine xqd 149 [.int .u64 (k:Int),.int .u64 (l:Int),.int .u64 (x10:Int)] 36 (fun _:Unit=>.tuple #[.int .u64 ((divQ k l x10:Nat):Int),.int .u64 ((divR k l x10:Nat):Int)]) _ (fun w R Q=>yN (ZgV k l x10 _ (by omega) (by rw[←q];exact hy.getD zN _) (by rw[←B];exact O.getD zN _))) fun xx=>?_
   refine xqf 5 [yU 7 ((divQ k l x10:Nat):Int),yU 8 ((divR k l x10:Nat):Int)] [] ?_
   refine xz (xe (zA (xH ?_)))
   obtain⟨lw,b0,hU⟩:=Zpt (o:=o) (n:=ys.length) (by omega) (by omega) E B D O
   obtain⟨y2,c0⟩:=yE (ys[ys.length-2]?.getD 0)
   obtain⟨vl,hV⟩:=Zpu (ys:=ys) q0 rfl q c0
   refine yC [eS1 0 (some ⟨b,o,none⟩) (ys.length+1) c,eS1 1 A ys.length c2,yU 4 0,yJ 5 ((ys.length:Nat):Int),yU 6 (x10:Int),yU 7 (((divQ k l x10):Nat):Int),yU 8 (((divR k l x10):Nat):Int)] [] (fun w=>(Own .u64 94 w b (g)∧zH .u64 w A (ys))) (fun w Q=>⟨Q.1.1,Q.1.2⟩) ?_
   have m0:0<x10:=by omega
   refine lW (fun nn P S=>∃ (f h:Nat),P=ofL [eS1 0 (some ⟨b,o,none⟩) (ys.length+1) c,eS1 1 A ys.length c2,yU 4 0,yJ 5 ((ys.length:Nat):Int),yU 6 (x10:Int),yU 7 (f:Int),yU 8 (h:Int)] []∧S=(fun w=>(Own .u64 94 w b (g)∧zH .u64 w A (ys)))∧(win o ys.length g/val W64 ys≤f)∧(f<W64)∧(h+f*x10=k*W64+l)∧(h<W64)∧nn=(1+f)) ((1+(divQ k l x10))) ⟨(divQ k l x10),(divR k l x10),rfl,rfl,(Zoc b0 hU hV (by rw[←D];exact O.getD zN _) m0),(Zf1 (by omega) (by rw[←B];exact O.getD zN _)),(by rw[vL];exact Zck _ _ _),(rV (ZbV _ _ m0) (by rw[←q];exact hy.getD zN _)),rfl⟩ ?_
   rintro nn P S ⟨f,h,rfl,rfl,hq,y,hr,s0,rfl⟩
   refine xH (zC (zB (xq 4 [yU 40 (f:Int),eS1 41 A ys.length c2,yJ 43 (IntKind.i64.wrap (((ys.length:Nat):Int)-2))] [] ?_)))
   rw[yW (((ys.length:Nat):Int)-2) (((ys.length-2:Nat):Int)) (by omega)]
   refine xqk 44 (atA A (ys.length-2)) (fun w R Q=>xO (t:=77) (e:=94) (x:=.tmp 41) (ix:=.tmp 43) (len:=ys.length) (cap:=c2) (i:=ys.length-2) ((Q.2).ne (j:=ys.length-2) (by omega)) (by omega)) ?_
   obtain⟨n0,U⟩:=yE (ys[ys.length-2]?.getD 0)
   refine xqk 45 (.int .u64 (n0:Int)) (fun w R Q=>by rw[←U];exact xW (t:=94) (x:=.tmp 44) (Q.2) (j:=ys.length-2) (by omega)) ?_
   obtain rfl:y2=n0:=by rw[←c0,U]
   refine xqc 145 [.int .u64 (f:Int),.int .u64 (y2:Int)] 46 (fun _:Unit=>.tuple #[.int .u64 ((wL f y2:Nat):Int),.int .u64 ((xB f y2:Nat):Int)]) _ (fun w R Q=>yN (Zdo f y2 _ y (by rw[←c0];exact hy.getD zN _))) fun xx=>?_
   refine xq 5 [yU 9 ((wL f y2:Nat):Int),yU 10 ((xB f y2:Nat):Int)] [] ?_
   refine xe (zA (zC (zC (zB (xq 4 [yB 52 (decide (((wL f y2:Nat):Int)<(h:Int)))] [] ?_)))))
   rcases bl2 ((decide (((wL f y2:Nat):Int)<(h:Int)))) with s|s
   ·rw[s]
    have d0:=uC s
    refine xq 13 [yB 65 true] [] ?_
    refine xe (zA (xa (lG (zW ?_))))
    refine Zb5 (by kernel_rfl) ?_
    refine zW (lV ?_)
    refine yP [eS1 0 (some ⟨b,o,none⟩) (ys.length+1) c,eS1 1 A ys.length c2,yU 7 (f:Int)] [] (fun w=>(Own .u64 94 w b (g)∧zH .u64 w A (ys))) (fun w Q=>⟨Q.1.1,Q.1.2⟩) ?_
    exact kW ⟨f,rfl,rfl,hq,y⟩
   rw[s]
   have d0:=uD s
   refine xq 4 [yB 56 ((((wL f y2:Nat):Int):Int) == (h:Int))] [] ?_
   rcases bl2 (((((wL f y2:Nat):Int):Int) == (h:Int))) with u|u
   ·rw[u]
    have G:=tA.1 u
    refine xq 4 [yU 57 ((xB f y2:Nat):Int),eS1 58 (some ⟨b,o,none⟩) (ys.length+1) c,yJ 60 (IntKind.i64.wrap (((ys.length:Nat):Int)-2))] [] ?_
    rw[yW (((ys.length:Nat):Int)-2) (((ys.length-2:Nat):Int)) (by omega)]
    refine xqk 61 (.pointer (some ⟨b,o+(ys.length-2),none⟩)) (fun w R Q=>iE (t:=77) (e:=94) (x:=.tmp 58) (ix:=.tmp 60) (len:=(ys.length+1)) (cap:=c) (i:=ys.length-2) (by omega)) ?_
    obtain⟨o0,V⟩:=yE (g[o+(ys.length-2)]?.getD 0)
    refine xqk 62 (.int .u64 (o0:Int)) (fun w R Q=>by rw[←V];exact gQ (t:=94) (x:=.tmp 61) (Q.1.1) (j:=o+(ys.length-2)) (by omega)) ?_
    obtain rfl:u2=o0:=by rw[←D,V]
    refine xq 3 [yB 65 (decide (((xB f y2:Nat):Int)≤(u2:Int)))] [] ?_
    refine xe (zA ?_)
    refine yQ ((decide (((xB f y2:Nat):Int)≤(u2:Int)))) (fun H=>?_) fun H=>?_
    ·have e0:=uC H
     refine lG (zW ?_)
     refine Zb5 (by kernel_rfl) ?_
     refine zW (lV ?_)
     refine yP [eS1 0 (some ⟨b,o,none⟩) (ys.length+1) c,eS1 1 A ys.length c2,yU 7 (f:Int)] [] (fun w=>(Own .u64 94 w b (g)∧zH .u64 w A (ys))) (fun w Q=>⟨Q.1.1,Q.1.2⟩) ?_
     exact kW ⟨f,rfl,rfl,hq,y⟩
    have e0:=uD H
    refine zK (zA (zC ?_))
    have f0:h*W64+u2<f*y2:=Zkc (dN f y2) (by omega) (fun _=>by omega) (by rw[←D];exact O.getD zN _)
    have r:=ZfJ b0 hU hV hr f0 C
    have p0:1≤f:=uA (Nat.le_add_left 1 _) r
    by_cases z:h+x10<W64
    ·refine zB (xq 2 [yU 67 (IntKind.u64.wrap ((f:Int)-1))] [] ?_)
     rw[show IntKind.u64.wrap (((f:Int)-1))=((f-1:Nat):Int) by rw[IntKind.wrap_u64];have:=zO;omega]
     refine xq 1 [yU 7 ((f-1:Nat):Int)] [] ?_
     refine xe (zA (zC (zB (xq 3 [yU 70 (IntKind.u64.wrap ((h:Int)+(x10:Int)))] [] ?_))))
     rw[ZfE (a:=h) (b:=x10) z]
     refine xq 1 [yU 8 ((h+x10:Nat):Int)] [] ?_
     refine xe (zA (zC (zB (xq 3 [yB 73 (decide (((h+x10:Nat):Int)<(x10:Int)))] [] ?_))))
     refine xe (zA ?_)
     refine yQ ((decide (((h+x10:Nat):Int)<(x10:Int)))) (fun I=>?_) fun I=>?_
     ·have g0:=uC I
      exfalso;omega
     have g0:=uD I
     refine zK (wX ?_)
     refine yP [eS1 0 (some ⟨b,o,none⟩) (ys.length+1) c,eS1 1 A ys.length c2,yU 4 0,yJ 5 ((ys.length:Nat):Int),yU 6 (x10:Int),yU 7 (((f-1):Nat):Int),yU 8 (((h+x10):Nat):Int)] [] (fun w=>(Own .u64 94 w b (g)∧zH .u64 w A (ys))) (fun w Q=>⟨Q.1.1,Q.1.2⟩) ?_
     exact wG ((1+(f-1))) (by omega) ⟨(f-1),(h+x10),rfl,rfl,(qN r),(by omega),(by obtain⟨m,rfl⟩:∃ m,f=m+1:=⟨f-1,by omega⟩;rw[tE];rw[vF] at hr;omega),z,rfl⟩
    refine zB (xq 2 [yU 67 (IntKind.u64.wrap ((f:Int)-1))] [] ?_)
    rw[show IntKind.u64.wrap (((f:Int)-1))=((f-1:Nat):Int) by rw[IntKind.wrap_u64];have:=zO;omega]
    refine xq 1 [yU 7 ((f-1:Nat):Int)] [] ?_
    refine xe (zA (zC (zB (xq 3 [yU 70 (IntKind.u64.wrap ((h:Int)+(x10:Int)))] [] ?_))))
    rw[ZoM (a:=h) (b:=x10) z (by omega) (by rw[←q];exact hy.getD zN _)]
    refine xq 1 [yU 8 ((h+x10-W64:Nat):Int)] [] ?_
    refine xe (zA (zC (zB (xq 3 [yB 73 (decide (((h+x10-W64:Nat):Int)<(x10:Int)))] [] ?_))))
    refine xe (zA ?_)
    refine yQ ((decide (((h+x10-W64:Nat):Int)<(x10:Int)))) (fun J=>?_) fun J=>?_
    ·have h0:=uC J
     refine lG ?_
     refine Zb5 (by kernel_rfl) ?_
     refine zW (lV ?_)
     refine yP [eS1 0 (some ⟨b,o,none⟩) (ys.length+1) c,eS1 1 A ys.length c2,yU 7 (((f-1):Nat):Int)] [] (fun w=>(Own .u64 94 w b (g)∧zH .u64 w A (ys))) (fun w Q=>⟨Q.1.1,Q.1.2⟩) ?_
     exact kW ⟨(f-1),rfl,rfl,(qN r),(by omega)⟩
    have h0:=uD J
    exfalso;omega
   rw[u]
   have G:=lB u
   refine xq 9 [yB 65 false] [] ?_
   refine xe (zA (xb (zK (zA (zC ?_)))))
   have f0:h*W64+u2<f*y2:=Zkc (dN f y2) (by omega) (fun e=>absurd (show (wL f y2:Int)=h by rw[e]) G) (by rw[←D];exact O.getD zN _)
   have r:=ZfJ b0 hU hV hr f0 C
   have p0:1≤f:=uA (Nat.le_add_left 1 _) r
   by_cases z:h+x10<W64
   ·refine zB (xq 2 [yU 67 (IntKind.u64.wrap ((f:Int)-1))] [] ?_)
    rw[show IntKind.u64.wrap (((f:Int)-1))=((f-1:Nat):Int) by rw[IntKind.wrap_u64];have:=zO;omega]
    refine xq 1 [yU 7 ((f-1:Nat):Int)] [] ?_
    refine xe (zA (zC (zB (xq 3 [yU 70 (IntKind.u64.wrap ((h:Int)+(x10:Int)))] [] ?_))))
    rw[ZfE (a:=h) (b:=x10) z]
    refine xq 1 [yU 8 ((h+x10:Nat):Int)] [] ?_
    refine xe (zA (zC (zB (xq 3 [yB 73 (decide (((h+x10:Nat):Int)<(x10:Int)))] [] ?_))))
    refine xe (zA ?_)
    refine yQ ((decide (((h+x10:Nat):Int)<(x10:Int)))) (fun K=>?_) fun K=>?_
    ·have i0:=uC K
     exfalso;omega
    have i0:=uD K
    refine zK (wX ?_)
    refine yP [eS1 0 (some ⟨b,o,none⟩) (ys.length+1) c,eS1 1 A ys.length c2,yU 4 0,yJ 5 ((ys.length:Nat):Int),yU 6 (x10:Int),yU 7 (((f-1):Nat):Int),yU 8 (((h+x10):Nat):Int)] [] (fun w=>(Own .u64 94 w b (g)∧zH .u64 w A (ys))) (fun w Q=>⟨Q.1.1,Q.1.2⟩) ?_
    exact wG ((1+(f-1))) (by omega) ⟨(f-1),(h+x10),rfl,rfl,(qN r),(by omega),(by obtain⟨m,rfl⟩:∃ m,f=m+1:=⟨f-1,by omega⟩;rw[tE];rw[vF] at hr;omega),z,rfl⟩
   refine zB (xq 2 [yU 67 (IntKind.u64.wrap ((f:Int)-1))] [] ?_)
   rw[show IntKind.u64.wrap (((f:Int)-1))=((f-1:Nat):Int) by rw[IntKind.wrap_u64];have:=zO;omega]
   refine xq 1 [yU 7 ((f-1:Nat):Int)] [] ?_
   refine xe (zA (zC (zB (xq 3 [yU 70 (IntKind.u64.wrap ((h:Int)+(x10:Int)))] [] ?_))))
   rw[ZoM (a:=h) (b:=x10) z (by omega) (by rw[←q];exact hy.getD zN _)]
   refine xq 1 [yU 8 ((h+x10-W64:Nat):Int)] [] ?_
   refine xe (zA (zC (zB (xq 3 [yB 73 (decide (((h+x10-W64:Nat):Int)<(x10:Int)))] [] ?_))))
   refine xe (zA ?_)
   refine yQ ((decide (((h+x10-W64:Nat):Int)<(x10:Int)))) (fun L=>?_) fun L=>?_
   ·have j0:=uC L
    refine lG ?_
    refine Zb5 (by kernel_rfl) ?_
    refine zW (lV ?_)
    refine yP [eS1 0 (some ⟨b,o,none⟩) (ys.length+1) c,eS1 1 A ys.length c2,yU 7 (((f-1):Nat):Int)] [] (fun w=>(Own .u64 94 w b (g)∧zH .u64 w A (ys))) (fun w Q=>⟨Q.1.1,Q.1.2⟩) ?_
    exact kW ⟨(f-1),rfl,rfl,(qN r),(by omega)⟩
   have j0:=uD L
   exfalso;omega
  have a0:=uD F
  refine zK ?_
  refine yP [eS1 0 (some ⟨b,o,none⟩) (ys.length+1) c,eS1 1 A ys.length c2,yU 7 (((W64-1):Nat):Int)] [] (fun w=>(Own .u64 94 w b (g)∧zH .u64 w A (ys))) (fun w Q=>⟨Q.1,Q.2⟩) ?_
  exact kW ⟨(W64-1),rfl,rfl,ZmD r0,(by have:=zN;omega)⟩
 rintro P S ⟨f,rfl,rfl,hq,y⟩
 refine zC (zC (zB (xq 3 [eS1 74 (some ⟨b,o,none⟩) (ys.length+1) c,eS1 75 A ys.length c2,yU 76 (f:Int)] [] ?_)))
 refine Zcv (xs:=g) (α:=List Nat × Nat) 199 [.slice (some ⟨b,o,none⟩) (ys.length+1) c,.slice A ys.length c2,.int .u64 (f:Int)] (d:=77) (fun x=>.bool (((x.2:Nat):Int) == 1)) (fun x=>Zdu g ys f o x.1 x.2) (fun x=>x.1) b (fun x w=>(Own .u64 94 w b (x.1)∧zH .u64 w A (ys))) (fun w Q=>Q.1) (by omega) (Or.inr rfl) (fun w R Q=>Ziq b _ o _ ys A _ _ Q.1 Q.2 hA (by omega) hl O hy _ y) (fun x w w' hp Q hF hO=>⟨hO,((Q.2).fr hF (fun a ha _=>hA a ha))⟩) fun x W=>?_
 obtain⟨X,M⟩:=x
 dsimp only at W
 have p:=W.win (by omega) (WinR.start O)
 refine xr 1 [eS1 0 (some ⟨b,o,none⟩) (ys.length+1) c,eS1 1 A ys.length c2,yU 7 (f:Int),yB 11 ((M:Int) == 1)] [] ?_
 refine xe (zA (xH ?_))
 refine yC [eS1 0 (some ⟨b,o,none⟩) (ys.length+1) c,eS1 1 A ys.length c2,yU 7 (f:Int),yB 11 ((M:Int) == 1)] [] (fun w=>(Own .u64 94 w b (X)∧zH .u64 w A (ys))) (fun w Q=>⟨Q.1,Q.2⟩) ?_
 refine lW (fun nn P S=>∃ (f bb:Nat) (zs:List Nat),P=ofL [eS1 0 (some ⟨b,o,none⟩) (ys.length+1) c,eS1 1 A ys.length c2,yU 7 (f:Int),yB 11 ((bb:Int) == 1)] []∧S=(fun w=>(Own .u64 94 w b (zs)∧zH .u64 w A (ys)))∧(WinR o ys.length g zs)∧(CorR (win o ys.length g) (val W64 ys) (W64^(ys.length+1)) f bb (win o ys.length zs))∧(f<W64)∧nn=(1+f)) ((1+f)) ⟨f,M,X,rfl,rfl,p.1,⟨p.2.1,ZmC p.1.2.1,hq,p.2.2⟩,y,rfl⟩ ?_
 rintro nn P S ⟨f,bb,zs,rfl,rfl,HW,HC,y,rfl⟩
 refine zC (zC (zB (xq 1 [yB 78 ((bb:Int) == 1)] [] ?_)))
 refine xe (zA ?_)
 refine yQ (((bb:Int) == 1)) (fun N=>?_) fun N=>?_
 ·have k0:=tA.1 N
  refine zK (zA (zC (xH ?_)))
  have r:=HC.pos (by omega) C
  have p0:1≤f:=uA (Nat.le_add_left 1 _) r
  refine zB (xq 2 [eS1 81 (some ⟨b,o,none⟩) (ys.length+1) c,eS1 82 A ys.length c2] [] ?_)
  refine Zcv (xs:=zs) (α:=List Nat × Nat) 200 [.slice (some ⟨b,o,none⟩) (ys.length+1) c,.slice A ys.length c2] (d:=83) (fun x=>.bool (((x.2:Nat):Int) == 1)) (fun x=>Zdv zs ys o x.1 x.2) (fun x=>x.1) b (fun x w=>(Own .u64 94 w b (x.1)∧zH .u64 w A (ys))) (fun w Q=>Q.1) (by have:=HW.1;omega) (Or.inr rfl) (fun w R Q=>Zir b _ o _ ys A _ _ Q.1 Q.2 hA (by rw[HW.1];omega) (by rw[HW.1];exact hl) HW.2.1 hy) (fun x w w' hp Q hF hO=>⟨hO,((Q.2).fr hF (fun a ha _=>hA a ha))⟩) fun x Y=>?_
  obtain⟨Z,v⟩:=x
  dsimp only at Y
  have p:=Y.win (by omega) HW
  refine xr 1 [eS1 0 (some ⟨b,o,none⟩) (ys.length+1) c,eS1 1 A ys.length c2,yU 7 (f:Int),yB 11 ((bb:Int) == 1),yB 84 (!((v:Int) == 1))] [] ?_
  rw[Zpv (c:=v) p.2.1]
  refine xq 1 [yB 11 (((1-v:Nat):Int) == 1)] [] ?_
  refine xe (wX (zA (zB (xq 2 [yU 80 (IntKind.u64.wrap ((f:Int)-1))] [] ?_))))
  rw[show IntKind.u64.wrap (((f:Int)-1))=((f-1:Nat):Int) by rw[IntKind.wrap_u64];have:=zO;omega]
  refine xq 1 [yU 7 ((f-1:Nat):Int)] [] ?_
  refine xe ?_
  refine yP [eS1 0 (some ⟨b,o,none⟩) (ys.length+1) c,eS1 1 A ys.length c2,yU 7 (((f-1):Nat):Int),yB 11 ((((1-v):Nat):Int) == 1)] [] (fun w=>(Own .u64 94 w b (Z)∧zH .u64 w A (ys))) (fun w Q=>⟨Q.1,Q.2⟩) ?_
  exact wG ((1+(f-1))) (by omega) ⟨(f-1),(1-v),Z,rfl,rfl,p.1,(HC.step (by omega) C p.2.1 (ZmC p.1.2.1) p.2.2),(by omega),rfl⟩
 have k0:=lB N
 obtain rfl:bb=0:=by have:=HC.1;omega
 refine lG (zW (zW (lV (zA (zC (zB (xq 2 [yU 4 (f:Int)] [] ?_)))))))
 refine xe (zA (zF ?_))
 refine yR (.int .u64 (f:Int)) fun w' R Q=>?_
 obtain⟨e1,e2⟩:=HC.done C
 exact⟨zs,by rw[e1],⟨HW,e2⟩,R,Q.1⟩
noncomputable def wds (n:Nat):List Nat:=if _h:n=0 then [] else (n%W64) :: wds (n/W64)
termination_by n
decreasing_by exact qH (by omega) fS
theorem eJ:∀ n,Dig W64 (wds n)∧val W64 (wds n)=n:=by
 intro n
 induction n using Nat.strongRecOn with
 | ind n ih =>
  rw[wds]
  split
  ·rename_i h;exact⟨Dig.nil,by simp[h]⟩
  rename_i h
  obtain⟨a,b⟩:=ih (n/W64) (qH (by omega) fS)
  exact⟨a.cons (uM _ zN),by rw[iY,b];exact tS _ _⟩
theorem ZeS:∀ n,Trim (wds n):=by
 intro n
 induction n using Nat.strongRecOn with
 | ind n ih =>
  rw[wds]
  split
  ·exact Trim.nil
  rename_i h
  have b:=ih (n/W64) (qH (by omega) fS)
  intro k a
  rcases uH (n/W64) with e|e
  ·rw[e,wds,dif_pos rfl] at a ⊢
   simp at a
   subst a
   have:=tS n W64
   rw[e] at this
   simp;omega
  obtain⟨m,rfl⟩:∃ m,k=m+1:=⟨k-1,by
   have:wds (n/W64)≠[]:=fun c=>by have:=(eJ (n/W64)).2;rw[c] at this;simp at this;omega
   have:=sJ.2 this
   simp at a;omega⟩
  have:=b m (by simpa using a)
  simpa using this
theorem ZmE {xs:List Nat}{n:Nat}(a:Dig W64 xs)(b:Trim xs)(c:val W64 xs=n):xs=wds n:=ZhH fS a (eJ n).1 b (ZeS n) (c.trans (eJ n).2.symm)
theorem Zkd (n:Nat):(wds n).length=wl n:=by rw[xQ (eJ n).1 (ZeS n),(eJ n).2]
theorem zJ.shows {w:World}{A:Option Addr}{l c n:Nat}(h:zJ w (.slice A l c) n):zH .u64 w A (wds n):=by
 obtain⟨g,i,j,e,k,a,b,d,f⟩:=h
 injection e with e1 e2 e3
 subst e1
 rw[←ZmE b d f];exact a
theorem zJ.lens {w:World}{A:Option Addr}{l c n:Nat}(h:zJ w (.slice A l c) n):l=(wds n).length∧(wds n).length≤c:=by
 obtain⟨g,i,j,e,a,k,b,d,f⟩:=h
 injection e with e1 e2 e3
 subst e3
 rw[←ZmE b d f];exact⟨e2,a⟩
theorem zH.lt {k:IntKind}{w:World}{A:Option Addr}{xs:List Nat}(h:zH k w A xs)(c:0<xs.length){a:Addr}(ha:A=some a):a.block<w.heap.size:=by
 obtain⟨b,o,e,d,_⟩:=h.at c
 rw[ha] at e;injection e with e;rw[e];exact d
/-! ### Clone -/
theorem Zpw (w:World)(a:Option Addr)(n c:Nat):(binOp .eql 77 (.slice a n c) (.slice none 0 0)).run Tryz.prog w=.ok (.bool a.isNone) w :=
 Lib.run_eql_slice_nil w 77 94 a n c 0 0 Tryz.underlying77
theorem Zlf (A:Option Addr)(xs:List Nat)(n c:Nat)(w:World)(p:xs.length=n)(q:zH .u64 w A xs)(C:n≤4294967296) :
 yA 107 #[.slice A n c] w (ZhK w xs):=by
 have r:=zh q
 have s:=zh p
 clear q p
 have t:=Zpw
 cases A with
 | none =>
  have x:Hid (xs=[]):=by
   rcases xs with _|⟨y,D⟩
   ·rfl
   obtain⟨b,z,h,_⟩:=r.out (by simp);cases h
  go_enter Tryz.func107,Tryz.ntmps107
  go_wp2
  go_ret
  rw[x.out]
  exact⟨none,0,rfl,Buf.nil,Fr.refl _ _,fun b d=>by obtain⟨a,ha,_⟩:=d;cases ha⟩
 | some ad =>
  go_enter Tryz.func107,Tryz.ntmps107
  go_wp2_with (
   at_builtin
   refine wZ rfl _ _ _ rfl _ .u64 8 Tryz.underlying77 eN (some ⟨w.heap.size,0,none⟩) (some ad) 0 n 0 c rfl rfl [] xs rfl s.out ?_ (r.out.alloc _) (by simp only[maxLen];omega) (by omega) ?_
   ·exact Or.inr ⟨_,rfl,Own.new w _ _ [] [],⟨#[],heap_alloc_new w _,rfl⟩,uK _,by simp only[maxLen];omega⟩
   intro B e E f g j
   have k:=zh f
   have l:=zh g
   have o:=zh j
   clear f g j)
  go_ret
  refine⟨B,e,?_,by simpa using k.out,?_,?_⟩
  ·rw[s.out];simp
  ·refine ((Fr.refl (fun _=>False) w).alloc _).next l.out fun i F d=>?_
   obtain⟨a,ha,d⟩:=d
   injection ha with ha
   subst ha
   simp at d;omega
  intro b d
  rcases o.out b d with ⟨a,ha,h⟩|h
  ·injection ha with ha;subst ha;simp at h;omega
  simp at h;omega
theorem ZfL (A:Option Addr)(xs:List Nat)(c:Nat)(w:World)(f:zH .u64 w A xs)(g:xs.length≤4294967296)(d:0<xs.length) :
 yA 107 #[.slice A xs.length c] w (fun i w'=>∃ b c,i=.returned (.slice (some ⟨b,0,none⟩) xs.length c)∧w.heap.size≤b∧xs.length≤c∧Ext w w'∧Own .u64 94 w' b xs):=by
 refine (Zlf A xs xs.length c w rfl f g).mono ?_
 rintro e w' ⟨p,a,rfl,j,Q,k⟩
 rcases j with ⟨_,h,_⟩|⟨b,rfl,l,_,o,_⟩
 ·rw[h] at d;simp at d
 exact⟨b,a,rfl,k b ⟨_,rfl,rfl⟩,o,Q,l⟩
/-! ### compare,of numbers -/
/-! ### the long division -/
def OvR (N V n L k:Nat) (zs qs:List Nat):Prop:=zs.length=n∧Dig W64 zs∧qs.length=L∧Dig W64 qs∧val W64 zs+V*(W64^k*val W64 (qs.drop k))=N∧val W64 zs<V*W64^k
theorem OvR.start {N V n L:Nat}{a:List Nat}(d:a.length=n)(e:Dig W64 a)(c:val W64 a=N)(b:N<V*W64^L):OvR N V n L L a (List.replicate L 0) :=
 ⟨d,e,by simp,Dig.replicate zN _,by rw[vA (by simp)];simpa using c,by rw[c];exact b⟩
theorem Zod {o n:Nat}{a:List Nat}(d:o+n+1≤a.length)(h:val W64 a<W64^(o+n+1)):val W64 a=val W64 (a.take o)+W64^o*win o n a∧val W64 (a.drop (o+n+1))=0:=by
 have b:=xR (B:=W64) (xs:=a) (o+n+1)
 rw[uX d] at b
 have c:val W64 (a.drop (o+n+1))=0:=by
  refine Nat.eq_zero_of_not_pos fun e=>?_
  have:=uI (W64^(o+n+1)) e
  omega
 rw[c,tL,vV,Zaa (by omega)] at b
 exact⟨b,c⟩
theorem OvR.ready {N V n L j m:Nat}{a b:List Nat}(h:OvR N V n L (j+1) a b)(c:V<W64^m)(k:j+m+1≤n):val W64 a=val W64 (a.take j)+W64^j*win j m a∧val W64 (a.drop (j+m+1))=0∧win j m a<W64*V:=by
 obtain⟨l,o,p,q,r,d⟩:=h
 have f:val W64 a<W64^(j+m+1):=by
  refine uU d ?_
  rw[show j+m+1=m+(j+1) by omega,uT W64 m]
  exact uE _ (rM c)
 obtain⟨g,i⟩:=Zod (by omega) f
 refine⟨g,i,?_⟩
 have:W64^j*win j m a<W64^j*(W64*V):=by
  have e:V*W64^(j+1)=W64^j*(W64*V):=by rw[uR,uG V,uF]
  omega
 exact tX this
theorem OvR.step {N V n L j m:Nat}{a c b:List Nat}(h:OvR N V n L (j+1) a c)(g:V<W64^m)(d:0<V)(i:j+m+1≤n)(k:j<L)(l:WinR j m a b)(o:win j m b=win j m a%V) :
 OvR N V n L j b (c.set j (win j m a/V)):=by
 obtain⟨I,p,q⟩:=h.ready g i
 obtain⟨r,s,t,x,y,J⟩:=h
 obtain⟨z,A,C,D⟩:=l
 have E:win j m a/V<W64:=by rw[vH d];exact q
 have e:=xR (B:=W64) (xs:=b) (j+m+1)
 rw[D,p,tL,vV,Zaa (by omega),C,o] at e
 have f:=vS (win j m a) V
 have K:W64^j*win j m a=V*(W64^j*(win j m a/V))+W64^j*(win j m a%V):=by
  conv=>lhs;rw[←f]
  rw[uL,vW]
 refine⟨z.trans r,A,by simpa using t,x.set j E,?_,?_⟩
 ·have F:(c.set j (win j m a/V))[j]?.getD 0=win j m a/V:=by rw[List.getElem?_set_self (by omega)];rfl
  rw[xS j (by simp;omega),F,vY (by omega),e]
  rw[uR] at y
  have M:V*(W64^j*(win j m a/V+W64*val W64 (c.drop (j+1))))=V*(W64^j*(win j m a/V))+V*(W64^j*W64*val W64 (c.drop (j+1))):=by
   rw[uL (W64^j),uL V,uF (W64^j)]
  omega
 rw[e]
 have G:=xV (s.take j)
 rw[vE,uX (by omega)] at G
 have H:=uI (W64^j) (uM (win j m a) d)
 rw[Nat.mul_succ] at H
 rw[uG V]
 omega
theorem OvR.done {N V n L:Nat}{b c:List Nat}(h:OvR N V n L 0 b c)(e:0<V):val W64 c=N/V∧val W64 b=N%V:=by
 obtain⟨f,g,i,j,d,a⟩:=h
 rw[vQ,tW] at a
 rw[vQ,sZ,tT] at d
 rw[←d]
 rw[Nat.add_mul_div_left _ _ e,vZ a,tZ,vC a]
 exact⟨by omega,rfl⟩
theorem Zqn {ys:List Nat}{k t:Nat}(d:Dig W64 ys)(e:ys.length=k+1)(f:Trim ys)(a:ys[k]?.getD 0=t):wl (val W64 ys*2^(64-blen t))=ys.length:=by
 have g:0<t:=sQ (by rw[←a];exact f k e)
 have i:=Zeu d e f a
 have b:t<2^64:=by have:=a ▸ d.getD zN k;rw[zO] at this;exact this
 have j:=wT.2 b
 have c:0<val W64 ys:=by have:=zR (B:=W64) k (show k<ys.length by omega);rw[uB (by omega),a] at this;have:=uI (W64^k) g;have:=uV (n:=k) zN;omega
 have l:blen (val W64 ys*2^(64-blen t))=64*(k+1):=by rw[ZaB c,i];omega
 have o:wl (val W64 ys*2^(64-blen t))≤k+1:=kP.2 (by rw[cG];exact wT.1 (by omega))
 have p:¬ wl (val W64 ys*2^(64-blen t))≤k:=fun h=>by
  have:=kP.1 h
  rw[cG] at this
  have:=wT.2 this
  omega
 omega
theorem ZqY {xs ys:List Nat}{s:Nat}(a:Dig W64 xs)(b:Trim ys)(g:0<ys.length)(h:ys.length≤xs.length):val W64 xs*2^s<val W64 ys*2^s*W64^(xs.length-ys.length+1):=by
 obtain⟨k,c⟩:∃ k,ys.length=k+1:=⟨ys.length-1,by omega⟩
 have d:=xV a
 have e:=Zc2 (B:=W64) b c
 have f:W64^xs.length≤val W64 ys*W64^(xs.length-ys.length+1):=by
  rw[show xs.length=k+(xs.length-ys.length+1) by omega,uT]
  rw[show k+(xs.length-ys.length+1)-ys.length+1=xs.length-ys.length+1 by omega]
  exact uE _ e
 rw[Nat.mul_right_comm]
 exact (rW (p2 s)).2 (uU d f)
theorem Zoe {ws:List Nat}{n:Nat}(b:Dig W64 ws)(c:ws.length≤n):let a:=ws.take n ++ (List.replicate n 0).drop ws.length;a.length=n∧Dig W64 a∧val W64 a=val W64 ws:=by
 intro a
 have e:a=ws ++ List.replicate (n-ws.length) 0:=by show ws.take n ++ (List.replicate n 0).drop ws.length=_;rw[uB c,List.drop_replicate]
 rw[e]
 exact⟨by simp;omega,b.append (Dig.replicate zN _),by rw[kN,kS];simp⟩
theorem Zqo {xs:List Nat}{s:Nat}(a:Dig W64 xs)(b:s≤64):wl (val W64 xs*2^s)≤xs.length+1:=kP.2 (by
 have c:=xV a
 rw[uR]
 have d:2^s≤W64:=by rw[zO];exact uY (n:=2) (by decide) b
 exact uU ((rW (p2 s)).2 c) (uI _ d))
theorem Zqp {x y s:Nat}:x*2^s%(y*2^s)/2^s=x%y:=by rw[sE,rS _ (p2 s)]
theorem Zqq {x y s:Nat}:x*2^s/(y*2^s)=x/y:=rC _ _ (p2 s)
theorem ZbC {b n c v:Nat}{xs:List Nat}{w:World}(a:Own .u64 94 w b xs)(f:Dig W64 xs)(g:xs.length=n)(h:val W64 xs=v)(i:n≤1099511627776)(d:n≤c):yA 106 #[.slice (some ⟨b,0,none⟩) n c] w (lC w v):=by
 subst g h
 refine (Zdp _ xs _ w a.shows0 i d).mono ?_
 rintro e w' ⟨rfl,Q⟩
 exact⟨_,rfl,(zJ.of_own a f d).ext Q,Q⟩
theorem Zpx {ys:List Nat}{y:Nat}(h:ys.length=1)(e:ys[0]?.getD 0=y):val W64 ys=y:=by
 obtain⟨z,rfl⟩:=qX.1 h
 simp at e
 simp[e]
theorem Blk.own1 {w:World}{b r:Nat}(h:Blk 94 w b #[.int .u64 ((r:Nat):Int)]):Own .u64 94 w b [r]:=⟨[],by simp,h⟩
/-! ### of numbers -/
section
variable {u v:Value} {m n:Nat} {w:World}
theorem jX (f:zJ w u m)(g:zJ w v n)(a:wl m≤4294967296)(b:wl n≤4294967296):yA 126 #[u,v] w (lC w (m+n)):=by
 obtain⟨A,h,c,rfl,s,i,d,j,rfl⟩:=f
 obtain⟨k,l,o,rfl,p,q,e,r,rfl⟩:=g
 rw[←xQ d j] at a
 rw[←xQ e r] at b
 exact Zmk A k h l c o w i q a b d e
theorem ZaM (g:zJ w u m)(h:zJ w v n)(d:wl m≤4294967296)(a:n≤m):yA 127 #[u,v] w (lC w (m-n)):=by
 obtain⟨A,i,c,rfl,t,j,e,k,rfl⟩:=g
 obtain⟨l,o,p,rfl,q,r,f,s,rfl⟩:=h
 have b:=wW a
 rw[←xQ e k] at d b
 rw[←xQ f s] at b
 exact Zk4 A l i o c p w j r d (by omega) e f b a
theorem Zcz (f:zJ w u m)(g:zJ w v n)(a:wl m≤4294967296)(b:wl n≤4294967296):yA 124 #[u,v] w (lC w (m*n)):=by
 obtain⟨A,h,c,rfl,s,i,d,j,rfl⟩:=f
 obtain⟨k,l,o,rfl,p,q,e,r,rfl⟩:=g
 rw[←xQ d j] at a
 rw[←xQ e r] at b
 exact Zk5 A k h l c o w i q a b d e
theorem gR (k:Nat)(b:zJ w u m)(d:wl m≤4294967296)(f:k≤274877906944):yA 66 #[u,.int .i64 ((k:Nat):Int)] w (lC w (m*2^k)):=by
 have a:=b
 obtain⟨A,g,c,rfl,j,h,e,i,rfl⟩:=b
 rw[←xQ e i] at d
 exact Zpg A g c k w a h d e f
theorem gN (k:Nat)(b:zJ w u m)(d:wl m≤4294967296)(f:k≤274877906944):yA 128 #[u,.int .i64 ((k:Nat):Int)] w (lC w (m/2^k)):=by
 have a:=b
 obtain⟨A,g,c,rfl,j,h,e,i,rfl⟩:=b
 rw[←xQ e i] at d
 exact Zml A g c k w a h d e f
theorem kL (e:zJ w u m)(a:wl m≤4294967296):yA 65 #[u] w (RetV w (.int .i64 ((blen m:Nat):Int))):=by
 obtain⟨A,f,c,rfl,h,g,b,d,rfl⟩:=e
 rw[←xQ b d] at a
 exact Zjy A f c w g a b d
theorem ZaN (d:Glob w)(e:zJ w u m)(a:wl m≤4294967296)(f:0<m):yA 157 #[u] w (RetV w (.int .i64 ((tzn m:Nat):Int))):=by
 obtain⟨A,g,c,rfl,j,h,b,i,rfl⟩:=e
 rw[←xQ b i] at a
 exact Zle A g c w h a b d f
theorem Zab (i:Nat)(a:zJ w u m)(hi:i≤274877906944):yA 158 #[u,.int .i64 ((i:Nat):Int)] w (RetV w (.bool (decide (m/2^i%2=1)))):=by
 obtain⟨A,b,c,rfl,f,d,e,g,rfl⟩:=a
 exact Zob A b c w d e i hi
theorem fX (e:zJ w u m)(f:zJ w v n)(a:wl m≤4294967296):yA 122 #[u,v] w (RetV w (.int .i64 (cmpI ((m:Nat):Int) ((n:Nat):Int)))):=by
 obtain⟨A,g,c,rfl,r,h,b,d,rfl⟩:=e
 obtain⟨i,j,k,rfl,l,o,p,q,rfl⟩:=f
 rw[←xQ b d] at a
 exact Zip A i g j c k w h o a b p d q
end
theorem ZmF (A f:Option Addr)(xs ys:List Nat)(c c2:Nat)(w:World)(hX:zH .u64 w A xs)(hY:zH .u64 w f ys)(hl:xs.length≤4294967295)(D0:ys.length≤4294967296)(hx:Dig W64 xs)(hy:Dig W64 ys)(hN:zJ w (.slice A xs.length c) (val W64 xs))(hM:zJ w (.slice f ys.length c2) (val W64 ys))(tx:Trim xs)(ty:Trim ys)(e0:0<val W64 ys) :
 yA 142 #[.slice A xs.length c,.slice f ys.length c2] w (Zav w (val W64 xs/val W64 ys) (val W64 xs%val W64 ys)):=by
 have hw:wl (val W64 xs)≤4294967296:=by rw[←xQ hx tx];omega
 have E0:wl (val W64 ys)≤4294967296:=by rw[←xQ hy ty];exact D0
 refine zX (Φ:=fun w=>(((zJ w (.slice A xs.length c) (val W64 xs)∧zH .u64 w A xs)∧zJ w (.slice f ys.length c2) (val W64 ys))∧zH .u64 w f ys)) Tryz.func142 rfl (by kernel_rfl) (fun w' hf=>⟨⟨⟨hN.ext hf,hX.ext hf⟩,hM.ext hf⟩,hY.ext hf⟩) ?_
 refine zC (zB (xq 2 [eS1 4 none 0 0,eS1 5 none 0 0] [] ?_))
 refine xe (zA (zC (zC (zB (xq 2 [eS1 13 A xs.length c,eS1 14 f ys.length c2] [] ?_)))))
 refine xqc 122 [.slice A xs.length c,.slice f ys.length c2] 15 (fun _:Unit=>.int .i64 (cmpI ((val W64 xs:Nat):Int) ((val W64 ys:Nat):Int))) _ (fun w R Q=>yN (fX Q.1.1.1 Q.1.2 hw)) fun xx=>?_
 refine xq 1 [(16,.v (.bool (decide ((cmpI ((val W64 xs:Nat):Int) ((val W64 ys:Nat):Int))<0))))] [] ?_
 refine xe (zA ?_)
 refine yQ ((decide ((cmpI ((val W64 xs:Nat):Int) ((val W64 ys:Nat):Int))<0))) (fun F=>?_) fun F=>?_
 ·have O:=fM.1 (uC F)
  refine zC (zB (xq 3 [eS1 4 none 0 0,eS1 5 A xs.length c] [] ?_))
  refine xe (zA (zF (zE ?_)))
  refine yR (.tuple #[.slice none 0 0,.slice A xs.length c]) fun w' R Q=>?_
  exact⟨_,_,rfl,by rw[vZ O];exact zJ.zero _,by rw[vC O];exact Q.1.1.1.1,R⟩
 have F0:val W64 ys≤val W64 xs:=Nat.le_of_not_lt (fun h'=>uD F (fM.2 h'))
 have M0:ys.length≤xs.length:=by have:=wW F0;rwa [←xQ hy ty,← xQ hx tx] at this
 have N0:0<ys.length:=sJ.2 (fun e=>by rw[e] at e0;simp at e0)
 refine zK (zA (zC (zC (zB (xq 3 [yB 20 ((((ys.length:Nat):Int):Int) == 1)] [] ?_)))))
 refine xe (zA ?_)
 refine yQ (((((ys.length:Nat):Int):Int) == 1)) (fun G=>?_) fun G=>?_
 ·have U:=tA.1 G
  refine zC (zB (xq 1 [eS1 21 A xs.length c] [] ?_))
  refine ZnR 107 [.slice A xs.length c] (d:=22) (k:=.u64) (e:=94) xs (fun w R Q=>ZfL A xs c w Q.1.1.1.2 (by omega) (by omega)) fun q cc f0 K0 _=>?_
  refine xr 1 [eS1 0 A xs.length c,eS1 1 f ys.length c2,eS1 4 none 0 0,eS1 5 none 0 0,eS1 6 (some ⟨q,0,none⟩) xs.length cc] [] ?_
  refine xe (zA (zC (zB (xq 2 [eS1 23 (some ⟨q,0,none⟩) xs.length cc,eS1 24 f ys.length c2] [] ?_))))
  refine xqk 25 (atA f 0) (fun w R Q=>xO (t:=77) (e:=94) (x:=.tmp 24) (ix:=(Operand.const (Value.int IntKind.i64 0))) (len:=ys.length) (cap:=c2) (i:=0) (((Q.1).self.1.2).ne (j:=0) (by omega)) (by omega)) ?_
  obtain⟨r,C⟩:=yE (ys[0]?.getD 0)
  refine xqk 26 (.int .u64 (r:Int)) (fun w R Q=>by rw[←C];exact xW (t:=94) (x:=.tmp 25) ((Q.1).self.1.2) (j:=0) (by omega)) ?_
  have g0:=Zpx (by omega) C
  refine Zcv (xs:=xs) (α:=List Nat) 108 [.slice (some ⟨q,0,none⟩) xs.length cc,.int .u64 (r:Int)] (d:=27) (fun x=>.int .u64 ((val W64 xs%r:Nat):Int)) (fun x=>x.length=xs.length∧Dig W64 x∧val W64 x=val W64 xs/r) (fun x=>x) q (fun x w=>(Box (fun j=>q≤j) w (fun w=>((((zJ w (.slice A xs.length c) (val W64 xs)∧zH .u64 w A (xs))∧zJ w (.slice f ys.length c2) (val W64 ys))∧zH .u64 w f (ys))∧True))∧Own .u64 94 w q (x))) (fun w Q=>Q.2) (by omega) (Or.inl f0) (fun w R Q=>ZbB q _ _ _ _ Q.2 (by omega) hx (by omega) (by rw[←C];exact hy.getD zN _)) (fun x w w' hp Q M V=>⟨((Q.1).fr (M.mono (fun _ _ e=>by rw[e];exact uK _))),V⟩) fun x H=>?_
  obtain⟨L0,rfl⟩:∃ y,y=x:=⟨_,rfl⟩
  refine xr 1 [eS1 0 A xs.length c,eS1 1 f ys.length c2,eS1 4 none 0 0,eS1 5 none 0 0,eS1 6 (some ⟨q,0,none⟩) xs.length cc,yU 7 ((val W64 xs%r:Nat):Int)] [] ?_
  refine xe (zA (zC (zB (xq 1 [eS1 28 (some ⟨q,0,none⟩) xs.length cc] [] ?_))))
  refine xqc 106 [.slice (some ⟨q,0,none⟩) xs.length cc] 29 xJ _ (fun w R Q=>yM xE (ZbC Q.2 H.2.1 H.1 H.2.2 (by omega) (by omega))) fun⟨W,X,Y⟩=>?_
  refine xq 1 [yU 30 ((val W64 xs%r:Nat):Int)] [] ?_
  refine yD (d:=31) (fun zb:Nat=>.slice (some ⟨zb,0,none⟩) 1 1) (fun zb zw=>Blk 94 zw zb #[.int .u64 ((val W64 xs%r:Nat):Int)]) (fun w R Q=>xZ (t:=77) (e:=94) (n:=1) (sz:=1) (z:=.int .u64 0) (parts:=#[(0,Operand.tmp 30)]) (by kernel_rfl) (by kernel_rfl) (by kernel_rfl) (by kernel_rfl) (by kernel_rfl) (by kernel_rfl)) fun h0=>?_
  refine xr 0 [eS1 0 A xs.length c,eS1 1 f ys.length c2,eS1 4 none 0 0,eS1 5 none 0 0,eS1 29 W X Y,eS1 31 (some ⟨h0,0,none⟩) 1 1] [] ?_
  refine xqc 106 [.slice (some ⟨h0,0,none⟩) 1 1] 32 xJ _ (fun w R Q=>yM xE (ZbC (Q.2).own1 (Dig.nil.cons (rV (uM _ (by omega)) (by rw[←C];exact hy.getD zN _))) (show [val W64 xs%r].length=1 from rfl) (show val W64 [val W64 xs%r]=val W64 xs%r by simp) (by omega) (by omega))) fun⟨i0,j0,k0⟩=>?_
  refine xq 2 [eS1 4 W X Y,eS1 5 i0 j0 k0] [] ?_
  refine xe (zA (zF (zE ?_)))
  refine yR (.tuple #[.slice W X Y,.slice i0 j0 k0]) fun w' R Q=>?_
  exact⟨_,_,rfl,by rw[g0];exact Q.1.1.2,by rw[g0];exact Q.2,R⟩
 have U:=lB G
 refine zK (zA (zC (zB (xq 4 [eS1 33 f ys.length c2,yJ 36 (IntKind.i64.wrap (((ys.length:Nat):Int)-1))] [] ?_))))
 rw[yW (((ys.length:Nat):Int)-1) (((ys.length-1:Nat):Int)) (by omega)]
 refine xqk 37 (atA f (ys.length-1)) (fun w R Q=>xO (t:=77) (e:=94) (x:=.tmp 33) (ix:=.tmp 36) (len:=ys.length) (cap:=c2) (i:=ys.length-1) ((Q.1.2).ne (j:=ys.length-1) (by omega)) (by omega)) ?_
 obtain⟨l0,I⟩:=yE (ys[ys.length-1]?.getD 0)
 refine xqk 38 (.int .u64 (l0:Int)) (fun w R Q=>by rw[←I];exact xW (t:=94) (x:=.tmp 37) (Q.1.2) (j:=ys.length-1) (by omega)) ?_
 obtain⟨t,rfl⟩:∃ t,t=l0:=⟨_,rfl⟩
 refine xqc 174 [.int .u64 (t:Int)] 39 (fun _:Unit=>.int .i64 ((64-blen t:Nat):Int)) _ (fun w R Q=>yN (Zld t _ (by rw[←I];exact hy.getD zN _))) fun xx=>?_
 refine xq 1 [yJ 8 ((64-blen t:Nat):Int)] [] ?_
 refine xe (zA (zC (zB (xq 2 [eS1 40 f ys.length c2,yJ 41 ((64-blen t:Nat):Int)] [] ?_))))
 refine xqc 66 [.slice f ys.length c2,.int .i64 ((64-blen t:Nat):Int)] 42 xJ _ (fun w R Q=>yM xE (gR (64-blen t) Q.1.1.1.2 E0 (by omega))) fun⟨g,m0,o⟩=>?_
 refine xq 1 [eS1 9 g m0 o] [] ?_
 refine xe (zA (zC ?_))
 refine SXc.know (p:=m0=(wds (val W64 ys*2^(64-blen t))).length∧(wds (val W64 ys*2^(64-blen t))).length≤o) (fun w _ Q=>(Q.2).lens) fun N=>?_
 obtain⟨dd,B⟩:∃ dd,dd=wds (val W64 ys*2^(64-blen t)):=⟨_,rfl⟩
 rw[←B] at N
 obtain⟨rfl,O0⟩:=N
 have Z:Dig W64 dd:=by rw[B];exact (eJ _).1
 have n0:Trim dd:=by rw[B];exact ZeS _
 have a0:val W64 dd=val W64 ys*2^(64-blen t):=by rw[B];exact (eJ _).2
 have b0:dd.length=ys.length:=by rw[B,Zkd];exact Zqn (k:=ys.length-1) hy (by omega) ty I
 have J:0<val W64 dd:=bV n0 zN (fun e=>by rw[e] at b0;simp at b0;omega)
 have o0:=xV Z
 refine zB (xq 3 [yJ 45 (IntKind.i64.wrap (((xs.length:Nat):Int)+1))] [] ?_)
 rw[yW (((xs.length:Nat):Int)+1) (((xs.length+1:Nat):Int)) (by omega)]
 refine Zby (d:=46) (t:=77) (e:=94) (k:=.u64) (kl:=.i64) (kc:=.i64) (l:=.tmp 45) (c:=.tmp 45) (xs.length+1) 8 (by omega) (by decide) fun b P p0=>?_
 have hA:∀ a,g=some a→a.block≠b:=fun a ha=>Nat.ne_of_lt (p0 a.block (fun w Q=>(Q.2).shows.lt (by rw[←B,b0];omega) ha))
 refine xr 1 [eS1 0 A xs.length c,eS1 1 f ys.length c2,eS1 4 none 0 0,eS1 5 none 0 0,yJ 8 ((64-blen t:Nat):Int),eS1 9 g dd.length o,eS1 10 (some ⟨b,0,none⟩) (xs.length+1) (xs.length+1)] [] ?_
 refine xe (zA (zC (zB (xq 3 [eS1 47 (some ⟨b,0,none⟩) (xs.length+1) (xs.length+1),eS1 48 A xs.length c,yJ 49 ((64-blen t:Nat):Int)] [] ?_))))
 refine xqc 66 [.slice A xs.length c,.int .i64 ((64-blen t:Nat):Int)] 50 xJ _ (fun w R Q=>yM xE (gR (64-blen t) (Q.1).self.1.1.1.1.1.1 hw (by omega))) fun⟨G0,q0,r0⟩=>?_
 refine SXi.know (p:=q0=(wds (val W64 xs*2^(64-blen t))).length∧(wds (val W64 xs*2^(64-blen t))).length≤r0) (fun w _ Q=>(Q.2).lens) fun N=>?_
 have S:=Zqo (s:=64-blen t) hx (by omega)
 rw[←Zkd] at S
 obtain⟨s0,t0,c0⟩:=Zoe (n:=xs.length+1) (eJ (val W64 xs*2^(64-blen t))).1 S
 rw[(eJ _).2] at c0
 obtain⟨zz,u0⟩:=yE ((wds (val W64 xs*2^(64-blen t))).take (xs.length+1) ++ (List.replicate (xs.length+1) 0).drop (wds (val W64 xs*2^(64-blen t))).length)
 rw[u0] at s0 t0 c0
 refine Zpe (d:=51) (dx:=Operand.tmp 47) (sx:=Operand.tmp 50) (dT:=77) (sT:=77) (e:=94) (k:=.u64) (sp:=G0) (mid:=List.replicate (xs.length+1) 0) (ys:=wds (val W64 xs*2^(64-blen t))) (n:=xs.length+1) (m:=q0) (dc:=xs.length+1) (sc:=r0) b (fun w=>((Box (fun j=>b≤j) w (fun w=>((((((zJ w (.slice A xs.length c) (val W64 xs)∧zH .u64 w A (xs))∧zJ w (.slice f ys.length c2) (val W64 ys))∧zH .u64 w f (ys))∧True)∧True)∧zJ w (.slice g dd.length o) (val W64 ys*2^(64-blen t))))∧Own .u64 94 w b (zz))∧True)) (by simp) N.1.symm (by simp) (fun w Q=>Q.1.2) (fun w Q=>(Q.2).shows) (Or.inl P) (fun w w' Q M V=>⟨⟨((Q.1.1).fr (M.mono (fun _ _ e=>by rw[e];exact uK _))),(by rw[←u0];rwa [rU] at V)⟩,trivial⟩) ?_
 refine xr 0 [eS1 0 A xs.length c,eS1 1 f ys.length c2,eS1 4 none 0 0,eS1 5 none 0 0,yJ 8 ((64-blen t:Nat):Int),eS1 9 g dd.length o,eS1 10 (some ⟨b,0,none⟩) (xs.length+1) (xs.length+1)] [] ?_
 refine xe (zA (zC (zB (xq 5 [yJ 56 (IntKind.i64.wrap (((xs.length:Nat):Int)-((ys.length:Nat):Int)))] [] ?_))))
 rw[yW (((xs.length:Nat):Int)-((ys.length:Nat):Int)) (((xs.length-(ys.length):Nat):Int)) (by omega)]
 refine xq 1 [(57,.v (.int .i64 (IntKind.i64.wrap (((xs.length-(ys.length):Nat):Int)+1))))] [] ?_
 rw[show IntKind.i64.wrap ((((xs.length-(ys.length):Nat):Int)+1))=((xs.length-(ys.length)+1:Nat):Int) by rw[IntKind.wrap_i64];omega]
 refine Zby (d:=58) (t:=77) (e:=94) (k:=.u64) (kl:=.i64) (kc:=.i64) (l:=.tmp 57) (c:=.tmp 57) (xs.length-(ys.length)+1) 8 (by omega) (by decide) fun r22 v0 w0=>?_
 have P0:b<r22:=w0 b (fun w Q=>(Q.1.2).lt)
 refine xr 1 [eS1 1 f ys.length c2,eS1 4 none 0 0,eS1 5 none 0 0,yJ 8 ((64-blen t:Nat):Int),eS1 9 g dd.length o,eS1 10 (some ⟨b,0,none⟩) (xs.length+1) (xs.length+1),eS1 11 (some ⟨r22,0,none⟩) (xs.length-(ys.length)+1) (xs.length-(ys.length)+1)] [] ?_
 refine xe (zA (zC (zC (zB (xq 3 [(61,.v (.int .i64 (IntKind.i64.wrap (((xs.length-(ys.length)+1:Nat):Int)-1))))] [] ?_)))))
 rw[yW (((xs.length-ys.length+1:Nat):Int)-1) (((xs.length-ys.length+1:Nat):Int)-1) (by omega)]
 refine xq 1 [yJ 12 (((xs.length-ys.length+1:Nat):Int)-1)] [] ?_
 refine xe (zA (xH ?_))
 refine SXc.weak [eS1 1 f ys.length c2,eS1 4 none 0 0,eS1 5 none 0 0,yJ 8 ((64-blen t:Nat):Int),eS1 9 g dd.length o,eS1 10 (some ⟨b,0,none⟩) (xs.length+1) (xs.length+1),eS1 11 (some ⟨r22,0,none⟩) (xs.length-(ys.length)+1) (xs.length-(ys.length)+1),yJ 12 ((((xs.length-ys.length+1):Nat):Int)-1)] [] (Ψ:=fun w=>((Box (fun j=>b≤j) w (fun w=>((((((zJ w (.slice A xs.length c) (val W64 xs)∧zH .u64 w A (xs))∧zJ w (.slice f ys.length c2) (val W64 ys))∧zH .u64 w f (ys))∧True)∧True)∧zJ w (.slice g dd.length o) (val W64 ys*2^(64-blen t))))∧Own .u64 94 w b (zz))∧Own .u64 94 w r22 ((List.replicate (xs.length-(ys.length)+1) 0)))) (xF.of (by kernel_rfl)) (by kernel_rfl) (fun w Q=>⟨⟨(Q.1).self.1.1,(Q.1).self.1.2⟩,Q.2⟩) ?_
 refine lW (fun nn ss ff=>∃ (k:Nat) (D qs:List Nat),ss=ofL [eS1 1 f ys.length c2,eS1 4 none 0 0,eS1 5 none 0 0,yJ 8 ((64-blen t:Nat):Int),eS1 9 g dd.length o,eS1 10 (some ⟨b,0,none⟩) (xs.length+1) (xs.length+1),eS1 11 (some ⟨r22,0,none⟩) (xs.length-(ys.length)+1) (xs.length-(ys.length)+1),yJ 12 ((k:Int)-1)] []∧ff=(fun w=>((Box (fun j=>b≤j) w (fun w=>((((((zJ w (.slice A xs.length c) (val W64 xs)∧zH .u64 w A (xs))∧zJ w (.slice f ys.length c2) (val W64 ys))∧zH .u64 w f (ys))∧True)∧True)∧zJ w (.slice g dd.length o) (val W64 ys*2^(64-blen t))))∧Own .u64 94 w b (D))∧Own .u64 94 w r22 (qs)))∧(OvR (val W64 xs*2^(64-blen t)) (val W64 dd) (xs.length+1) (xs.length-ys.length+1) k D qs)∧(k≤xs.length-ys.length+1)∧nn=(1+k)) ((1+(xs.length-ys.length+1))) ⟨(xs.length-ys.length+1),zz,(List.replicate (xs.length-(ys.length)+1) 0),rfl,rfl,(OvR.start s0 t0 c0 (by rw[a0];exact ZqY hx ty (by omega) (by omega))),uK _,rfl⟩ ?_
 rintro nn ss ff ⟨k,D,qs,rfl,rfl,E,hk,rfl⟩
 refine zC (zC (zB (xq 2 [(63,.v (.bool (decide (((k:Int)-1)≥0))))] [] ?_)))
 refine xe (zA ?_)
 refine yQ ((decide (((k:Int)-1)≥0))) (fun K=>?_) fun K=>?_
 ·have d0:=uC K
  obtain⟨j,rfl⟩:∃ j,k=j+1:=⟨k-1,by omega⟩
  rw[show ((((j+1):Nat):Int)-1)=(j:Int) by omega]
  refine zK (zA (zC (xH (zB (xq 8 [eS1 66 (some ⟨r22,0,none⟩) (xs.length-(ys.length)+1) (xs.length-(ys.length)+1),yJ 67 (j:Int),eS1 68 (some ⟨b,0,none⟩) (xs.length+1) (xs.length+1),yJ 69 (j:Int),yJ 73 (IntKind.i64.wrap ((j:Int)+((ys.length:Nat):Int)))] [] ?_)))))
  rw[yW ((j:Int)+((ys.length:Nat):Int)) (((j+(ys.length):Nat):Int)) (by omega)]
  refine xq 1 [(74,.v (.int .i64 (IntKind.i64.wrap (((j+(ys.length):Nat):Int)+1))))] [] ?_
  rw[show IntKind.i64.wrap ((((j+(ys.length):Nat):Int)+1))=((j+(ys.length)+1:Nat):Int) by rw[IntKind.wrap_i64];omega]
  refine xqk 75 (.slice (some ⟨b,j,none⟩) (dd.length+1) (xs.length+1-j)) (fun w R Q=>ZnT (t:=77) (e:=94) (x:=.tmp 68) (len:=(xs.length+1)) (cap:=(xs.length+1)) (l:=j) (h:=j+(ys.length)+1) (n:=dd.length+1) (m:=xs.length+1-j) (lo:=.tmp 69) (hi:=.tmp 74) (by omega) (by omega) (by omega) (by omega) (by omega)) ?_
  refine xq 1 [eS1 76 g dd.length o] [] ?_
  refine Zcv (xs:=D) (α:=List Nat) 175 [.slice (some ⟨b,j,none⟩) (dd.length+1) (xs.length+1-j),.slice g dd.length o] (d:=77) (fun x=>.int .u64 ((win j dd.length D/val W64 dd:Nat):Int)) (fun x=>WinR j dd.length D x∧win j dd.length x=win j dd.length D%val W64 dd) (fun x=>x) b (fun x w=>((Box (fun j=>b≤j) w (fun w=>((((((zJ w (.slice A xs.length c) (val W64 xs)∧zH .u64 w A (xs))∧zJ w (.slice f ys.length c2) (val W64 ys))∧zH .u64 w f (ys))∧True)∧True)∧zJ w (.slice g dd.length o) (val W64 ys*2^(64-blen t))))∧Own .u64 94 w b (x))∧Own .u64 94 w r22 (qs))) (fun w Q=>Q.1.2) (by have:=E.1;omega) (Or.inl P) (fun w R Q=>ZfK b _ j D dd _ _ _ Q.1.2 (by rw[B];exact ((Q.1.1).self.2).shows) hA (by rw[E.1];omega) (by rw[E.1];omega) E.2.1 Z (by omega) J (E.ready o0 (by omega)).2.2) (fun x w w' hp Q M V=>⟨⟨((Q.1.1).fr (M.mono (fun _ _ e=>by rw[e];exact uK _))),V⟩,((Q.2).fr M (show ¬ (r22=b) by omega))⟩) fun x T=>?_
  obtain⟨L,rfl⟩:∃ y,y=x:=⟨_,rfl⟩
  have HS:=E.step o0 J (by omega) (by omega) T.1 T.2
  have Q0:=E.2.2.1
  refine xr 0 [eS1 1 f ys.length c2,eS1 4 none 0 0,eS1 5 none 0 0,yJ 8 ((64-blen t:Nat):Int),eS1 9 g dd.length o,eS1 10 (some ⟨b,0,none⟩) (xs.length+1) (xs.length+1),eS1 11 (some ⟨r22,0,none⟩) (xs.length-(ys.length)+1) (xs.length-(ys.length)+1),yJ 12 (j:Int),eS1 66 (some ⟨r22,0,none⟩) (xs.length-(ys.length)+1) (xs.length-(ys.length)+1),yJ 67 (j:Int),yU 77 ((win j dd.length D/val W64 dd:Nat):Int)] [] ?_
  refine xqk 78 (.pointer (some ⟨r22,j,none⟩)) (fun w R Q=>lX (t:=77) (e:=94) (x:=.tmp 66) (ix:=.tmp 67) (len:=(xs.length-(ys.length)+1)) (cap:=(xs.length-(ys.length)+1)) (i:=j) (by omega)) ?_
  refine jN (t:=94) (x:=.tmp 78) (y:=.tmp 77) r22 (j) (win j dd.length D/val W64 dd) (fun w=>((Box (fun j=>b≤j) w (fun w=>((((((zJ w (.slice A xs.length c) (val W64 xs)∧zH .u64 w A (xs))∧zJ w (.slice f ys.length c2) (val W64 ys))∧zH .u64 w f (ys))∧True)∧True)∧zJ w (.slice g dd.length o) (val W64 ys*2^(64-blen t))))∧Own .u64 94 w b (L))∧Own .u64 94 w r22 ((qs).set (j) (win j dd.length D/val W64 dd)))) (fun w Q=>Q.2) (by omega) (Or.inl v0) (fun w w' Q M V=>⟨⟨((Q.1.1).fr (M.mono (fun _ _ e=>by rw[e];omega))),((Q.1.2).fr M (show ¬ (b=r22) by omega))⟩,V⟩) ?_
  refine xe (wX (zA (zB (xq 2 [yJ 65 (IntKind.i64.wrap ((j:Int)-1))] [] ?_))))
  rw[yW ((j:Int)-1) ((j:Int)-1) (by omega)]
  refine xq 1 [yJ 12 ((j:Int)-1)] [] ?_
  refine xe ?_
  refine SXq.weak [eS1 1 f ys.length c2,eS1 4 none 0 0,eS1 5 none 0 0,yJ 8 ((64-blen t:Nat):Int),eS1 9 g dd.length o,eS1 10 (some ⟨b,0,none⟩) (xs.length+1) (xs.length+1),eS1 11 (some ⟨r22,0,none⟩) (xs.length-(ys.length)+1) (xs.length-(ys.length)+1),yJ 12 ((j:Int)-1)] [] (Ψ:=fun w=>((Box (fun j=>b≤j) w (fun w=>((((((zJ w (.slice A xs.length c) (val W64 xs)∧zH .u64 w A (xs))∧zJ w (.slice f ys.length c2) (val W64 ys))∧zH .u64 w f (ys))∧True)∧True)∧zJ w (.slice g dd.length o) (val W64 ys*2^(64-blen t))))∧Own .u64 94 w b (L))∧Own .u64 94 w r22 (((qs).set (j) (win j dd.length D/val W64 dd))))) (xF.of (by kernel_rfl)) (by kernel_rfl) (fun w Q=>⟨⟨Q.1.1,Q.1.2⟩,Q.2⟩) ?_
  exact wG ((1+j)) (by omega) ⟨j,L,((qs).set (j) (win j dd.length D/val W64 dd)),rfl,rfl,HS,by omega,rfl⟩
 have d0:=uD K
 obtain rfl:k=0:=by omega
 refine lG (zW (zW (lV (zA (zC (zB (xq 1 [eS1 79 (some ⟨r22,0,none⟩) (xs.length-(ys.length)+1) (xs.length-(ys.length)+1)] [] ?_)))))))
 refine xqc 106 [.slice (some ⟨r22,0,none⟩) (xs.length-(ys.length)+1) (xs.length-(ys.length)+1)] 80 xJ _ (fun w R Q=>yM xE (ZbC Q.2 E.2.2.2.1 E.2.2.1 ((E.done J).1.trans (by rw[a0,Zqq])) (by omega) (by omega))) fun⟨x0,y0,z0⟩=>?_
 refine xq 1 [eS1 81 (some ⟨b,0,none⟩) (xs.length+1) (xs.length+1)] [] ?_
 refine xqc 106 [.slice (some ⟨b,0,none⟩) (xs.length+1) (xs.length+1)] 82 xJ _ (fun w R Q=>yM xE (ZbC Q.1.1.2 E.2.1 E.1 (E.done J).2 (by omega) (by omega))) fun⟨H0,I0,J0⟩=>?_
 refine xq 1 [yJ 83 ((64-blen t:Nat):Int)] [] ?_
 refine xqc 128 [.slice H0 I0 J0,.int .i64 ((64-blen t:Nat):Int)] 84 xJ _ (fun w R Q=>(gN (64-blen t) Q.2 (uA (wW (rM (uM _ J))) (by rw[←xQ Z n0];omega)) (by omega)).mono (fun _ _ h=>xE (by rw[show (val W64 xs*2^(64-blen t)%val W64 dd)/2^(64-blen t)=val W64 xs%val W64 ys by rw[a0,Zqp]] at h;exact h))) fun⟨A0,B0,C0⟩=>?_
 refine xq 2 [eS1 4 x0 y0 z0,eS1 5 A0 B0 C0] [] ?_
 refine xe (zA (zF ?_))
 refine yR (.tuple #[.slice x0 y0 z0,.slice A0 B0 C0]) fun w' R Q=>?_
 exact⟨_,_,rfl,Q.1.1.2,Q.2,R⟩
def shNb (r:FR) (x:ShN):Value:=.tuple #[yV r.s x.1 x.2.1 x.2.2 r.e,.int .i64 r.err]
def xY (w:World) (r:FR) (e:Ending) (w':World):Prop:=∃ x:ShN,e=.returned (shNb r x)∧zJ w' (xJ x) r.m∧Ext w w'
theorem xU {w w':World}{e:Ending}{r:FR}(h:xY w r e w'):kF (shNb r) (fun x w=>zJ w (xJ x) r.m) w e w':=by
 obtain⟨x,rfl,a,Q⟩:=h
 exact⟨x,rfl,Q,boxn Q (fun S b c d=>a.nrb c d)⟩
theorem Zlg (s:Bool)(e:Int):wV s 0 e=⟨false,0,0,0⟩:=rfl
theorem Zis {n:Nat}(s:Bool){e:Int}(a:0<n)(b:¬ e+tzn n < -1048576)(c:¬ e+tzn n>1048576):wV s n e=⟨s,oddM n,e+tzn n,0⟩:=by
 unfold wV
 rw[uN (by omega),uP ⟨by omega,by omega⟩]
theorem ZgW {n:Nat}(s:Bool){e:Int}(a:0<n)(h:e+tzn n < -1048576∨e+tzn n>1048576):wV s n e=⟨false,0,0,2⟩:=by
 unfold wV
 rw[uN (by omega),uN (by rintro⟨b,c⟩;omega)];rfl
theorem fY (n:Nat):blen n≤64*wl n:=by
 rw[wT,sS]
 have:=ZdU n
 rwa [zO] at this
theorem Zqr {n:Nat}(h:wl n≤4294967296):tzn n≤274877906944:=by
 rcases uH n with rfl|a
 ·rw[tzn,dif_pos (Or.inl rfl)];omega
 obtain⟨c,b⟩:=fO a
 have d:blen n=blen (oddM n)+tzn n:=by
  have:=ZaB (show 0<oddM n by omega) (tzn n)
  rwa [←b] at this
 have:=fY n
 omega
theorem ZfM {n:Nat}(h:wl n≤4294967296):blen n≤274877906944:=by have:=fY n;omega
theorem ZcA {s:Bool}{n bits:Nat}{e:Int}{m:Bool}(h:blen n≤bits):lI s n e bits m=wV s n e:=by unfold lI;rw[uP h]
theorem fI {s:Bool}{n bits j:Nat}{e:Int}{m:Bool}(h:blen n=bits+(j+1))(a:n/2^j%2=1)(b:tzn n<j∨n/2^(j+1)%2=1∨m=true)(c:0<n) :
 lI s n e bits m=wV s (n/2^(j+1)+1) (e+((j+1:Nat):Int)):=by
 unfold lI iA
 rw[uN (by omega),h,show bits+(j+1)-bits-1=j by omega,show bits+(j+1)-bits=j+1 by omega,uP ⟨a,by rw[←Zmt c];exact b⟩]
theorem dC {s:Bool}{n bits j:Nat}{e:Int}{m:Bool}(h:blen n=bits+(j+1))(a:0<n)(b:¬ (n/2^j%2=1∧(tzn n<j∨n/2^(j+1)%2=1∨m=true))) :
 lI s n e bits m=wV s (n/2^(j+1)) (e+((j+1:Nat):Int)):=by
 unfold lI iA
 rw[uN (by omega),h,show bits+(j+1)-bits-1=j by omega,show bits+(j+1)-bits=j+1 by omega,uN (by rw[←Zmt a];exact b)]
theorem Zqs:Trim [1]:=by
 intro k a
 have:k=0:=by simp at a;omega
 subst this
 simp
theorem wl_1:wl 1≤4294967296:=uA (bX.2 (by rw[zO];decide)) (by decide)
theorem fZ {w:World}{b:Nat}(h:Blk 94 w b #[.int .u64 1]):zJ w (.slice (some ⟨b,0,none⟩) 1 1) 1 :=
 ⟨_,[1],1,rfl,uK _,(Blk.own1 (r:=1) h).shows0,Dig.nil.cons (by rw[zO];decide),Zqs,rfl⟩
def ZcB (w:World) (Q:Nat) (v:Value):Prop:=Q<w.heap.size∧w.cell? ⟨Q,0,none⟩=some v
theorem ZcB.ext {w w':World}{Q:Nat}{v:Value}(h:ZcB w Q v)(a:Ext w w'):ZcB w' Q v:=⟨uU h.1 a.size,(a.cell (p:=⟨Q,0,none⟩) h.1 (fun f=>f)).trans h.2⟩
theorem ZmG (Q:Nat)(A:Option Addr)(l c:Nat)(w:World)(h:ZcB w Q (.slice A l c)):yA 143 #[.pointer (some ⟨Q,0,none⟩)] w (RetV w (.bool (decide (0<l)))):=by
 have a:=h.2
 go_enter Tryz.func143,Tryz.ntmps143
 go_wp2
 go_ret
 exact⟨vG Ending.returned (vG Value.bool (rP.2 (by omega))),Fr.refl _ _⟩
theorem ZmH (w:World):yA 125 #[] w (RetV w (.bool false)):=by
 go_enter Tryz.func125,Tryz.ntmps125
 go_wp2
 go_ret
 exact⟨rfl,Fr.refl _ _⟩
theorem kM (s:Bool)(A:Option Addr)(l c n:Nat)(e:Int)(w:World)(t:Glob w)(q:zJ w (.slice A l c) n)(o:wl n≤4294967296)(u : -1152921504606846976≤e)(x:e≤1152921504606846976) :
 yA 118 #[.bool s,.slice A l c,.int .i64 e] w (xY w (wV s n e)):=by
 refine zX (Φ:=fun w=>(Glob w∧zJ w (.slice A l c) (n))) Tryz.func118 rfl (by kernel_rfl) (fun w' r=>⟨t.ext r,q.ext r⟩) ?_
 refine zC ?_
 have y:=q.len0
 have z:=Zqr o
 have B:=@jA n
 refine zB (xq 2 [(6,.p 6 0),yJ 7 0] [yF 6 79 false none 0 0 0] ?_)
 refine xe (zA (zC (zC (zB (xq 3 [yB 11 (((l:Int):Int) == 0)] [] ?_)))))
 refine xe (zA ?_)
 refine yQ ((((l:Int):Int) == 0)) (fun b=>?_) fun b=>?_
 ·have f:=tA.1 b
  have m:n=0:=by omega
  refine zC (zB (xq 3 [yJ 7 0] [] ?_))
  refine xe (zA (zF (zE ?_)))
  refine yR (.tuple #[yV false none 0 0 0,.int .i64 0]) fun w' R Q=>?_
  rw[m,Zlg]
  exact⟨(none,0,0),rfl,zJ.zero _,R⟩
 have f:=lB b
 have m:0<n:=by omega
 refine zK (zA (zC (zB (xq 1 [eS1 13 A l c] [] ?_))))
 refine xqc 157 [.slice A l c] 14 (fun _:Unit=>.int .i64 ((tzn n:Nat):Int)) _ (fun w R Q=>yN (ZaN Q.1 Q.2 o m)) fun C=>?_
 refine xq 1 [yJ 8 ((tzn n:Nat):Int)] [] ?_
 refine xe (zA (zC (zB (xq 3 [yJ 17 (IntKind.i64.wrap (e+((tzn n:Nat):Int)))] [] ?_))))
 rw[yW (e+((tzn n:Nat):Int)) (e+((tzn n:Nat):Int)) (by omega)]
 refine xq 1 [yJ 2 (e+((tzn n:Nat):Int))] [] ?_
 refine xe (zA (zC (zC (zB (xq 3 [(20,.v (.bool (decide ((e+((tzn n:Nat):Int))<(-1048576)))))] [] ?_)))))
 rcases bl2 ((decide ((e+((tzn n:Nat):Int))<(-1048576)))) with a|a
 ·rw[a]
  have g:=uC a
  refine xq 3 [yB 23 true] [] ?_
  refine xe (zA (xa (zC (zB (xq 3 [yJ 7 2] [] ?_)))))
  refine xe (zA (zF (zE ?_)))
  refine yR (.tuple #[yV false none 0 0 0,.int .i64 2]) fun w' R Q=>?_
  rw[ZgW s m (by omega)]
  exact⟨(none,0,0),rfl,zJ.zero _,R⟩
 rw[a]
 have g:=uD a
 refine xq 3 [(23,.v (.bool (decide ((e+((tzn n:Nat):Int))>1048576))))] [] ?_
 refine xe (zA ?_)
 refine yQ ((decide ((e+((tzn n:Nat):Int))>1048576))) (fun d=>?_) fun d=>?_
 ·have h:=uC d
  refine zC (zB (xq 3 [yJ 7 2] [] ?_))
  refine xe (zA (zF (zE ?_)))
  refine yR (.tuple #[yV false none 0 0 0,.int .i64 2]) fun w' R Q=>?_
  rw[ZgW s m (by omega)]
  exact⟨(none,0,0),rfl,zJ.zero _,R⟩
 have h:=uD d
 refine zK (zA (zC (zB (xq 3 [yB 25 s,eS1 26 A l c,yJ 27 ((tzn n:Nat):Int)] [] ?_))))
 refine xqc 128 [.slice A l c,.int .i64 ((tzn n:Nat):Int)] 28 xJ _ (fun w R Q=>yM xE (gN (tzn n) Q.1.2 o (by omega))) fun⟨i,j,k⟩=>?_
 refine xq 4 [yJ 7 0] [yF 6 79 s i j k (e+((tzn n:Nat):Int))] ?_
 refine xe (zA (zF ?_))
 refine yR (.tuple #[yV s i j k (e+((tzn n:Nat):Int)),.int .i64 0]) fun w' R Q=>?_
 rw[Zis s m (by omega) (by omega)]
 exact⟨(i,j,k),rfl,Q.2,R⟩
theorem gH (s:Bool)(A:Option Addr)(l c n:Nat)(e:Int)(bits:Nat)(w:World)(hg:Glob w)(hN:zJ w (.slice A l c) n)(E:wl n≤4294967296)(y0 : -576460752303423488≤e)(z0:e≤576460752303423488)(hb:bits≤4294967296) :
 yA 123 #[.bool s,.slice A l c,.int .i64 e,.int .i64 ((bits:Nat):Int),.func (.func 125) #[] #[]] w (xY w (lI s n e bits false)):=by
 refine zX (Φ:=fun w=>(Glob w∧zJ w (.slice A l c) (n))) Tryz.func123 rfl (by kernel_rfl) (fun w' hf=>⟨hg.ext hf,hN.ext hf⟩) ?_
 refine zC ?_
 have A0:=ZfM E
 by_cases F:blen n≤bits
 ·obtain⟨k,hk⟩:∃ k,bits=blen n+k:=⟨bits-blen n,by omega⟩
  refine zB (xq 2 [(10,.p 10 0),yJ 11 0] [yF 10 79 false none 0 0 0] ?_)
  refine xe (zA (zC (zB (xq 1 [eS1 14 A l c] [] ?_))))
  refine xqc 65 [.slice A l c] 15 (fun _:Unit=>.int .i64 ((blen n:Nat):Int)) _ (fun w R Q=>yN (kL Q.2 E)) fun xx=>?_
  refine xq 2 [yJ 17 (IntKind.i64.wrap (((blen n:Nat):Int)-(bits:Int)))] [] ?_
  rw[show IntKind.i64.wrap (((blen n:Nat):Int)-(bits:Int)) = -(k:Int) by rw[IntKind.wrap_i64];omega]
  refine xq 1 [yJ 12 (-(k:Int))] [] ?_
  refine xe (zA (zC (zC (zB (xq 2 [(19,.v (.bool (decide ((-(k:Int))≤0))))] [] ?_)))))
  rw[show decide (-(k:Int)≤0)=true from uQ (by omega)]
  refine xe (zA (xa (zC (zB (xq 3 [yB 20 s,eS1 21 A l c,yJ 22 e] [] ?_)))))
  obtain⟨g,G⟩:=yE (wV s (n) (e))
  refine xqc 118 [.bool s,.slice A l c,.int .i64 e] 23 (shNb g) _ (fun w R Q=>yM xU ((show Calls _ _ _ _ (xY w g) by rw[←G];exact kM s _ _ _ _ _ _ Q.1.1 Q.1.2 E (by omega) (by omega)))) fun⟨L,M,N⟩=>?_
  refine xq 4 [yJ 11 g.err] [yF 10 79 g.s L M N g.e] ?_
  refine xe (zA (zF (zE ?_)))
  refine yR (.tuple #[yV g.s L M N g.e,.int .i64 g.err]) fun w' R Q=>?_
  rw[ZcA F,G]
  exact⟨(L,M,N),rfl,Q.2,R⟩
 obtain⟨j,hj⟩:∃ j,blen n=bits+(j+1):=⟨blen n-bits-1,by omega⟩
 have O:0<n:=sQ (fun e=>by rw[e,fG] at F;omega)
 have B:wl (n/2^(j+1))≤4294967296:=uA (wW (uO _ _)) E
 have P:wl (n/2^(j+1)+1)≤4294967296:=uA (wW (qH O (Nat.one_lt_two_pow (by omega)))) E
 obtain⟨b1,S⟩:=yE (decide (n/2^j%2=1))
 obtain⟨b2,T⟩:=yE (decide (n/2^(j+1)/2^0%2=1))
 obtain⟨b3,U⟩:=yE false
 refine zB (xq 2 [(10,.p 10 0),yJ 11 0] [yF 10 79 false none 0 0 0] ?_)
 refine xe (zA (zC (zB (xq 1 [eS1 14 A l c] [] ?_))))
 refine xqc 65 [.slice A l c] 15 (fun _:Unit=>.int .i64 ((blen n:Nat):Int)) _ (fun w R Q=>yN (kL Q.2 E)) fun xx=>?_
 refine xq 2 [yJ 17 (IntKind.i64.wrap (((blen n:Nat):Int)-(bits:Int)))] [] ?_
 rw[yW (((blen n:Nat):Int)-(bits:Int)) (((j+1:Nat):Int)) (by omega)]
 refine xq 1 [yJ 12 ((j+1:Nat):Int)] [] ?_
 refine xe (zA (zC (zC (zB (xq 2 [yB 19 (decide (((j+1:Nat):Int)≤0))] [] ?_)))))
 rw[show decide (((j+1:Nat):Int)≤0)=false from uJ (by omega)]
 refine xe (zA (xb (zK (zA (zC (zB (xq 2 [eS1 26 A l c,yJ 27 ((j+1:Nat):Int)] [] ?_)))))))
 refine xqc 128 [.slice A l c,.int .i64 ((j+1:Nat):Int)] 28 xJ _ (fun w R Q=>yM xE (gN (j+1) Q.1.2 E (by omega))) fun⟨a,b,f⟩=>?_
 refine xq 1 [eS1 13 a b f] [] ?_
 refine xe (zA (zC (zC (zB (xq 3 [eS1 29 A l c,yJ 31 (IntKind.i64.wrap (((j+1:Nat):Int)-1))] [] ?_)))))
 rw[yW (((j+1:Nat):Int)-1) ((j:Int)) (by omega)]
 refine xqc 158 [.slice A l c,.int .i64 (j:Int)] 32 (fun _:Unit=>.bool b1) _ (fun w R Q=>yN ((show Calls _ _ _ _ (RetV w (.bool b1)) by rw[←S];exact Zab (j) Q.1.1.2 (by omega)))) fun xx=>?_
 refine xq 1 [yB 33 b1] [] ?_
 rcases bl2 (b1) with i|i
 ·rw[i]
  have k1:=uC (S.trans i)
  refine xq 1 [eS1 34 A l c] [] ?_
  refine xqc 157 [.slice A l c] 35 (fun _:Unit=>.int .i64 ((tzn n:Nat):Int)) _ (fun w R Q=>yN (ZaN Q.1.1.1.1 Q.1.1.1.2 E O)) fun xx=>?_
  refine xq 2 [yJ 37 (IntKind.i64.wrap (((j+1:Nat):Int)-1))] [] ?_
  rw[yW (((j+1:Nat):Int)-1) ((j:Int)) (by omega)]
  refine xq 2 [yB 39 (decide (((tzn n:Nat):Int)<(j:Int)))] [] ?_
  rcases bl2 ((decide (((tzn n:Nat):Int)<(j:Int)))) with m|m
  ·rw[m]
   have V:=uC m
   have k4:tzn n<j:=by omega
   refine xr 8 [yB 0 s,yJ 2 e,(10,.p 10 0),yJ 11 0,yJ 12 ((j+1:Nat):Int),eS1 13 a b f,yB 47 true] [yF 10 79 false none 0 0 0] ?_
   refine xe (zA (xa (zB (xq 1 [eS1 48 a b f] [] ?_))))
   refine yD (d:=49) (fun C:Nat=>.slice (some ⟨C,0,none⟩) 1 1) (fun C zw=>Blk 94 zw C #[.int .u64 1]) (fun w R Q=>xZ (t:=77) (e:=94) (n:=1) (sz:=1) (z:=.int .u64 0) (parts:=#[(0,Operand.const (Value.int IntKind.u64 1))]) (by kernel_rfl) (by kernel_rfl) (by kernel_rfl) (by kernel_rfl) (by kernel_rfl) (by kernel_rfl)) fun v0=>?_
   refine xr 0 [yB 0 s,yJ 2 e,(10,.p 10 0),yJ 11 0,yJ 12 ((j+1:Nat):Int),eS1 13 a b f,eS1 48 a b f,eS1 49 (some ⟨v0,0,none⟩) 1 1] [yF 10 79 false none 0 0 0] ?_
   refine xqc 126 [.slice a b f,.slice (some ⟨v0,0,none⟩) 1 1] 50 xJ _ (fun w R Q=>yM xE (jX Q.1.1.1.2 (fZ Q.2) B wl_1)) fun⟨W,X,Y⟩=>?_
   refine xq 1 [eS1 13 W X Y] [] ?_
   refine xe (zA (zC (zB (xq 5 [yB 51 s,eS1 52 W X Y,yJ 55 (IntKind.i64.wrap (e+((j+1:Nat):Int)))] [] ?_))))
   rw[yW (e+((j+1:Nat):Int)) (e+((j+1:Nat):Int)) (by omega)]
   obtain⟨o,H⟩:=yE (wV s (n/2^(j+1)+1) ((e+((j+1:Nat):Int))))
   refine xqc 118 [.bool s,.slice W X Y,.int .i64 (e+((j+1:Nat):Int))] 56 (shNb o) _ (fun w R Q=>yM xU ((show Calls _ _ _ _ (xY w o) by rw[←H];exact kM s _ _ _ _ _ _ Q.1.1.1.1.1.1.1 Q.2 P (by omega) (by omega)))) fun⟨Z,a0,b0⟩=>?_
   refine xq 4 [yJ 11 o.err] [yF 10 79 o.s Z a0 b0 o.e] ?_
   refine xe (zA (zF ?_))
   refine yR (.tuple #[yV o.s Z a0 b0 o.e,.int .i64 o.err]) fun w' R Q=>?_
   rw[fI hj k1 (Or.inl k4) O,H]
   exact⟨(Z,a0,b0),rfl,Q.2,R⟩
  rw[m]
  have V:=uD m
  have k4:¬ tzn n<j:=by omega
  refine xr 1 [yB 0 s,yJ 2 e,(4,.v (.func (.func 125) #[] #[])),(10,.p 10 0),yJ 11 0,yJ 12 ((j+1:Nat):Int),eS1 13 a b f,yB 33 true,yB 39 false,eS1 40 a b f] [yF 10 79 false none 0 0 0] ?_
  refine xqc 158 [.slice a b f,.int .i64 0] 41 (fun _:Unit=>.bool b2) _ (fun w R Q=>yN ((show Calls _ _ _ _ (RetV w (.bool b2)) by rw[←T];exact Zab (0) Q.1.1.2 (by omega)))) fun xx=>?_
  refine xq 2 [yB 43 b2] [] ?_
  rcases bl2 (b2) with q|q
  ·rw[q]
   have k2:=uC (T.trans q)
   rw[vQ,sL] at k2
   refine xq 4 [yB 47 true] [] ?_
   refine xe (zA (xa (zB (xq 1 [eS1 48 a b f] [] ?_))))
   refine yD (d:=49) (fun C:Nat=>.slice (some ⟨C,0,none⟩) 1 1) (fun C zw=>Blk 94 zw C #[.int .u64 1]) (fun w R Q=>xZ (t:=77) (e:=94) (n:=1) (sz:=1) (z:=.int .u64 0) (parts:=#[(0,Operand.const (Value.int IntKind.u64 1))]) (by kernel_rfl) (by kernel_rfl) (by kernel_rfl) (by kernel_rfl) (by kernel_rfl) (by kernel_rfl)) fun w0=>?_
   refine xr 0 [yB 0 s,yJ 2 e,(10,.p 10 0),yJ 11 0,yJ 12 ((j+1:Nat):Int),eS1 13 a b f,eS1 48 a b f,eS1 49 (some ⟨w0,0,none⟩) 1 1] [yF 10 79 false none 0 0 0] ?_
   refine xqc 126 [.slice a b f,.slice (some ⟨w0,0,none⟩) 1 1] 50 xJ _ (fun w R Q=>yM xE (jX Q.1.1.1.1.2 (fZ Q.2) B wl_1)) fun⟨c0,d0,e0⟩=>?_
   refine xq 1 [eS1 13 c0 d0 e0] [] ?_
   refine xe (zA (zC (zB (xq 5 [yB 51 s,eS1 52 c0 d0 e0,yJ 55 (IntKind.i64.wrap (e+((j+1:Nat):Int)))] [] ?_))))
   rw[yW (e+((j+1:Nat):Int)) (e+((j+1:Nat):Int)) (by omega)]
   obtain⟨r,I⟩:=yE (wV s (n/2^(j+1)+1) ((e+((j+1:Nat):Int))))
   refine xqc 118 [.bool s,.slice c0 d0 e0,.int .i64 (e+((j+1:Nat):Int))] 56 (shNb r) _ (fun w R Q=>yM xU ((show Calls _ _ _ _ (xY w r) by rw[←I];exact kM s _ _ _ _ _ _ Q.1.1.1.1.1.1.1.1 Q.2 P (by omega) (by omega)))) fun⟨f0,g0,i0⟩=>?_
   refine xq 4 [yJ 11 r.err] [yF 10 79 r.s f0 g0 i0 r.e] ?_
   refine xe (zA (zF ?_))
   refine yR (.tuple #[yV r.s f0 g0 i0 r.e,.int .i64 r.err]) fun w' R Q=>?_
   rw[fI hj k1 (Or.inr (Or.inl k2)) O,I]
   exact⟨(f0,g0,i0),rfl,Q.2,R⟩
  rw[q]
  have k2:=uD (T.trans q)
  rw[vQ,sL] at k2
  refine xq 1 [(44,.v (.func (.func 125) #[] #[]))] [] ?_
  refine xqc 125 [] 45 (fun _:Unit=>.bool b3) _ (fun w R Q=>yN ((show Calls _ _ _ _ (RetV w (.bool b3)) by rw[←U];exact ZmH _))) fun xx=>?_
  refine xq 2 [yB 47 b3] [] ?_
  refine xe (zA ?_)
  refine yQ (b3) (fun D=>?_) fun D=>?_
  ·have k3:=U.trans D
   refine zB (xq 1 [eS1 48 a b f] [] ?_)
   refine yD (d:=49) (fun C:Nat=>.slice (some ⟨C,0,none⟩) 1 1) (fun C zw=>Blk 94 zw C #[.int .u64 1]) (fun w R Q=>xZ (t:=77) (e:=94) (n:=1) (sz:=1) (z:=.int .u64 0) (parts:=#[(0,Operand.const (Value.int IntKind.u64 1))]) (by kernel_rfl) (by kernel_rfl) (by kernel_rfl) (by kernel_rfl) (by kernel_rfl) (by kernel_rfl)) fun x0=>?_
   refine xr 0 [yB 0 s,yJ 2 e,(10,.p 10 0),yJ 11 0,yJ 12 ((j+1:Nat):Int),eS1 13 a b f,eS1 48 a b f,eS1 49 (some ⟨x0,0,none⟩) 1 1] [yF 10 79 false none 0 0 0] ?_
   refine xqc 126 [.slice a b f,.slice (some ⟨x0,0,none⟩) 1 1] 50 xJ _ (fun w R Q=>yM xE (jX Q.1.1.1.1.1.2 (fZ Q.2) B wl_1)) fun⟨j0,k0,l0⟩=>?_
   refine xq 1 [eS1 13 j0 k0 l0] [] ?_
   refine xe (zA (zC (zB (xq 5 [yB 51 s,eS1 52 j0 k0 l0,yJ 55 (IntKind.i64.wrap (e+((j+1:Nat):Int)))] [] ?_))))
   rw[yW (e+((j+1:Nat):Int)) (e+((j+1:Nat):Int)) (by omega)]
   obtain⟨u,J⟩:=yE (wV s (n/2^(j+1)+1) ((e+((j+1:Nat):Int))))
   refine xqc 118 [.bool s,.slice j0 k0 l0,.int .i64 (e+((j+1:Nat):Int))] 56 (shNb u) _ (fun w R Q=>yM xU ((show Calls _ _ _ _ (xY w u) by rw[←J];exact kM s _ _ _ _ _ _ Q.1.1.1.1.1.1.1.1.1 Q.2 P (by omega) (by omega)))) fun⟨m0,n0,o0⟩=>?_
   refine xq 4 [yJ 11 u.err] [yF 10 79 u.s m0 n0 o0 u.e] ?_
   refine xe (zA (zF ?_))
   refine yR (.tuple #[yV u.s m0 n0 o0 u.e,.int .i64 u.err]) fun w' R Q=>?_
   rw[fI hj k1 (Or.inr (Or.inr k3)) O,J]
   exact⟨(m0,n0,o0),rfl,Q.2,R⟩
  have k3:=U.trans D
  refine zK (zA (zC (zB (xq 5 [yB 51 s,eS1 52 a b f,yJ 55 (IntKind.i64.wrap (e+((j+1:Nat):Int)))] [] ?_))))
  rw[yW (e+((j+1:Nat):Int)) (e+((j+1:Nat):Int)) (by omega)]
  obtain⟨x,hr25⟩:=yE (wV s (n/2^(j+1)) ((e+((j+1:Nat):Int))))
  refine xqc 118 [.bool s,.slice a b f,.int .i64 (e+((j+1:Nat):Int))] 56 (shNb x) _ (fun w R Q=>yM xU ((show Calls _ _ _ _ (xY w x) by rw[←hr25];exact kM s _ _ _ _ _ _ Q.1.1.1.1.1.1.1 Q.1.1.1.1.2 B (by omega) (by omega)))) fun⟨p0,q0,r0⟩=>?_
  refine xq 4 [yJ 11 x.err] [yF 10 79 x.s p0 q0 r0 x.e] ?_
  refine xe (zA (zF ?_))
  refine yR (.tuple #[yV x.s p0 q0 r0 x.e,.int .i64 x.err]) fun w' R Q=>?_
  rw[dC hj O (fun h=>by rcases h.2 with h|h|h;exact k4 h;exact k2 h;rw[k3] at h;cases h),hr25]
  exact⟨(p0,q0,r0),rfl,Q.2,R⟩
 rw[i]
 have k1:=uD (S.trans i)
 refine xq 14 [yB 47 false] [] ?_
 refine xe (zA (xb (zK (zA (zC (zB (xq 5 [yB 51 s,eS1 52 a b f,yJ 55 (IntKind.i64.wrap (e+((j+1:Nat):Int)))] [] ?_)))))))
 rw[yW (e+((j+1:Nat):Int)) (e+((j+1:Nat):Int)) (by omega)]
 obtain⟨y,K⟩:=yE (wV s (n/2^(j+1)) ((e+((j+1:Nat):Int))))
 refine xqc 118 [.bool s,.slice a b f,.int .i64 (e+((j+1:Nat):Int))] 56 (shNb y) _ (fun w R Q=>yM xU ((show Calls _ _ _ _ (xY w y) by rw[←K];exact kM s _ _ _ _ _ _ Q.1.1.1.1 Q.1.2 B (by omega) (by omega)))) fun⟨s0,t0,u0⟩=>?_
 refine xq 4 [yJ 11 y.err] [yF 10 79 y.s s0 t0 u0 y.e] ?_
 refine xe (zA (zF ?_))
 refine yR (.tuple #[yV y.s s0 t0 u0 y.e,.int .i64 y.err]) fun w' R Q=>?_
 rw[dC hj O (fun h=>k1 h.1),K]
 exact⟨(s0,t0,u0),rfl,Q.2,R⟩
theorem Zlh (s:Bool)(A:Option Addr)(l c n:Nat)(e:Int)(bits:Nat)(Q:Nat)(A2:Option Addr)(l2 c2:Nat)(w:World)(hg:Glob w)(hN:zJ w (.slice A l c) n)(E:wl n≤4294967296)(z0 : -576460752303423488≤e)(A0:e≤576460752303423488)(hb:bits≤4294967296)(hQ:ZcB w Q (.slice A2 l2 c2)) :
 yA 123 #[.bool s,.slice A l c,.int .i64 e,.int .i64 ((bits:Nat):Int),.func (.func 143) #[] #[.pointer (some ⟨Q,0,none⟩)]] w (xY w (lI s n e bits (decide (0<l2)))):=by
 refine zX (Φ:=fun w=>((Glob w∧zJ w (.slice A l c) (n))∧ZcB w Q (.slice A2 l2 c2))) Tryz.func123 rfl (by kernel_rfl) (fun w' hf=>⟨⟨hg.ext hf,hN.ext hf⟩,hQ.ext hf⟩) ?_
 refine zC ?_
 have B0:=ZfM E
 by_cases F:blen n≤bits
 ·obtain⟨k,hk⟩:∃ k,bits=blen n+k:=⟨bits-blen n,by omega⟩
  refine zB (xq 2 [(10,.p 10 0),yJ 11 0] [yF 10 79 false none 0 0 0] ?_)
  refine xe (zA (zC (zB (xq 1 [eS1 14 A l c] [] ?_))))
  refine xqc 65 [.slice A l c] 15 (fun _:Unit=>.int .i64 ((blen n:Nat):Int)) _ (fun w S R=>(kL R.1.2 E).mono (fun _ _ h=>zG h rfl)) fun xx=>?_
  refine xq 2 [yJ 17 (IntKind.i64.wrap (((blen n:Nat):Int)-(bits:Int)))] [] ?_
  rw[show IntKind.i64.wrap (((blen n:Nat):Int)-(bits:Int)) = -(k:Int) by rw[IntKind.wrap_i64];omega]
  refine xq 1 [yJ 12 (-(k:Int))] [] ?_
  refine xe (zA (zC (zC (zB (xq 2 [(19,.v (.bool (decide ((-(k:Int))≤0))))] [] ?_)))))
  rw[show decide (-(k:Int)≤0)=true from uQ (by omega)]
  refine xe (zA (xa (zC (zB (xq 3 [yB 20 s,eS1 21 A l c,yJ 22 e] [] ?_)))))
  obtain⟨g,G⟩:=yE (wV s (n) (e))
  refine xqc 118 [.bool s,.slice A l c,.int .i64 e] 23 (shNb g) _ (fun w S R=>((show Calls _ _ _ _ (xY w g) by rw[←G];exact kM s _ _ _ _ _ _ R.1.1.1 R.1.1.2 E (by omega) (by omega))).mono (fun _ _=>xU)) fun⟨L,M,N⟩=>?_
  refine xq 4 [yJ 11 g.err] [yF 10 79 g.s L M N g.e] ?_
  refine xe (zA (zF (zE ?_)))
  refine yR (.tuple #[yV g.s L M N g.e,.int .i64 g.err]) fun w' S R=>?_
  rw[ZcA F,G]
  exact⟨(L,M,N),rfl,R.2,S⟩
 obtain⟨j,hj⟩:∃ j,blen n=bits+(j+1):=⟨blen n-bits-1,by omega⟩
 have O:0<n:=sQ (fun e=>by rw[e,fG] at F;omega)
 have B:wl (n/2^(j+1))≤4294967296:=uA (wW (uO _ _)) E
 have P:wl (n/2^(j+1)+1)≤4294967296:=uA (wW (qH O (Nat.one_lt_two_pow (by omega)))) E
 obtain⟨b1,T⟩:=yE (decide (n/2^j%2=1))
 obtain⟨b2,U⟩:=yE (decide (n/2^(j+1)/2^0%2=1))
 obtain⟨b3,V⟩:=yE (decide (0<l2))
 refine zB (xq 2 [(10,.p 10 0),yJ 11 0] [yF 10 79 false none 0 0 0] ?_)
 refine xe (zA (zC (zB (xq 1 [eS1 14 A l c] [] ?_))))
 refine xqc 65 [.slice A l c] 15 (fun _:Unit=>.int .i64 ((blen n:Nat):Int)) _ (fun w S R=>(kL R.1.2 E).mono (fun _ _ h=>zG h rfl)) fun xx=>?_
 refine xq 2 [yJ 17 (IntKind.i64.wrap (((blen n:Nat):Int)-(bits:Int)))] [] ?_
 rw[yW (((blen n:Nat):Int)-(bits:Int)) (((j+1:Nat):Int)) (by omega)]
 refine xq 1 [yJ 12 ((j+1:Nat):Int)] [] ?_
 refine xe (zA (zC (zC (zB (xq 2 [yB 19 (decide (((j+1:Nat):Int)≤0))] [] ?_)))))
 rw[show decide (((j+1:Nat):Int)≤0)=false from uJ (by omega)]
 refine xe (zA (xb (zK (zA (zC (zB (xq 2 [eS1 26 A l c,yJ 27 ((j+1:Nat):Int)] [] ?_)))))))
 refine xqc 128 [.slice A l c,.int .i64 ((j+1:Nat):Int)] 28 xJ _ (fun w S R=>(gN (j+1) R.1.1.2 E (by omega)).mono (fun _ _=>xE)) fun⟨a,b,f⟩=>?_
 refine xq 1 [eS1 13 a b f] [] ?_
 refine xe (zA (zC (zC (zB (xq 3 [eS1 29 A l c,yJ 31 (IntKind.i64.wrap (((j+1:Nat):Int)-1))] [] ?_)))))
 rw[yW (((j+1:Nat):Int)-1) ((j:Int)) (by omega)]
 refine xqc 158 [.slice A l c,.int .i64 (j:Int)] 32 (fun _:Unit=>.bool b1) _ (fun w S R=>((show Calls _ _ _ _ (RetV w (.bool b1)) by rw[←T];exact Zab (j) R.1.1.1.2 (by omega))).mono (fun _ _ h=>zG h rfl)) fun xx=>?_
 refine xq 1 [yB 33 b1] [] ?_
 rcases bl2 (b1) with i|i
 ·rw[i]
  have k1:=uC (T.trans i)
  refine xq 1 [eS1 34 A l c] [] ?_
  refine xqc 157 [.slice A l c] 35 (fun _:Unit=>.int .i64 ((tzn n:Nat):Int)) _ (fun w S R=>(ZaN R.1.1.1.1.1 R.1.1.1.1.2 E O).mono (fun _ _ h=>zG h rfl)) fun xx=>?_
  refine xq 2 [yJ 37 (IntKind.i64.wrap (((j+1:Nat):Int)-1))] [] ?_
  rw[yW (((j+1:Nat):Int)-1) ((j:Int)) (by omega)]
  refine xq 2 [yB 39 (decide (((tzn n:Nat):Int)<(j:Int)))] [] ?_
  rcases bl2 ((decide (((tzn n:Nat):Int)<(j:Int)))) with m|m
  ·rw[m]
   have W:=uC m
   have k4:tzn n<j:=by omega
   refine xr 8 [yB 0 s,yJ 2 e,(10,.p 10 0),yJ 11 0,yJ 12 ((j+1:Nat):Int),eS1 13 a b f,yB 47 true] [yF 10 79 false none 0 0 0] ?_
   refine xe (zA (xa (zB (xq 1 [eS1 48 a b f] [] ?_))))
   refine yD (d:=49) (fun C:Nat=>.slice (some ⟨C,0,none⟩) 1 1) (fun C zw=>Blk 94 zw C #[.int .u64 1]) (fun w S R=>xZ (t:=77) (e:=94) (n:=1) (sz:=1) (z:=.int .u64 0) (parts:=#[(0,Operand.const (Value.int IntKind.u64 1))]) (by kernel_rfl) (by kernel_rfl) (by kernel_rfl) (by kernel_rfl) (by kernel_rfl) (by kernel_rfl)) fun w0=>?_
   refine xr 0 [yB 0 s,yJ 2 e,(10,.p 10 0),yJ 11 0,yJ 12 ((j+1:Nat):Int),eS1 13 a b f,eS1 48 a b f,eS1 49 (some ⟨w0,0,none⟩) 1 1] [yF 10 79 false none 0 0 0] ?_
   refine xqc 126 [.slice a b f,.slice (some ⟨w0,0,none⟩) 1 1] 50 xJ _ (fun w S R=>(jX R.1.1.1.2 (fZ R.2) B wl_1).mono (fun _ _=>xE)) fun⟨X,Y,Z⟩=>?_
   refine xq 1 [eS1 13 X Y Z] [] ?_
   refine xe (zA (zC (zB (xq 5 [yB 51 s,eS1 52 X Y Z,yJ 55 (IntKind.i64.wrap (e+((j+1:Nat):Int)))] [] ?_))))
   rw[yW (e+((j+1:Nat):Int)) (e+((j+1:Nat):Int)) (by omega)]
   obtain⟨o,H⟩:=yE (wV s (n/2^(j+1)+1) ((e+((j+1:Nat):Int))))
   refine xqc 118 [.bool s,.slice X Y Z,.int .i64 (e+((j+1:Nat):Int))] 56 (shNb o) _ (fun w S R=>((show Calls _ _ _ _ (xY w o) by rw[←H];exact kM s _ _ _ _ _ _ R.1.1.1.1.1.1.1.1 R.2 P (by omega) (by omega))).mono (fun _ _=>xU)) fun⟨a0,b0,c0⟩=>?_
   refine xq 4 [yJ 11 o.err] [yF 10 79 o.s a0 b0 c0 o.e] ?_
   refine xe (zA (zF ?_))
   refine yR (.tuple #[yV o.s a0 b0 c0 o.e,.int .i64 o.err]) fun w' S R=>?_
   rw[fI hj k1 (Or.inl k4) O,H]
   exact⟨(a0,b0,c0),rfl,R.2,S⟩
  rw[m]
  have W:=uD m
  have k4:¬ tzn n<j:=by omega
  refine xr 1 [yB 0 s,yJ 2 e,(4,.v (.func (.func 143) #[] #[.pointer (some ⟨Q,0,none⟩)])),(10,.p 10 0),yJ 11 0,yJ 12 ((j+1:Nat):Int),eS1 13 a b f,yB 33 true,yB 39 false,eS1 40 a b f] [yF 10 79 false none 0 0 0] ?_
  refine xqc 158 [.slice a b f,.int .i64 0] 41 (fun _:Unit=>.bool b2) _ (fun w S R=>((show Calls _ _ _ _ (RetV w (.bool b2)) by rw[←U];exact Zab (0) R.1.1.2 (by omega))).mono (fun _ _ h=>zG h rfl)) fun xx=>?_
  refine xq 2 [yB 43 b2] [] ?_
  rcases bl2 (b2) with q|q
  ·rw[q]
   have k2:=uC (U.trans q)
   rw[vQ,sL] at k2
   refine xq 4 [yB 47 true] [] ?_
   refine xe (zA (xa (zB (xq 1 [eS1 48 a b f] [] ?_))))
   refine yD (d:=49) (fun C:Nat=>.slice (some ⟨C,0,none⟩) 1 1) (fun C zw=>Blk 94 zw C #[.int .u64 1]) (fun w S R=>xZ (t:=77) (e:=94) (n:=1) (sz:=1) (z:=.int .u64 0) (parts:=#[(0,Operand.const (Value.int IntKind.u64 1))]) (by kernel_rfl) (by kernel_rfl) (by kernel_rfl) (by kernel_rfl) (by kernel_rfl) (by kernel_rfl)) fun x0=>?_
   refine xr 0 [yB 0 s,yJ 2 e,(10,.p 10 0),yJ 11 0,yJ 12 ((j+1:Nat):Int),eS1 13 a b f,eS1 48 a b f,eS1 49 (some ⟨x0,0,none⟩) 1 1] [yF 10 79 false none 0 0 0] ?_
   refine xqc 126 [.slice a b f,.slice (some ⟨x0,0,none⟩) 1 1] 50 xJ _ (fun w S R=>(jX R.1.1.1.1.2 (fZ R.2) B wl_1).mono (fun _ _=>xE)) fun⟨d0,e0,f0⟩=>?_
   refine xq 1 [eS1 13 d0 e0 f0] [] ?_
   refine xe (zA (zC (zB (xq 5 [yB 51 s,eS1 52 d0 e0 f0,yJ 55 (IntKind.i64.wrap (e+((j+1:Nat):Int)))] [] ?_))))
   rw[yW (e+((j+1:Nat):Int)) (e+((j+1:Nat):Int)) (by omega)]
   obtain⟨r,I⟩:=yE (wV s (n/2^(j+1)+1) ((e+((j+1:Nat):Int))))
   refine xqc 118 [.bool s,.slice d0 e0 f0,.int .i64 (e+((j+1:Nat):Int))] 56 (shNb r) _ (fun w S R=>((show Calls _ _ _ _ (xY w r) by rw[←I];exact kM s _ _ _ _ _ _ R.1.1.1.1.1.1.1.1.1 R.2 P (by omega) (by omega))).mono (fun _ _=>xU)) fun⟨g0,i0,j0⟩=>?_
   refine xq 4 [yJ 11 r.err] [yF 10 79 r.s g0 i0 j0 r.e] ?_
   refine xe (zA (zF ?_))
   refine yR (.tuple #[yV r.s g0 i0 j0 r.e,.int .i64 r.err]) fun w' S R=>?_
   rw[fI hj k1 (Or.inr (Or.inl k2)) O,I]
   exact⟨(g0,i0,j0),rfl,R.2,S⟩
  rw[q]
  have k2:=uD (U.trans q)
  rw[vQ,sL] at k2
  refine xq 1 [(44,.v (.func (.func 143) #[] #[.pointer (some ⟨Q,0,none⟩)]))] [] ?_
  refine xqc 143 [.pointer (some ⟨Q,0,none⟩)] 45 (fun _:Unit=>.bool b3) _ (fun w S R=>((show Calls _ _ _ _ (RetV w (.bool b3)) by rw[←V];exact ZmG Q A2 l2 c2 _ R.1.1.1.1.1.2)).mono (fun _ _ h=>zG h rfl)) fun xx=>?_
  refine xq 2 [yB 47 b3] [] ?_
  refine xe (zA ?_)
  refine yQ (b3) (fun D=>?_) fun D=>?_
  ·have k3:=V.trans D
   refine zB (xq 1 [eS1 48 a b f] [] ?_)
   refine yD (d:=49) (fun C:Nat=>.slice (some ⟨C,0,none⟩) 1 1) (fun C zw=>Blk 94 zw C #[.int .u64 1]) (fun w S R=>xZ (t:=77) (e:=94) (n:=1) (sz:=1) (z:=.int .u64 0) (parts:=#[(0,Operand.const (Value.int IntKind.u64 1))]) (by kernel_rfl) (by kernel_rfl) (by kernel_rfl) (by kernel_rfl) (by kernel_rfl) (by kernel_rfl)) fun y0=>?_
   refine xr 0 [yB 0 s,yJ 2 e,(10,.p 10 0),yJ 11 0,yJ 12 ((j+1:Nat):Int),eS1 13 a b f,eS1 48 a b f,eS1 49 (some ⟨y0,0,none⟩) 1 1] [yF 10 79 false none 0 0 0] ?_
   refine xqc 126 [.slice a b f,.slice (some ⟨y0,0,none⟩) 1 1] 50 xJ _ (fun w S R=>(jX R.1.1.1.1.1.2 (fZ R.2) B wl_1).mono (fun _ _=>xE)) fun⟨k0,l0,m0⟩=>?_
   refine xq 1 [eS1 13 k0 l0 m0] [] ?_
   refine xe (zA (zC (zB (xq 5 [yB 51 s,eS1 52 k0 l0 m0,yJ 55 (IntKind.i64.wrap (e+((j+1:Nat):Int)))] [] ?_))))
   rw[yW (e+((j+1:Nat):Int)) (e+((j+1:Nat):Int)) (by omega)]
   obtain⟨u,J⟩:=yE (wV s (n/2^(j+1)+1) ((e+((j+1:Nat):Int))))
   refine xqc 118 [.bool s,.slice k0 l0 m0,.int .i64 (e+((j+1:Nat):Int))] 56 (shNb u) _ (fun w S R=>((show Calls _ _ _ _ (xY w u) by rw[←J];exact kM s _ _ _ _ _ _ R.1.1.1.1.1.1.1.1.1.1 R.2 P (by omega) (by omega))).mono (fun _ _=>xU)) fun⟨n0,o0,p0⟩=>?_
   refine xq 4 [yJ 11 u.err] [yF 10 79 u.s n0 o0 p0 u.e] ?_
   refine xe (zA (zF ?_))
   refine yR (.tuple #[yV u.s n0 o0 p0 u.e,.int .i64 u.err]) fun w' S R=>?_
   rw[fI hj k1 (Or.inr (Or.inr k3)) O,J]
   exact⟨(n0,o0,p0),rfl,R.2,S⟩
  have k3:=V.trans D
  refine zK (zA (zC (zB (xq 5 [yB 51 s,eS1 52 a b f,yJ 55 (IntKind.i64.wrap (e+((j+1:Nat):Int)))] [] ?_))))
  rw[yW (e+((j+1:Nat):Int)) (e+((j+1:Nat):Int)) (by omega)]
  obtain⟨x,hr25⟩:=yE (wV s (n/2^(j+1)) ((e+((j+1:Nat):Int))))
  refine xqc 118 [.bool s,.slice a b f,.int .i64 (e+((j+1:Nat):Int))] 56 (shNb x) _ (fun w S R=>((show Calls _ _ _ _ (xY w x) by rw[←hr25];exact kM s _ _ _ _ _ _ R.1.1.1.1.1.1.1.1 R.1.1.1.1.2 B (by omega) (by omega))).mono (fun _ _=>xU)) fun⟨q0,r0,s0⟩=>?_
  refine xq 4 [yJ 11 x.err] [yF 10 79 x.s q0 r0 s0 x.e] ?_
  refine xe (zA (zF ?_))
  refine yR (.tuple #[yV x.s q0 r0 s0 x.e,.int .i64 x.err]) fun w' S R=>?_
  rw[dC hj O (fun h=>by rcases h.2 with h|h|h;exact k4 h;exact k2 h;rw[k3] at h;cases h),hr25]
  exact⟨(q0,r0,s0),rfl,R.2,S⟩
 rw[i]
 have k1:=uD (T.trans i)
 refine xq 14 [yB 47 false] [] ?_
 refine xe (zA (xb (zK (zA (zC (zB (xq 5 [yB 51 s,eS1 52 a b f,yJ 55 (IntKind.i64.wrap (e+((j+1:Nat):Int)))] [] ?_)))))))
 rw[yW (e+((j+1:Nat):Int)) (e+((j+1:Nat):Int)) (by omega)]
 obtain⟨y,K⟩:=yE (wV s (n/2^(j+1)) ((e+((j+1:Nat):Int))))
 refine xqc 118 [.bool s,.slice a b f,.int .i64 (e+((j+1:Nat):Int))] 56 (shNb y) _ (fun w S R=>((show Calls _ _ _ _ (xY w y) by rw[←K];exact kM s _ _ _ _ _ _ R.1.1.1.1.1 R.1.2 B (by omega) (by omega))).mono (fun _ _=>xU)) fun⟨t0,u0,v0⟩=>?_
 refine xq 4 [yJ 11 y.err] [yF 10 79 y.s t0 u0 v0 y.e] ?_
 refine xe (zA (zF ?_))
 refine yR (.tuple #[yV y.s t0 u0 v0 y.e,.int .i64 y.err]) fun w' S R=>?_
 rw[dC hj O (fun h=>k1 h.1),K]
 exact⟨(t0,u0,v0),rfl,R.2,S⟩
theorem ZgX {u v:Value}{m n:Nat}{w:World}(d:zJ w u m)(e:zJ w v n)(f:wl m≤4294967295)(g:wl n≤4294967296)(l:0<n):yA 142 #[u,v] w (Zav w (m/n) (m%n)):=by
 have a:=d
 have b:=e
 obtain⟨A,o,c,rfl,y,p,h,i,rfl⟩:=d
 obtain⟨q,r,s,rfl,t,x,j,k,rfl⟩:=e
 rw[←xQ h i] at f
 rw[←xQ j k] at g
 exact ZmF A q o r c s w p x f g h j a b i k l
theorem Zof {s:Bool}{A:Option Addr}{l c:Nat}{e:Int}:ZjY #[.bool s,.slice A l c,.int .i64 e]:=by
 intro i k;rcases i with _|_|_|i<;>simp
theorem Blk.cell3n {t:TypeId}{w:World}{g:Nat}{x y z:Value}(h:Blk t w g #[x,y,z]):w.cell? ⟨g,0,none⟩=some x∧w.cell? ⟨g,1,none⟩=some y∧w.cell? ⟨g,2,none⟩=some z∧w.frozen? ⟨g,0,none⟩=false∧w.frozen? ⟨g,1,none⟩=false∧w.frozen? ⟨g,2,none⟩=false :=
 ⟨h.cell 0,h.cell 1,h.cell 2,h.frozen 0,h.frozen 1,h.frozen 2⟩
theorem Zqt {fn:Func}{t t2:Tmp}{a:Array Value}{w g b:World}{r:Nat}{x:FR}{A u:Option Addr}{l c y c0:Nat}{z:Bool}{B:Int}(d:fn.results=#[.cell t 79,.tmp t2])(C:a[t]? = some (.pointer (some ⟨r,0,none⟩)))(h:a[t2]? = some (.int .i64 x.err))(j:w.heap.size≤r)(D:Ext w g)(E:Blk 79 g r #[.bool z,.slice u y c0,.int .i64 B])(q:Ext g b)(F:zJ b (.slice A l c) x.m) :
 bodyPost Tryz.prog fn (xY w x) .ret ⟨a,[]⟩ (((b.setCell ⟨r,0,none⟩ (.bool x.s)).setCell ⟨r,1,none⟩ (.slice A l c)).setCell ⟨r,2,none⟩ (.int .i64 x.e)):=by
 have f:=E.ext q
 have k:Blk 79 (((b.setCell ⟨r,0,none⟩ (.bool x.s)).setCell ⟨r,1,none⟩ (.slice A l c)).setCell ⟨r,2,none⟩ (.int .i64 x.e)) r #[.bool x.s,.slice A l c,.int .i64 x.e]:=((f.set_ 0 _).set_ 1 _).set_ 2 _
 obtain⟨G,H,I,_⟩:=k.cell3n
 have J:Fr (fun i=>i=r) b (((b.setCell ⟨r,0,none⟩ (.bool x.s)).setCell ⟨r,1,none⟩ (.slice A l c)).setCell ⟨r,2,none⟩ (.int .i64 x.e)):=(((show Fr (fun i=>i=r) b b from Fr.refl _ _).setCell (p:=⟨r,0,none⟩) (Or.inl rfl) _).setCell (p:=⟨r,1,none⟩) (Or.inl rfl) _).setCell (p:=⟨r,2,none⟩) (Or.inl rfl) _
 have n:=F.other f Zof J
 have o:Ext w (((b.setCell ⟨r,0,none⟩ (.bool x.s)).setCell ⟨r,1,none⟩ (.slice A l c)).setCell ⟨r,2,none⟩ (.int .i64 x.e)):=(((D.trans q).setCell (p:=⟨r,0,none⟩) (Or.inr j) _).setCell (p:=⟨r,1,none⟩) (Or.inr j) _).setCell (p:=⟨r,2,none⟩) (Or.inr j) _
 generalize ((b.setCell ⟨r,0,none⟩ (.bool x.s)).setCell ⟨r,1,none⟩ (.slice A l c)).setCell ⟨r,2,none⟩ (.int .i64 x.e)=W at *
 exact bodyPost_ret (v:=shNb x (A,l,c)) (by simp[results,d,C,h,go_sem,G,H,I,shNb]) rfl ⟨(A,l,c),rfl,n,o⟩
theorem ZfN {a b:Nat}(h:a<64*b):wl (2^a)≤b:=kP.2 (by rw[show W64=2^64 by rw[zO],← sS];exact qO (by decide) h)
theorem Zdw (s:Bool)(A:Option Addr)(l c n:Nat)(B:Option Addr)(m d k:Nat)(e:Int)(bits:Nat)(w:World)(hg:Glob w)(hN:zJ w (.slice A l c) n)(hK:zJ w (.slice B m d) k)(h0:wl n≤1000000)(i0:wl k≤1000000)(D:0<k)(j0 : -288230376151711744≤e)(k0:e≤288230376151711744)(P:0<bits)(hb:bits≤1000000) :
 yA 99 #[.bool s,.slice A l c,.slice B m d,.int .i64 e,.int .i64 ((bits:Nat):Int)] w (xY w (xK s n k e bits)):=by
 have l0:=fY n
 have m0:=fY k
 obtain⟨a1,E⟩:∃ a,a=(rk0 n k bits-1).toNat:=⟨_,rfl⟩
 obtain⟨a2,j⟩:∃ a,a=(-(rk0 n k bits-1)).toNat:=⟨_,rfl⟩
 obtain⟨b,Q⟩:∃ x:Int,x=(bits:Int)+1+(blen k:Nat)-(blen n:Nat):=⟨_,rfl⟩
 have f:rk0 n k bits-1 = -b:=by unfold rk0;omega
 rw[f] at E j
 rw[Int.neg_neg] at j
 have n0 : -100000000≤b:=by omega
 have o0:b≤100000000:=by omega
 have F:fa n (rk0 n k bits-1)=n*2^a2:=by unfold fa;rw[f,Int.neg_neg,← j]
 have G:fb k (rk0 n k bits-1)=k*2^a1:=by unfold fb;rw[f,← E]
 have p0:wl (n*2^a2)≤4000000:=by
  refine uA (ZbU _ _) ?_
  have:wl (2^a2)≤2000001:=ZfN (by omega)
  omega
 have q0:wl (k*2^a1)≤4000000:=by
  refine uA (ZbU _ _) ?_
  have:wl (2^a1)≤2000001:=ZfN (by omega)
  omega
 have r0:(if (0:Int)>b then (0:Int) else b)=(a2:Int):=by split<;>omega
 have s0:(if (0:Int) > -b then (0:Int) else -b)=(a1:Int):=by split<;>omega
 have HG:=zh hg
 have HN:=zh hN
 have HK:=zh hK
 clear hg hN hK
 obtain⟨x,R⟩:=yE (xK s n k e bits)
 rw[R]
 have HX:=zh R
 clear R
 go_enter Tryz.func99,Tryz.ntmps99
 go_wp2_with fail
 refine (kL (HK.out.ext ((Fr.refl _ _).alloc _)) (by omega)).mono ?_
 rintro H w1 ⟨rfl,o⟩
 have I:Hid (Ext w w1):=((Fr.refl _ _).alloc _).trans o
 have S:Hid (Blk 79 w1 w.heap.size #[.bool false,.slice none 0 0,.int .i64 0]):=(show Blk 79 (w.alloc (.cells #[.bool false,.slice none 0 0,.int .i64 0] 79)) w.heap.size #[.bool false,.slice none 0 0,.int .i64 0] from heap_alloc_new w _).ext o
 clear o
 go_wp2_with fail
 refine (kL (HN.out.ext I.out) (by omega)).mono ?_
 rintro H w2 ⟨rfl,p⟩
 have J:=zh (I.out.trans p)
 have T:=zh (S.out.ext p)
 clear p
 go_wp2_with fail
 rw[show max ((bits:Int)+1+(blen k:Nat)-(blen n:Nat)) 0=(a2:Int) by omega]
 refine (gR a2 (HN.out.ext J.out) (by omega) (by omega)).mono ?_
 rintro H w3 ⟨v3,rfl,q,r⟩
 obtain⟨A3,l3,c3,rfl⟩:=q.slice
 have K:=zh (J.out.trans r)
 have U:=zh (T.out.ext r)
 have V:=zh q
 clear q r
 go_wp2_with fail
 rw[show max (-((bits:Int)+1+(blen k:Nat)-(blen n:Nat))) 0=(a1:Int) by omega]
 refine (gR a1 (HK.out.ext K.out) (by omega) (by omega)).mono ?_
 rintro H w4 ⟨v4,rfl,t,g⟩
 obtain⟨A4,l4,c4,rfl⟩:=t.slice
 have W:=zh (K.out.trans g)
 have X:=zh (U.out.ext g)
 have L:=zh (V.out.ext g)
 have Y:=zh t
 clear t g
 go_wp2_with fail
 refine (ZgX L.out Y.out (by omega) (by omega) (sG D (p2 a1))).mono ?_
 rintro H Z ⟨v5,v6,rfl,u,v,y⟩
 obtain⟨A5,l5,c5,rfl⟩:=u.slice
 obtain⟨A6,O,c6,rfl⟩:=v.slice
 have M:=zh (W.out.trans y)
 have a0:=zh (X.out.ext y)
 have b0:=zh u
 have c0:=zh v
 clear u v y
 go_wp2_with fail
 have i:ZcB (Z.alloc (.cells #[.slice A6 O c6] 77)) Z.heap.size (.slice A6 O c6):=⟨by simp,by rw[Lib.cell_of_heap (heap_alloc_new Z _)];rfl⟩
 have d0:wl (n*2^a2/(k*2^a1))≤4294967296:=uA (wW (uO _ _)) (by omega)
 refine (Zlh s A5 l5 c5 _ _ bits _ A6 O c6 _ (HG.out.ext (M.out.alloc _)) (b0.out.ext ((Fr.refl _ _).alloc _)) d0 (by omega) (by omega) (by omega) i).mono ?_
 rintro H w6 ⟨⟨A7,l7,c7⟩,rfl,z,C⟩
 have hr:lI s (n*2^a2/(k*2^a1)) (e-((bits:Int)+1+(blen k:Nat)-(blen n:Nat))) bits (decide (0<O))=x:=by
  rw[←HX.out,← Q]
  rcases uH n with rfl|hn
  ·rw[sI,Nat.zero_div,Zet,jO]
  have h:=Zjx s (n:=n) (d:=k) e (bits:=bits) hn D P
  have hq:fq n k (rk0 n k bits-1)=n*2^a2/(k*2^a1):=by unfold fq;rw[F,G]
  rw[hq,F,G,f] at h
  rw[←h,show e + -b=e-b by omega]
  congr 1
  have e0:=c0.out.len0
  exact rP.2 (by rw[e0];have:=@jA (n*2^a2%(k*2^a1));omega)
 rw[hr] at z
 rw[hr]
 clear hr
 have f0:=zh z
 have g0:Hid (Ext w w6):=(M.out.alloc _).trans C
 have N:=zh ((a0.out.ext ((Fr.refl _ _).alloc _)).ext C)
 obtain⟨z0,z1,z2,z3,z4,z5⟩:=N.out.cell3n
 clear z C i
 simp only[shNb]
 go_wp2
 exact Zqt rfl rfl rfl (uK _) g0.out N.out (Fr.refl _ _) f0.out
theorem Zb9 {a b:Int}:(if b<a then b else a)=min a b:=by omega
def ZbD (s:Bool) (m n:Nat) (e:Int) (bits:Nat):FR:=if n=0 then ⟨false,0,0,5⟩ else xK s m n e bits
def sumR (sx:Bool) (xm:Nat) (xe:Int) (sy:Bool) (ym:Nat) (ye:Int) (bits:Nat):FR :=
 if xm=0 then xK sy ym 1 ye bits else if ym=0 then xK sx xm 1 xe bits else addR sx xm xe sy ym ye bits
theorem ZbE {n a:Nat}(c:wl n≤1000000)(ha:a≤100000000):wl (n*2^a)≤4000000:=by
 have:=ZbU n (2^a)
 have:wl (2^a)≤2000001:=ZfN (by omega)
 omega
section
variable {s t:Bool} {a b bits:Nat} {low:Int}
theorem ZgY (ha:0<a)(h:s=t):xK (decide (sg s a+sg t b<0)) (sg s a+sg t b).natAbs 1 low bits=xK s (a+b) 1 low bits:=by
 subst h
 have c:decide (sg s a+sg s b<0)=s:=by cases s<;>simp[sg]<;>omega
 have d:(sg s a+sg s b).natAbs=a+b:=by cases s<;>simp[sg]<;>omega
 rw[c,d]
theorem ZfO (h:¬ s=t)(f:b≤a):xK (decide (sg s a+sg t b<0)) (sg s a+sg t b).natAbs 1 low bits=xK s (a-b) 1 low bits:=by
 have c:(sg s a+sg t b).natAbs=a-b:=by cases s<;>cases t<;>simp[sg] at h ⊢<;>omega
 rw[c]
 by_cases e:a-b=0
 ·rw[e,jO,jO]
 have d:decide (sg s a+sg t b<0)=s:=by cases s<;>cases t<;>simp[sg] at h ⊢<;>omega
 rw[d]
theorem Zew (h:¬ s=t)(e:a<b):xK (decide (sg s a+sg t b<0)) (sg s a+sg t b).natAbs 1 low bits=xK t (b-a) 1 low bits:=by
 have c:(sg s a+sg t b).natAbs=b-a:=by cases s<;>cases t<;>simp[sg] at h ⊢<;>omega
 rw[c]
 have d:decide (sg s a+sg t b<0)=t:=by cases s<;>cases t<;>simp[sg] at h ⊢<;>omega
 rw[d]
end
theorem Zit {sx:Bool}{c:Nat}{xe:Int}{d:Bool}{ym:Nat}{e:Int}{bits u1 u2:Nat}{low:Int}(f:min xe e=low)(g:xe-low=u1)(h:e-low=u2) :
 addR sx c xe d ym e bits=xK (decide (sg sx (c*2^u1)+sg d (ym*2^u2)<0)) (sg sx (c*2^u1)+sg d (ym*2^u2)).natAbs 1 low bits:=by
 unfold addR
 rw[f,g,h]
 rfl
theorem ZaZ {a b:Nat}:cmpI a b≥0↔b≤a:=by
 have:=@fM a b
 omega
theorem ZbF (s:Bool)(A:Option Addr)(l c x:Nat)(e:Int)(w:World)(f:zJ w (.slice A l c) x)(d:wl x≤4294967296)(g : -1152921504606846976≤e)(h:e≤1152921504606846976) :
 yA 121 #[yV s A l c e] w (RetV w (.int .i64 (((blen x:Nat):Int)+e))):=by
 refine zX (Φ:=fun w=>zJ w (.slice A l c) (x)) Tryz.func121 rfl (by kernel_rfl) (fun w' i=>f.ext i) ?_
 refine zC ?_
 have j:=ZfM d
 refine zB (xq 2 [(1,.p 1 0),yJ 2 0] [yF 1 79 s A l c e] ?_)
 refine xe (zA (zC ?_))
 refine yO 7 zM ?_
 refine xqg 2 [eS1 4 A l c] ?_
 refine xqd 65 [.slice A l c] 5 (fun _:Unit=>.int .i64 ((blen x:Nat):Int)) _ (fun w R Q=>yN (kL Q d)) fun k=>?_
 refine xqg 3 [yJ 8 (IntKind.i64.wrap (((blen x:Nat):Int)+e))] ?_
 rw[yW (((blen x:Nat):Int)+e) (((blen x:Nat):Int)+e) (by omega)]
 refine xqg 1 [yJ 2 (((blen x:Nat):Int)+e)] ?_
 refine xz (xe (zA (zF ?_)))
 refine yR (.int .i64 (((blen x:Nat):Int)+e)) fun w' R Q=>?_
 exact⟨rfl,R⟩
theorem ZmI (s:Bool)(A:Option Addr)(l c x:Nat)(e:Int)(t:Bool)(B:Option Addr)(m d y:Nat)(f:Int)(bits:Nat)(C:0<bits)(W:bits≤4096)(w:World)(J:Glob w)(H:zJ w (.slice A l c) x)(K:wl x≤100000)(L : -1073741824≤e)(M:e≤1073741824)(I:zJ w (.slice B m d) y)(N:wl y≤100000)(O : -1073741824≤f)(P:f≤1073741824) :
 yA 82 #[yV s A l c e, yV t B m d f,.int .i64 ((bits:Nat):Int)] w (xY w (xK (s != t) (x*y) 1 (e+f) bits)):=by
 refine zX (Φ:=fun w=>((Glob w∧zJ w (.slice A l c) (x))∧zJ w (.slice B m d) (y))) Tryz.func82 rfl (by kernel_rfl) (fun w' D=>⟨⟨J.ext D,H.ext D⟩,I.ext D⟩) ?_
 refine zC ?_
 have S:=H.len0
 have T:=I.len0
 have U:=@jA x
 have V:=@jA y
 refine zB (xq 4 [(3,.p 3 0),(4,.p 4 0),(6,.p 6 0),yJ 7 0] [yF 6 79 false none 0 0 0,yF 4 79 t B m d f,yF 3 79 s A l c e] ?_)
 refine xe (zA (zC (zC (zB (xq 5 [yB 12 (((l:Int):Int) == 0)] [] ?_)))))
 rcases bl2 ((((l:Int):Int) == 0)) with h|h
 ·rw[h]
  have q:=tA.1 h
  have u:x=0:=by omega
  refine xq 5 [yB 17 true] [] ?_
  refine xe (zA (xa (zC (zB (xq 3 [yJ 7 0] [] ?_)))))
  refine xe (zA (zF (zE ?_)))
  refine yR (.tuple #[yV false none 0 0 0,.int .i64 0]) fun w' R Q=>?_
  rw[u,sI,jO]
  exact⟨(none,0,0),rfl,zJ.zero _,R⟩
 rw[h]
 have q:=lB h
 have u:¬ x=0:=by omega
 refine xq 5 [yB 17 (((m:Int):Int) == 0)] [] ?_
 refine xe (zA ?_)
 refine yQ ((((m:Int):Int) == 0)) (fun i=>?_) fun i=>?_
 ·have r:=tA.1 i
  have z:y=0:=by omega
  refine zC (zB (xq 3 [yJ 7 0] [] ?_))
  refine xe (zA (zF (zE ?_)))
  refine yR (.tuple #[yV false none 0 0 0,.int .i64 0]) fun w' R Q=>?_
  rw[z,tL,jO]
  exact⟨(none,0,0),rfl,zJ.zero _,R⟩
 have r:=lB i
 have z:¬ y=0:=by omega
 refine zK (zA (zC ?_))
 refine yO 19 zM ?_
 refine xqg 9 [yB 23 (s != t),eS1 25 A l c,eS1 27 B m d] ?_
 refine xqd 124 [.slice A l c,.slice B m d] 28 xJ _ (fun w R Q=>yM xE (Zcz Q.1.2 Q.2 (by omega) (by omega))) fun⟨E,F,G⟩=>?_
 refine xqg 5 [yJ 33 (IntKind.i64.wrap (e+f))] ?_
 rw[yW (e+f) (e+f) (by omega)]
 refine xqg 1 [yJ 34 (bits:Int)] ?_
 obtain⟨g,o⟩:=yE (lI ((s != t)) (x*y) ((e+f)) bits false)
 refine xqd 123 [.bool (s != t),.slice E F G,.int .i64 (e+f),.int .i64 (bits:Int),.func (.func 125) #[] #[]] 35 (shNb g) _ (fun w R Q=>yM xU ((show Calls _ _ _ _ (xY w g) by rw[←o];exact gH ((s != t)) _ _ _ _ ((e+f)) _ _ Q.1.1.1 Q.2 (by have:=ZbU x y;omega) (by omega) (by omega) (by omega)))) fun⟨j,k,n⟩=>?_
 refine xqg 2 [(36,.v (yV g.s j k n g.e)),yJ 37 g.err] ?_
 refine xz (xq 2 [yJ 7 g.err] [yF 6 79 g.s j k n g.e] ?_)
 refine xe (zA (zF ?_))
 refine yR (.tuple #[yV g.s j k n g.e,.int .i64 g.err]) fun w' R Q=>?_
 rw[←jP _ _ _ C,o]
 exact⟨(j,k,n),rfl,Q.2,R⟩
theorem ZmJ (s:Bool)(A:Option Addr)(l c x:Nat)(e:Int)(t:Bool)(B:Option Addr)(m d y:Nat)(f:Int)(bits:Nat)(r:0<bits)(N:bits≤4096)(w:World)(C:Glob w)(v:zJ w (.slice A l c) x)(D:wl x≤100000)(E : -1073741824≤e)(F:e≤1073741824)(z:zJ w (.slice B m d) y)(G:wl y≤100000)(H : -1073741824≤f)(I:f≤1073741824) :
 yA 83 #[yV s A l c e, yV t B m d f,.int .i64 ((bits:Nat):Int)] w (xY w (ZbD (s != t) x y (e-f) bits)):=by
 refine zX (Φ:=fun w=>((Glob w∧zJ w (.slice A l c) (x))∧zJ w (.slice B m d) (y))) Tryz.func83 rfl (by kernel_rfl) (fun w' u=>⟨⟨C.ext u,v.ext u⟩,z.ext u⟩) ?_
 refine zC ?_
 have J:=v.len0
 have K:=z.len0
 have L:=@jA x
 have M:=@jA y
 refine zB (xq 4 [(3,.p 3 0),(4,.p 4 0),(6,.p 6 0),yJ 7 0] [yF 6 79 false none 0 0 0,yF 4 79 t B m d f,yF 3 79 s A l c e] ?_)
 refine xe (zA (zC (zC (zB (xq 4 [yB 11 (((m:Int):Int) == 0)] [] ?_)))))
 refine xe (zA ?_)
 refine yQ ((((m:Int):Int) == 0)) (fun h=>?_) fun h=>?_
 ·have j:=tA.1 h
  have k:y=0:=by omega
  refine zC (zB (xq 3 [yJ 7 5] [] ?_))
  refine xe (zA (zF (zE ?_)))
  refine yR (.tuple #[yV false none 0 0 0,.int .i64 5]) fun w' R Q=>?_
  rw[show ZbD (s != t) x y (e-f) bits=⟨false,0,0,5⟩ from uP k]
  exact⟨(none,0,0),rfl,zJ.zero _,R⟩
 have j:=lB h
 have k:¬ y=0:=by omega
 refine zK (zA (zC (zB (xq 14 [yB 17 (s != t),eS1 19 A l c,eS1 21 B m d,yJ 26 (IntKind.i64.wrap (e-f))] [] ?_))))
 rw[yW (e-f) (e-f) (by omega)]
 refine xq 1 [yJ 27 (bits:Int)] [] ?_
 obtain⟨g,i⟩:=yE (xK (s != t) x y ((e-f)) bits)
 refine xqc 99 [.bool (s != t),.slice A l c,.slice B m d,.int .i64 (e-f),.int .i64 (bits:Int)] 28 (shNb g) _ (fun w R Q=>yM xU ((show Calls _ _ _ _ (xY w g) by rw[←i];exact Zdw (s != t) _ _ _ x _ _ _ y _ bits _ Q.1.1 Q.1.2 Q.2 (by omega) (by omega) (by omega) (by omega) (by omega) r (by omega)))) fun⟨n,o,q⟩=>?_
 refine xq 4 [yJ 7 g.err] [yF 6 79 g.s n o q g.e] ?_
 refine xe (zA (zF ?_))
 refine yR (.tuple #[yV g.s n o q g.e,.int .i64 g.err]) fun w' R Q=>?_
 rw[show ZbD (s != t) x y (e-f) bits=xK (s != t) x y (e-f) bits from uN k,i]
 exact⟨(n,o,q),rfl,Q.2,R⟩
theorem Zdx (s:Bool)(A:Option Addr)(l c x:Nat)(e:Int)(t:Bool)(B:Option Addr)(m d y:Nat)(f:Int)(bits:Nat)(H:0<bits)(hb:bits≤4096)(w:World)(hg:Glob w)(hX:zJ w (.slice A l c) x)(E1:wl x≤100000)(F1 : -1073741824≤e)(G1:e≤1073741824)(hY:zJ w (.slice B m d) y)(H1:wl y≤100000)(I1 : -1073741824≤f)(J1:f≤1073741824) :
 yA 84 #[yV s A l c e, yV t B m d f,.int .i64 ((bits:Nat):Int)] w (xY w (sumR s x e t y f bits)):=by
 refine zX (Φ:=fun w=>((Glob w∧zJ w (.slice A l c) (x))∧zJ w (.slice B m d) (y))) Tryz.func84 rfl (by kernel_rfl) (fun w' hf=>⟨⟨hg.ext hf,hX.ext hf⟩,hY.ext hf⟩) ?_
 refine zC ?_
 have K1:=hX.len0
 have L1:=hY.len0
 have M1:=@jA x
 have N1:=@jA y
 have O1:=fY x
 have R1:=fY y
 refine zB (xq 4 [(3,.p 3 0),(4,.p 4 0),(6,.p 6 0),yJ 7 0] [yF 6 79 false none 0 0 0,yF 4 79 t B m d f,yF 3 79 s A l c e] ?_)
 refine xe (zA (zC (zC (zB (xq 4 [yB 15 (((l:Int):Int) == 0)] [] ?_)))))
 refine xe (zA ?_)
 refine yQ ((((l:Int):Int) == 0)) (fun b0=>?_) fun b0=>?_
 ·have N0:=tA.1 b0
  have O0:x=0:=by omega
  refine zB (xq 4 [] [yF 4 79 s A l c e,yF 3 79 t B m d f] ?_)
  refine xe (zA (zC (zC (zB (xq 4 [yB 21 (((l:Int):Int) == 0)] [] ?_)))))
  rw[b0]
  refine xe (zA (xa (zC (zB (xq 7 [yB 23 t,eS1 25 B m d,yJ 27 f,yJ 28 (bits:Int)] [] ?_)))))
  obtain⟨X,E0⟩:=yE (lI t (y) (f) bits false)
  refine xqc 123 [.bool t,.slice B m d,.int .i64 f,.int .i64 (bits:Int),.func (.func 125) #[] #[]] 29 (shNb X) _ (fun w R Q=>yM xU ((show Calls _ _ _ _ (xY w X) by rw[←E0];exact gH t _ _ _ _ f _ _ Q.1.1 Q.2 (by omega) (by omega) (by omega) (by omega)))) fun⟨P0,Q0,R0⟩=>?_
  refine xq 4 [yJ 7 X.err] [yF 6 79 X.s P0 Q0 R0 X.e] ?_
  refine xe (zA (zF (zE ?_)))
  refine yR (.tuple #[yV X.s P0 Q0 R0 X.e,.int .i64 X.err]) fun w' R Q=>?_
  rw[show sumR s x e t y f bits=xK t y 1 f bits from uP O0,← jP _ _ _ H,E0]
  exact⟨(P0,Q0,R0),rfl,Q.2,R⟩
 have N0:=lB b0
 have O0:¬ x=0:=by omega
 refine zK (zA (zC (zC (zB (xq 4 [yB 21 (((m:Int):Int) == 0)] [] ?_)))))
 refine xe (zA ?_)
 refine yQ ((((m:Int):Int) == 0)) (fun e0=>?_) fun e0=>?_
 ·have S0:=tA.1 e0
  have g1:y=0:=by omega
  refine zC (zB (xq 7 [yB 23 s,eS1 25 A l c,yJ 27 e,yJ 28 (bits:Int)] [] ?_))
  obtain⟨Y,F0⟩:=yE (lI s (x) (e) bits false)
  refine xqc 123 [.bool s,.slice A l c,.int .i64 e,.int .i64 (bits:Int),.func (.func 125) #[] #[]] 29 (shNb Y) _ (fun w R Q=>yM xU ((show Calls _ _ _ _ (xY w Y) by rw[←F0];exact gH s _ _ _ _ e _ _ Q.1.1 Q.1.2 (by omega) (by omega) (by omega) (by omega)))) fun⟨T0,U0,V0⟩=>?_
  refine xq 4 [yJ 7 Y.err] [yF 6 79 Y.s T0 U0 V0 Y.e] ?_
  refine xe (zA (zF (zE ?_)))
  refine yR (.tuple #[yV Y.s T0 U0 V0 Y.e,.int .i64 Y.err]) fun w' R Q=>?_
  rw[show sumR s x e t y f bits=xK s x 1 e bits by unfold sumR;rw[uN O0,uP g1],← jP _ _ _ H,F0]
  exact⟨(T0,U0,V0),rfl,Q.2,R⟩
 have S0:=lB e0
 have g1:¬ y=0:=by omega
 refine zK (zA ?_)
 refine Zbg (fun ss ff=>∃ (j:Bool) (P1:Option Addr) (pl pc p:Nat) (i:Int) (o:Bool) (Q1:Option Addr) (ql qc q:Nat) (k:Int),ss=ofL [yJ 2 (bits:Int),(3,.p 3 0),(4,.p 4 0),(6,.p 6 0),yJ 7 0] [yF 6 79 false none 0 0 0,yF 3 79 j P1 pl pc i,yF 4 79 o Q1 ql qc k]∧ff=(fun w=>((Glob w∧zJ w (.slice P1 pl pc) (p))∧zJ w (.slice Q1 ql qc) (q)))∧(0<p)∧(0<q)∧(wl p≤100000)∧(wl q≤100000)∧(-1073741824≤i)∧(i≤1073741824)∧(-1073741824≤k)∧(k≤1073741824)∧(((blen q:Nat):Int)+k≤((blen p:Nat):Int)+i)∧(addR s x e t y f bits=addR j p i o q k bits)) ?_ ?_
 ·refine zC ?_
  refine yO 5 zM ?_
  refine xqg 1 [(32,.v (yV s A l c e))] ?_
  refine xqd 121 [yV s A l c e] 33 (fun _:Unit=>.int .i64 (((blen x:Nat):Int)+e)) _ (fun w R Q=>yN (ZbF _ _ _ _ _ _ _ Q.1.2 (by omega) (by omega) (by omega))) fun xx=>?_
  refine xqg 1 [(34,.v (yV t B m d f))] ?_
  refine xqd 121 [yV t B m d f] 35 (fun _:Unit=>.int .i64 (((blen y:Nat):Int)+f)) _ (fun w R Q=>yN (ZbF _ _ _ _ _ _ _ Q.1.2 (by omega) (by omega) (by omega))) fun xx=>?_
  refine xqg 1 [(36,.v (.bool (decide ((((blen x:Nat):Int)+e)<(((blen y:Nat):Int)+f)))))] ?_
  refine xz (xe (zA ?_))
  refine yQ ((decide ((((blen x:Nat):Int)+e)<(((blen y:Nat):Int)+f)))) (fun f0=>?_) fun f0=>?_
  ·have W0:=uC f0
   refine zB (xq 4 [] [yF 4 79 s A l c e,yF 3 79 t B m d f] ?_)
   refine xe ?_
   refine yP [yJ 2 (bits:Int),(3,.p 3 0),(4,.p 4 0),(6,.p 6 0),yJ 7 0] [yF 6 79 false none 0 0 0,yF 3 79 t B m d f,yF 4 79 s A l c e] (fun w=>((Glob w∧zJ w (.slice B m d) (y))∧zJ w (.slice A l c) (x))) (fun w Q=>⟨⟨Q.1.1.1.1,Q.1.1.2⟩,Q.1.1.1.2⟩) ?_
   exact kW ⟨t,B,m,d,y,f,s,A,l,c,x,e,rfl,rfl,(by omega),(by omega),(by omega),(by omega),(by omega),(by omega),(by omega),(by omega),(by omega),(Zmw _ _ _ _ _ _ _)⟩
  have W0:=uD f0
  refine zK ?_
  refine yP [yJ 2 (bits:Int),(3,.p 3 0),(4,.p 4 0),(6,.p 6 0),yJ 7 0] [yF 6 79 false none 0 0 0,yF 3 79 s A l c e,yF 4 79 t B m d f] (fun w=>((Glob w∧zJ w (.slice A l c) (x))∧zJ w (.slice B m d) (y))) (fun w Q=>⟨⟨Q.1.1.1.1,Q.1.1.1.2⟩,Q.1.1.2⟩) ?_
  exact kW ⟨s,A,l,c,x,e,t,B,m,d,y,f,rfl,rfl,(by omega),(by omega),(by omega),(by omega),(by omega),(by omega),(by omega),(by omega),(by omega),rfl⟩
 rintro ss ff ⟨j,P1,pl,pc,p,i,o,Q1,ql,qc,q,k,rfl,rfl,l0,h1,S1,T1,U1,V1,W1,X1,D1,G0⟩
 refine zC (zC ?_)
 have Y1:=fY p
 have Z1:=fY q
 have a2:=bO l0
 have b2:=bO h1
 obtain⟨z,hz⟩:=yE (min i (((blen p:Nat):Int)+i-(bits:Int)-2))
 refine yO 9 zM ?_
 refine xqg 3 [yJ 40 i,(41,.v (yV j P1 pl pc i))] ?_
 refine xqd 121 [yV j P1 pl pc i] 42 (fun _:Unit=>.int .i64 (((blen p:Nat):Int)+i)) _ (fun w R Q=>yN (ZbF _ _ _ _ _ _ _ Q.1.2 (by omega) (by omega) (by omega))) fun xx=>?_
 refine xqg 2 [(44,.v (.int .i64 (IntKind.i64.wrap ((((blen p:Nat):Int)+i)-(bits:Int)))))] ?_
 rw[yW (((blen p:Nat):Int)+i-(bits:Int)) (((blen p:Nat):Int)+i-(bits:Int)) (by omega)]
 refine xqg 1 [(45,.v (.int .i64 (IntKind.i64.wrap ((((blen p:Nat):Int)+i-(bits:Int))-2))))] ?_
 rw[yW (((blen p:Nat):Int)+i-(bits:Int)-2) (((blen p:Nat):Int)+i-(bits:Int)-2) (by omega)]
 refine xqg 1 [yJ 46 (if (((blen p:Nat):Int)+i-(bits:Int)-2)<i then (((blen p:Nat):Int)+i-(bits:Int)-2) else i)] ?_
 rw[(show (if ((blen p:Nat):Int)+i-(bits:Int)-2<i then ((blen p:Nat):Int)+i-(bits:Int)-2 else i)=z from Zb9.trans hz)]
 refine xqg 1 [yJ 8 z] ?_
 refine xz (xe (zA (zC (zB (xq 1 [(47,.v (yV o Q1 ql qc k))] [] ?_)))))
 refine xqc 121 [yV o Q1 ql qc k] 48 (fun _:Unit=>.int .i64 (((blen q:Nat):Int)+k)) _ (fun w R Q=>yN (ZbF _ _ _ _ _ _ _ Q.1.2 (by omega) (by omega) (by omega))) fun xx=>?_
 refine xq 2 [(50,.v (.bool (decide ((((blen q:Nat):Int)+k)≤z))))] [] ?_
 refine xe (zA ?_)
 refine yQ ((decide ((((blen q:Nat):Int)+k)≤z))) (fun g0=>?_) fun g0=>?_
 ·have X0:=uC g0
  refine zB (xq 2 [yB 52 o] [] ?_)
  refine yD (d:=53) (fun zb:Nat=>.slice (some ⟨zb,0,none⟩) 1 1) (fun zb zw=>Blk 94 zw zb #[.int .u64 1]) (fun w R Q=>xZ (t:=77) (e:=94) (n:=1) (sz:=1) (z:=.int .u64 0) (parts:=#[(0,Operand.const (Value.int IntKind.u64 1))]) (by kernel_rfl) (by kernel_rfl) (by kernel_rfl) (by kernel_rfl) (by kernel_rfl) (by kernel_rfl)) fun h0=>?_
  refine xr 2 [yJ 2 (bits:Int),(3,.p 3 0),(4,.p 4 0),(6,.p 6 0),yJ 7 0,yB 52 o,eS1 53 (some ⟨h0,0,none⟩) 1 1,yJ 55 (IntKind.i64.wrap (z-1))] [yF 6 79 false none 0 0 0,yF 3 79 j P1 pl pc i,yF 4 79 o Q1 ql qc k] ?_
  rw[yW (z-1) (z-1) (by omega)]
  refine xq 2 [] [yF 4 79 o (some ⟨h0,0,none⟩) 1 1 (z-1)] ?_
  refine xe (zA (zC ?_))
  obtain⟨g,Z⟩:=yE (min i (z-1))
  obtain⟨u1,Y0⟩:∃ u:Nat,i-g=u:=uW (by omega)
  obtain⟨u2,Z0⟩:∃ u:Nat,(z-1)-g=u:=uW (by omega)
  have hS:addR s x e t y f bits=addR j p i o 1 (z-1) bits:=G0.trans (Zlc _ _ _ _ H l0 h1 (by omega) (by omega) (by omega))
  rw[Zit Z Y0 Z0] at hS
  have a1:u1≤100000000:=by omega
  have b1:u2≤100000000:=by omega
  have i1 : -4294967296≤g:=by omega
  have j1:g≤4294967296:=by omega
  obtain⟨a,ha⟩:=yE (p*2^u1)
  obtain⟨b,a0⟩:=yE (1*2^u2)
  have c1:wl a≤4000000:=by rw[←ha];exact ZbE (by omega) a1
  have d1:wl b≤4000000:=by rw[←a0];exact ZbE (uA (bX.2 (by rw[zO];decide)) (by decide)) b1
  have e1:0<a:=by rw[←ha];exact sG l0 (p2 u1)
  rw[ha,a0] at hS
  refine zB (xq 5 [yJ 61 (if (z-1)<i then (z-1) else i)] [] ?_)
  rw[(show (if (z-1)<i then (z-1) else i)=g from Zb9.trans Z)]
  refine xq 1 [yJ 9 g] [] ?_
  refine xe (zA (zC ?_))
  refine SXc.weak [yJ 2 (bits:Int),(3,.p 3 0),(4,.p 4 0),(6,.p 6 0),yJ 7 0,yJ 9 g] [yF 4 79 o (some ⟨h0,0,none⟩) 1 1 (z-1),yF 6 79 false none 0 0 0,yF 3 79 j P1 pl pc i] (xF.of (by kernel_rfl)) (by kernel_rfl) (fun _ h=>h) ?_
  refine yO 16 zM ?_
  refine xqg 6 [eS1 63 P1 pl pc,yJ 67 (IntKind.i64.wrap (i-g))] ?_
  rw[yW (i-g) ((u1:Int)) (by omega)]
  refine xqd 66 [.slice P1 pl pc,.int .i64 (u1:Int)] 68 xJ _ (fun w R Q=>(gR u1 Q.1.1.1.1.2 (by omega) (by omega)).mono (fun _ _ h=>xE (by rw[ha] at h;exact h))) fun⟨I,J,K⟩=>?_
  refine xqg 6 [eS1 70 (some ⟨h0,0,none⟩) 1 1,yJ 74 (IntKind.i64.wrap ((z-1)-g))] ?_
  rw[yW ((z-1)-g) ((u2:Int)) (by omega)]
  refine xqd 66 [.slice (some ⟨h0,0,none⟩) 1 1,.int .i64 (u2:Int)] 75 xJ _ (fun w R Q=>(gR u2 (fZ Q.1.2) wl_1 (by omega)).mono (fun _ _ h=>xE (by rw[a0] at h;exact h))) fun⟨L,M,N⟩=>?_
  refine xqg 2 [eS1 10 I J K,eS1 11 L M N] ?_
  refine xz (xe (zA (zC (xH (zC (zB (xq 6 [yB 76 (j == o)] [] ?_)))))))
  refine xe (zA ?_)
  refine yQ ((j == o)) (fun c0=>?_) fun c0=>?_
  ·have O:j=o:=eq_of_beq c0
   refine zC ?_
   refine yO 10 zM ?_
   refine xqg 4 [yB 83 j,eS1 84 I J K,eS1 85 L M N] ?_
   refine xqd 126 [.slice I J K,.slice L M N] 86 xJ _ (fun w R Q=>yM xE (jX Q.1.2 Q.2 (by omega) (by omega))) fun⟨k1,l1,m1⟩=>?_
   refine xqg 2 [yJ 87 g,yJ 88 (bits:Int)] ?_
   obtain⟨r,H0⟩:=yE (lI j (a+b) (g) bits false)
   refine xqd 123 [.bool j,.slice k1 l1 m1,.int .i64 g,.int .i64 (bits:Int),.func (.func 125) #[] #[]] 89 (shNb r) _ (fun w R Q=>yM xU ((show Calls _ _ _ _ (xY w r) by rw[←H0];exact gH j _ _ _ _ g _ _ Q.1.1.1.1.1.1.1.1 Q.2 (by have:=Ze9 c1 d1;omega) (by omega) (by omega) (by omega)))) fun⟨m0,n0,o0⟩=>?_
   refine xqg 2 [(90,.v (yV r.s m0 n0 o0 r.e)),yJ 91 r.err] ?_
   refine xz (xq 2 [yJ 7 r.err] [yF 6 79 r.s m0 n0 o0 r.e] ?_)
   refine xe (zA (zF (lA (zE ?_))))
   refine yR (.tuple #[yV r.s m0 n0 o0 r.e,.int .i64 r.err]) fun w' R Q=>?_
   rw[show sumR s x e t y f bits=addR s x e t y f bits by unfold sumR;rw[uN (by omega),uN (by omega)],hS]
   rw[ZgY e1 O,← jP _ _ _ H,H0]
   exact⟨(m0,n0,o0),rfl,Q.2,R⟩
  have O:¬ j=o:=fun e'=>by rw[e'] at c0;simp at c0
  refine zC (zB (xq 2 [eS1 93 I J K,eS1 94 L M N] [] ?_))
  refine xqc 122 [.slice I J K,.slice L M N] 95 (fun _:Unit=>.int .i64 (cmpI (a:Int) (b:Int))) _ (fun w R Q=>yN (fX Q.1.2 Q.2 (by omega))) fun xx=>?_
  refine xq 2 [(92,.v (.bool (decide ((cmpI (a:Int) (b:Int))≥0))))] [] ?_
  refine xe (zA ?_)
  refine yQ ((decide ((cmpI (a:Int) (b:Int))≥0))) (fun i0=>?_) fun i0=>?_
  ·have j0:b≤a:=by have:=ZaZ.1 (uC i0);omega
   refine zC ?_
   refine yO 10 zM ?_
   refine xqg 4 [yB 98 j,eS1 99 I J K,eS1 100 L M N] ?_
   refine xqd 127 [.slice I J K,.slice L M N] 101 xJ _ (fun w R Q=>yM xE (ZaM Q.1.1.2 Q.1.2 (by omega) j0)) fun⟨n1,o1,p1⟩=>?_
   refine xqg 2 [yJ 102 g,yJ 103 (bits:Int)] ?_
   obtain⟨C,I0⟩:=yE (lI j (a-b) (g) bits false)
   refine xqd 123 [.bool j,.slice n1 o1 p1,.int .i64 g,.int .i64 (bits:Int),.func (.func 125) #[] #[]] 104 (shNb C) _ (fun w R Q=>yM xU ((show Calls _ _ _ _ (xY w C) by rw[←I0];exact gH j _ _ _ _ g _ _ Q.1.1.1.1.1.1.1.1.1 Q.2 (uA (wW (Nat.sub_le _ _)) (by omega)) (by omega) (by omega) (by omega)))) fun⟨p0,q0,r0⟩=>?_
   refine xqg 2 [(105,.v (yV C.s p0 q0 r0 C.e)),yJ 106 C.err] ?_
   refine xz (xq 2 [yJ 7 C.err] [yF 6 79 C.s p0 q0 r0 C.e] ?_)
   refine xe (zA (zF (lA (zE ?_))))
   refine yR (.tuple #[yV C.s p0 q0 r0 C.e,.int .i64 C.err]) fun w' R Q=>?_
   rw[show sumR s x e t y f bits=addR s x e t y f bits by unfold sumR;rw[uN (by omega),uN (by omega)],hS]
   rw[ZfO O j0,← jP _ _ _ H,I0]
   exact⟨(p0,q0,r0),rfl,Q.2,R⟩
  have f1:a<b:=by have:=mt ZaZ.2 (uD i0);omega
  refine zK (wX (zA (zC ?_)))
  refine yO 10 zM ?_
  refine xqg 4 [yB 108 o,eS1 109 L M N,eS1 110 I J K] ?_
  refine xqd 127 [.slice L M N,.slice I J K] 111 xJ _ (fun w R Q=>yM xE (ZaM Q.1.2 Q.1.1.2 (by omega) (by omega))) fun⟨q1,r1,s1⟩=>?_
  refine xqg 2 [yJ 112 g,yJ 113 (bits:Int)] ?_
  obtain⟨D,J0⟩:=yE (lI o (b-a) (g) bits false)
  refine xqd 123 [.bool o,.slice q1 r1 s1,.int .i64 g,.int .i64 (bits:Int),.func (.func 125) #[] #[]] 114 (shNb D) _ (fun w R Q=>yM xU ((show Calls _ _ _ _ (xY w D) by rw[←J0];exact gH o _ _ _ _ g _ _ Q.1.1.1.1.1.1.1.1.1 Q.2 (uA (wW (Nat.sub_le _ _)) (by omega)) (by omega) (by omega) (by omega)))) fun⟨s0,t0,u0⟩=>?_
  refine xqg 2 [(115,.v (yV D.s s0 t0 u0 D.e)),yJ 116 D.err] ?_
  refine xz (xq 2 [yJ 7 D.err] [yF 6 79 D.s s0 t0 u0 D.e] ?_)
  refine xe (zA (zF ?_))
  refine yR (.tuple #[yV D.s s0 t0 u0 D.e,.int .i64 D.err]) fun w' R Q=>?_
  rw[show sumR s x e t y f bits=addR s x e t y f bits by unfold sumR;rw[uN (by omega),uN (by omega)],hS]
  rw[Zew O f1,← jP _ _ _ H,J0]
  exact⟨(s0,t0,u0),rfl,Q.2,R⟩
 have X0:=uD g0
 refine zK (zA (zC ?_))
 obtain⟨g,Z⟩:=yE (min i k)
 obtain⟨u1,Y0⟩:∃ u:Nat,i-g=u:=uW (by omega)
 obtain⟨u2,Z0⟩:∃ u:Nat,k-g=u:=uW (by omega)
 have hS:=G0
 rw[Zit Z Y0 Z0] at hS
 have a1:u1≤100000000:=by omega
 have b1:u2≤100000000:=by omega
 have i1 : -4294967296≤g:=by omega
 have j1:g≤4294967296:=by omega
 obtain⟨a,ha⟩:=yE (p*2^u1)
 obtain⟨b,a0⟩:=yE (q*2^u2)
 have c1:wl a≤4000000:=by rw[←ha];exact ZbE (by omega) a1
 have d1:wl b≤4000000:=by rw[←a0];exact ZbE (by omega) b1
 have e1:0<a:=by rw[←ha];exact sG l0 (p2 u1)
 rw[ha,a0] at hS
 refine zB (xq 5 [yJ 61 (if k<i then k else i)] [] ?_)
 rw[(show (if k<i then k else i)=g from Zb9.trans Z)]
 refine xq 1 [yJ 9 g] [] ?_
 refine xe (zA (zC ?_))
 refine SXc.weak [yJ 2 (bits:Int),(3,.p 3 0),(4,.p 4 0),(6,.p 6 0),yJ 7 0,yJ 9 g] [yF 6 79 false none 0 0 0,yF 3 79 j P1 pl pc i,yF 4 79 o Q1 ql qc k] (xF.of (by kernel_rfl)) (by kernel_rfl) (fun _ h=>h) ?_
 refine yO 16 zM ?_
 refine xqg 6 [eS1 63 P1 pl pc,yJ 67 (IntKind.i64.wrap (i-g))] ?_
 rw[yW (i-g) ((u1:Int)) (by omega)]
 refine xqd 66 [.slice P1 pl pc,.int .i64 (u1:Int)] 68 xJ _ (fun w R Q=>(gR u1 Q.1.1.1.2 (by omega) (by omega)).mono (fun _ _ h=>xE (by rw[ha] at h;exact h))) fun⟨P,S,T⟩=>?_
 refine xqg 6 [eS1 70 Q1 ql qc,yJ 74 (IntKind.i64.wrap (k-g))] ?_
 rw[yW (k-g) ((u2:Int)) (by omega)]
 refine xqd 66 [.slice Q1 ql qc,.int .i64 (u2:Int)] 75 xJ _ (fun w R Q=>(gR u2 Q.1.1.1.2 (by omega) (by omega)).mono (fun _ _ h=>xE (by rw[a0] at h;exact h))) fun⟨U,V,W⟩=>?_
 refine xqg 2 [eS1 10 P S T,eS1 11 U V W] ?_
 refine xz (xe (zA (zC (xH (zC (zB (xq 6 [yB 76 (j == o)] [] ?_)))))))
 refine xe (zA ?_)
 refine yQ ((j == o)) (fun d0=>?_) fun d0=>?_
 ·have O:j=o:=eq_of_beq d0
  refine zC ?_
  refine yO 10 zM ?_
  refine xqg 4 [yB 83 j,eS1 84 P S T,eS1 85 U V W] ?_
  refine xqd 126 [.slice P S T,.slice U V W] 86 xJ _ (fun w R Q=>yM xE (jX Q.1.2 Q.2 (by omega) (by omega))) fun⟨t1,v1,w1⟩=>?_
  refine xqg 2 [yJ 87 g,yJ 88 (bits:Int)] ?_
  obtain⟨E,K0⟩:=yE (lI j (a+b) (g) bits false)
  refine xqd 123 [.bool j,.slice t1 v1 w1,.int .i64 g,.int .i64 (bits:Int),.func (.func 125) #[] #[]] 89 (shNb E) _ (fun w R Q=>yM xU ((show Calls _ _ _ _ (xY w E) by rw[←K0];exact gH j _ _ _ _ g _ _ Q.1.1.1.1.1.1.1 Q.2 (by have:=Ze9 c1 d1;omega) (by omega) (by omega) (by omega)))) fun⟨v0,w0,x0⟩=>?_
  refine xqg 2 [(90,.v (yV E.s v0 w0 x0 E.e)),yJ 91 E.err] ?_
  refine xz (xq 2 [yJ 7 E.err] [yF 6 79 E.s v0 w0 x0 E.e] ?_)
  refine xe (zA (zF (lA (zE ?_))))
  refine yR (.tuple #[yV E.s v0 w0 x0 E.e,.int .i64 E.err]) fun w' R Q=>?_
  rw[show sumR s x e t y f bits=addR s x e t y f bits by unfold sumR;rw[uN (by omega),uN (by omega)],hS]
  rw[ZgY e1 O,← jP _ _ _ H,K0]
  exact⟨(v0,w0,x0),rfl,Q.2,R⟩
 have O:¬ j=o:=fun e'=>by rw[e'] at d0;simp at d0
 refine zC (zB (xq 2 [eS1 93 P S T,eS1 94 U V W] [] ?_))
 refine xqc 122 [.slice P S T,.slice U V W] 95 (fun _:Unit=>.int .i64 (cmpI (a:Int) (b:Int))) _ (fun w R Q=>yN (fX Q.1.2 Q.2 (by omega))) fun xx=>?_
 refine xq 2 [(92,.v (.bool (decide ((cmpI (a:Int) (b:Int))≥0))))] [] ?_
 refine xe (zA ?_)
 refine yQ ((decide ((cmpI (a:Int) (b:Int))≥0))) (fun k0=>?_) fun k0=>?_
 ·have j0:b≤a:=by have:=ZaZ.1 (uC k0);omega
  refine zC ?_
  refine yO 10 zM ?_
  refine xqg 4 [yB 98 j,eS1 99 P S T,eS1 100 U V W] ?_
  refine xqd 127 [.slice P S T,.slice U V W] 101 xJ _ (fun w R Q=>yM xE (ZaM Q.1.1.2 Q.1.2 (by omega) j0)) fun⟨x1,y1,z1⟩=>?_
  refine xqg 2 [yJ 102 g,yJ 103 (bits:Int)] ?_
  obtain⟨F,L0⟩:=yE (lI j (a-b) (g) bits false)
  refine xqd 123 [.bool j,.slice x1 y1 z1,.int .i64 g,.int .i64 (bits:Int),.func (.func 125) #[] #[]] 104 (shNb F) _ (fun w R Q=>yM xU ((show Calls _ _ _ _ (xY w F) by rw[←L0];exact gH j _ _ _ _ g _ _ Q.1.1.1.1.1.1.1.1 Q.2 (uA (wW (Nat.sub_le _ _)) (by omega)) (by omega) (by omega) (by omega)))) fun⟨y0,z0,A0⟩=>?_
  refine xqg 2 [(105,.v (yV F.s y0 z0 A0 F.e)),yJ 106 F.err] ?_
  refine xz (xq 2 [yJ 7 F.err] [yF 6 79 F.s y0 z0 A0 F.e] ?_)
  refine xe (zA (zF (lA (zE ?_))))
  refine yR (.tuple #[yV F.s y0 z0 A0 F.e,.int .i64 F.err]) fun w' R Q=>?_
  rw[show sumR s x e t y f bits=addR s x e t y f bits by unfold sumR;rw[uN (by omega),uN (by omega)],hS]
  rw[ZfO O j0,← jP _ _ _ H,L0]
  exact⟨(y0,z0,A0),rfl,Q.2,R⟩
 have f1:a<b:=by have:=mt ZaZ.2 (uD k0);omega
 refine zK (wX (zA (zC ?_)))
 refine yO 10 zM ?_
 refine xqg 4 [yB 108 o,eS1 109 U V W,eS1 110 P S T] ?_
 refine xqd 127 [.slice U V W,.slice P S T] 111 xJ _ (fun w R Q=>yM xE (ZaM Q.1.2 Q.1.1.2 (by omega) (by omega))) fun⟨A1,B1,C1⟩=>?_
 refine xqg 2 [yJ 112 g,yJ 113 (bits:Int)] ?_
 obtain⟨G,M0⟩:=yE (lI o (b-a) (g) bits false)
 refine xqd 123 [.bool o,.slice A1 B1 C1,.int .i64 g,.int .i64 (bits:Int),.func (.func 125) #[] #[]] 114 (shNb G) _ (fun w R Q=>yM xU ((show Calls _ _ _ _ (xY w G) by rw[←M0];exact gH o _ _ _ _ g _ _ Q.1.1.1.1.1.1.1.1 Q.2 (uA (wW (Nat.sub_le _ _)) (by omega)) (by omega) (by omega) (by omega)))) fun⟨B0,C0,D0⟩=>?_
 refine xqg 2 [(115,.v (yV G.s B0 C0 D0 G.e)),yJ 116 G.err] ?_
 refine xz (xq 2 [yJ 7 G.err] [yF 6 79 G.s B0 C0 D0 G.e] ?_)
 refine xe (zA (zF ?_))
 refine yR (.tuple #[yV G.s B0 C0 D0 G.e,.int .i64 G.err]) fun w' R Q=>?_
 rw[show sumR s x e t y f bits=addR s x e t y f bits by unfold sumR;rw[uN (by omega),uN (by omega)],hS]
 rw[Zew O f1,← jP _ _ _ H,M0]
 exact⟨(B0,C0,D0),rfl,Q.2,R⟩
def xD (q:Rat):List UInt8:=if q.den=1 then Lib.itoa q.num else Lib.itoa q.num ++ [47] ++ Lib.itoa (q.den:Int)
theorem Ziu {x y:Int}(c:0<y):(Rat.divInt x y).num=x.tdiv (Int.gcd x y:Int)∧((Rat.divInt x y).den:Int)=y.tdiv (Int.gcd x y:Int):=by
 have a:(Int.gcd x y:Int)∣x:=Int.gcd_dvd_left _ _
 have b:(Int.gcd x y:Int)∣y:=Int.gcd_dvd_right _ _
 rw[Rat.num_divInt,Rat.den_divInt,uN (by omega),rN c,Int.one_mul,Int.gcd_comm y x,Int.tdiv_eq_ediv_of_dvd a,Int.tdiv_eq_ediv_of_dvd b]
 refine⟨rfl,?_⟩
 rw[tC]
 congr 1
 omega
theorem Zdy {x y:Int}(a:0<y)(h:((Int.gcd x y:Nat):Int)=1):(Rat.divInt x y).num=x∧((Rat.divInt x y).den:Int)=y:=by
 have:=Ziu (x:=x) a
 rwa [h,Int.tdiv_one,Int.tdiv_one] at this
theorem ZfP {c:UInt8}(h:zV c=true):UInt8.ofNat (48+(c.toNat-48))=c:=by
 have:=dY h
 apply UInt8.toNat.inj
 rw[UInt8.toNat_ofNat']
 have:=c.toNat_lt
 omega
theorem Ziv:∀ (k:Nat) (l:List UInt8),l.length=k→l.all zV=true→l≠[]→l.head? ≠ some 48→Lib.decDigits (zL l)=l:=by
 intro k
 induction k with
 | zero=>intro l d _ g;exact absurd (tH.1 d) g
 | succ k ih =>
  intro l d f g b
  obtain⟨l',c,rfl⟩:∃ l' c,l=l' ++ [c]:=by
   rcases List.eq_nil_or_concat l with h|⟨l',c,h⟩
   ·exact absurd h g
   exact⟨l',c,by simpa using h⟩
  rw[rL,tR] at f
  have i:zV c=true:=by simpa using f.2
  have m:=dY i
  rw[dB]
  by_cases a:l'=[]
  ·subst a
   have e:zL []=0:=rfl
   rw[e,tL,tU,dD (by omega),ZfP i];rfl
  have j:l'.head? ≠ some 48:=by
   rw[List.head?_append] at b
   cases hx:l'.head? with
   | none=>exact absurd (List.head?_eq_none_iff.1 hx) a
   | some x=>rw[hx] at b;exact b
  have n:=ih l' (by simp at d;exact d) f.1 a j
  have o:=(Zcu f.1 a j).1
  rw[ZcC (by omega),show (10*zL l'+(c.toNat-48))/10=zL l' by omega,show (10*zL l'+(c.toNat-48))%10=c.toNat-48 by omega,n,ZfP i]
theorem Zjz (n:Nat):(Lib.decDigits n).head? ≠ some 45:=by
 intro e
 cases h:Lib.decDigits n with
 | nil=>exact lN n h
 | cons x xs =>
  rw[h] at e
  simp only[List.head?_cons,rJ] at e
  subst e
  have:=kZ n
  rw[h] at this
  simp only[sW,tR] at this
  exact absurd this.1 (by decide)
theorem Zac {p:UInt8→Bool}{l r:List UInt8}{c:UInt8}(h:l.all p=true)(a:p c=false):(l ++ c :: r).takeWhile p=l∧(l ++ c :: r).dropWhile p=c :: r:=by
 induction l with
 | nil=>simp[a]
 | cons x xs ih =>
  simp only[sW,tR] at h
  obtain⟨b,d⟩:=ih h.2
  rw[pA,qT,List.dropWhile_cons,h.1]
  simp[b,d]
theorem Zap (z:Int)(r:List UInt8):xA (Lib.itoa z ++ r)=(decide (z<0),Lib.decDigits z.natAbs ++ r):=by
 by_cases h:z<0
 ·rw[ZcD h,uQ h]
  unfold xA
  rw[uP (by simp)]
  rfl
 rw[Zd8 (by omega),uJ h]
 unfold xA
 rw[uN]
 intro e
 rw[List.head?_append] at e
 cases hx:(Lib.decDigits z.natAbs).head? with
 | none=>exact absurd (List.head?_eq_none_iff.1 hx) (lN _)
 | some c =>
  rw[hx] at e
  exact Zjz _ (hx.trans e)
theorem Zdz (z:Int):sg (decide (z<0)) z.natAbs=z:=by
 unfold sg
 split
 ·rename_i h;have:=uC h;omega
 rename_i h;have:¬ z<0:=fun k=>h (uQ k);omega
theorem ZfQ {q:Rat}(h:q.den=1):((q.num:Int):Rat)=q:=by
 apply Rat.ext<;>simp[h]
theorem Zqu {q:Rat}(h:q.den≠1):q.num≠0:=by
 intro e
 have:=q.reduced
 rw[e] at this
 simp[Nat.Coprime] at this
 exact h this
theorem jQ (n:Nat):Lib.itoa (n:Int)=Lib.decDigits n:=by
 rw[Zd8 (by omega),uS]
theorem Zlk {q:Rat}(h:q.den≠1):wY (xD q)=(decide (q.num<0),Lib.decDigits q.num.natAbs,Lib.decDigits q.den,true):=by
 have l:=Zqu h
 have m:=q.den_nz
 unfold xD
 rw[uN h,jQ,tB]
 unfold wY
 rw[Zap]
 simp only[]
 obtain⟨g,i⟩:=Zac (p:=zV) (r:=Lib.decDigits q.den) (c:=47) (kZ q.num.natAbs) (by decide)
 have e:Lib.decDigits q.num.natAbs ++ ([47] ++ Lib.decDigits q.den)=Lib.decDigits q.num.natAbs ++ 47 :: Lib.decDigits q.den:=rfl
 rw[e,g,i]
 have f:=bP q.num.natAbs (by omega)
 rw[uN (fun e=>f (by rw[e];rfl)),uN (fun e=>e.elim (lN _) f),uN (by simp),uN (by simp)]
 simp only[List.tail_cons]
 obtain⟨j,k⟩:=eS (kZ q.den)
 rw[j,k]
 have a:=bP q.den (by omega)
 have b:Lib.decDigits q.den≠[49]:=fun e=>by
  have:=iX q.den
  rw[e] at this
  exact h (by rw[←this];rfl)
 have d:=lN q.den
 simp[a,b,d]
theorem Zg0 (q:Rat):wM (xD q)=some q:=by
 by_cases h:q.den=1
 ·unfold xD
  rw[uP h,ZgZ,ZfQ h]
 unfold wM
 rw[Zlk h]
 simp only[]
 rw[uN (lN _),iX,iX,uP q.reduced,Zdz,Rat.mkRat_self]
theorem Zg1 {neg:Bool}{a:Nat}(h:a=0→neg=false):(sg neg a<0↔neg=true)∧(sg neg a).natAbs=a:=by
 cases neg with
 | false=>simp[sg]
 | true =>
  have:a≠0:=fun e=>by cases h e
  simp[sg];omega
theorem Zca {neg:Bool}{a:Nat}(h:a=0→neg=false):Lib.itoa (sg neg a)=(if neg then [45] else []) ++ Lib.decDigits a:=by
 obtain⟨c,b⟩:=Zg1 h
 cases neg with
 | false=>rw[Zd8 (by simp[sg]),b];rfl
 | true=>rw[ZcD (c.2 rfl),b];rfl
theorem Zey {l r:List UInt8}{neg:Bool}(h:xA l=(neg,r)):l=(if neg then [45] else []) ++ r:=by
 unfold xA at h
 split at h
 ·rename_i hh
  injection h with h1 h2
  subst h1 h2
  cases l with
  | nil=>cases hh
  | cons x xs=>simp at hh;subst hh;rfl
 injection h with h1 h2
 subst h1 h2
 rfl
theorem eA {l:List UInt8}{q:Rat}(h:wM l=some q):xD q=l:=by
 unfold wM at h
 cases hs:wY l with
 | mk neg r =>
  obtain⟨num,den,ok⟩:=r
  rw[hs] at h
  cases ok with
  | false=>cases h
  | true =>
   simp only[] at h
   have k:=bJ hs
   obtain⟨A,m⟩:=ZfC hs
   cases hu:xA l with
   | mk neg' t =>
    have j:=Zey hu
    have a:t.takeWhile zV ++ t.dropWhile zV=t:=rX
    unfold wY at hs
    rw[hu] at hs
    simp only[] at hs
    split at hs
    ·-- zero
     rename_i f
     injection hs with e1 hs;injection hs with e2 hs;injection hs with e3 e4
     subst e1 e2 e3
     simp at e4
     rw[uP rfl,f] at h
     have B:zL [48]=0:=rfl
     rw[B] at h
     injection h with h
     rw[e4.1] at h j
     rw[←h,j,← a,f,e4.2]
     simp only[sg]
     unfold xD
     rw[uP (by simp)]
     have:Lib.itoa ((0:Nat):Int)=[48]:=by rw[jQ,dD (by omega)];rfl
     simpa using this
    split at hs
    ·injection hs with _ hs;injection hs with _ hs;injection hs with _ hs;cases hs
    rename_i z
    have n:t.takeWhile zV≠[]:=fun e=>z (Or.inl e)
    have o:(t.takeWhile zV).head? ≠ some 48:=fun e=>z (Or.inr e)
    have g:=Ziv _ _ rfl (jW (p:=zV) t) n o
    split at hs
    ·rename_i s
     injection hs with e1 hs;injection hs with e2 hs;injection hs with e3 _
     subst e1 e2 e3
     rw[uP rfl] at h
     injection h with h
     rw[←h]
     unfold xD
     rw[uP (by simp)]
     have i:(((sg neg' (zL (t.takeWhile zV)):Int)):Rat).num=sg neg' (zL (t.takeWhile zV)):=rfl
     rw[i,Zca (fun e=>(m e).1),g,j]
     rw[s,sP] at a
     rw[a]
    split at hs
    ·injection hs with _ hs;injection hs with _ hs;injection hs with _ hs;cases hs
    rename_i s b
    injection hs with e1 hs;injection hs with e2 hs;injection hs with e3 e4
    subst e1 e2
    rw[e3] at e4
    simp at e4
    obtain⟨⟨⟨u,v⟩,C⟩,E⟩:=e4
    rw[uN v] at h
    split at h
    ·rename_i D
     injection h with h
     have F:=A v
     have w:q.num=sg neg' (zL (t.takeWhile zV))∧q.den=zL den:=by
      have:=Zdy (x:=sg neg' (zL (t.takeWhile zV))) (y:=(zL den:Int)) (by omega) (by
       unfold Int.gcd
       rw[(Zg1 (fun e=>(m e).1)).2,uS,D];rfl)
      rw[Rat.divInt_ofNat,h] at this
      exact⟨this.1,by have:=this.2;omega⟩
     unfold xD
     rw[uN (by rw[w.2];omega),w.1,w.2,Zca (fun e=>(m e).1),g,jQ,Ziv _ _ rfl k.2.1 v C,j]
     have d:t.dropWhile zV=47 :: den:=by
      cases hx:t.dropWhile zV with
      | nil=>exact absurd hx s
      | cons c r =>
       rw[hx] at b u e3
       simp at b u e3
       subst b
       have:=rX (p:=zV) (l:=r)
       rw[e3,u,sP] at this
       rw[this]
     rw[d] at a
     rw[tB,tB]
     congr 1
    cases h
theorem Zog {l:List UInt8}{q:Rat}:wM l=some q↔xD q=l :=
 ⟨eA,fun h=>by rw[←h];exact Zg0 q⟩
def fvB (s:List UInt8) (e:Int):Bool :=
 if s=[48] then decide (e=0)
 else decide ((xA s).2≠[]∧(xA s).2.head? ≠ some 48∧okE e∧(xA s).2.all zV=true∧zL (xA s).2%2=1)
def flM (s:List UInt8):Int:=sg (xA s).1 (zL (xA s).2)
theorem ZdA:Lib.itoa 0=[48]:=by
 rw[show (0:Int)=((0:Nat):Int) from rfl,jQ,dD (by omega)];rfl
theorem Ziw:flM [48]=0:=by decide
theorem Zqv {neg:Bool}{a:Nat}(h:a%2=1):sg neg a%2=1:=by unfold sg;split<;>omega
theorem Zke {s:List UInt8}{e:Int}(h:fvB s e=true):s=Lib.itoa (flM s)∧((flM s=0∧e=0)∨(flM s%2=1∧okE e)):=by
 unfold fvB at h
 by_cases a:s=[48]
 ·rw[uP a] at h
  subst a
  rw[Ziw]
  exact⟨ZdA.symm,Or.inl ⟨rfl,uC h⟩⟩
 rw[uN a] at h
 obtain⟨b,c,d,f,g⟩:=uC h
 unfold flM
 refine⟨?_,Or.inr ⟨Zqv g,d⟩⟩
 rw[Zca (fun h=>by omega),Ziv _ _ rfl f b c]
 exact Zey rfl
theorem Zaq (z:Int):xA (Lib.itoa z)=(decide (z<0),Lib.decDigits z.natAbs):=by
 have:=Zap z []
 rwa [sP,sP] at this
theorem ZeT (z:Int):flM (Lib.itoa z)=z:=by
 unfold flM;rw[Zaq,iX];exact Zdz z
theorem Zkf (z e:Int):fvB (Lib.itoa z) e=decide ((z=0∧e=0)∨(z%2=1∧okE e)):=by
 unfold fvB
 by_cases a:z=0
 ·subst a
  rw[ZdA,uP rfl]
  by_cases b:e=0
  ·subst b;rfl
  rw[uJ b]
  symm
  exact uJ (fun h=>by rcases h with h|h<;>omega)
 have c:¬ Lib.itoa z=[48]:=fun h=>a (by rw[←ZeT z,h,Ziw])
 rw[uN c,Zaq]
 refine rP.2 ⟨fun⟨_,_,d,_,f⟩=>Or.inr ⟨?_,d⟩,fun h=>?_⟩
 ·rw[iX] at f;omega
 rcases h with ⟨h,_⟩|⟨i,g⟩
 ·exact absurd h a
 exact⟨lN _,bP _ (by omega),g,kZ _,by rw[iX];omega⟩
theorem Zkg {s:List UInt8}{q:Rat}(h:wM s=some q)(b:q.den=1)(e:Int):fvB s e=decide ((q.num=0∧e=0)∨(q.num%2=1∧okE e))∧flM s=q.num:=by
 have c:s=Lib.itoa q.num:=by
  have a:=eA h
  unfold xD at a
  rw[uP b] at a
  exact a.symm
 rw[c]
 exact⟨Zkf _ _,ZeT _⟩
theorem Zoh {l:List UInt8}{c:UInt8}(h:(l ++ [c]).all zV=true):zL (l ++ [c])%2=c.toNat % 2:=by
 rw[dB]
 have a:zV c=true:=by rw[rL] at h;simp at h;exact h.2
 have:=dY a
 omega
noncomputable def valF (l:List UInt8):Rat:=(wM l).getD 0
theorem ZmM {l:List UInt8}(b:l.all zV=true)(f:l.length≤570):wl (zL l)≤30:=by
 rw[kP]
 have c:=kC l b
 obtain⟨k,d⟩:∃ k,k=30:=⟨_,rfl⟩
 have a:10^l.length≤10^(19*k):=uY (by omega) (by omega)
 rw[←d]
 rw[sS] at a
 have e:(10^19)^k≤W64^k:=sD (by rw[zO];decide) k
 exact uU c (uA a e)
theorem ZmN {l:List UInt8}(h:wM l=none):valF l=0:=by unfold valF;rw[h];rfl
theorem ZbG {l:List UInt8}{q:Rat}(h:wM l=some q):valF l=q:=by unfold valF;rw[h];rfl
end Go.Proofs.YtklpdkpcocnglaaGreatDoor
namespace Go.Proofs.YtklpdkpcocnglaaGreatDoor
open Go.RowKit Go.Sort
end Go.Proofs.YtklpdkpcocnglaaGreatDoor
namespace Go.Proofs.YtklpdkpcocnglaaGreatDoor
open Go.RowKit
section
variable {s t:ByteArray} {p q r:Rat} {w:World}
end
theorem Zlm {w w':World}{e:Ending}{l:List UInt8}(h:ZeU w l e w'):kF (fun x:Int×Int×Bool=>.tuple #[.agg #[.int .i64 x.1,.int .i64 x.2.1],.bool x.2.2]) (fun x _=>Za0 l x.1 x.2.1 x.2.2) w e w':=by
 obtain⟨a,b,c,rfl,d,Q⟩:=h
 exact⟨(a,b,c),rfl,Q,BoxN.pure d⟩
abbrev ShSp:=Bool×ByteArray×ByteArray×Bool
theorem Zln {w w':World}{e:Ending}{s:ByteArray}(h:ZeL s w e w'):kF (fun x:ShSp=>.tuple #[.agg #[.bool x.1,.string x.2.1,.string x.2.2.1],.bool x.2.2.2]) (fun x _=>wY (bytes s)=(x.1,bytes x.2.1,bytes x.2.2.1,x.2.2.2)) w e w':=by
 obtain⟨neg,t,d,a,rfl,b,Q⟩:=h
 exact⟨(neg,t,d,a),rfl,Q,BoxN.pure b⟩
theorem Zkh {x:ByteArray}(h:bytes x=[]):(x.toList == (⟨#[]⟩:ByteArray).toList)=true:=by
 rw[Lib.toList_data,Lib.toList_data,show x.data.toList=[] from h];rfl
theorem Zki {x:ByteArray}(h:¬ bytes x=[]):(x.toList == (⟨#[]⟩:ByteArray).toList)=false:=by
 rw[Lib.toList_data,Lib.toList_data]
 exact tG.2 h
theorem ZmP {l:List UInt8}{neg:Bool}{t d:List UInt8}(h:wY l=(neg,t,d,false)):wM l=none:=by unfold wM;rw[h]
theorem ZmQ {l:List UInt8}{neg:Bool}{t d:List UInt8}(h:wY l=(neg,t,d,true))(a:d=[]):(wM l).isSome=true:=by unfold wM;rw[h];simp[a]
theorem ZmR {l:List UInt8}{neg:Bool}{t d:List UInt8}(h:wY l=(neg,t,d,true))(b:¬ d=[]):(wM l).isSome=decide (((Int.gcd (zL t:Int) (zL d:Int):Nat):Int)=1):=by
 unfold wM
 rw[h]
 have e:Int.gcd (zL t:Int) (zL d:Int)=Nat.gcd (zL t) (zL d):=rfl
 rw[e]
 simp only[uN b]
 by_cases a:Nat.gcd (zL t) (zL d)=1
 ·rw[uP a,a];rfl
 rw[uN a];simp;omega
theorem Zlo {l:List UInt8}{a b:Int}(h:Za0 l a b true):(wM l).isSome=true:=by
 rcases h with ⟨_,q,h,_⟩|⟨h,_⟩
 ·rw[h];rfl
 cases h
theorem ZbI (s:ByteArray)(w:World)(H:Glob w)(I:(bytes s).length≤570) :
 yA 54 #[.string s] w (RetV w (.bool (wM (bytes s)).isSome)):=by
 have l:s.size≤1099511627776:=by rw[zQ] at I;omega
 refine zX (Φ:=fun w=>Glob w) Tryz.func54 rfl (by kernel_rfl) (fun w' J=>H.ext J) ?_
 refine zC (zB (xr 1 [yT 0 s,yB 2 false] [] ?_))
 refine xe (zA (zC (zC (zB (xr 1 [yT 0 s,yB 2 false,yT 8 s] [] ?_)))))
 refine xc 92 [.string s] 9 (fun x:Int×Int×Bool=>.tuple #[.agg #[.int .i64 x.1,.int .i64 x.2.1],.bool x.2.2]) _ (fun w R Q=>yM Zlm (Zho s _ l)) fun⟨L,M,B⟩=>?_
 rcases B with _|_
 ·refine xr 6 [yT 0 s,yB 2 false,yB 4 false] [] ?_
  refine xe (zA (zC (zB (xr 1 [yT 0 s,yB 2 false,yB 12 false] [] ?_))))
  refine xe (zA (xb (zK (zA (zC (zB (xr 1 [yB 2 false,yT 14 s] [] ?_)))))))
  refine xc 93 [.string s] 15 (fun x:ShSp=>.tuple #[.agg #[.bool x.1,.string x.2.1,.string x.2.2.1],.bool x.2.2.2]) _ (fun w R Q=>yM Zln (ZgM s _ l)) fun⟨a,c,b,C⟩=>?_
  rcases C with _|_
  ·refine xr 6 [yB 2 false,(5,.p 5 0),yB 6 false] [(5,123,[.v (.bool a),.v (.string c),.v (.string b)])] ?_
   refine xe (zA (zC (zC ?_)))
   refine SXc.know (p:=wY (bytes s)=(a,bytes c,bytes b,false)) (fun w _ Q=>Q.2) fun m=>?_
   refine zB (xr 7 [yB 2 false,(5,.p 5 0),yB 6 false,yB 24 true] [(5,123,[.v (.bool a),.v (.string c),.v (.string b)])] ?_)
   refine xe (zA (xa (zC (zB (xr 2 [yB 2 false,(5,.p 5 0)] [(5,123,[.v (.bool a),.v (.string c),.v (.string b)])] ?_)))))
   refine xe (zA (zF (zE ?_)))
   refine yR (.bool false) fun w' R Q=>?_
   exact⟨by rw[ZmP m];rfl,R⟩
  refine xr 6 [yB 2 false,(5,.p 5 0),yB 6 true] [(5,123,[.v (.bool a),.v (.string c),.v (.string b)])] ?_
  refine xe (zA (zC (zC ?_)))
  refine SXc.know (p:=wY (bytes s)=(a,bytes c,bytes b,true)) (fun w _ Q=>Q.2) fun m=>?_
  by_cases A:bytes b=[]
  ·refine zB (xr 6 [yB 2 false,(5,.p 5 0),yB 6 true,yB 20 false,yB 23 ((b:ByteArray).toList == (⟨#[]⟩:ByteArray).toList)] [(5,123,[.v (.bool a),.v (.string c),.v (.string b)])] ?_)
   rw[Zkh A]
   refine xr 1 [yB 2 false,(5,.p 5 0),yB 6 true,yB 24 true] [(5,123,[.v (.bool a),.v (.string c),.v (.string b)])] ?_
   refine xe (zA (xa (zC (zB (xr 2 [yB 2 true,(5,.p 5 0)] [(5,123,[.v (.bool a),.v (.string c),.v (.string b)])] ?_)))))
   refine xe (zA (zF (zE ?_)))
   refine yR (.bool true) fun w' R Q=>?_
   exact⟨by rw[ZmQ m A],R⟩
  refine zB (xr 6 [yB 2 false,(5,.p 5 0),yB 6 true,yB 20 false,yB 23 ((b:ByteArray).toList == (⟨#[]⟩:ByteArray).toList)] [(5,123,[.v (.bool a),.v (.string c),.v (.string b)])] ?_)
  rw[Zki A]
  refine xr 1 [yB 2 false,(5,.p 5 0),yB 6 true,yB 24 false] [(5,123,[.v (.bool a),.v (.string c),.v (.string b)])] ?_
  refine xe (zA (xb (zK (zA (zC ?_)))))
  obtain⟨d,e,K⟩:=bJ m
  have f:Zct c.size:=by unfold Zct;rw[←zQ];omega
  have g:Zct b.size:=by unfold Zct;rw[←zQ];omega
  have D:wl ((zL (bytes c):Nat):Int).natAbs≤79:=by rw[uS];exact uA (ZmM d (by omega)) (by decide)
  have E:wl ((zL (bytes b):Nat):Int).natAbs≤79:=by rw[uS];exact uA (ZmM e (by omega)) (by decide)
  have F:Fits ((zL (bytes c):Nat):Int):=by unfold Fits;omega
  have G:Fits ((zL (bytes b):Nat):Int):=by unfold Fits;omega
  refine yO 9 zM ?_
  refine xf 2 [yB 2 false,(5,.p 5 0),yT 27 c] [(5,123,[.v (.bool a),.v (.string c),.v (.string b)])] ?_
  refine xd 94 [.string c] 28 zZ _ (fun w R Q=>yM ZeM (Zdm c _ d f)) fun⟨h,i,j,k⟩=>?_
  refine xf 2 [yB 2 false,eI2 28 h i j k,yT 30 b] [(5,123,[.v (.bool a),.v (.string c),.v (.string b)])] ?_
  refine xd 94 [.string b] 31 zZ _ (fun w R Q=>yM ZeM (Zdm b _ e g)) fun⟨n,o,q,r⟩=>?_
  refine xf 0 [yB 2 false,eI2 28 h i j k,eI2 31 n o q r] [(5,123,[.v (.bool a),.v (.string c),.v (.string b)])] ?_
  refine xd 95 [vI2 h i j k,vI2 n o q r] 32 zZ _ (fun w R Q=>yM ZeM (Zo4 _ _ ((zL (bytes c):Int)) ((zL (bytes b):Int)) _ Q.1.1.1.1 Q.1.2 Q.2 F G (Zhz.words D E))) fun⟨t,u,y,z⟩=>?_
  refine xf 0 [yB 2 false,eI2 32 t u y z] [(5,123,[.v (.bool a),.v (.string c),.v (.string b)])] ?_
  refine xd 96 [vI2 t u y z] 33 (fun _:Unit=>.bool (decide ((((Int.gcd ((zL (bytes c):Int)) ((zL (bytes b):Int)):Nat):Int))=1))) _ (fun w R Q=>yN (Zl5 _ (((Int.gcd ((zL (bytes c):Int)) ((zL (bytes b):Int)):Nat):Int)) _ Q.2)) fun N=>?_
  refine xf 1 [(2,.v (.bool (decide ((((Int.gcd ((zL (bytes c):Int)) ((zL (bytes b):Int)):Nat):Int))=1))))] [(5,123,[.v (.bool a),.v (.string c),.v (.string b)])] ?_
  refine xz (xe (zA (zF ?_)))
  refine zD (v:=.bool (decide ((((Int.gcd ((zL (bytes c):Int)) ((zL (bytes b):Int)):Nat):Int))=1))) (by kernel_rfl) fun w' R Q=>?_
  exact⟨by rw[ZmR m A],R⟩
 refine xr 6 [yT 0 s,yB 2 false,yB 4 true] [] ?_
 refine xe (zA (zC (zB (xr 1 [yT 0 s,yB 2 false,yB 12 true] [] ?_))))
 refine xe (zA (xa (zC (zB (xr 1 [yT 0 s,yB 2 true] [] ?_)))))
 refine xe (zA (zF (zE ?_)))
 refine yR (.bool true) fun w' R Q=>?_
 exact⟨by rw[Zlo Q.2],R⟩
section
variable {l r a t b:List UInt8} {neg:Bool} {c:UInt8}
end
/-! ### lJ of small numbers -/
theorem Zad {n:Nat}(h:n<10):Lib.itoa (n:Int)=[UInt8.ofNat (48+n)]:=by
 unfold Lib.itoa
 rw[uN (by omega),qY,Lib.decDigits,dif_pos h]
theorem ZeV {q:Rat}{n:Nat}(h:n<10)(d:q.num=(n:Int))(e:q.den=1):xD q=[UInt8.ofNat (48+n)]:=by
 unfold xD;rw[uP e,d,Zad h]
theorem Zpy {q:Rat}{n d:Nat}(h:n<10)(e:d<10)(f:q.num=(n:Int))(g:q.den=d)(i:d≠1):xD q=[UInt8.ofNat (48+n),47,UInt8.ofNat (48+d)]:=by
 unfold xD;rw[g,uN i,f,Zad h,Zad e];rfl
theorem t1:xD (mkRat 1 1)=[49]:=ZeV (n:=1) (by decide) (by decide) (by decide)
theorem t3:xD (mkRat 3 1)=[51]:=ZeV (n:=3) (by decide) (by decide) (by decide)
theorem t12:xD (mkRat 1 2)=[49,47,50]:=Zpy (n:=1) (d:=2) (by decide) (by decide) (by decide) (by decide) (by decide)
section
variable {w w':World} {e:Ending} {s:ByteArray}
theorem Zlp (h:Zia s w e w'):kF (fun x:ByteArray×Bool=>.tuple #[.string x.1,.bool x.2]) (fun x _=>xA (bytes s)=(x.2,bytes x.1)) w e w':=by
 obtain⟨r,neg,rfl,h,rfl⟩:=h
 exact⟨(r,neg),rfl,Fr.refl _ _,BoxN.pure h⟩
end
theorem Zkj {a b:ByteArray}(h:bytes a=bytes b):a=b:=by
 cases a with|mk a=>cases b with|mk b=>simp only[bytes] at h;rw[Array.toList_inj.1 h]
def e4:Nat:=400
theorem Zkk {s:ByteArray}(h:bytes s=[48]):(s.toList == (⟨#[48]⟩:ByteArray).toList)=true:=by
 rw[Lib.toList_data,Lib.toList_data,show s.data.toList=[48] from h];rfl
theorem Zkl {s:ByteArray}(h:¬ bytes s=[48]):(s.toList == (⟨#[48]⟩:ByteArray).toList)=false:=by
 rw[Lib.toList_data,Lib.toList_data];exact tG.2 h
theorem zt:xD 0=[48]:=ZeV (n:=0) (by decide) (by decide) (by decide)
theorem bF {P:Program}{o:Oper}{ρ:Operand→Value}{w:World}{t:TypeId}{x i:Operand}{b:ByteArray}{k:Nat}{c:UInt8}(a:o.op=Op.index t x i)(d:P.underlying t=some .string)(e:ρ x=.string b)(hi:ρ i=.int .i64 (k:Int))(f:b[k]? = some c):(execOp ρ o).run P w=.ok (.value (.int .u8 (c.toNat:Int))) w:=by
 simp[execOp,a,Instr.index,asIntOf,underlying,d,e,hi,f,Result.andThen]
end Go.Proofs.YtklpdkpcocnglaaGreatDoor
