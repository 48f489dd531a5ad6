/-
 My texts Fnb, Fnc, Fnd, Nu, Nq, Nv, Nad, RStr, Frac, Rt, FlT, Reduce, Whole, Ra, Reduce2, Ts, Fs, Cmp, Tx, Dc, Len, Vl, PaM, Pa, Px, Gq put together.
-/
import Derived.Test.YtklpdkpcocnglaaGreatDoorU16
import Derived.Test.YtklpdkpcocnglaaGreatDoorU07
import Derived.Test.YtklpdkpcocnglaaGreatDoorU08
import Derived.Test.YtklpdkpcocnglaaGreatDoorU15
import Derived.Test.YtklpdkpcocnglaaGreatDoorU02
set_option maxRecDepth 100000
set_option maxHeartbeats 8000000
namespace Go.Proofs.YtklpdkpcocnglaaGreatDoor
open Go.RowKit
section
variable {N:Nat} {S0:Nat→Prop} {w:World} {Φ:World→Prop} {P:Program}
theorem Zch (S0:Nat→Prop){fn:Func}{f:FuncId}{c:Code}{args:List Value}{R:Ending→World→Prop}(j:P.funcs[f]? = some fn)(l:fn.body=some c)(m:Nat.ble args.length fn.ntmps=true)(Q:Box (fun _=>False) w Φ)(h:SXc P fn.ntmps S0 w (bodyPost P fn R) c (ofL (Zjo 0 args) []) Φ):Calls P f args.toArray w R:=by
 refine calls_of_wp j l (h (fun _=>0) _ w ⟨?_,rfl,fun i x n=>?_,⟨fun b t p e=>(by cases e),fun b c e=>(by cases e),fun b e=>(by cases e),Fr.refl _ _,fun i b off e=>?_,fun b t p e=>(by cases e)⟩,?_⟩)
 ·have:=sM m
  simp;omega
 ·obtain⟨_,v,hv,rfl⟩:=Zgx args 0 i x n
  have d:i<args.length:=by
   rcases vI i args.length with a|a
   ·exact a
   rw[List.getElem?_eq_none (by omega)] at hv;cases hv
  simp only[AV.conc]
  rw[Array.getElem?_append_left (by simpa using d)]
  simpa using hv
 ·obtain⟨_,v,hv,e'⟩:=Zgx args 0 i _ e
  cases e'
 intro w' g
 exact Q w' (g.mono (fun i _ a=>by obtain⟨b,e,_⟩:=a;cases e))
end
section
variable {P:Program} {o:Oper} {ρ:Operand→Value} {w:World} {x y:Operand} {t k:TypeId}
theorem Zu2 {a:Nat}(b:o.op=Op.binOp .and t x y k:=by kernel_rfl)(c:ρ x=.int .u64 (a:Int):=by kernel_rfl)(d:ρ y=.int .u64 1:=by kernel_rfl)(ha:a<W64:=by assumption):(execOp ρ o).run P w=.ok (.value (.int .u64 ((a%2:Nat):Int))) w:=by
 have h:bits .and .u64 (a:Int) 1=((a%2:Nat):Int):=by
  have:=bits_and_u64_nat a 1 (by rw[←Zao];exact ha) (by decide)
  rw[qD] at this
  exact this
 rw[←h]
 simp only[execOp,b,c,d,eqGuard,binOp]
 rfl
end
/-! ### length -/
theorem ZjV {xs:List Nat}{k t:Nat}(d:Dig W64 xs)(e:xs.length=k+1)(f:Trim xs)(b:xs[k]?.getD 0=t):blen (val W64 xs)=64*k+blen t:=by
 have g:0<t:=sQ (by rw[←b];exact f k e)
 have c:=Zar (B:=W64) k (show k<xs.length by omega)
 rw[uB (by omega),b] at c
 have a:=ZaV (d.take k)
 rw[vC,uW (by omega),Zez] at a
 rw[c,Zez]
 exact ZnU a g
theorem ZjW {t:Nat}(h:t<W64):Lib.bitLen t=blen t:=by
 rcases uH t with rfl|a
 ·rfl
 obtain⟨b,_,c,d⟩:=Zd0 a h
 have:=Zjw (k:=Lib.bitLen t-1) c (by rw[qF b];exact d)
 omega
theorem Zsf (t:Nat)(w:World)(h:t<W64):yA 105 #[.int .u64 (t:Int)] w (RetV w (.int .i64 ((blen t:Nat):Int))):=by
 have a:=h
 rw[Zao] at a
 refine (Tryz.bits_Len64 (t:Int) w (by omega) (by omega)).mono ?_
 rintro e w' ⟨rfl,rfl⟩
 exact⟨by rw[qY,ZjW h],Fr.refl _ _⟩
theorem ZqO (t:Nat)(w:World)(h:t<W64):yA 174 #[.int .u64 (t:Int)] w (RetV w (.int .i64 ((64-blen t:Nat):Int))):=by
 refine (Zfs t w h).mono ?_
 rintro e w' ⟨rfl,rfl⟩
 have:blen t≤64:=Zbg.2 (by rw[Zao] at h;exact h)
 exact⟨by rw[ZjW h];congr 2;omega,Fr.refl _ _⟩
/-! ### zeros -/
theorem ZtK (x:Nat)(w:World)(a:Glob w)(b:0<x)(h:x<W64):yA 186 #[.int .u64 (x:Int)] w (RetV w (.int .i64 ((tzn x:Nat):Int))):=by
 obtain⟨g,c⟩:=ZdD b
 have d:tzn x<64:=by
  refine rO fun f=>?_
  have:=vF (n:=2) (by decide) f
  have i:1*2^tzn x≤oddM x*2^tzn x:=uE _ (by omega)
  rw[Zao] at h
  omega
 refine (ZhL x (tzn x) (oddM x/2) w a (by rw[show 2*(oddM x/2)+1=oddM x by omega,uG];exact c) d h).mono ?_
 rintro e w' ⟨rfl,rfl⟩
 exact⟨rfl,Fr.refl _ _⟩
def ZerR (xs:List Nat) (k:Nat):Prop:=val W64 (xs.take k)=0
theorem ZerR.start (xs:List Nat):ZerR xs 0:=by unfold ZerR;simp
theorem ZerR.lt {xs:List Nat}{k:Nat}(h:ZerR xs k)(b:0<val W64 xs):k<xs.length:=by
 rcases vI k xs.length with a|a
 ·exact a
 unfold ZerR at h;rw[uB a] at h;omega
theorem ZerR.step {xs:List Nat}{k:Nat}(h:ZerR xs k)(a:k<xs.length)(b:xs[k]?.getD 0=0):ZerR xs (k+1):=by
 unfold ZerR at *
 rw[Zar k a,h,b];simp
theorem Zu3 {x r:Nat}(a:0<x)(b:x<W64):tzn (x+W64*r)=tzn x:=by
 obtain⟨g,c⟩:=ZdD a
 have h:tzn x<64:=by
  refine rO fun d=>?_
  have:=vF (n:=2) (by decide) d
  have i:1*2^tzn x≤oddM x*2^tzn x:=uE _ (by omega)
  rw[Zao] at b
  omega
 have e:x+W64*r=(oddM x+2^(64-tzn x)*r)*2^tzn x:=by
  rw[vE,← c,Nat.mul_right_comm,← uT,qF (by omega),Zao]
 have f:2^(64-tzn x)=2*2^(63-tzn x):=by rw[show 64-tzn x=(63-tzn x)+1 by omega,uS,uG]
 rw[e]
 exact Zla (by rw[f,uF];omega) _
theorem ZerR.done {xs:List Nat}{k x:Nat}(h:ZerR xs k)(c:Dig W64 xs)(d:k<xs.length)(a:xs[k]?.getD 0=x)(e:x≠0):tzn (val W64 xs)=64*k+tzn x:=by
 unfold ZerR at h
 have b:=ZaS (B:=W64) (xs:=xs) k
 rw[h,uW (by omega),ZaT k d,a,tU,Zez,uG] at b
 rw[b,Zhx (by omega),Zu3 (by omega) (a ▸ c.getD Zan k),vK]
theorem ZerR.bound {xs:List Nat}{k x:Nat}(b:Dig W64 xs)(c:xs[k]?.getD 0=x)(e:x≠0):tzn x<64:=by
 have a:x<W64:=c ▸ b.getD Zan k
 obtain⟨f,g⟩:=ZdD (show 0<x by omega)
 refine rO fun d=>?_
 have:=vF (n:=2) (by decide) d
 have h:1*2^tzn x≤oddM x*2^tzn x:=uE _ (by omega)
 rw[Zao] at a
 omega
/-! ### bit -/
theorem Zu4 {xs:List Nat}{i x:Nat}(b:Dig W64 xs)(c:i/64<xs.length)(d:xs[i/64]?.getD 0=x):val W64 xs/2^i%2=x/2^(i%64)%2:=by
 have a:=Zlz xs (i/64) (i%64) b (by omega)
 rw[show 64*(i/64)+i%64=i by omega] at a
 rw[←a,ZaT _ c,d]
 have g:i%64<64:=uM _ (by decide)
 generalize i%64=t at *
 generalize val W64 (xs.drop (i/64+1))=r
 have e:W64*r=2^t*(2^(64-t)*r):=by rw[←uF,← uT,show t+(64-t)=64 by omega,Zao]
 have f:2^(64-t)=2*2^(63-t):=by rw[show 64-t=(63-t)+1 by omega,uS,uG]
 rw[e,Nat.add_mul_div_left _ _ (p2 t),f,uF,tZ]
theorem ZtL {xs:List Nat}{i:Nat}(a:Dig W64 xs)(b:¬ i/64<xs.length):val W64 xs/2^i%2=0:=by
 rw[Zj5 a (by omega)]
theorem ZvW (m:Nat):(((m%2:Nat):Int) == 1)=decide (m%2=1):=by
 rcases Nat.mod_two_eq_zero_or_one m with h|h<;>rw[h]<;>rfl
/-! ### division by a word,in place -/
def DwR (xs:List Nat) (u k:Nat) (qs:List Nat) (r:Nat):Prop:=ZeH xs u k qs r∧qs.take k=xs.take k
theorem DwR.start {xs:List Nat}{u:Nat}(a:Dig W64 xs)(b:0<u):DwR xs u xs.length xs 0 :=
 ⟨⟨rfl,a,b,by rw[uZ (uK _)];simp⟩,rfl⟩
theorem DwR.at {xs a:List Nat}{u k r:Nat}(h:DwR xs u (k+1) a r):a[k]?.getD 0=xs[k]?.getD 0:=by
 have:=vG (fun l=>l[k]?.getD 0) h.2
 simp only[List.getElem?_take_of_lt (show k<k+1 by omega)] at this
 exact this
theorem DwR.step {xs a:List Nat}{u k r x:Nat}(h:DwR xs u (k+1) a r)(c:k<xs.length)(d:a[k]?.getD 0=x)(b:x<W64):DwR xs u k (a.set k (divQ r x u)) (divR r x u):=by
 refine⟨h.1.step c (h.at.symm.trans d) b,?_⟩
 have:=vG (List.take k) h.2
 rw[List.take_take,List.take_take,uW (by omega)] at this
 rw[sI (uK k)];exact this
theorem Zmu (hi lo y:Nat)(w:World)(b:hi<y)(c:y<W64)(a:lo<W64):yA 149 #[.int .u64 (hi:Int),.int .u64 (lo:Int),.int .u64 (y:Int)] w (RetV w (.tuple #[.int .u64 ((divQ hi lo y:Nat):Int),.int .u64 ((divR hi lo y:Nat):Int)])):=by
 refine (ZgO hi lo y w b c a).mono ?_
 rintro e w' ⟨rfl,n,rfl⟩
 exact⟨rfl,(Fr.refl _ _).drewN n⟩
/-! ### a multiple subtracted within a row -/
def SpR (zs0 ys:List Nat) (q o k:Nat) (zs:List Nat) (c b:Nat):Prop :=
 zs.length=zs0.length∧Dig W64 zs∧c<W64∧b≤1∧zs.take o=zs0.take o∧zs.drop (o+k)=zs0.drop (o+k) ∧
  val W64 (zs.take (o+k))+W64^o*(q*val W64 (ys.take k))=val W64 (zs0.take (o+k))+W64^(o+k)*(c+b)
theorem SpR.start {a:List Nat}(ys:List Nat)(q o:Nat)(h:Dig W64 a):SpR a ys q o 0 a 0 0:=⟨rfl,h,Zan,by omega,rfl,rfl,by simp⟩
theorem Zff {b a:List Nat}{k:Nat}(h:b.drop k=a.drop k):b[k]?.getD 0=a[k]?.getD 0:=by
 have:=vG (fun l=>l[0]?.getD 0) h
 simpa [List.getElem?_drop] using this
theorem ZnZ {x q c:Nat}(a:x<W64)(b:q<W64)(d:c<W64):Za9 x q+ZaM (ZaB x q) c 0<W64:=by
 have e:=Zek x q
 have f:=Zdz (ZaB x q) c 0
 have g:=ZhI a b
 refine Ze7 _ (vL (m:=x*q+c) ?_ (by omega))
 rw[uL];omega
theorem SpR.step {a ys f:List Nat}{q o k c b x z:Nat}(h:SpR a ys q o k f c b)(r:o+k<a.length)(l:ys[k]?.getD 0=x)(m:f[o+k]?.getD 0=z)(s:Dig W64 ys)(u:q<W64) :
 SpR a ys q o (k+1) (f.set (o+k) (ZbC z (ZaI (ZaB x q) c 0) b)) (Za9 x q+ZaM (ZaB x q) c 0) (ZbD z (ZaI (ZaB x q) c 0) b):=by
 obtain⟨v,n,A,B,C,p,D⟩:=h
 have g:x<W64:=l ▸ s.getD Zan k
 have i:z<W64:=m ▸ n.getD Zan _
 have E:a[o+k]?.getD 0=z:=(Zff p).symm.trans m
 have G:=Zek x q
 have H:=Zdz (ZaB x q) c 0
 have I:=Zgr i (Zej (ZaB x q) c 0) B
 refine⟨by simpa using v,n.set _ (Zfq _ _ _),ZnZ g u A,ZhH _ _ _,?_,?_,?_⟩
 ·rw[sI (by omega)];exact C
 ·have e:=vG (List.drop 1) p
  rw[vN,vN] at e
  rw[vY (by omega),show o+(k+1)=o+k+1 by omega];exact e
 rw[show o+(k+1)=(o+k)+1 by omega,ZaL _ _ _ _ (by omega),Zar (o+k) r,Zby k,E,l,uS]
 have j:ZbC z (ZaI (ZaB x q) c 0) b+x*q+c+b=z+W64*(Za9 x q+ZaM (ZaB x q) c 0+ZbD z (ZaI (ZaB x q) c 0) b):=by
  rw[uL,uL];omega
 have d:=vG (W64^(o+k) * ·) j
 simp only[uL] at d
 have F:W64^o*(q*(val W64 (ys.take k)+W64^k*x))=W64^o*(q*val W64 (ys.take k))+W64^(o+k)*(x*q):=by
  rw[uL q,uL (W64^o),uT,vW q (W64^k) x,uF (W64^o),uG q x]
 rw[F,uF (W64^(o+k)) W64]
 simp only[uL]
 rw[uL] at D
 omega
def ZiU (zs0 ys:List Nat) (q o:Nat) (zs:List Nat) (b:Nat):Prop :=
 zs.length=zs0.length∧Dig W64 zs∧b≤1∧zs.take o=zs0.take o∧zs.drop (o+ys.length+1)=zs0.drop (o+ys.length+1) ∧
  val W64 (zs.take (o+ys.length+1))+W64^o*(q*val W64 ys)=val W64 (zs0.take (o+ys.length+1))+W64^(o+ys.length+1)*b
theorem SpR.done {a ys f:List Nat}{q o c b z:Nat}(h:SpR a ys q o ys.length f c b)(n:o+ys.length<a.length)(i:f[o+ys.length]?.getD 0=z):ZiU a ys q o (f.set (o+ys.length) (ZbC z c b)) (ZbD z c b):=by
 obtain⟨p,j,r,s,u,l,m⟩:=h
 have g:z<W64:=i ▸ j.getD Zan _
 have v:a[o+ys.length]?.getD 0=z:=(Zff l).symm.trans i
 have A:=Zgr g r s
 refine⟨by simpa using p,j.set _ (Zfq _ _ _),ZhH _ _ _,?_,?_,?_⟩
 ·rw[sI (by omega)];exact u
 ·have e:=vG (List.drop 1) l
  rw[vN,vN] at e
  rw[vY (by omega)];exact e
 rw[uB (uK ys.length)] at m
 rw[ZaL _ _ _ _ (by omega),Zar _ n,v,uS]
 have d:=vG (W64^(o+ys.length) * ·) A
 simp only[uL] at d
 rw[uF (W64^(o+ys.length)) W64]
 rw[uL] at m
 omega
/-! ### the divisor added within a row -/
def AbR (zs0 ys:List Nat) (o k:Nat) (zs:List Nat) (c:Nat):Prop :=
 zs.length=zs0.length∧Dig W64 zs∧c≤1∧zs.take o=zs0.take o∧zs.drop (o+k)=zs0.drop (o+k) ∧
  val W64 (zs.take (o+k))+W64^(o+k)*c=val W64 (zs0.take (o+k))+W64^o*val W64 (ys.take k)
theorem AbR.start {a:List Nat}(ys:List Nat)(o:Nat)(h:Dig W64 a):AbR a ys o 0 a 0:=⟨rfl,h,by omega,rfl,rfl,by simp⟩
theorem AbR.step {a ys d:List Nat}{o k c x z:Nat}(h:AbR a ys o k d c)(l:o+k<a.length)(f:ys[k]?.getD 0=x)(g:d[o+k]?.getD 0=z)(m:Dig W64 ys):AbR a ys o (k+1) (d.set (o+k) (ZaI z x c)) (ZaM z x c):=by
 obtain⟨n,i,p,q,j,s⟩:=h
 have r:a[o+k]?.getD 0=z:=(Zff j).symm.trans g
 refine⟨by simpa using n,i.set _ (Zej _ _ _),ZhG (g ▸ i.getD Zan _) (f ▸ m.getD Zan k) p,?_,?_,?_⟩
 ·rw[sI (by omega)];exact q
 ·have e:=vG (List.drop 1) j
  rw[vN,vN] at e
  rw[vY (by omega),show o+(k+1)=o+k+1 by omega];exact e
 rw[show o+(k+1)=(o+k)+1 by omega,ZaL _ _ _ _ (by omega),Zar (o+k) l,Zby k,r,f,uS]
 have b:=vG (W64^(o+k) * ·) (Zdz z x c)
 simp only[uL] at b
 rw[uL (W64^o),← uF (W64^o) (W64^k),← uT,uF (W64^(o+k)) W64]
 omega
def ZiV (zs0 ys:List Nat) (o:Nat) (zs:List Nat) (c:Nat):Prop :=
 zs.length=zs0.length∧Dig W64 zs∧c≤1∧zs.take o=zs0.take o∧zs.drop (o+ys.length+1)=zs0.drop (o+ys.length+1) ∧
  val W64 (zs.take (o+ys.length+1))+W64^(o+ys.length+1)*c=val W64 (zs0.take (o+ys.length+1))+W64^o*val W64 ys
theorem AbR.done {a ys d:List Nat}{o c z:Nat}(h:AbR a ys o ys.length d c)(j:o+ys.length<a.length)(f:d[o+ys.length]?.getD 0=z):ZiV a ys o (d.set (o+ys.length) (ZaI z 0 c)) (ZaM z 0 c):=by
 obtain⟨l,g,m,n,i,p⟩:=h
 have q:a[o+ys.length]?.getD 0=z:=(Zff i).symm.trans f
 refine⟨by simpa using l,g.set _ (Zej _ _ _),ZhG (f ▸ g.getD Zan _) Zan m,?_,?_,?_⟩
 ·rw[sI (by omega)];exact n
 ·have e:=vG (List.drop 1) i
  rw[vN,vN] at e
  rw[vY (by omega)];exact e
 rw[uB (uK ys.length)] at p
 rw[ZaL _ _ _ _ (by omega),Zar _ j,q,uS]
 have b:=vG (W64^(o+ys.length) * ·) (Zdz z 0 c)
 simp only[uL] at b
 rw[uF (W64^(o+ys.length)) W64]
 omega
theorem Zo8 (A:Option Addr)(xs:List Nat)(c:Nat)(w:World)(l:Zah .u64 w A xs)(p:xs.length≤4294967296)(g:Dig W64 xs)(m:Trim xs) :
 yA 65 #[.slice A xs.length c] w (RetV w (.int .i64 ((blen (val W64 xs):Nat):Int))):=by
 refine Zax (Φ:=fun w=>Zah .u64 w A xs) Tryz.func65 rfl (by kernel_rfl) (fun w' n=>l.ext n) ?_
 refine Zac (Zab (xq 1 [yJ 2 0] [] ?_))
 refine xe (Zaa (Zac (Zac (Zab (xq 3 [yB 5 ((((xs.length:Nat):Int):Int) == 0)] [] ?_)))))
 refine xe (Zaa ?_)
 refine yQ (((((xs.length:Nat):Int):Int) == 0)) (fun d=>?_) fun d=>?_
 ·have f:=tA.1 d
  refine Zac (Zab (xq 1 [yJ 2 0] [] ?_))
  refine xe (Zaa (Zaf (Zae ?_)))
  refine yR (.int .i64 0) fun w' R Q=>?_
  exact⟨by obtain rfl:xs=[]:=tH.1 (by omega);rfl,R⟩
 have f:=Zbo d
 refine Zal (Zaa (Zac (Zab (xq 3 [yJ 8 (IntKind.i64.wrap (((xs.length:Nat):Int)-1))] [] ?_))))
 rw[yW (((xs.length:Nat):Int)-1) (((xs.length-1:Nat):Int)) (by omega)]
 refine xq 1 [yJ 9 (IntKind.i64.wrap (64*((xs.length-1:Nat):Int)))] [] ?_
 rw[yW (64*((xs.length-1:Nat):Int)) (((64*(xs.length-1):Nat):Int)) (by omega)]
 refine xq 4 [eS1 10 A xs.length c,yJ 13 (IntKind.i64.wrap (((xs.length:Nat):Int)-1))] [] ?_
 rw[yW (((xs.length:Nat):Int)-1) (((xs.length-1:Nat):Int)) (by omega)]
 refine xqk 14 (atA A (xs.length-1)) (fun w R Q=>ZaO (t:=77) (e:=94) (x:=.tmp 10) (ix:=.tmp 13) (len:=xs.length) (cap:=c) (i:=xs.length-1) ((Q).ne (j:=xs.length-1) (by omega)) (by omega)) ?_
 obtain⟨a,b⟩:=yE (xs[xs.length-1]?.getD 0)
 refine xqk 15 (.int .u64 (a:Int)) (fun w R Q=>by rw[←b];exact ZaW (t:=94) (x:=.tmp 14) (Q) (j:=xs.length-1) (by omega)) ?_
 refine xqc 105 [.int .u64 (a:Int)] 16 (fun _:Unit=>.int .i64 ((blen a:Nat):Int)) _ (fun w R Q=>yN (Zsf a _ (by rw[←b];exact g.getD Zan _))) fun q=>?_
 refine xq 1 [(17,.v (.int .i64 (IntKind.i64.wrap (((64*(xs.length-1):Nat):Int)+((blen a:Nat):Int)))))] [] ?_
 rw[show IntKind.i64.wrap (((64*(xs.length-1):Nat):Int)+((blen a:Nat):Int))=((blen (val W64 xs):Nat):Int) by rw[ZjV (k:=xs.length-1) g (by omega) m b,IntKind.wrap_i64];have:=Zbg.2 (show a<2^64 by have h:a<W64:=(by rw[←b];exact g.getD Zan _);rw[Zao] at h;exact h);omega]
 refine xq 1 [yJ 2 ((blen (val W64 xs):Nat):Int)] [] ?_
 refine xe (Zaa (Zaf ?_))
 refine yR (.int .i64 ((blen (val W64 xs):Nat):Int)) fun w' R Q=>?_
 exact⟨rfl,R⟩
theorem ZqP (A:Option Addr)(xs:List Nat)(c:Nat)(w:World)(u:Zah .u64 w A xs)(B:xs.length≤4294967296)(m:Dig W64 xs)(v:Glob w)(z:0<val W64 xs) :
 yA 157 #[.slice A xs.length c] w (RetV w (.int .i64 ((tzn (val W64 xs):Nat):Int))):=by
 refine Zax (Φ:=fun w=>(Zah .u64 w A xs∧Glob w)) Tryz.func157 rfl (by kernel_rfl) (fun w' p=>⟨u.ext p,v.ext p⟩) ?_
 refine Zac (Zab (xq 1 [yJ 2 0] [] ?_))
 refine xe (Zaa (Zac (Zab (xq 1 [yJ 3 0] [] ?_))))
 refine xe (Zaa (Zac (ZaH ?_)))
 refine yC [eS1 0 A xs.length c,yJ 2 0,yJ 3 ((0:Nat):Int)] [] (fun w=>(Zah .u64 w A (xs)∧Glob w)) (fun w Q=>⟨Q.1,Q.2⟩) ?_
 refine ZbI (fun q r s=>∃ (k:Nat),r=ofL [eS1 0 A xs.length c,yJ 2 0,yJ 3 (k:Int)] []∧s=(fun w=>(Zah .u64 w A (xs)∧Glob w))∧(ZerR xs k)∧q=(xs.length-k)) ((xs.length-0)) ⟨0,rfl,rfl,ZerR.start xs,rfl⟩ ?_
 rintro q r s ⟨k,rfl,rfl,n,rfl⟩
 refine Zac (Zac ?_)
 have h:=n.lt z
 refine Zab (xq 2 [eS1 4 A xs.length c,yJ 5 (k:Int)] [] ?_)
 refine xqk 6 (atA A k) (fun w R Q=>ZaO (t:=77) (e:=94) (x:=.tmp 4) (ix:=.tmp 5) (len:=xs.length) (cap:=c) (i:=k) ((Q.1).ne (j:=k) (by omega)) (by omega)) ?_
 obtain⟨b,a⟩:=yE (xs[k]?.getD 0)
 refine xqk 7 (.int .u64 (b:Int)) (fun w R Q=>by rw[←a];exact ZaW (t:=94) (x:=.tmp 6) (Q.1) (j:=k) (by omega)) ?_
 refine xq 1 [yB 8 (((b:Int):Int) == 0)] [] ?_
 refine xe (Zaa ?_)
 refine yQ ((((b:Int):Int) == 0)) (fun d=>?_) fun d=>?_
 ·have g:=tA.1 d
  refine Zal (Zaa (ZaH (Zab (xq 2 [yJ 10 (IntKind.i64.wrap ((k:Int)+1))] [] ?_))))
  rw[yW ((k:Int)+1) (((k+1:Nat):Int)) (by omega)]
  refine xq 1 [yJ 3 ((k+1:Nat):Int)] [] ?_
  refine xe (Zbk ?_)
  refine yP [eS1 0 A xs.length c,yJ 2 0,yJ 3 (((k+1):Nat):Int)] [] (fun w=>(Zah .u64 w A (xs)∧Glob w)) (fun w Q=>⟨Q.1,Q.2⟩) ?_
  exact Za5 ((xs.length-(k+1))) (by omega) ⟨(k+1),rfl,rfl,(n.step h (by rw[a];omega)),rfl⟩
 have g:=Zbo d
 refine Zbt (Zaw (Zaw (ZbH (Zaa (Zac (Zab (xq 2 [yJ 12 (IntKind.i64.wrap (64*(k:Int)))] [] ?_)))))))
 rw[yW (64*(k:Int)) (((64*k:Nat):Int)) (by omega)]
 refine xq 2 [eS1 13 A xs.length c,yJ 14 (k:Int)] [] ?_
 refine xqk 15 (atA A k) (fun w R Q=>ZaO (t:=77) (e:=94) (x:=.tmp 13) (ix:=.tmp 14) (len:=xs.length) (cap:=c) (i:=k) ((Q.1).ne (j:=k) (by omega)) (by omega)) ?_
 obtain⟨l,f⟩:=yE (xs[k]?.getD 0)
 refine xqk 16 (.int .u64 (l:Int)) (fun w R Q=>by rw[←f];exact ZaW (t:=94) (x:=.tmp 15) (Q.1) (j:=k) (by omega)) ?_
 obtain rfl:b=l:=by rw[←a,f]
 refine xqc 186 [.int .u64 (b:Int)] 17 (fun _:Unit=>.int .i64 ((tzn b:Nat):Int)) _ (fun w R Q=>yN (ZtK b _ Q.2 (by omega) (by rw[←a];exact m.getD Zan _))) fun C=>?_
 refine xq 1 [yJ 18 (IntKind.i64.wrap (((64*k:Nat):Int)+((tzn b:Nat):Int)))] [] ?_
 rw[show IntKind.i64.wrap (((64*k:Nat):Int)+((tzn b:Nat):Int))=((tzn (val W64 xs):Nat):Int) by rw[n.done m h a (by omega),IntKind.wrap_i64];have:=ZerR.bound m a (by omega);omega]
 refine xq 1 [yJ 2 ((tzn (val W64 xs):Nat):Int)] [] ?_
 refine xe (Zaa (Zaf ?_))
 refine yR (.int .i64 ((tzn (val W64 xs):Nat):Int)) fun w' R Q=>?_
 exact⟨rfl,R⟩
theorem ZtM (A:Option Addr)(xs:List Nat)(c:Nat)(w:World)(m:Zah .u64 w A xs)(l:Dig W64 xs)(i:Nat)(hi:i≤274877906944) :
 yA 158 #[.slice A xs.length c,.int .i64 (i:Int)] w (RetV w (.bool (decide (val W64 xs/2^i%2=1)))):=by
 refine Zax (Φ:=fun w=>Zah .u64 w A xs) Tryz.func158 rfl (by kernel_rfl) (fun w' p=>m.ext p) ?_
 refine Zac (Zab (xq 1 [yB 4 false] [] ?_))
 refine xe (Zaa (Zac (Zab (xq 2 [(6,.v (.int .i64 (IntKind.i64.wrap (((i:Int)).tdiv 64))))] [] ?_))))
 rw[show IntKind.i64.wrap ((((i:Int)).tdiv 64))=((i/64:Nat):Int) from tdq (i) 64 (by omega)]
 refine xq 4 [yB 10 (decide (((i/64:Nat):Int)<((xs.length:Nat):Int)))] [] ?_
 rcases bl2 ((decide (((i/64:Nat):Int)<((xs.length:Nat):Int)))) with b|b
 ·rw[b]
  have g:=uC b
  have h:i/64<xs.length:=by omega
  refine xq 3 [eS1 11 A xs.length c,(13,.v (.int .i64 (IntKind.i64.wrap (((i:Int)).tdiv 64))))] [] ?_
  rw[show IntKind.i64.wrap ((((i:Int)).tdiv 64))=((i/64:Nat):Int) from tdq (i) 64 (by omega)]
  refine xqk 14 (atA A (i/64)) (fun w R Q=>ZaO (t:=77) (e:=94) (x:=.tmp 11) (ix:=.tmp 13) (len:=xs.length) (cap:=c) (i:=i/64) ((Q).ne (j:=i/64) (by omega)) (by omega)) ?_
  obtain⟨d,f⟩:=yE (xs[i/64]?.getD 0)
  refine xqk 15 (.int .u64 (d:Int)) (fun w R Q=>by rw[←f];exact ZaW (t:=94) (x:=.tmp 14) (Q) (j:=i/64) (by omega)) ?_
  refine xq 2 [yJ 17 (((i:Int)).tmod 64)] [] ?_
  rw[show ((i:Int)).tmod 64=((i%64:Nat):Int) from tdr (i) 64]
  refine xqk 18 (.int .u64 ((d/2^(i%64):Nat):Int)) (fun w R Q=>ZnO (t:=94) (x:=.tmp 15) (y:=.tmp 17) (k:=3) (ky:=.i64) (a:=d) (n:=(i%64)) (by omega)) ?_
  refine xqk 19 (.int .u64 (((d/2^(i%64))%2:Nat):Int)) (fun w R Q=>Zu2 (t:=94) (x:=.tmp 18) (y:=(Operand.const (Value.int IntKind.u64 1))) (k:=94) (a:=(d/2^(i%64))) (ha:=vL (uO _ _) (by rw[←f];exact l.getD Zan _))) ?_
  refine xq 1 [(20,.v (.bool (((((d/2^(i%64))%2:Nat):Int):Int) == 1)))] [] ?_
  rw[show ((((d/2^(i%64))%2:Nat):Int) == 1)=decide (val W64 xs/2^i%2=1) from (ZvW _).trans (by rw[Zu4 l h f])]
  refine xq 2 [yB 4 (decide (val W64 xs/2^i%2=1))] [] ?_
  refine xe (Zaa (Zaf ?_))
  refine yR (.bool (decide (val W64 xs/2^i%2=1))) fun w' R Q=>?_
  exact⟨rfl,R⟩
 rw[b]
 have g:=uD b
 have h:¬ i/64<xs.length:=by omega
 refine xq 12 [yB 4 false] [] ?_
 refine xe (Zaa (Zaf ?_))
 refine yR (.bool false) fun w' R Q=>?_
 exact⟨by rw[ZtL l h];rfl,R⟩
theorem Zu5 {xs ys:List Nat}{j x y:Nat}(c:j<xs.length)(d:j<ys.length)(h:xs.drop (j+1)=ys.drop (j+1))(a:xs[j]?.getD 0=x)(b:ys[j]?.getD 0=y)(e:x=y):xs.drop j=ys.drop j:=by
 subst e
 rw[tI c,tI d,h]
 rw[List.getElem?_eq_getElem c] at a
 rw[List.getElem?_eq_getElem d] at b
 simp only[sR] at a b
 rw[a,b]
theorem Zn0 (A d:Option Addr)(xs ys:List Nat)(c c2:Nat)(w:World)(S:Zah .u64 w A xs)(T:Zah .u64 w d ys)(V:xs.length≤4294967296)(G:Dig W64 xs)(H:Dig W64 ys)(I:Trim xs)(J:Trim ys) :
 yA 122 #[.slice A xs.length c,.slice d ys.length c2] w (RetV w (.int .i64 (cmpI ((val W64 xs:Nat):Int) ((val W64 ys:Nat):Int)))):=by
 refine Zax (Φ:=fun w=>(Zah .u64 w A xs∧Zah .u64 w d ys)) Tryz.func122 rfl (by kernel_rfl) (fun w' K=>⟨S.ext K,T.ext K⟩) ?_
 refine Zac (Zab (xq 1 [yJ 4 0] [] ?_))
 refine xe (Zaa (Zac (Zac (Zab (xq 5 [yB 10 ((((xs.length:Nat):Int):Int) != ((ys.length:Nat):Int))] [] ?_)))))
 refine xe (Zaa ?_)
 refine yQ (((((xs.length:Nat):Int):Int) != ((ys.length:Nat):Int))) (fun h=>?_) fun h=>?_
 ·have s:=Zc9 h
  refine Zac (Zac (Zab (xq 5 [yB 15 (decide (((xs.length:Nat):Int)<((ys.length:Nat):Int)))] [] ?_)))
  refine xe (Zaa ?_)
  refine yQ ((decide (((xs.length:Nat):Int)<((ys.length:Nat):Int)))) (fun l=>?_) fun l=>?_
  ·have u:=uC l
   refine Zac (Zab (xq 1 [yJ 4 (-1)] [] ?_))
   refine xe (Zaa (Zaf (Zae (Zae ?_))))
   refine yR (.int .i64 (-1)) fun w' R Q=>?_
   exact⟨by rw[←Zlv G H I J (by omega),ZcD (by omega)],R⟩
  have u:=uD l
  refine Zal (Zaa (Zac (Zab (xq 1 [yJ 4 1] [] ?_))))
  refine xe (Zaa (Zaf (Zae ?_)))
  refine yR (.int .i64 1) fun w' R Q=>?_
  exact⟨by rw[←Zlv G H I J (by omega),Zdd (by omega)],R⟩
 have s:=Zda h
 refine Zal (Zaa (Zac (Zac (Zab (xq 3 [yJ 18 (IntKind.i64.wrap (((xs.length:Nat):Int)-1))] [] ?_)))))
 rw[yW (((xs.length:Nat):Int)-1) (((xs.length:Nat):Int)-1) (by omega)]
 refine xq 1 [yJ 5 (((xs.length:Nat):Int)-1)] [] ?_
 refine xe (Zaa (ZaH ?_))
 refine yC [eS1 0 A xs.length c,eS1 1 d ys.length c2,yJ 4 0,yJ 5 (((xs.length:Nat):Int)-1)] [] (fun w=>(Zah .u64 w A (xs)∧Zah .u64 w d (ys))) (fun w Q=>⟨Q.1,Q.2⟩) ?_
 refine ZbI (fun L M O=>∃ (k:Nat),M=ofL [eS1 0 A xs.length c,eS1 1 d ys.length c2,yJ 4 0,yJ 5 ((k:Int)-1)] []∧O=(fun w=>(Zah .u64 w A (xs)∧Zah .u64 w d (ys)))∧(xs.drop k=ys.drop k)∧(k≤xs.length)∧L=(1+k)) ((1+xs.length)) ⟨xs.length,rfl,rfl,(by rw[uZ (uK _),uZ (by omega)]),uK _,rfl⟩ ?_
 rintro L M O ⟨k,rfl,rfl,D,W,rfl⟩
 refine Zac (Zac (Zab (xq 2 [(20,.v (.bool (decide (((k:Int)-1)≥0))))] [] ?_)))
 refine xe (Zaa ?_)
 refine yQ ((decide (((k:Int)-1)≥0))) (fun m=>?_) fun m=>?_
 ·have z:=uC m
  obtain⟨j,rfl⟩:∃ j,k=j+1:=⟨k-1,by omega⟩
  rw[show ((((j+1):Nat):Int)-1)=(j:Int) by omega]
  refine Zal (Zaa (Zac (ZaH (Zac ?_))))
  refine yO 9 Zam ?_
  refine xqf 2 [eS1 23 A xs.length c,yJ 24 (j:Int)] [] ?_
  refine xqj 25 (atA A j) (fun w Q=>ZaO (t:=77) (e:=94) (x:=.tmp 23) (ix:=.tmp 24) (len:=xs.length) (cap:=c) (i:=j) ((Q.1).ne (j:=j) (by omega)) (by omega)) ?_
  obtain⟨f,a⟩:=yE (xs[j]?.getD 0)
  refine xqj 26 (.int .u64 (f:Int)) (fun w Q=>by rw[←a];exact ZaW (t:=94) (x:=.tmp 25) (Q.1) (j:=j) (by omega)) ?_
  refine xqf 2 [eS1 27 d ys.length c2,yJ 28 (j:Int)] [] ?_
  refine xqj 29 (atA d j) (fun w Q=>ZaO (t:=77) (e:=94) (x:=.tmp 27) (ix:=.tmp 28) (len:=ys.length) (cap:=c2) (i:=j) ((Q.2).ne (j:=j) (by omega)) (by omega)) ?_
  obtain⟨g,b⟩:=yE (ys[j]?.getD 0)
  refine xqj 30 (.int .u64 (g:Int)) (fun w Q=>by rw[←b];exact ZaW (t:=94) (x:=.tmp 29) (Q.2) (j:=j) (by omega)) ?_
  refine xqf 1 [yB 31 (((f:Int):Int) != (g:Int))] [] ?_
  refine xz (xe (Zaa ?_))
  refine yQ ((((f:Int):Int) != (g:Int))) (fun n=>?_) fun n=>?_
  ·have B:=Zc9 n
   refine Zac (Zac ?_)
   refine yO 9 Zam ?_
   refine xqf 2 [eS1 32 A xs.length c,yJ 33 (j:Int)] [] ?_
   refine xqj 34 (atA A j) (fun w Q=>ZaO (t:=77) (e:=94) (x:=.tmp 32) (ix:=.tmp 33) (len:=xs.length) (cap:=c) (i:=j) ((Q.1).ne (j:=j) (by omega)) (by omega)) ?_
   obtain⟨E,q⟩:=yE (xs[j]?.getD 0)
   refine xqj 35 (.int .u64 (E:Int)) (fun w Q=>by rw[←q];exact ZaW (t:=94) (x:=.tmp 34) (Q.1) (j:=j) (by omega)) ?_
   obtain rfl:f=E:=by rw[←a,q]
   refine xqf 2 [eS1 36 d ys.length c2,yJ 37 (j:Int)] [] ?_
   refine xqj 38 (atA d j) (fun w Q=>ZaO (t:=77) (e:=94) (x:=.tmp 36) (ix:=.tmp 37) (len:=ys.length) (cap:=c2) (i:=j) ((Q.2).ne (j:=j) (by omega)) (by omega)) ?_
   obtain⟨F,r⟩:=yE (ys[j]?.getD 0)
   refine xqj 39 (.int .u64 (F:Int)) (fun w Q=>by rw[←r];exact ZaW (t:=94) (x:=.tmp 38) (Q.2) (j:=j) (by omega)) ?_
   obtain rfl:g=F:=by rw[←b,r]
   refine xqf 1 [yB 40 (decide ((f:Int)<(g:Int)))] [] ?_
   refine xz (xe (Zaa ?_))
   refine yQ ((decide ((f:Int)<(g:Int)))) (fun p=>?_) fun p=>?_
   ·have C:=uC p
    refine Zac (Zab (xq 1 [yJ 4 (-1)] [] ?_))
    refine xe (Zaa (Zaf (Zae (Zbn (Zae (Zae (Zbn (Zae ?_))))))))
    refine yR (.int .i64 (-1)) fun w' R Q=>?_
    exact⟨by rw[←Ziv G H (by omega) (k:=j) (by omega) D a b (by omega),ZcD (by omega)],R⟩
   have C:=uD p
   refine Zal (Zaa (Zac (Zab (xq 1 [yJ 4 1] [] ?_))))
   refine xe (Zaa (Zaf (Zbn (Zae (Zae (Zbn (Zae ?_)))))))
   refine yR (.int .i64 1) fun w' R Q=>?_
   exact⟨by rw[←Ziv G H (by omega) (k:=j) (by omega) D a b (by omega),Zdd (by omega)],R⟩
  have B:=Zda n
  have U:xs.drop j=ys.drop j:=Zu5 (by omega) (by omega) D a b (by omega)
  refine Zal (Zbk (Zaa (Zab (xq 2 [yJ 22 (IntKind.i64.wrap ((j:Int)-1))] [] ?_))))
  rw[yW ((j:Int)-1) ((j:Int)-1) (by omega)]
  refine xq 1 [yJ 5 ((j:Int)-1)] [] ?_
  refine xe ?_
  refine yP [eS1 0 A xs.length c,eS1 1 d ys.length c2,yJ 4 0,yJ 5 ((j:Int)-1)] [] (fun w=>(Zah .u64 w A (xs)∧Zah .u64 w d (ys))) (fun w Q=>⟨Q.1,Q.2⟩) ?_
  exact Za5 ((1+j)) (by omega) ⟨j,rfl,rfl,U,by omega,rfl⟩
 have z:=uD m
 obtain rfl:k=0:=by omega
 refine Zbt (Zaw (Zaw (ZbH (Zaa (Zac (Zab (xq 1 [yJ 4 0] [] ?_)))))))
 refine xe (Zaa (Zaf ?_))
 refine yR (.int .i64 0) fun w' R Q=>?_
 exact⟨by rw[tT,tT] at D;rw[D,ZgJ],R⟩
def ZvX (b:Nat) (xs:List Nat) (u:Nat) (w:World) (e:Ending) (w':World):Prop:=∃ qs,e=.returned (.int .u64 ((val W64 xs%u:Nat):Int))∧(qs.length=xs.length∧Dig W64 qs∧val W64 qs=val W64 xs/u)∧Fr (fun i=>i=b) w w'∧Own .u64 94 w' b qs
theorem Zg0 (b c:Nat)(xs:List Nat)(u:Nat)(w:World)(m:Own .u64 94 w b xs)(D:xs.length≤4294967296)(z:Dig W64 xs)(A:0<u)(n:u<W64) :
 yA 108 #[.slice (some ⟨b,0,none⟩) xs.length c,.int .u64 (u:Int)] w (ZvX b xs u w):=by
 refine Zch (fun i=>i=b) (Φ:=fun w=>Own .u64 94 w b xs) Tryz.func108 rfl (by kernel_rfl) (fun w' B=>m.ext B) ?_
 refine Zac (Zab (xq 1 [yU 4 0] [] ?_))
 refine xe (Zaa (Zac (Zab (xq 1 [yU 5 0] [] ?_))))
 refine xe (Zaa (Zac (Zac (Zab (xq 3 [yJ 9 (IntKind.i64.wrap (((xs.length:Nat):Int)-1))] [] ?_)))))
 rw[yW (((xs.length:Nat):Int)-1) (((xs.length:Nat):Int)-1) (by omega)]
 refine xq 1 [yJ 6 (((xs.length:Nat):Int)-1)] [] ?_
 refine xe (Zaa (ZaH ?_))
 refine yC [eS1 0 (some ⟨b,0,none⟩) xs.length c,yU 1 (u:Int),yU 4 0,yU 5 ((0:Nat):Int),yJ 6 (((xs.length:Nat):Int)-1)] [] (fun w=>Own .u64 94 w b (xs)) (fun w Q=>Q) ?_
 refine ZbI (fun p q s=>∃ (k:Nat) (r:Nat) (h:List Nat),q=ofL [eS1 0 (some ⟨b,0,none⟩) xs.length c,yU 1 (u:Int),yU 4 0,yU 5 (r:Int),yJ 6 ((k:Int)-1)] []∧s=(fun w=>Own .u64 94 w b (h))∧(DwR xs u k h r)∧(k≤xs.length)∧p=(1+k)) ((1+xs.length)) ⟨xs.length,0,xs,rfl,rfl,DwR.start z A,uK _,rfl⟩ ?_
 rintro p q s ⟨k,r,h,rfl,rfl,g,E,rfl⟩
 refine Zac (Zac (Zab (xq 2 [(11,.v (.bool (decide (((k:Int)-1)≥0))))] [] ?_)))
 refine xe (Zaa ?_)
 refine yQ ((decide (((k:Int)-1)≥0))) (fun f=>?_) fun f=>?_
 ·have l:=uC f
  obtain⟨j,rfl⟩:∃ j,k=j+1:=⟨k-1,by omega⟩
  rw[show ((((j+1):Nat):Int)-1)=(j:Int) by omega]
  have C:=g.1.1
  refine Zal (Zaa (Zac (ZaH (Zab (xq 5 [eS1 15 (some ⟨b,0,none⟩) xs.length c,yJ 16 (j:Int),yU 17 (r:Int),eS1 18 (some ⟨b,0,none⟩) xs.length c,yJ 19 (j:Int)] [] ?_)))))
  refine xqk 20 (.pointer (some ⟨b,j,none⟩)) (fun w R Q=>ZbJ (t:=77) (e:=94) (x:=.tmp 18) (ix:=.tmp 19) (len:=xs.length) (cap:=c) (i:=j) (by omega)) ?_
  obtain⟨a,d⟩:=yE (h[j]?.getD 0)
  refine xqk 21 (.int .u64 (a:Int)) (fun w R Q=>by rw[←d];exact Zdf (t:=94) (x:=.tmp 20) (Q) (j:=j) (by omega)) ?_
  refine xq 1 [yU 22 (u:Int)] [] ?_
  refine xqc 149 [.int .u64 (r:Int),.int .u64 (a:Int),.int .u64 (u:Int)] 23 (fun _:Unit=>.tuple #[.int .u64 ((divQ r a u:Nat):Int),.int .u64 ((divR r a u:Nat):Int)]) _ (fun w R Q=>yN (Zmu r a u _ g.1.2.2.1 n (by rw[←d];exact g.1.2.1.getD Zan _))) fun F=>?_
  refine xq 3 [yU 24 ((divQ r a u:Nat):Int),yU 25 ((divR r a u:Nat):Int)] [] ?_
  refine xqk 26 (.pointer (some ⟨b,j,none⟩)) (fun w R Q=>ZbJ (t:=77) (e:=94) (x:=.tmp 15) (ix:=.tmp 16) (len:=xs.length) (cap:=c) (i:=j) (by omega)) ?_
  refine Zcn (t:=94) (x:=.tmp 26) (y:=.tmp 24) b (j) (divQ r a u) (fun w=>(Own .u64 94 w b ((h).set (j) (divQ r a u))∧True)) (fun w Q=>Q.1) (by omega) (Or.inr rfl) (fun w w' Q G m=>⟨m,trivial⟩) ?_
  refine xq 1 [yU 5 ((divR r a u:Nat):Int)] [] ?_
  refine xe (Zbk (Zaa (Zab (xq 2 [yJ 13 (IntKind.i64.wrap ((j:Int)-1))] [] ?_))))
  rw[yW ((j:Int)-1) ((j:Int)-1) (by omega)]
  refine xq 1 [yJ 6 ((j:Int)-1)] [] ?_
  refine xe ?_
  refine yP [eS1 0 (some ⟨b,0,none⟩) xs.length c,yU 1 (u:Int),yU 4 0,yU 5 (((divR r a u):Nat):Int),yJ 6 ((j:Int)-1)] [] (fun w=>Own .u64 94 w b (((h).set (j) (divQ r a u)))) (fun w Q=>Q.1) ?_
  exact Za5 ((1+j)) (by omega) ⟨j,(divR r a u),((h).set (j) (divQ r a u)),rfl,rfl,(g.step (by omega) d (by rw[←d];exact g.1.2.1.getD Zan _)),by omega,rfl⟩
 have l:=uD f
 obtain rfl:k=0:=by omega
 refine Zbt (Zaw (Zaw (ZbH (Zaa (Zac (Zab (xq 2 [yU 4 (r:Int)] [] ?_)))))))
 refine xe (Zaa (Zaf ?_))
 refine yR (.int .u64 (r:Int)) fun w' R Q=>?_
 exact⟨h,by rw[g.1.done.2],⟨g.1.1,g.1.2.1,g.1.done.1⟩,R,Q⟩
def ZpR (b:Nat) (w:World) (p:List Nat→Nat→Prop) (e:Ending) (w':World):Prop:=∃ x:List Nat × Nat,e=.returned (.bool (((x.2:Nat):Int) == 1))∧p x.1 x.2∧Fr (fun i=>i=b) w w'∧Own .u64 94 w' b x.1
theorem Zn1 (b c o:Nat)(m ys:List Nat)(A:Option Addr)(c2:Nat)(w:World)(C:Own .u64 94 w b m)(S:Zah .u64 w A ys)(J:∀ a,A=some a→a.block≠b)(U:o+ys.length<m.length)(V:m.length≤4294967296)(T:Dig W64 m)(D:Dig W64 ys)(q:Nat)(E:q<W64) :
 yA 199 #[.slice (some ⟨b,o,none⟩) (ys.length+1) c,.slice A ys.length c2,.int .u64 (q:Int)] w (ZpR b w (ZiU m ys q o)):=by
 refine Zch (fun i=>i=b) (Φ:=fun w=>(Own .u64 94 w b m∧Zah .u64 w A ys)) Tryz.func199 rfl (by kernel_rfl) (fun w' K=>⟨C.ext K,S.ext K⟩) ?_
 refine Zac (Zab (xq 1 [yB 6 false] [] ?_))
 refine xe (Zaa (Zac (Zab (xq 2 [yU 7 0,yU 8 0] [] ?_))))
 refine xe (Zaa (Zac (Zac (Zab (xq 3 [eS1 14 A ys.length c2,yJ 15 ((ys.length:Nat):Int),yJ 16 0] [] ?_)))))
 refine xe (Zaa (ZaH ?_))
 refine yC [eS1 0 (some ⟨b,o,none⟩) (ys.length+1) c,eS1 1 A ys.length c2,yU 2 (q:Int),yB 6 false,yU 7 ((0:Nat):Int),yU 8 ((0:Nat):Int),eS1 14 A ys.length c2,yJ 15 ((ys.length:Nat):Int),yJ 16 ((0:Nat):Int)] [] (fun w=>(Own .u64 94 w b (m)∧Zah .u64 w A (ys))) (fun w Q=>⟨Q.1,Q.2⟩) ?_
 refine ZbI (fun L M O=>∃ (f g k:Nat) (r:List Nat),M=ofL [eS1 0 (some ⟨b,o,none⟩) (ys.length+1) c,eS1 1 A ys.length c2,yU 2 (q:Int),yB 6 false,yU 7 (f:Int),yU 8 (g:Int),eS1 14 A ys.length c2,yJ 15 ((ys.length:Nat):Int),yJ 16 (k:Int)] []∧O=(fun w=>(Own .u64 94 w b (r)∧Zah .u64 w A (ys)))∧(SpR m ys q o k r f g)∧(k≤ys.length)∧L=(ys.length-k)) ((ys.length-0)) ⟨0,0,0,m,rfl,rfl,SpR.start ys q o T,by omega,rfl⟩ ?_
 rintro L M O ⟨f,g,k,r,rfl,rfl,z,W,rfl⟩
 refine Zac (Zab (xq 1 [yB 17 (decide ((k:Int)<((ys.length:Nat):Int)))] [] ?_))
 refine xe (Zaa (Zac ?_))
 refine yQ ((decide ((k:Int)<((ys.length:Nat):Int)))) (fun p=>?_) fun p=>?_
 ·have B:=uC p
  have F:=z.1
  have G:=z.2.2.2.1
  refine Zal (Zaa (Zac (ZaH (Zac (Zab (xq 1 [yJ 18 (k:Int)] [] ?_))))))
  refine xqk 19 (atA A k) (fun w R Q=>ZaO (t:=77) (e:=94) (x:=.tmp 14) (ix:=.tmp 16) (len:=ys.length) (cap:=c2) (i:=k) ((Q.2).ne (j:=k) (by omega)) (by omega)) ?_
  obtain⟨d,n⟩:=yE (ys[k]?.getD 0)
  refine xqk 20 (.int .u64 (d:Int)) (fun w R Q=>by rw[←n];exact ZaW (t:=94) (x:=.tmp 19) (Q.2) (j:=k) (by omega)) ?_
  refine xq 2 [yJ 9 (k:Int),yU 10 (d:Int)] [] ?_
  refine xe (Zaa (Zac (Zab (xq 2 [yU 22 (d:Int),yU 23 (q:Int)] [] ?_))))
  refine xqc 145 [.int .u64 (d:Int),.int .u64 (q:Int)] 24 (fun _:Unit=>.tuple #[.int .u64 ((Za9 d q:Nat):Int),.int .u64 ((ZaB d q:Nat):Int)]) _ (fun w R Q=>yN (ZiO d q _ (by rw[←n];exact D.getD Zan _) E)) fun X=>?_
  refine xq 5 [yU 11 ((Za9 d q:Nat):Int),yU 12 ((ZaB d q:Nat):Int)] [] ?_
  refine xe (Zaa (Zac (Zab (xq 2 [yU 28 ((ZaB d q:Nat):Int),yU 29 (f:Int)] [] ?_))))
  refine xqk 30 (.tuple #[.int .u64 ((ZaI (ZaB d q) f 0:Nat):Int),.int .u64 ((ZaM (ZaB d q) f 0:Nat):Int)]) (fun w R Q=>ZdL (args:=[Operand.tmp 28,Operand.tmp 29,Operand.const (Value.int IntKind.u64 0)]) (ts:=#[94,94,94]) (Zdr (ZaB d q) f 0 (by omega) w)) ?_
  refine xq 5 [yU 12 ((ZaI (ZaB d q) f 0:Nat):Int),yU 13 ((ZaM (ZaB d q) f 0:Nat):Int)] [] ?_
  refine xe (Zaa (Zac (Zab (xq 3 [(35,.v (.int .u64 (IntKind.u64.wrap (((Za9 d q:Nat):Int)+((ZaM (ZaB d q) f 0:Nat):Int)))))] [] ?_))))
  rw[Zk7 (a:=Za9 d q) (b:=ZaM (ZaB d q) f 0) (ZnZ (by rw[←n];exact D.getD Zan _) E z.2.2.1)]
  refine xq 1 [yU 7 ((Za9 d q+ZaM (ZaB d q) f 0:Nat):Int)] [] ?_
  refine xe (Zaa (Zab (xq 4 [eS1 37 (some ⟨b,o,none⟩) (ys.length+1) c,yJ 38 (k:Int),eS1 39 (some ⟨b,o,none⟩) (ys.length+1) c,yJ 40 (k:Int)] [] ?_)))
  refine xqk 41 (.pointer (some ⟨b,o+k,none⟩)) (fun w R Q=>ZcE (t:=77) (e:=94) (x:=.tmp 39) (ix:=.tmp 40) (len:=(ys.length+1)) (cap:=c) (i:=k) (by omega)) ?_
  obtain⟨h,s⟩:=yE (r[o+k]?.getD 0)
  refine xqk 42 (.int .u64 (h:Int)) (fun w R Q=>by rw[←s];exact Zdf (t:=94) (x:=.tmp 41) (Q.1.1) (j:=o+k) (by omega)) ?_
  refine xq 2 [yU 43 ((ZaI (ZaB d q) f 0:Nat):Int),yU 44 (g:Int)] [] ?_
  refine xqk 45 (.tuple #[.int .u64 ((ZbC h (ZaI (ZaB d q) f 0) g:Nat):Int),.int .u64 ((ZbD h (ZaI (ZaB d q) f 0) g:Nat):Int)]) (fun w R Q=>ZdL (args:=[Operand.tmp 42,Operand.tmp 43,Operand.tmp 44]) (ts:=#[94,94,94]) (Zds h (ZaI (ZaB d q) f 0) g (by omega) w)) ?_
  refine xq 3 [yU 46 ((ZbC h (ZaI (ZaB d q) f 0) g:Nat):Int),yU 47 ((ZbD h (ZaI (ZaB d q) f 0) g:Nat):Int)] [] ?_
  refine xqk 48 (.pointer (some ⟨b,o+k,none⟩)) (fun w R Q=>ZcE (t:=77) (e:=94) (x:=.tmp 37) (ix:=.tmp 38) (len:=(ys.length+1)) (cap:=c) (i:=k) (by omega)) ?_
  refine Zcn (t:=94) (x:=.tmp 48) (y:=.tmp 46) b (o+k) (ZbC h (ZaI (ZaB d q) f 0) g) (fun w=>((Own .u64 94 w b ((r).set (o+k) (ZbC h (ZaI (ZaB d q) f 0) g))∧Zah .u64 w A (ys))∧True)) (fun w Q=>Q.1.1) (by omega) (Or.inr rfl) (fun w w' Q H C=>⟨⟨C,((Q.1.2).fr H (fun a I _=>J a I))⟩,trivial⟩) ?_
  refine xr 1 [eS1 0 (some ⟨b,o,none⟩) (ys.length+1) c,eS1 1 A ys.length c2,yU 2 (q:Int),yB 6 false,yU 7 ((Za9 d q+ZaM (ZaB d q) f 0:Nat):Int),yU 8 ((ZbD h (ZaI (ZaB d q) f 0) g:Nat):Int),eS1 14 A ys.length c2,yJ 15 ((ys.length:Nat):Int),yJ 16 (k:Int)] [] ?_
  refine xe (Zbk (Zaa (Zab (xq 1 [yJ 49 (IntKind.i64.wrap ((k:Int)+1))] [] ?_))))
  rw[yW ((k:Int)+1) (((k+1:Nat):Int)) (by omega)]
  refine xq 1 [yJ 16 ((k+1:Nat):Int)] [] ?_
  refine xe ?_
  refine yP [eS1 0 (some ⟨b,o,none⟩) (ys.length+1) c,eS1 1 A ys.length c2,yU 2 (q:Int),yB 6 false,yU 7 (((Za9 d q+ZaM (ZaB d q) f 0):Nat):Int),(8,.v (.int .u64 (((ZbD h (ZaI (ZaB d q) f 0) g):Nat):Int))),eS1 14 A ys.length c2,yJ 15 ((ys.length:Nat):Int),yJ 16 (((k+1):Nat):Int)] [] (fun w=>(Own .u64 94 w b (((r).set (o+k) (ZbC h (ZaI (ZaB d q) f 0) g)))∧Zah .u64 w A (ys))) (fun w Q=>⟨Q.1.1,Q.1.2⟩) ?_
  exact Za5 ((ys.length-(k+1))) (by omega) ⟨(Za9 d q+ZaM (ZaB d q) f 0),(ZbD h (ZaI (ZaB d q) f 0) g),(k+1),((r).set (o+k) (ZbC h (ZaI (ZaB d q) f 0) g)),rfl,rfl,(z.step (by omega) n s D E),by omega,rfl⟩
 have B:=uD p
 have F:=z.1
 have G:=z.2.2.2.1
 obtain rfl:k=ys.length:=by omega
 refine Zbt (Zaw (Zaw (ZbH (Zaa (Zac (Zab (xq 6 [eS1 51 (some ⟨b,o,none⟩) (ys.length+1) c,yJ 53 ((ys.length:Nat):Int),eS1 54 (some ⟨b,o,none⟩) (ys.length+1) c,yJ 56 ((ys.length:Nat):Int)] [] ?_)))))))
 refine xqk 57 (.pointer (some ⟨b,o+ys.length,none⟩)) (fun w R Q=>ZcE (t:=77) (e:=94) (x:=.tmp 54) (ix:=.tmp 56) (len:=(ys.length+1)) (cap:=c) (i:=ys.length) (by omega)) ?_
 obtain⟨l,u⟩:=yE (r[o+ys.length]?.getD 0)
 refine xqk 58 (.int .u64 (l:Int)) (fun w R Q=>by rw[←u];exact Zdf (t:=94) (x:=.tmp 57) (Q.1) (j:=o+ys.length) (by omega)) ?_
 refine xq 2 [yU 59 (f:Int),yU 60 (g:Int)] [] ?_
 refine xqk 61 (.tuple #[.int .u64 ((ZbC l f g:Nat):Int),.int .u64 ((ZbD l f g:Nat):Int)]) (fun w R Q=>ZdL (args:=[Operand.tmp 58,Operand.tmp 59,Operand.tmp 60]) (ts:=#[94,94,94]) (Zds l f g (by omega) w)) ?_
 refine xq 3 [yU 62 ((ZbC l f g:Nat):Int),yU 63 ((ZbD l f g:Nat):Int)] [] ?_
 refine xqk 64 (.pointer (some ⟨b,o+ys.length,none⟩)) (fun w R Q=>ZcE (t:=77) (e:=94) (x:=.tmp 51) (ix:=.tmp 53) (len:=(ys.length+1)) (cap:=c) (i:=ys.length) (by omega)) ?_
 refine Zcn (t:=94) (x:=.tmp 64) (y:=.tmp 62) b (o+ys.length) (ZbC l f g) (fun w=>(Own .u64 94 w b ((r).set (o+ys.length) (ZbC l f g))∧Zah .u64 w A (ys))) (fun w Q=>Q.1) (by omega) (Or.inr rfl) (fun w w' Q H C=>⟨C,((Q.2).fr H (fun a I _=>J a I))⟩) ?_
 refine xq 1 [yU 8 ((ZbD l f g:Nat):Int)] [] ?_
 refine xe (Zaa (Zac (Zab (xq 3 [yB 6 ((((ZbD l f g:Nat):Int):Int) == 1)] [] ?_))))
 refine xe (Zaa (Zaf ?_))
 refine yR (.bool ((((ZbD l f g:Nat):Int):Int) == 1)) fun w' R Q=>?_
 exact⟨(_,_),rfl,z.done (by omega) u,R,Q.1⟩
theorem Zn2 (b c o:Nat)(l ys:List Nat)(A:Option Addr)(c2:Nat)(w:World)(v:Own .u64 94 w b l)(J:Zah .u64 w A ys)(E:∀ a,A=some a→a.block≠b)(M:o+ys.length<l.length)(O:l.length≤4294967296)(K:Dig W64 l)(L:Dig W64 ys) :
 yA 200 #[.slice (some ⟨b,o,none⟩) (ys.length+1) c,.slice A ys.length c2] w (ZpR b w (ZiV l ys o)):=by
 refine Zch (fun i=>i=b) (Φ:=fun w=>(Own .u64 94 w b l∧Zah .u64 w A ys)) Tryz.func200 rfl (by kernel_rfl) (fun w' F=>⟨v.ext F,J.ext F⟩) ?_
 refine Zac (Zab (xq 1 [yB 4 false] [] ?_))
 refine xe (Zaa (Zac (Zab (xq 1 [yU 5 0] [] ?_))))
 refine xe (Zaa (Zac (Zac (Zab (xq 3 [eS1 8 A ys.length c2,yJ 9 ((ys.length:Nat):Int),yJ 10 0] [] ?_)))))
 refine xe (Zaa (ZaH ?_))
 refine yC [eS1 0 (some ⟨b,o,none⟩) (ys.length+1) c,eS1 1 A ys.length c2,yB 4 false,yU 5 ((0:Nat):Int),eS1 8 A ys.length c2,yJ 9 ((ys.length:Nat):Int),yJ 10 ((0:Nat):Int)] [] (fun w=>(Own .u64 94 w b (l)∧Zah .u64 w A (ys))) (fun w Q=>⟨Q.1,Q.2⟩) ?_
 refine ZbI (fun G H I=>∃ (f k:Nat) (n:List Nat),H=ofL [eS1 0 (some ⟨b,o,none⟩) (ys.length+1) c,eS1 1 A ys.length c2,yB 4 false,yU 5 (f:Int),eS1 8 A ys.length c2,yJ 9 ((ys.length:Nat):Int),yJ 10 (k:Int)] []∧I=(fun w=>(Own .u64 94 w b (n)∧Zah .u64 w A (ys)))∧(AbR l ys o k n f)∧(k≤ys.length)∧G=(ys.length-k)) ((ys.length-0)) ⟨0,0,l,rfl,rfl,AbR.start ys o K,by omega,rfl⟩ ?_
 rintro G H I ⟨f,k,n,rfl,rfl,u,S,rfl⟩
 refine Zac (Zab (xq 1 [yB 11 (decide ((k:Int)<((ys.length:Nat):Int)))] [] ?_))
 refine xe (Zaa (Zac ?_))
 refine yQ ((decide ((k:Int)<((ys.length:Nat):Int)))) (fun m=>?_) fun m=>?_
 ·have s:=uC m
  have z:=u.1
  have B:=u.2.2.1
  refine Zal (Zaa (Zac (ZaH (Zac (Zab (xq 1 [yJ 12 (k:Int)] [] ?_))))))
  refine xqk 13 (atA A k) (fun w R Q=>ZaO (t:=77) (e:=94) (x:=.tmp 8) (ix:=.tmp 10) (len:=ys.length) (cap:=c2) (i:=k) ((Q.2).ne (j:=k) (by omega)) (by omega)) ?_
  obtain⟨d,p⟩:=yE (ys[k]?.getD 0)
  refine xqk 14 (.int .u64 (d:Int)) (fun w R Q=>by rw[←p];exact ZaW (t:=94) (x:=.tmp 13) (Q.2) (j:=k) (by omega)) ?_
  refine xq 2 [yJ 6 (k:Int),yU 7 (d:Int)] [] ?_
  refine xe (Zaa (Zab (xq 4 [eS1 16 (some ⟨b,o,none⟩) (ys.length+1) c,yJ 17 (k:Int),eS1 18 (some ⟨b,o,none⟩) (ys.length+1) c,yJ 19 (k:Int)] [] ?_)))
  refine xqk 20 (.pointer (some ⟨b,o+k,none⟩)) (fun w R Q=>ZcE (t:=77) (e:=94) (x:=.tmp 18) (ix:=.tmp 19) (len:=(ys.length+1)) (cap:=c) (i:=k) (by omega)) ?_
  obtain⟨g,q⟩:=yE (n[o+k]?.getD 0)
  refine xqk 21 (.int .u64 (g:Int)) (fun w R Q=>by rw[←q];exact Zdf (t:=94) (x:=.tmp 20) (Q.1) (j:=o+k) (by omega)) ?_
  refine xq 2 [yU 22 (d:Int),yU 23 (f:Int)] [] ?_
  refine xqk 24 (.tuple #[.int .u64 ((ZaI g d f:Nat):Int),.int .u64 ((ZaM g d f:Nat):Int)]) (fun w R Q=>ZdL (args:=[Operand.tmp 21,Operand.tmp 22,Operand.tmp 23]) (ts:=#[94,94,94]) (Zdr g d f (by omega) w)) ?_
  refine xq 3 [yU 25 ((ZaI g d f:Nat):Int),yU 26 ((ZaM g d f:Nat):Int)] [] ?_
  refine xqk 27 (.pointer (some ⟨b,o+k,none⟩)) (fun w R Q=>ZcE (t:=77) (e:=94) (x:=.tmp 16) (ix:=.tmp 17) (len:=(ys.length+1)) (cap:=c) (i:=k) (by omega)) ?_
  refine Zcn (t:=94) (x:=.tmp 27) (y:=.tmp 25) b (o+k) (ZaI g d f) (fun w=>(Own .u64 94 w b ((n).set (o+k) (ZaI g d f))∧Zah .u64 w A (ys))) (fun w Q=>Q.1) (by omega) (Or.inr rfl) (fun w w' Q C v=>⟨v,((Q.2).fr C (fun a D _=>E a D))⟩) ?_
  refine xq 1 [yU 5 ((ZaM g d f:Nat):Int)] [] ?_
  refine xe (Zbk (Zaa (Zab (xq 1 [yJ 28 (IntKind.i64.wrap ((k:Int)+1))] [] ?_))))
  rw[yW ((k:Int)+1) (((k+1:Nat):Int)) (by omega)]
  refine xq 1 [yJ 10 ((k+1:Nat):Int)] [] ?_
  refine xe ?_
  refine yP [eS1 0 (some ⟨b,o,none⟩) (ys.length+1) c,eS1 1 A ys.length c2,yB 4 false,yU 5 (((ZaM g d f):Nat):Int),eS1 8 A ys.length c2,yJ 9 ((ys.length:Nat):Int),yJ 10 (((k+1):Nat):Int)] [] (fun w=>(Own .u64 94 w b (((n).set (o+k) (ZaI g d f)))∧Zah .u64 w A (ys))) (fun w Q=>⟨Q.1,Q.2⟩) ?_
  exact Za5 ((ys.length-(k+1))) (by omega) ⟨(ZaM g d f),(k+1),((n).set (o+k) (ZaI g d f)),rfl,rfl,(u.step (by omega) p q L),by omega,rfl⟩
 have s:=uD m
 have z:=u.1
 have B:=u.2.2.1
 obtain rfl:k=ys.length:=by omega
 refine Zbt (Zaw (Zaw (ZbH (Zaa (Zac (Zab (xq 6 [eS1 30 (some ⟨b,o,none⟩) (ys.length+1) c,yJ 32 ((ys.length:Nat):Int),eS1 33 (some ⟨b,o,none⟩) (ys.length+1) c,yJ 35 ((ys.length:Nat):Int)] [] ?_)))))))
 refine xqk 36 (.pointer (some ⟨b,o+ys.length,none⟩)) (fun w R Q=>ZcE (t:=77) (e:=94) (x:=.tmp 33) (ix:=.tmp 35) (len:=(ys.length+1)) (cap:=c) (i:=ys.length) (by omega)) ?_
 obtain⟨h,r⟩:=yE (n[o+ys.length]?.getD 0)
 refine xqk 37 (.int .u64 (h:Int)) (fun w R Q=>by rw[←r];exact Zdf (t:=94) (x:=.tmp 36) (Q.1) (j:=o+ys.length) (by omega)) ?_
 refine xq 1 [yU 38 (f:Int)] [] ?_
 refine xqk 39 (.tuple #[.int .u64 ((ZaI h 0 f:Nat):Int),.int .u64 ((ZaM h 0 f:Nat):Int)]) (fun w R Q=>ZdL (args:=[Operand.tmp 37,Operand.const (Value.int IntKind.u64 0),Operand.tmp 38]) (ts:=#[94,94,94]) (Zdr h 0 f (by omega) w)) ?_
 refine xq 3 [yU 40 ((ZaI h 0 f:Nat):Int),yU 41 ((ZaM h 0 f:Nat):Int)] [] ?_
 refine xqk 42 (.pointer (some ⟨b,o+ys.length,none⟩)) (fun w R Q=>ZcE (t:=77) (e:=94) (x:=.tmp 30) (ix:=.tmp 32) (len:=(ys.length+1)) (cap:=c) (i:=ys.length) (by omega)) ?_
 refine Zcn (t:=94) (x:=.tmp 42) (y:=.tmp 40) b (o+ys.length) (ZaI h 0 f) (fun w=>(Own .u64 94 w b ((n).set (o+ys.length) (ZaI h 0 f))∧Zah .u64 w A (ys))) (fun w Q=>Q.1) (by omega) (Or.inr rfl) (fun w w' Q C v=>⟨v,((Q.2).fr C (fun a D _=>E a D))⟩) ?_
 refine xq 1 [yU 5 ((ZaM h 0 f:Nat):Int)] [] ?_
 refine xe (Zaa (Zac (Zab (xq 3 [yB 4 ((((ZaM h 0 f:Nat):Int):Int) == 1)] [] ?_))))
 refine xe (Zaa (Zaf ?_))
 refine yR (.bool ((((ZaM h 0 f:Nat):Int):Int) == 1)) fun w' R Q=>?_
 exact⟨(_,_),rfl,u.done (by omega) r,R,Q.1⟩
noncomputable def win (o n:Nat) (zs:List Nat):Nat:=val W64 ((zs.drop o).take (n+1))
theorem Zfy {o n:Nat}{zs:List Nat}(h:o≤zs.length):val W64 (zs.take (o+n+1))=val W64 (zs.take o)+W64^o*win o n zs:=by
 unfold win
 rw[show o+n+1=o+(n+1) by omega,List.take_add,ZbX,vC,uW h]
theorem Zsg {o n:Nat}{a:List Nat}(b:Dig W64 a):win o n a<W64^(n+1):=by
 have:=ZaV ((b.drop o).take (n+1))
 refine uY this (vF Zan (by rw[vC];exact Nat.min_le_left _ _))
def WinR (o n:Nat) (zs0 zs:List Nat):Prop:=zs.length=zs0.length∧Dig W64 zs∧zs.take o=zs0.take o∧zs.drop (o+n+1)=zs0.drop (o+n+1)
theorem WinR.start {o n:Nat}{zs0:List Nat}(h:Dig W64 zs0):WinR o n zs0 zs0:=⟨rfl,h,rfl,rfl⟩
theorem Zlb {o a b c d x:Nat}(h:x+W64^o*a+W64^o*b=x+W64^o*c+W64^o*d):a+b=c+d:=by
 have e:W64^o*(a+b)=W64^o*(c+d):=by rw[uL,uL];omega
 exact Nat.eq_of_mul_eq_mul_left (uU Zan) e
theorem ZiU.win {a c ys d:List Nat}{q o b:Nat}(h:ZiU c ys q o d b)(r:o≤a.length)(k:WinR o ys.length a c):WinR o ys.length a d∧b≤1∧win o ys.length d+q*val W64 ys=win o ys.length c+W64^(ys.length+1)*b:=by
 obtain⟨g,i,j,e,l,f⟩:=h
 obtain⟨m,s,n,p⟩:=k
 refine⟨⟨g.trans m,i,e.trans n,l.trans p⟩,j,?_⟩
 rw[Zfy (by omega),Zfy (by omega),e,show o+ys.length+1=o+(ys.length+1) by omega,uT,uF (W64^o)] at f
 exact Zlb f
theorem ZiV.win {a b ys d:List Nat}{o c:Nat}(h:ZiV b ys o d c)(q:o≤a.length)(k:WinR o ys.length a b):WinR o ys.length a d∧c≤1∧win o ys.length d+W64^(ys.length+1)*c=win o ys.length b+val W64 ys:=by
 obtain⟨g,i,j,e,l,f⟩:=h
 obtain⟨m,r,n,p⟩:=k
 refine⟨⟨g.trans m,i,e.trans n,l.trans p⟩,j,?_⟩
 rw[Zfy (by omega),Zfy (by omega),e,show o+ys.length+1=o+(ys.length+1) by omega,uT,uF (W64^o)] at f
 exact Zlb f
theorem Zu6 {o n:Nat}{a:List Nat}{u0 u1 u2:Nat}(f:2≤n)(h:o+n<a.length)(d:a[o+n]?.getD 0=u0)(b:a[o+(n-1)]?.getD 0=u1)(c:a[o+(n-2)]?.getD 0=u2)(e:Dig W64 a) :
 ∃ l,l<W64^(n-2)∧win o n a=l+W64^(n-2)*(u2+W64*(u1+W64*u0)):=by
 obtain⟨m,rfl⟩:∃ m,n=m+2:=⟨n-2,by omega⟩
 refine⟨val W64 ((a.drop o).take m),?_,?_⟩
 ·have:=ZaV ((e.drop o).take m)
  rw[vC,vX,uW (by omega)] at this
  exact this
 unfold win
 simp only[show m+2-1=m+1 by omega,show m+2-2=m by omega] at b c ⊢
 have g:∀ j,(a.drop o)[j]?.getD 0=a[o+j]?.getD 0:=fun j=>by rw[List.getElem?_drop]
 rw[Zby (m+2),Zby (m+1),Zby m,g,g,g,d,b,c]
 simp only[uS,uL,uF,tQ]
theorem Zu7 {n:Nat}{ys:List Nat}{t v2:Nat}(c:2≤n)(d:ys.length=n)(a:ys[n-1]?.getD 0=t)(b:ys[n-2]?.getD 0=v2):∃ l,val W64 ys=l+W64^(n-2)*(v2+W64*t):=by
 obtain⟨m,rfl⟩:∃ m,n=m+2:=⟨n-2,by omega⟩
 refine⟨val W64 (ys.take m),?_⟩
 simp only[show m+2-1=m+1 by omega,show m+2-2=m by omega] at a b ⊢
 have:=Zby (B:=W64) (xs:=ys) (m+1)
 rw[uB (by omega),Zby m,a,b,uS] at this
 rw[this]
 simp only[uL,uF,tQ]
theorem ZtN {B l U V a u0 u1 u2 v2 t:Nat}(f:l<B)(g:U=l+B*(u2+W64*(u1+W64*u0)))(b:V=a+B*(v2+W64*t))(h:u2<W64)(c:0<t):U/V≤divQ u0 u1 t:=by
 unfold divQ
 rw[rT c]
 have i:=rY U V
 generalize U/V=q at *
 have j:q*(B*(W64*t))≤q*V:=uI _ (by rw[b,uL];omega)
 have d:B*(q*(W64*t))<B*(u2+W64*(u1+W64*u0)+1):=by
  rw[vW,uL B (_+_) 1];omega
 have k:=tX d
 have e:W64*(q*t)<W64*(u1+W64*u0+1):=by
  rw[vW,uL W64 (_+_) 1];omega
 have m:=tX e
 rw[uG u0];omega
theorem Zlc {B l U V b u0 u1 u2 v2 t g r:Nat}(j:l<B)(k:U=l+B*(u2+W64*(u1+W64*u0)))(c:V=b+B*(v2+W64*t))(d:r+g*t=u0*W64+u1)(h:r*W64+u2<g*v2)(a:0<V):U/V+1≤g:=by
 rw[Nat.add_one_le_iff,vH a]
 have f:u2+W64*(u1+W64*u0)+1≤g*(v2+W64*t):=by
  have e:W64*(r+g*t)=W64*(u1+W64*u0):=by rw[d,vK,uG u0]
  rw[uL g,vW g]
  rw[uL W64 r] at e
  rw[uG r] at h
  omega
 have i:B*(u2+W64*(u1+W64*u0)+1)≤g*V:=by
  refine uA (uI B f) ?_
  rw[vW,c]
  exact uI _ (by omega)
 rw[uL B (_+_) 1] at i
 omega
theorem Zsh {U V:Nat}(h:U<W64*V):U/V≤W64-1:=by
 have a:0<V:=sQ (fun e=>by subst e;omega)
 have:=(vH a).2 h
 omega
theorem ZpS {hi lo r u g v:Nat}(h:lo+W64*hi=g*v)(b:¬ hi<r)(c:hi=r→¬ lo≤u)(d:u<W64):r*W64+u<g*v:=by
 rw[←h,uG r]
 rcases qK hi r with a|a|a
 ·exact absurd a b
 ·have:=c a;subst a;omega
 have:=uI W64 a
 rw[Nat.mul_succ] at this
 omega
def CorR (U V P:Nat) (g b wn:Nat):Prop:=b≤1∧wn<P∧U/V≤g∧wn+g*V=U+P*b
theorem CorR.pos {U V P g b a:Nat}(h:CorR U V P g b a)(c:b=1)(d:0<V):U/V+1≤g:=by
 obtain⟨_,e,_,f⟩:=h
 subst c
 rw[Nat.add_one_le_iff,vH d]
 omega
theorem CorR.step {U V P g b d wn' c:Nat}(h:CorR U V P g b d)(e:b=1)(i:0<V)(l:c≤1)(j:wn'<P)(f:wn'+P*c=d+V):CorR U V P (g-1) (1-c) wn':=by
 have m:=h.pos e i
 obtain⟨n,o,p,a⟩:=h
 subst e
 unfold CorR
 generalize U/V=q at *
 refine⟨by omega,j,by omega,?_⟩
 obtain⟨k,rfl⟩:∃ k,g=k+1:=⟨g-1,by omega⟩
 rw[tE]
 rw[vE] at a
 rcases (by omega:c=0∨c=1) with rfl|rfl
 ·simp at f a ⊢;omega
 simp at f a ⊢;omega
theorem CorR.done {U V P g a:Nat}(h:CorR U V P g 0 a)(b:0<V):g=U/V∧a=U%V:=by
 obtain⟨d,f,i,c⟩:=h
 rw[tL,vV] at c
 have j:g≤U/V:=by rw[rT b];omega
 have e:g=U/V:=by omega
 refine⟨e,?_⟩
 have:=vS U V
 rw[←e,uG] at this
 omega
theorem Zwy:(18446744073709551615:Int)=((W64-1:Nat):Int):=by rw[Zao];rfl
theorem Zup {a b:Nat}(h:¬ a+b<W64)(ha:a<W64)(c:b<W64):IntKind.u64.wrap ((a:Int)+(b:Int))=((a+b-W64:Nat):Int):=by
 rw[IntKind.wrap_u64]
 rw[Zao] at *
 omega
theorem Zu8 {c:Nat}(h:c≤1):(!((c:Int) == 1))=(((1-c:Nat):Int) == 1):=by
 rcases (by omega:c=0∨c=1) with rfl|rfl<;>rfl
def ZvY (b o:Nat) (zs0 ys:List Nat) (w:World) (e:Ending) (w':World):Prop:=∃ zs,e=.returned (.int .u64 ((win o ys.length zs0/val W64 ys:Nat):Int))∧(WinR o ys.length zs0 zs∧win o ys.length zs=win o ys.length zs0%val W64 ys)∧Fr (fun i=>i=b) w w'∧Own .u64 94 w' b zs
theorem Zld (b c o:Nat)(g ys:List Nat)(A:Option Addr)(c2:Nat)(w:World)(hO:Own .u64 94 w b g)(hY:Zah .u64 w A ys)(hA:∀ a,A=some a→a.block≠b)(ho:o+ys.length<g.length)(hl:g.length≤4294967296)(O:Dig W64 g)(hy:Dig W64 ys)(q0:2≤ys.length)(C:0<val W64 ys)(r0:win o ys.length g<W64*val W64 ys) :
 yA 175 #[.slice (some ⟨b,o,none⟩) (ys.length+1) c,.slice A ys.length c2] w (ZvY b o g ys w):=by
 obtain⟨u2,D⟩:=yE (g[o+(ys.length-2)]?.getD 0)
 refine Zch (fun i=>i=b) (Φ:=fun w=>(Own .u64 94 w b g∧Zah .u64 w A ys)) Tryz.func175 rfl (by kernel_rfl) (fun w' hf=>⟨hO.ext hf,hY.ext hf⟩) ?_
 refine Zac (Zab (xq 1 [yU 4 0] [] ?_))
 refine xe (Zaa (Zac (Zab (xq 3 [yJ 5 ((ys.length:Nat):Int)] [] ?_))))
 refine xe (Zaa (Zac (Zab (xq 3 [eS1 14 A ys.length c2,yJ 16 (IntKind.i64.wrap (((ys.length:Nat):Int)-1))] [] ?_))))
 rw[yW (((ys.length:Nat):Int)-1) (((ys.length-1:Nat):Int)) (by omega)]
 refine xqk 17 (atA A (ys.length-1)) (fun w R Q=>ZaO (t:=77) (e:=94) (x:=.tmp 14) (ix:=.tmp 16) (len:=ys.length) (cap:=c2) (i:=ys.length-1) ((Q.2).ne (j:=ys.length-1) (by omega)) (by omega)) ?_
 obtain⟨x10,q⟩:=yE (ys[ys.length-1]?.getD 0)
 refine xqk 18 (.int .u64 (x10:Int)) (fun w R Q=>by rw[←q];exact ZaW (t:=94) (x:=.tmp 17) (Q.2) (j:=ys.length-1) (by omega)) ?_
 refine xq 1 [yU 6 (x10:Int)] [] ?_
 refine xe (Zaa (Zac (Zab (xq 1 [yU 7 18446744073709551615] [] ?_))))
 rw[Zwy]
 refine xe (Zaa ?_)
 refine ZgD (fun P S=>∃ (f:Nat),P=ofL [eS1 0 (some ⟨b,o,none⟩) (ys.length+1) c,eS1 1 A ys.length c2,yU 7 (f:Int)] []∧S=(fun w=>(Own .u64 94 w b (g)∧Zah .u64 w A (ys)))∧(win o ys.length g/val W64 ys≤f)∧(f<W64)) ?_ ?_
 ·refine Zac (Zab (xq 2 [eS1 19 (some ⟨b,o,none⟩) (ys.length+1) c,yJ 20 ((ys.length:Nat):Int)] [] ?_))
  refine xqk 21 (.pointer (some ⟨b,o+ys.length,none⟩)) (fun w R Q=>ZcE (t:=77) (e:=94) (x:=.tmp 19) (ix:=.tmp 20) (len:=(ys.length+1)) (cap:=c) (i:=ys.length) (by omega)) ?_
  obtain⟨k,E⟩:=yE (g[o+ys.length]?.getD 0)
  refine xqk 22 (.int .u64 (k:Int)) (fun w R Q=>by rw[←E];exact Zdf (t:=94) (x:=.tmp 21) (Q.1) (j:=o+ys.length) (by omega)) ?_
  refine xq 2 [yB 24 (decide ((k:Int)<(x10:Int)))] [] ?_
  refine xe (Zaa ?_)
  refine yQ ((decide ((k:Int)<(x10:Int)))) (fun F=>?_) fun F=>?_
  ·have a0:=uC F
   refine Zac (Zab (xq 1 [yU 8 0] [] ?_))
   refine xe (Zaa (Zac ?_))
   refine ZeW 16 [0,0,3,7,0,0,32,112,240,0,1023,2047,4095,4095,8191,32767] (by kernel_rfl) (by kernel_rfl) Zam ?_
   refine xqf 2 [eS1 26 (some ⟨b,o,none⟩) (ys.length+1) c,yJ 27 ((ys.length:Nat):Int)] [] ?_
   refine xqj 28 (.pointer (some ⟨b,o+ys.length,none⟩)) (fun w Q=>ZcE (t:=77) (e:=94) (x:=.tmp 26) (ix:=.tmp 27) (len:=(ys.length+1)) (cap:=c) (i:=ys.length) (by omega)) ?_
   obtain⟨l0,T⟩:=yE (g[o+ys.length]?.getD 0)
   refine xqj 29 (.int .u64 (l0:Int)) (fun w Q=>by rw[←T];exact Zdf (t:=94) (x:=.tmp 28) (Q.1) (j:=o+ys.length) (by omega)) ?_
   obtain rfl:k=l0:=by rw[←E,T]
   refine xqf 3 [eS1 30 (some ⟨b,o,none⟩) (ys.length+1) c,yJ 32 (IntKind.i64.wrap (((ys.length:Nat):Int)-1))] [] ?_
   rw[yW (((ys.length:Nat):Int)-1) (((ys.length-1:Nat):Int)) (by omega)]
   refine xqj 33 (.pointer (some ⟨b,o+(ys.length-1),none⟩)) (fun w Q=>ZcE (t:=77) (e:=94) (x:=.tmp 30) (ix:=.tmp 32) (len:=(ys.length+1)) (cap:=c) (i:=ys.length-1) (by omega)) ?_
   obtain⟨l,B⟩:=yE (g[o+(ys.length-1)]?.getD 0)
   refine xqj 34 (.int .u64 (l:Int)) (fun w Q=>by rw[←B];exact Zdf (t:=94) (x:=.tmp 33) (Q.1) (j:=o+(ys.length-1)) (by omega)) ?_
   refine xqf 1 [yU 35 (x10:Int)] [] ?_
   refine xqd 149 [.int .u64 (k:Int),.int .u64 (l:Int),.int .u64 (x10:Int)] 36 (fun _:Unit=>.tuple #[.int .u64 ((divQ k l x10:Nat):Int),.int .u64 ((divR k l x10:Nat):Int)]) _ (fun w R Q=>yN (Zmu k l x10 _ (by omega) (by rw[←q];exact hy.getD Zan _) (by rw[←B];exact O.getD Zan _))) fun xx=>?_
   refine xqf 5 [yU 7 ((divQ k l x10:Nat):Int),yU 8 ((divR k l x10:Nat):Int)] [] ?_
   refine xz (xe (Zaa (ZaH ?_)))
   obtain⟨lw,b0,hU⟩:=Zu6 (o:=o) (n:=ys.length) (by omega) (by omega) E B D O
   obtain⟨y2,c0⟩:=yE (ys[ys.length-2]?.getD 0)
   obtain⟨vl,hV⟩:=Zu7 (ys:=ys) q0 rfl q c0
   refine yC [eS1 0 (some ⟨b,o,none⟩) (ys.length+1) c,eS1 1 A ys.length c2,yU 4 0,yJ 5 ((ys.length:Nat):Int),yU 6 (x10:Int),yU 7 (((divQ k l x10):Nat):Int),yU 8 (((divR k l x10):Nat):Int)] [] (fun w=>(Own .u64 94 w b (g)∧Zah .u64 w A (ys))) (fun w Q=>⟨Q.1.1,Q.1.2⟩) ?_
   have m0:0<x10:=by omega
   refine ZbI (fun nn P S=>∃ (f h:Nat),P=ofL [eS1 0 (some ⟨b,o,none⟩) (ys.length+1) c,eS1 1 A ys.length c2,yU 4 0,yJ 5 ((ys.length:Nat):Int),yU 6 (x10:Int),yU 7 (f:Int),yU 8 (h:Int)] []∧S=(fun w=>(Own .u64 94 w b (g)∧Zah .u64 w A (ys)))∧(win o ys.length g/val W64 ys≤f)∧(f<W64)∧(h+f*x10=k*W64+l)∧(h<W64)∧nn=(1+f)) ((1+(divQ k l x10))) ⟨(divQ k l x10),(divR k l x10),rfl,rfl,(ZtN b0 hU hV (by rw[←D];exact O.getD Zan _) m0),(Zlw (by omega) (by rw[←B];exact O.getD Zan _)),(by rw[vK];exact ZhK _ _ _),(rV (Zhk _ _ m0) (by rw[←q];exact hy.getD Zan _)),rfl⟩ ?_
   rintro nn P S ⟨f,h,rfl,rfl,hq,y,hr,s0,rfl⟩
   refine ZaH (Zac (Zab (xq 4 [yU 40 (f:Int),eS1 41 A ys.length c2,yJ 43 (IntKind.i64.wrap (((ys.length:Nat):Int)-2))] [] ?_)))
   rw[yW (((ys.length:Nat):Int)-2) (((ys.length-2:Nat):Int)) (by omega)]
   refine xqk 44 (atA A (ys.length-2)) (fun w R Q=>ZaO (t:=77) (e:=94) (x:=.tmp 41) (ix:=.tmp 43) (len:=ys.length) (cap:=c2) (i:=ys.length-2) ((Q.2).ne (j:=ys.length-2) (by omega)) (by omega)) ?_
   obtain⟨n0,U⟩:=yE (ys[ys.length-2]?.getD 0)
   refine xqk 45 (.int .u64 (n0:Int)) (fun w R Q=>by rw[←U];exact ZaW (t:=94) (x:=.tmp 44) (Q.2) (j:=ys.length-2) (by omega)) ?_
   obtain rfl:y2=n0:=by rw[←c0,U]
   refine xqc 145 [.int .u64 (f:Int),.int .u64 (y2:Int)] 46 (fun _:Unit=>.tuple #[.int .u64 ((Za9 f y2:Nat):Int),.int .u64 ((ZaB f y2:Nat):Int)]) _ (fun w R Q=>yN (ZiO f y2 _ y (by rw[←c0];exact hy.getD Zan _))) fun xx=>?_
   refine xq 5 [yU 9 ((Za9 f y2:Nat):Int),yU 10 ((ZaB f y2:Nat):Int)] [] ?_
   refine xe (Zaa (Zac (Zac (Zab (xq 4 [yB 52 (decide (((Za9 f y2:Nat):Int)<(h:Int)))] [] ?_)))))
   rcases bl2 ((decide (((Za9 f y2:Nat):Int)<(h:Int)))) with s|s
   ·rw[s]
    have d0:=uC s
    refine xq 13 [yB 65 true] [] ?_
    refine xe (Zaa (xa (Zbt (Zaw ?_))))
    refine Zhq (by kernel_rfl) ?_
    refine Zaw (ZbH ?_)
    refine yP [eS1 0 (some ⟨b,o,none⟩) (ys.length+1) c,eS1 1 A ys.length c2,yU 7 (f:Int)] [] (fun w=>(Own .u64 94 w b (g)∧Zah .u64 w A (ys))) (fun w Q=>⟨Q.1.1,Q.1.2⟩) ?_
    exact Zb6 ⟨f,rfl,rfl,hq,y⟩
   rw[s]
   have d0:=uD s
   refine xq 4 [yB 56 ((((Za9 f y2:Nat):Int):Int) == (h:Int))] [] ?_
   rcases bl2 (((((Za9 f y2:Nat):Int):Int) == (h:Int))) with u|u
   ·rw[u]
    have G:=tA.1 u
    refine xq 4 [yU 57 ((ZaB f y2:Nat):Int),eS1 58 (some ⟨b,o,none⟩) (ys.length+1) c,yJ 60 (IntKind.i64.wrap (((ys.length:Nat):Int)-2))] [] ?_
    rw[yW (((ys.length:Nat):Int)-2) (((ys.length-2:Nat):Int)) (by omega)]
    refine xqk 61 (.pointer (some ⟨b,o+(ys.length-2),none⟩)) (fun w R Q=>ZcE (t:=77) (e:=94) (x:=.tmp 58) (ix:=.tmp 60) (len:=(ys.length+1)) (cap:=c) (i:=ys.length-2) (by omega)) ?_
    obtain⟨o0,V⟩:=yE (g[o+(ys.length-2)]?.getD 0)
    refine xqk 62 (.int .u64 (o0:Int)) (fun w R Q=>by rw[←V];exact Zdf (t:=94) (x:=.tmp 61) (Q.1.1) (j:=o+(ys.length-2)) (by omega)) ?_
    obtain rfl:u2=o0:=by rw[←D,V]
    refine xq 3 [yB 65 (decide (((ZaB f y2:Nat):Int)≤(u2:Int)))] [] ?_
    refine xe (Zaa ?_)
    refine yQ ((decide (((ZaB f y2:Nat):Int)≤(u2:Int)))) (fun H=>?_) fun H=>?_
    ·have e0:=uC H
     refine Zbt (Zaw ?_)
     refine Zhq (by kernel_rfl) ?_
     refine Zaw (ZbH ?_)
     refine yP [eS1 0 (some ⟨b,o,none⟩) (ys.length+1) c,eS1 1 A ys.length c2,yU 7 (f:Int)] [] (fun w=>(Own .u64 94 w b (g)∧Zah .u64 w A (ys))) (fun w Q=>⟨Q.1.1,Q.1.2⟩) ?_
     exact Zb6 ⟨f,rfl,rfl,hq,y⟩
    have e0:=uD H
    refine Zal (Zaa (Zac ?_))
    have f0:h*W64+u2<f*y2:=ZpS (Zek f y2) (by omega) (fun _=>by omega) (by rw[←D];exact O.getD Zan _)
    have r:=Zlc b0 hU hV hr f0 C
    have p0:1≤f:=uA (Nat.le_add_left 1 _) r
    by_cases z:h+x10<W64
    ·refine Zab (xq 2 [yU 67 (IntKind.u64.wrap ((f:Int)-1))] [] ?_)
     rw[show IntKind.u64.wrap (((f:Int)-1))=((f-1:Nat):Int) by rw[IntKind.wrap_u64];have:=Zao;omega]
     refine xq 1 [yU 7 ((f-1:Nat):Int)] [] ?_
     refine xe (Zaa (Zac (Zab (xq 3 [yU 70 (IntKind.u64.wrap ((h:Int)+(x10:Int)))] [] ?_))))
     rw[Zk7 (a:=h) (b:=x10) z]
     refine xq 1 [yU 8 ((h+x10:Nat):Int)] [] ?_
     refine xe (Zaa (Zac (Zab (xq 3 [yB 73 (decide (((h+x10:Nat):Int)<(x10:Int)))] [] ?_))))
     refine xe (Zaa ?_)
     refine yQ ((decide (((h+x10:Nat):Int)<(x10:Int)))) (fun I=>?_) fun I=>?_
     ·have g0:=uC I
      exfalso;omega
     have g0:=uD I
     refine Zal (Zbk ?_)
     refine yP [eS1 0 (some ⟨b,o,none⟩) (ys.length+1) c,eS1 1 A ys.length c2,yU 4 0,yJ 5 ((ys.length:Nat):Int),yU 6 (x10:Int),yU 7 (((f-1):Nat):Int),yU 8 (((h+x10):Nat):Int)] [] (fun w=>(Own .u64 94 w b (g)∧Zah .u64 w A (ys))) (fun w Q=>⟨Q.1.1,Q.1.2⟩) ?_
     exact Za5 ((1+(f-1))) (by omega) ⟨(f-1),(h+x10),rfl,rfl,(qN r),(by omega),(by obtain⟨m,rfl⟩:∃ m,f=m+1:=⟨f-1,by omega⟩;rw[tE];rw[vE] at hr;omega),z,rfl⟩
    refine Zab (xq 2 [yU 67 (IntKind.u64.wrap ((f:Int)-1))] [] ?_)
    rw[show IntKind.u64.wrap (((f:Int)-1))=((f-1:Nat):Int) by rw[IntKind.wrap_u64];have:=Zao;omega]
    refine xq 1 [yU 7 ((f-1:Nat):Int)] [] ?_
    refine xe (Zaa (Zac (Zab (xq 3 [yU 70 (IntKind.u64.wrap ((h:Int)+(x10:Int)))] [] ?_))))
    rw[Zup (a:=h) (b:=x10) z (by omega) (by rw[←q];exact hy.getD Zan _)]
    refine xq 1 [yU 8 ((h+x10-W64:Nat):Int)] [] ?_
    refine xe (Zaa (Zac (Zab (xq 3 [yB 73 (decide (((h+x10-W64:Nat):Int)<(x10:Int)))] [] ?_))))
    refine xe (Zaa ?_)
    refine yQ ((decide (((h+x10-W64:Nat):Int)<(x10:Int)))) (fun J=>?_) fun J=>?_
    ·have h0:=uC J
     refine Zbt ?_
     refine Zhq (by kernel_rfl) ?_
     refine Zaw (ZbH ?_)
     refine yP [eS1 0 (some ⟨b,o,none⟩) (ys.length+1) c,eS1 1 A ys.length c2,yU 7 (((f-1):Nat):Int)] [] (fun w=>(Own .u64 94 w b (g)∧Zah .u64 w A (ys))) (fun w Q=>⟨Q.1.1,Q.1.2⟩) ?_
     exact Zb6 ⟨(f-1),rfl,rfl,(qN r),(by omega)⟩
    have h0:=uD J
    exfalso;omega
   rw[u]
   have G:=Zbo u
   refine xq 9 [yB 65 false] [] ?_
   refine xe (Zaa (xb (Zal (Zaa (Zac ?_)))))
   have f0:h*W64+u2<f*y2:=ZpS (Zek f y2) (by omega) (fun e=>absurd (show (Za9 f y2:Int)=h by rw[e]) G) (by rw[←D];exact O.getD Zan _)
   have r:=Zlc b0 hU hV hr f0 C
   have p0:1≤f:=uA (Nat.le_add_left 1 _) r
   by_cases z:h+x10<W64
   ·refine Zab (xq 2 [yU 67 (IntKind.u64.wrap ((f:Int)-1))] [] ?_)
    rw[show IntKind.u64.wrap (((f:Int)-1))=((f-1:Nat):Int) by rw[IntKind.wrap_u64];have:=Zao;omega]
    refine xq 1 [yU 7 ((f-1:Nat):Int)] [] ?_
    refine xe (Zaa (Zac (Zab (xq 3 [yU 70 (IntKind.u64.wrap ((h:Int)+(x10:Int)))] [] ?_))))
    rw[Zk7 (a:=h) (b:=x10) z]
    refine xq 1 [yU 8 ((h+x10:Nat):Int)] [] ?_
    refine xe (Zaa (Zac (Zab (xq 3 [yB 73 (decide (((h+x10:Nat):Int)<(x10:Int)))] [] ?_))))
    refine xe (Zaa ?_)
    refine yQ ((decide (((h+x10:Nat):Int)<(x10:Int)))) (fun K=>?_) fun K=>?_
    ·have i0:=uC K
     exfalso;omega
    have i0:=uD K
    refine Zal (Zbk ?_)
    refine yP [eS1 0 (some ⟨b,o,none⟩) (ys.length+1) c,eS1 1 A ys.length c2,yU 4 0,yJ 5 ((ys.length:Nat):Int),yU 6 (x10:Int),yU 7 (((f-1):Nat):Int),yU 8 (((h+x10):Nat):Int)] [] (fun w=>(Own .u64 94 w b (g)∧Zah .u64 w A (ys))) (fun w Q=>⟨Q.1.1,Q.1.2⟩) ?_
    exact Za5 ((1+(f-1))) (by omega) ⟨(f-1),(h+x10),rfl,rfl,(qN r),(by omega),(by obtain⟨m,rfl⟩:∃ m,f=m+1:=⟨f-1,by omega⟩;rw[tE];rw[vE] at hr;omega),z,rfl⟩
   refine Zab (xq 2 [yU 67 (IntKind.u64.wrap ((f:Int)-1))] [] ?_)
   rw[show IntKind.u64.wrap (((f:Int)-1))=((f-1:Nat):Int) by rw[IntKind.wrap_u64];have:=Zao;omega]
   refine xq 1 [yU 7 ((f-1:Nat):Int)] [] ?_
   refine xe (Zaa (Zac (Zab (xq 3 [yU 70 (IntKind.u64.wrap ((h:Int)+(x10:Int)))] [] ?_))))
   rw[Zup (a:=h) (b:=x10) z (by omega) (by rw[←q];exact hy.getD Zan _)]
   refine xq 1 [yU 8 ((h+x10-W64:Nat):Int)] [] ?_
   refine xe (Zaa (Zac (Zab (xq 3 [yB 73 (decide (((h+x10-W64:Nat):Int)<(x10:Int)))] [] ?_))))
   refine xe (Zaa ?_)
   refine yQ ((decide (((h+x10-W64:Nat):Int)<(x10:Int)))) (fun L=>?_) fun L=>?_
   ·have j0:=uC L
    refine Zbt ?_
    refine Zhq (by kernel_rfl) ?_
    refine Zaw (ZbH ?_)
    refine yP [eS1 0 (some ⟨b,o,none⟩) (ys.length+1) c,eS1 1 A ys.length c2,yU 7 (((f-1):Nat):Int)] [] (fun w=>(Own .u64 94 w b (g)∧Zah .u64 w A (ys))) (fun w Q=>⟨Q.1.1,Q.1.2⟩) ?_
    exact Zb6 ⟨(f-1),rfl,rfl,(qN r),(by omega)⟩
   have j0:=uD L
   exfalso;omega
  have a0:=uD F
  refine Zal ?_
  refine yP [eS1 0 (some ⟨b,o,none⟩) (ys.length+1) c,eS1 1 A ys.length c2,yU 7 (((W64-1):Nat):Int)] [] (fun w=>(Own .u64 94 w b (g)∧Zah .u64 w A (ys))) (fun w Q=>⟨Q.1,Q.2⟩) ?_
  exact Zb6 ⟨(W64-1),rfl,rfl,Zsh r0,(by have:=Zan;omega)⟩
 rintro P S ⟨f,rfl,rfl,hq,y⟩
 refine Zac (Zac (Zab (xq 3 [eS1 74 (some ⟨b,o,none⟩) (ys.length+1) c,eS1 75 A ys.length c2,yU 76 (f:Int)] [] ?_)))
 refine ZhW (xs:=g) (α:=List Nat × Nat) 199 [.slice (some ⟨b,o,none⟩) (ys.length+1) c,.slice A ys.length c2,.int .u64 (f:Int)] (d:=77) (fun x=>.bool (((x.2:Nat):Int) == 1)) (fun x=>ZiU g ys f o x.1 x.2) (fun x=>x.1) b (fun x w=>(Own .u64 94 w b (x.1)∧Zah .u64 w A (ys))) (fun w Q=>Q.1) (by omega) (Or.inr rfl) (fun w R Q=>Zn1 b _ o _ ys A _ _ Q.1 Q.2 hA (by omega) hl O hy _ y) (fun x w w' hp Q hF hO=>⟨hO,((Q.2).fr hF (fun a ha _=>hA a ha))⟩) fun x W=>?_
 obtain⟨X,M⟩:=x
 dsimp only at W
 have p:=W.win (by omega) (WinR.start O)
 refine xr 1 [eS1 0 (some ⟨b,o,none⟩) (ys.length+1) c,eS1 1 A ys.length c2,yU 7 (f:Int),yB 11 ((M:Int) == 1)] [] ?_
 refine xe (Zaa (ZaH ?_))
 refine yC [eS1 0 (some ⟨b,o,none⟩) (ys.length+1) c,eS1 1 A ys.length c2,yU 7 (f:Int),yB 11 ((M:Int) == 1)] [] (fun w=>(Own .u64 94 w b (X)∧Zah .u64 w A (ys))) (fun w Q=>⟨Q.1,Q.2⟩) ?_
 refine ZbI (fun nn P S=>∃ (f bb:Nat) (zs:List Nat),P=ofL [eS1 0 (some ⟨b,o,none⟩) (ys.length+1) c,eS1 1 A ys.length c2,yU 7 (f:Int),yB 11 ((bb:Int) == 1)] []∧S=(fun w=>(Own .u64 94 w b (zs)∧Zah .u64 w A (ys)))∧(WinR o ys.length g zs)∧(CorR (win o ys.length g) (val W64 ys) (W64^(ys.length+1)) f bb (win o ys.length zs))∧(f<W64)∧nn=(1+f)) ((1+f)) ⟨f,M,X,rfl,rfl,p.1,⟨p.2.1,Zsg p.1.2.1,hq,p.2.2⟩,y,rfl⟩ ?_
 rintro nn P S ⟨f,bb,zs,rfl,rfl,HW,HC,y,rfl⟩
 refine Zac (Zac (Zab (xq 1 [yB 78 ((bb:Int) == 1)] [] ?_)))
 refine xe (Zaa ?_)
 refine yQ (((bb:Int) == 1)) (fun N=>?_) fun N=>?_
 ·have k0:=tA.1 N
  refine Zal (Zaa (Zac (ZaH ?_)))
  have r:=HC.pos (by omega) C
  have p0:1≤f:=uA (Nat.le_add_left 1 _) r
  refine Zab (xq 2 [eS1 81 (some ⟨b,o,none⟩) (ys.length+1) c,eS1 82 A ys.length c2] [] ?_)
  refine ZhW (xs:=zs) (α:=List Nat × Nat) 200 [.slice (some ⟨b,o,none⟩) (ys.length+1) c,.slice A ys.length c2] (d:=83) (fun x=>.bool (((x.2:Nat):Int) == 1)) (fun x=>ZiV zs ys o x.1 x.2) (fun x=>x.1) b (fun x w=>(Own .u64 94 w b (x.1)∧Zah .u64 w A (ys))) (fun w Q=>Q.1) (by have:=HW.1;omega) (Or.inr rfl) (fun w R Q=>Zn2 b _ o _ ys A _ _ Q.1 Q.2 hA (by rw[HW.1];omega) (by rw[HW.1];exact hl) HW.2.1 hy) (fun x w w' hp Q hF hO=>⟨hO,((Q.2).fr hF (fun a ha _=>hA a ha))⟩) fun x Y=>?_
  obtain⟨Z,v⟩:=x
  dsimp only at Y
  have p:=Y.win (by omega) HW
  refine xr 1 [eS1 0 (some ⟨b,o,none⟩) (ys.length+1) c,eS1 1 A ys.length c2,yU 7 (f:Int),yB 11 ((bb:Int) == 1),yB 84 (!((v:Int) == 1))] [] ?_
  rw[Zu8 (c:=v) p.2.1]
  refine xq 1 [yB 11 (((1-v:Nat):Int) == 1)] [] ?_
  refine xe (Zbk (Zaa (Zab (xq 2 [yU 80 (IntKind.u64.wrap ((f:Int)-1))] [] ?_))))
  rw[show IntKind.u64.wrap (((f:Int)-1))=((f-1:Nat):Int) by rw[IntKind.wrap_u64];have:=Zao;omega]
  refine xq 1 [yU 7 ((f-1:Nat):Int)] [] ?_
  refine xe ?_
  refine yP [eS1 0 (some ⟨b,o,none⟩) (ys.length+1) c,eS1 1 A ys.length c2,yU 7 (((f-1):Nat):Int),yB 11 ((((1-v):Nat):Int) == 1)] [] (fun w=>(Own .u64 94 w b (Z)∧Zah .u64 w A (ys))) (fun w Q=>⟨Q.1,Q.2⟩) ?_
  exact Za5 ((1+(f-1))) (by omega) ⟨(f-1),(1-v),Z,rfl,rfl,p.1,(HC.step (by omega) C p.2.1 (Zsg p.1.2.1) p.2.2),(by omega),rfl⟩
 have k0:=Zbo N
 obtain rfl:bb=0:=by have:=HC.1;omega
 refine Zbt (Zaw (Zaw (ZbH (Zaa (Zac (Zab (xq 2 [yU 4 (f:Int)] [] ?_)))))))
 refine xe (Zaa (Zaf ?_))
 refine yR (.int .u64 (f:Int)) fun w' R Q=>?_
 obtain⟨e1,e2⟩:=HC.done C
 exact⟨zs,by rw[e1],⟨HW,e2⟩,R,Q.1⟩
noncomputable def wds (n:Nat):List Nat:=if _h:n=0 then [] else (n%W64) :: wds (n/W64)
termination_by n
decreasing_by exact qH (by omega) ZdH
theorem ZdW:∀ n,Dig W64 (wds n)∧val W64 (wds n)=n:=by
 intro n
 induction n using Nat.strongRecOn with
 | ind n ih =>
  rw[wds]
  split
  ·rename_i h;exact⟨Dig.nil,by simp[h]⟩
  rename_i h
  obtain⟨a,b⟩:=ih (n/W64) (qH (by omega) ZdH)
  exact⟨a.cons (uM _ Zan),by rw[ZcY,b];exact tS _ _⟩
theorem Zkj:∀ n,Trim (wds n):=by
 intro n
 induction n using Nat.strongRecOn with
 | ind n ih =>
  rw[wds]
  split
  ·exact Trim.nil
  rename_i h
  have b:=ih (n/W64) (qH (by omega) ZdH)
  intro k a
  rcases uH (n/W64) with e|e
  ·rw[e,wds,dif_pos rfl] at a ⊢
   simp at a
   subst a
   have:=tS n W64
   rw[e] at this
   simp;omega
  obtain⟨m,rfl⟩:∃ m,k=m+1:=⟨k-1,by
   have:wds (n/W64)≠[]:=fun c=>by have:=(ZdW (n/W64)).2;rw[c] at this;simp at this;omega
   have:=sH.2 this
   simp at a;omega⟩
  have:=b m (by simpa using a)
  simpa using this
theorem Zsi {xs:List Nat}{n:Nat}(a:Dig W64 xs)(b:Trim xs)(c:val W64 xs=n):xs=wds n:=Znk ZdH a (ZdW n).1 b (Zkj n) (c.trans (ZdW n).2.symm)
theorem ZpT (n:Nat):(wds n).length=wl n:=by rw[ZaQ (ZdW n).1 (Zkj n),(ZdW n).2]
theorem Zaj.shows {w:World}{A:Option Addr}{l c n:Nat}(h:Zaj w (.slice A l c) n):Zah .u64 w A (wds n):=by
 obtain⟨g,i,j,e,k,a,b,d,f⟩:=h
 injection e with e1 e2 e3
 subst e1
 rw[←Zsi b d f];exact a
theorem Zaj.lens {w:World}{A:Option Addr}{l c n:Nat}(h:Zaj w (.slice A l c) n):l=(wds n).length∧(wds n).length≤c:=by
 obtain⟨g,i,j,e,a,k,b,d,f⟩:=h
 injection e with e1 e2 e3
 subst e3
 rw[←Zsi b d f];exact⟨e2,a⟩
theorem Zah.lt {k:IntKind}{w:World}{A:Option Addr}{xs:List Nat}(h:Zah k w A xs)(c:0<xs.length){a:Addr}(ha:A=some a):a.block<w.heap.size:=by
 obtain⟨b,o,e,d,_⟩:=h.at c
 rw[ha] at e;injection e with e;rw[e];exact d
/-! ### Clone -/
theorem Zu9 (w:World)(a:Option Addr)(n c:Nat):(binOp .eql 77 (.slice a n c) (.slice none 0 0)).run Tryz.prog w=.ok (.bool a.isNone) w :=
 Lib.run_eql_slice_nil w 77 94 a n c 0 0 Tryz.underlying77
theorem ZqQ (A:Option Addr)(xs:List Nat)(n c:Nat)(w:World)(p:xs.length=n)(q:Zah .u64 w A xs)(C:n≤4294967296) :
 yA 107 #[.slice A n c] w (Znn w xs):=by
 have r:=zh q
 have s:=zh p
 clear q p
 have t:=Zu9
 cases A with
 | none =>
  have x:Hid (xs=[]):=by
   rcases xs with _|⟨y,D⟩
   ·rfl
   obtain⟨b,z,h,_⟩:=r.out (by simp);cases h
  go_enter Tryz.func107,Tryz.ntmps107
  go_wp2
  go_ret
  rw[x.out]
  exact⟨none,0,rfl,Buf.nil,Fr.refl _ _,fun b d=>by obtain⟨a,ha,_⟩:=d;cases ha⟩
 | some ad =>
  go_enter Tryz.func107,Tryz.ntmps107
  go_wp2_with (
   at_builtin
   refine Zbm rfl _ _ _ rfl _ .u64 8 Tryz.underlying77 ZdZ (some ⟨w.heap.size,0,none⟩) (some ad) 0 n 0 c rfl rfl [] xs rfl s.out ?_ (r.out.alloc _) (by simp only[maxLen];omega) (by omega) ?_
   ·exact Or.inr ⟨_,rfl,Own.new w _ _ [] [],⟨#[],heap_alloc_new w _,rfl⟩,uK _,by simp only[maxLen];omega⟩
   intro B e E f g j
   have k:=zh f
   have l:=zh g
   have o:=zh j
   clear f g j)
  go_ret
  refine⟨B,e,?_,by simpa using k.out,?_,?_⟩
  ·rw[s.out];simp
  ·refine ((Fr.refl (fun _=>False) w).alloc _).next l.out fun i F d=>?_
   obtain⟨a,ha,d⟩:=d
   injection ha with ha
   subst ha
   simp at d;omega
  intro b d
  rcases o.out b d with ⟨a,ha,h⟩|h
  ·injection ha with ha;subst ha;simp at h;omega
  simp at h;omega
theorem Zle (A:Option Addr)(xs:List Nat)(c:Nat)(w:World)(f:Zah .u64 w A xs)(g:xs.length≤4294967296)(d:0<xs.length) :
 yA 107 #[.slice A xs.length c] w (fun i w'=>∃ b c,i=.returned (.slice (some ⟨b,0,none⟩) xs.length c)∧w.heap.size≤b∧xs.length≤c∧Ext w w'∧Own .u64 94 w' b xs):=by
 refine (ZqQ A xs xs.length c w rfl f g).mono ?_
 rintro e w' ⟨p,a,rfl,j,Q,k⟩
 rcases j with ⟨_,h,_⟩|⟨b,rfl,l,_,o,_⟩
 ·rw[h] at d;simp at d
 exact⟨b,a,rfl,k b ⟨_,rfl,rfl⟩,o,Q,l⟩
/-! ### compare,of numbers -/
/-! ### the long division -/
def OvR (N V n L k:Nat) (zs qs:List Nat):Prop:=zs.length=n∧Dig W64 zs∧qs.length=L∧Dig W64 qs∧val W64 zs+V*(W64^k*val W64 (qs.drop k))=N∧val W64 zs<V*W64^k
theorem OvR.start {N V n L:Nat}{a:List Nat}(d:a.length=n)(e:Dig W64 a)(c:val W64 a=N)(b:N<V*W64^L):OvR N V n L L a (List.replicate L 0) :=
 ⟨d,e,by simp,Dig.replicate Zan _,by rw[uZ (by simp)];simpa using c,by rw[c];exact b⟩
theorem ZtO {o n:Nat}{a:List Nat}(d:o+n+1≤a.length)(h:val W64 a<W64^(o+n+1)):val W64 a=val W64 (a.take o)+W64^o*win o n a∧val W64 (a.drop (o+n+1))=0:=by
 have b:=ZaS (B:=W64) (xs:=a) (o+n+1)
 rw[uW d] at b
 have c:val W64 (a.drop (o+n+1))=0:=by
  refine Nat.eq_zero_of_not_pos fun e=>?_
  have:=uI (W64^(o+n+1)) e
  omega
 rw[c,tL,vV,Zfy (by omega)] at b
 exact⟨b,c⟩
theorem OvR.ready {N V n L j m:Nat}{a b:List Nat}(h:OvR N V n L (j+1) a b)(c:V<W64^m)(k:j+m+1≤n):val W64 a=val W64 (a.take j)+W64^j*win j m a∧val W64 (a.drop (j+m+1))=0∧win j m a<W64*V:=by
 obtain⟨l,o,p,q,r,d⟩:=h
 have f:val W64 a<W64^(j+m+1):=by
  refine uY d ?_
  rw[show j+m+1=m+(j+1) by omega,uT W64 m]
  exact uE _ (rM c)
 obtain⟨g,i⟩:=ZtO (by omega) f
 refine⟨g,i,?_⟩
 have:W64^j*win j m a<W64^j*(W64*V):=by
  have e:V*W64^(j+1)=W64^j*(W64*V):=by rw[uS,uG V,uF]
  omega
 exact tX this
theorem OvR.step {N V n L j m:Nat}{a c b:List Nat}(h:OvR N V n L (j+1) a c)(g:V<W64^m)(d:0<V)(i:j+m+1≤n)(k:j<L)(l:WinR j m a b)(o:win j m b=win j m a%V) :
 OvR N V n L j b (c.set j (win j m a/V)):=by
 obtain⟨I,p,q⟩:=h.ready g i
 obtain⟨r,s,t,x,y,J⟩:=h
 obtain⟨z,A,C,D⟩:=l
 have E:win j m a/V<W64:=by rw[vH d];exact q
 have e:=ZaS (B:=W64) (xs:=b) (j+m+1)
 rw[D,p,tL,vV,Zfy (by omega),C,o] at e
 have f:=vS (win j m a) V
 have K:W64^j*win j m a=V*(W64^j*(win j m a/V))+W64^j*(win j m a%V):=by
  conv=>lhs;rw[←f]
  rw[uL,vW]
 refine⟨z.trans r,A,by simpa using t,x.set j E,?_,?_⟩
 ·have F:(c.set j (win j m a/V))[j]?.getD 0=win j m a/V:=by rw[List.getElem?_set_self (by omega)];rfl
  rw[ZaT j (by simp;omega),F,vY (by omega),e]
  rw[uS] at y
  have M:V*(W64^j*(win j m a/V+W64*val W64 (c.drop (j+1))))=V*(W64^j*(win j m a/V))+V*(W64^j*W64*val W64 (c.drop (j+1))):=by
   rw[uL (W64^j),uL V,uF (W64^j)]
  omega
 rw[e]
 have G:=ZaV (s.take j)
 rw[vC,uW (by omega)] at G
 have H:=uI (W64^j) (uM (win j m a) d)
 rw[Nat.mul_succ] at H
 rw[uG V]
 omega
theorem OvR.done {N V n L:Nat}{b c:List Nat}(h:OvR N V n L 0 b c)(e:0<V):val W64 c=N/V∧val W64 b=N%V:=by
 obtain⟨f,g,i,j,d,a⟩:=h
 rw[vQ,tW] at a
 rw[vQ,sY,tT] at d
 rw[←d]
 rw[Nat.add_mul_div_left _ _ e,vZ a,tZ,vA a]
 exact⟨by omega,rfl⟩
theorem ZvZ {ys:List Nat}{k t:Nat}(d:Dig W64 ys)(e:ys.length=k+1)(f:Trim ys)(a:ys[k]?.getD 0=t):wl (val W64 ys*2^(64-blen t))=ys.length:=by
 have g:0<t:=sQ (by rw[←a];exact f k e)
 have i:=ZjV d e f a
 have b:t<2^64:=by have:=a ▸ d.getD Zan k;rw[Zao] at this;exact this
 have j:=Zbg.2 b
 have c:0<val W64 ys:=by have:=Zar (B:=W64) k (show k<ys.length by omega);rw[uB (by omega),a] at this;have:=uI (W64^k) g;have:=uU (n:=k) Zan;omega
 have l:blen (val W64 ys*2^(64-blen t))=64*(k+1):=by rw[ZfZ c,i];omega
 have o:wl (val W64 ys*2^(64-blen t))≤k+1:=ZbZ.2 (by rw[Zez];exact Zbg.1 (by omega))
 have p:¬ wl (val W64 ys*2^(64-blen t))≤k:=fun h=>by
  have:=ZbZ.1 h
  rw[Zez] at this
  have:=Zbg.2 this
  omega
 omega
theorem Zwz {xs ys:List Nat}{s:Nat}(a:Dig W64 xs)(b:Trim ys)(g:0<ys.length)(h:ys.length≤xs.length):val W64 xs*2^s<val W64 ys*2^s*W64^(xs.length-ys.length+1):=by
 obtain⟨k,c⟩:∃ k,ys.length=k+1:=⟨ys.length-1,by omega⟩
 have d:=ZaV a
 have e:=Zit (B:=W64) b c
 have f:W64^xs.length≤val W64 ys*W64^(xs.length-ys.length+1):=by
  rw[show xs.length=k+(xs.length-ys.length+1) by omega,uT]
  rw[show k+(xs.length-ys.length+1)-ys.length+1=xs.length-ys.length+1 by omega]
  exact uE _ e
 rw[Nat.mul_right_comm]
 exact (rW (p2 s)).2 (uY d f)
theorem ZtP {ws:List Nat}{n:Nat}(b:Dig W64 ws)(c:ws.length≤n):let a:=ws.take n ++ (List.replicate n 0).drop ws.length;a.length=n∧Dig W64 a∧val W64 a=val W64 ws:=by
 intro a
 have e:a=ws ++ List.replicate (n-ws.length) 0:=by show ws.take n ++ (List.replicate n 0).drop ws.length=_;rw[uB c,List.drop_replicate]
 rw[e]
 exact⟨by simp;omega,b.append (Dig.replicate Zan _),by rw[ZbX,Zb2];simp⟩
theorem Zv0 {xs:List Nat}{s:Nat}(a:Dig W64 xs)(b:s≤64):wl (val W64 xs*2^s)≤xs.length+1:=ZbZ.2 (by
 have c:=ZaV a
 rw[uS]
 have d:2^s≤W64:=by rw[Zao];exact vF (n:=2) (by decide) b
 exact uY ((rW (p2 s)).2 c) (uI _ d))
theorem Zv1 {x y s:Nat}:x*2^s%(y*2^s)/2^s=x%y:=by rw[sD,rS _ (p2 s)]
theorem Zv2 {x y s:Nat}:x*2^s/(y*2^s)=x/y:=rC _ _ (p2 s)
theorem Zg1 {b n c v:Nat}{xs:List Nat}{w:World}(a:Own .u64 94 w b xs)(f:Dig W64 xs)(g:xs.length=n)(h:val W64 xs=v)(i:n≤1099511627776)(d:n≤c):yA 106 #[.slice (some ⟨b,0,none⟩) n c] w (Zbp w v):=by
 subst g h
 refine (ZiP _ xs _ w a.shows0 i d).mono ?_
 rintro e w' ⟨rfl,Q⟩
 exact⟨_,rfl,(Zaj.of_own a f d).ext Q,Q⟩
theorem Zva {ys:List Nat}{y:Nat}(h:ys.length=1)(e:ys[0]?.getD 0=y):val W64 ys=y:=by
 obtain⟨z,rfl⟩:=qX.1 h
 simp at e
 simp[e]
theorem Blk.own1 {w:World}{b r:Nat}(h:Blk 94 w b #[.int .u64 (r:Int)]):Own .u64 94 w b [r]:=⟨[],by simp,h⟩
/-! ### of numbers -/
section
variable {u v:Value} {m n:Nat} {w:World}
theorem Zcx (f:Zaj w u m)(g:Zaj w v n)(a:wl m≤4294967296)(b:wl n≤4294967296):yA 126 #[u,v] w (Zbp w (m+n)):=by
 obtain⟨A,h,c,rfl,s,i,d,j,rfl⟩:=f
 obtain⟨k,l,o,rfl,p,q,e,r,rfl⟩:=g
 rw[←ZaQ d j] at a
 rw[←ZaQ e r] at b
 exact ZrY A k h l c o w i q a b d e
theorem Zgb (g:Zaj w u m)(h:Zaj w v n)(d:wl m≤4294967296)(a:n≤m):yA 127 #[u,v] w (Zbp w (m-n)):=by
 obtain⟨A,i,c,rfl,t,j,e,k,rfl⟩:=g
 obtain⟨l,o,p,rfl,q,r,f,s,rfl⟩:=h
 have b:=Zbj a
 rw[←ZaQ e k] at d b
 rw[←ZaQ f s] at b
 exact ZqF A l i o c p w j r d (by omega) e f b a
theorem Zh0 (f:Zaj w u m)(g:Zaj w v n)(a:wl m≤4294967296)(b:wl n≤4294967296):yA 124 #[u,v] w (Zbp w (m*n)):=by
 obtain⟨A,h,c,rfl,s,i,d,j,rfl⟩:=f
 obtain⟨k,l,o,rfl,p,q,e,r,rfl⟩:=g
 rw[←ZaQ d j] at a
 rw[←ZaQ e r] at b
 exact ZqG A k h l c o w i q a b d e
theorem Zdg (k:Nat)(b:Zaj w u m)(d:wl m≤4294967296)(f:k≤274877906944):yA 66 #[u,.int .i64 (k:Int)] w (Zbp w (m*2^k)):=by
 have a:=b
 obtain⟨A,g,c,rfl,j,h,e,i,rfl⟩:=b
 rw[←ZaQ e i] at d
 exact ZuT A g c k w a h d e f
theorem Zdc (k:Nat)(b:Zaj w u m)(d:wl m≤4294967296)(f:k≤274877906944):yA 128 #[u,.int .i64 (k:Int)] w (Zbp w (m/2^k)):=by
 have a:=b
 obtain⟨A,g,c,rfl,j,h,e,i,rfl⟩:=b
 rw[←ZaQ e i] at d
 exact ZrZ A g c k w a h d e f
theorem ZbV (e:Zaj w u m)(a:wl m≤4294967296):yA 65 #[u] w (RetV w (.int .i64 ((blen m:Nat):Int))):=by
 obtain⟨A,f,c,rfl,h,g,b,d,rfl⟩:=e
 rw[←ZaQ b d] at a
 exact Zo8 A f c w g a b d
theorem Zgc (d:Glob w)(e:Zaj w u m)(a:wl m≤4294967296)(f:0<m):yA 157 #[u] w (RetV w (.int .i64 ((tzn m:Nat):Int))):=by
 obtain⟨A,g,c,rfl,j,h,b,i,rfl⟩:=e
 rw[←ZaQ b i] at a
 exact ZqP A g c w h a b d f
theorem Zfz (i:Nat)(a:Zaj w u m)(hi:i≤274877906944):yA 158 #[u,.int .i64 (i:Int)] w (RetV w (.bool (decide (m/2^i%2=1)))):=by
 obtain⟨A,b,c,rfl,f,d,e,g,rfl⟩:=a
 exact ZtM A b c w d e i hi
theorem ZdM (e:Zaj w u m)(f:Zaj w v n)(a:wl m≤4294967296):yA 122 #[u,v] w (RetV w (.int .i64 (cmpI (m:Int) (n:Int)))):=by
 obtain⟨A,g,c,rfl,r,h,b,d,rfl⟩:=e
 obtain⟨i,j,k,rfl,l,o,p,q,rfl⟩:=f
 rw[←ZaQ b d] at a
 exact Zn0 A i g j c k w h o a b p d q
end
theorem Zsj (A f:Option Addr)(xs ys:List Nat)(c c2:Nat)(w:World)(hX:Zah .u64 w A xs)(hY:Zah .u64 w f ys)(hl:xs.length≤4294967295)(E0:ys.length≤4294967296)(hx:Dig W64 xs)(hy:Dig W64 ys)(hN:Zaj w (.slice A xs.length c) (val W64 xs))(hM:Zaj w (.slice f ys.length c2) (val W64 ys))(tx:Trim xs)(ty:Trim ys)(f0:0<val W64 ys) :
 yA 142 #[.slice A xs.length c,.slice f ys.length c2] w (ZfU w (val W64 xs/val W64 ys) (val W64 xs%val W64 ys)):=by
 have hw:wl (val W64 xs)≤4294967296:=by rw[←ZaQ hx tx];omega
 have F0:wl (val W64 ys)≤4294967296:=by rw[←ZaQ hy ty];exact E0
 refine Zax (Φ:=fun w=>(((Zaj w (.slice A xs.length c) (val W64 xs)∧Zah .u64 w A xs)∧Zaj w (.slice f ys.length c2) (val W64 ys))∧Zah .u64 w f ys)) Tryz.func142 rfl (by kernel_rfl) (fun w' hf=>⟨⟨⟨hN.ext hf,hX.ext hf⟩,hM.ext hf⟩,hY.ext hf⟩) ?_
 refine Zac (Zab (xq 2 [eS1 4 none 0 0,eS1 5 none 0 0] [] ?_))
 refine xe (Zaa (Zac (Zac (Zab (xq 2 [eS1 13 A xs.length c,eS1 14 f ys.length c2] [] ?_)))))
 refine xqc 122 [.slice A xs.length c,.slice f ys.length c2] 15 (fun _:Unit=>.int .i64 (cmpI ((val W64 xs:Nat):Int) ((val W64 ys:Nat):Int))) _ (fun w R Q=>yN (ZdM Q.1.1.1 Q.1.2 hw)) fun B=>?_
 refine xq 1 [(16,.v (.bool (decide ((cmpI ((val W64 xs:Nat):Int) ((val W64 ys:Nat):Int))<0))))] [] ?_
 refine xe (Zaa ?_)
 refine yQ ((decide ((cmpI ((val W64 xs:Nat):Int) ((val W64 ys:Nat):Int))<0))) (fun G=>?_) fun G=>?_
 ·have P:=ZdB.1 (uC G)
  refine Zac (Zab (xq 3 [eS1 4 none 0 0,eS1 5 A xs.length c] [] ?_))
  refine xe (Zaa (Zaf (Zae ?_)))
  refine yR (.tuple #[.slice none 0 0,.slice A xs.length c]) fun w' R Q=>?_
  exact⟨_,_,rfl,by rw[vZ P];exact Zaj.zero _,by rw[vA P];exact Q.1.1.1.1,R⟩
 have G0:val W64 ys≤val W64 xs:=Nat.le_of_not_lt (fun h'=>uD G (ZdB.2 h'))
 have N0:ys.length≤xs.length:=by have:=Zbj G0;rwa [←ZaQ hy ty,← ZaQ hx tx] at this
 have O0:0<ys.length:=sH.2 (fun e=>by rw[e] at f0;simp at f0)
 refine Zal (Zaa (Zac (Zac (Zab (xq 3 [yB 20 ((((ys.length:Nat):Int):Int) == 1)] [] ?_)))))
 refine xe (Zaa ?_)
 refine yQ (((((ys.length:Nat):Int):Int) == 1)) (fun H=>?_) fun H=>?_
 ·have V:=tA.1 H
  refine Zac (Zab (xq 1 [eS1 21 A xs.length c] [] ?_))
  refine Zts 107 [.slice A xs.length c] (d:=22) (k:=.u64) (e:=94) xs (fun w R Q=>Zle A xs c w Q.1.1.1.2 (by omega) (by omega)) fun q cc g0 L0 _=>?_
  refine xr 1 [eS1 0 A xs.length c,eS1 1 f ys.length c2,eS1 4 none 0 0,eS1 5 none 0 0,eS1 6 (some ⟨q,0,none⟩) xs.length cc] [] ?_
  refine xe (Zaa (Zac (Zab (xq 2 [eS1 23 (some ⟨q,0,none⟩) xs.length cc,eS1 24 f ys.length c2] [] ?_))))
  refine xqk 25 (atA f 0) (fun w R Q=>ZaO (t:=77) (e:=94) (x:=.tmp 24) (ix:=(Operand.const (Value.int IntKind.i64 0))) (len:=ys.length) (cap:=c2) (i:=0) (((Q.1).self.1.2).ne (j:=0) (by omega)) (by omega)) ?_
  obtain⟨r,D⟩:=yE (ys[0]?.getD 0)
  refine xqk 26 (.int .u64 (r:Int)) (fun w R Q=>by rw[←D];exact ZaW (t:=94) (x:=.tmp 25) ((Q.1).self.1.2) (j:=0) (by omega)) ?_
  have h0:=Zva (by omega) D
  refine ZhW (xs:=xs) (α:=List Nat) 108 [.slice (some ⟨q,0,none⟩) xs.length cc,.int .u64 (r:Int)] (d:=27) (fun x=>.int .u64 ((val W64 xs%r:Nat):Int)) (fun x=>x.length=xs.length∧Dig W64 x∧val W64 x=val W64 xs/r) (fun x=>x) q (fun x w=>(Box (fun j=>q≤j) w (fun w=>((((Zaj w (.slice A xs.length c) (val W64 xs)∧Zah .u64 w A (xs))∧Zaj w (.slice f ys.length c2) (val W64 ys))∧Zah .u64 w f (ys))∧True))∧Own .u64 94 w q (x))) (fun w Q=>Q.2) (by omega) (Or.inl g0) (fun w R Q=>Zg0 q _ _ _ _ Q.2 (by omega) hx (by omega) (by rw[←D];exact hy.getD Zan _)) (fun x w w' hp Q N W=>⟨((Q.1).fr (N.mono (fun _ _ e=>by rw[e];exact uK _))),W⟩) fun x I=>?_
  obtain⟨M0,rfl⟩:∃ y,y=x:=⟨_,rfl⟩
  refine xr 1 [eS1 0 A xs.length c,eS1 1 f ys.length c2,eS1 4 none 0 0,eS1 5 none 0 0,eS1 6 (some ⟨q,0,none⟩) xs.length cc,yU 7 ((val W64 xs%r:Nat):Int)] [] ?_
  refine xe (Zaa (Zac (Zab (xq 1 [eS1 28 (some ⟨q,0,none⟩) xs.length cc] [] ?_))))
  refine xqc 106 [.slice (some ⟨q,0,none⟩) xs.length cc] 29 ZaJ _ (fun w R Q=>yM ZaD (Zg1 Q.2 I.2.1 I.1 I.2.2 (by omega) (by omega))) fun B=>?_
  obtain⟨X,Y,Z⟩:=B
  refine xq 1 [yU 30 ((val W64 xs%r:Nat):Int)] [] ?_
  refine yD (d:=31) (fun zb:Nat=>.slice (some ⟨zb,0,none⟩) 1 1) (fun zb zw=>Blk 94 zw zb #[.int .u64 ((val W64 xs%r:Nat):Int)]) (fun w R Q=>ZaZ (t:=77) (e:=94) (n:=1) (sz:=1) (z:=.int .u64 0) (parts:=#[(0,Operand.tmp 30)]) (by kernel_rfl) (by kernel_rfl) (by kernel_rfl) (by kernel_rfl) (by kernel_rfl) (by kernel_rfl)) fun i0=>?_
  refine xr 0 [eS1 0 A xs.length c,eS1 1 f ys.length c2,eS1 4 none 0 0,eS1 5 none 0 0,eS1 29 X Y Z,eS1 31 (some ⟨i0,0,none⟩) 1 1] [] ?_
  refine xqc 106 [.slice (some ⟨i0,0,none⟩) 1 1] 32 ZaJ _ (fun w R Q=>yM ZaD (Zg1 (Q.2).own1 (Dig.nil.cons (rV (uM _ (by omega)) (by rw[←D];exact hy.getD Zan _))) (show [val W64 xs%r].length=1 from rfl) (show val W64 [val W64 xs%r]=val W64 xs%r by simp) (by omega) (by omega))) fun B=>?_
  obtain⟨j0,k0,l0⟩:=B
  refine xq 2 [eS1 4 X Y Z,eS1 5 j0 k0 l0] [] ?_
  refine xe (Zaa (Zaf (Zae ?_)))
  refine yR (.tuple #[.slice X Y Z,.slice j0 k0 l0]) fun w' R Q=>?_
  exact⟨_,_,rfl,by rw[h0];exact Q.1.1.2,by rw[h0];exact Q.2,R⟩
 have V:=Zbo H
 refine Zal (Zaa (Zac (Zab (xq 4 [eS1 33 f ys.length c2,yJ 36 (IntKind.i64.wrap (((ys.length:Nat):Int)-1))] [] ?_))))
 rw[yW (((ys.length:Nat):Int)-1) (((ys.length-1:Nat):Int)) (by omega)]
 refine xqk 37 (atA f (ys.length-1)) (fun w R Q=>ZaO (t:=77) (e:=94) (x:=.tmp 33) (ix:=.tmp 36) (len:=ys.length) (cap:=c2) (i:=ys.length-1) ((Q.1.2).ne (j:=ys.length-1) (by omega)) (by omega)) ?_
 obtain⟨m0,J⟩:=yE (ys[ys.length-1]?.getD 0)
 refine xqk 38 (.int .u64 (m0:Int)) (fun w R Q=>by rw[←J];exact ZaW (t:=94) (x:=.tmp 37) (Q.1.2) (j:=ys.length-1) (by omega)) ?_
 obtain⟨t,rfl⟩:∃ t,t=m0:=⟨_,rfl⟩
 refine xqc 174 [.int .u64 (t:Int)] 39 (fun _:Unit=>.int .i64 ((64-blen t:Nat):Int)) _ (fun w R Q=>yN (ZqO t _ (by rw[←J];exact hy.getD Zan _))) fun B=>?_
 refine xq 1 [yJ 8 ((64-blen t:Nat):Int)] [] ?_
 refine xe (Zaa (Zac (Zab (xq 2 [eS1 40 f ys.length c2,yJ 41 ((64-blen t:Nat):Int)] [] ?_))))
 refine xqc 66 [.slice f ys.length c2,.int .i64 ((64-blen t:Nat):Int)] 42 ZaJ _ (fun w R Q=>yM ZaD (Zdg (64-blen t) Q.1.1.1.2 F0 (by omega))) fun B=>?_
 obtain⟨g,n0,o⟩:=B
 refine xq 1 [eS1 9 g n0 o] [] ?_
 refine xe (Zaa (Zac ?_))
 refine SXc.know (p:=n0=(wds (val W64 ys*2^(64-blen t))).length∧(wds (val W64 ys*2^(64-blen t))).length≤o) (fun w _ Q=>(Q.2).lens) fun O=>?_
 obtain⟨dd,C⟩:∃ dd,dd=wds (val W64 ys*2^(64-blen t)):=⟨_,rfl⟩
 rw[←C] at O
 obtain⟨rfl,P0⟩:=O
 have a0:Dig W64 dd:=by rw[C];exact (ZdW _).1
 have o0:Trim dd:=by rw[C];exact Zkj _
 have b0:val W64 dd=val W64 ys*2^(64-blen t):=by rw[C];exact (ZdW _).2
 have c0:dd.length=ys.length:=by rw[C,ZpT];exact ZvZ (k:=ys.length-1) hy (by omega) ty J
 have K:0<val W64 dd:=Ze4 o0 Zan (fun e=>by rw[e] at c0;simp at c0;omega)
 have p0:=ZaV a0
 refine Zab (xq 3 [yJ 45 (IntKind.i64.wrap (((xs.length:Nat):Int)+1))] [] ?_)
 rw[yW (((xs.length:Nat):Int)+1) (((xs.length+1:Nat):Int)) (by omega)]
 refine ZgX (d:=46) (t:=77) (e:=94) (k:=.u64) (kl:=.i64) (kc:=.i64) (l:=.tmp 45) (c:=.tmp 45) (xs.length+1) 8 (by omega) (by decide) fun b S q0=>?_
 have hA:∀ a,g=some a→a.block≠b:=fun a ha=>Nat.ne_of_lt (q0 a.block (fun w Q=>(Q.2).shows.lt (by rw[←C,c0];omega) ha))
 refine xr 1 [eS1 0 A xs.length c,eS1 1 f ys.length c2,eS1 4 none 0 0,eS1 5 none 0 0,yJ 8 ((64-blen t:Nat):Int),eS1 9 g dd.length o,eS1 10 (some ⟨b,0,none⟩) (xs.length+1) (xs.length+1)] [] ?_
 refine xe (Zaa (Zac (Zab (xq 3 [eS1 47 (some ⟨b,0,none⟩) (xs.length+1) (xs.length+1),eS1 48 A xs.length c,yJ 49 ((64-blen t:Nat):Int)] [] ?_))))
 refine xqc 66 [.slice A xs.length c,.int .i64 ((64-blen t:Nat):Int)] 50 ZaJ _ (fun w R Q=>yM ZaD (Zdg (64-blen t) (Q.1).self.1.1.1.1.1.1 hw (by omega))) fun B=>?_
 obtain⟨H0,r0,s0⟩:=B
 refine SXi.know (p:=r0=(wds (val W64 xs*2^(64-blen t))).length∧(wds (val W64 xs*2^(64-blen t))).length≤s0) (fun w _ Q=>(Q.2).lens) fun O=>?_
 have T:=Zv0 (s:=64-blen t) hx (by omega)
 rw[←ZpT] at T
 obtain⟨t0,u0,d0⟩:=ZtP (n:=xs.length+1) (ZdW (val W64 xs*2^(64-blen t))).1 T
 rw[(ZdW _).2] at d0
 obtain⟨zz,v0⟩:=yE ((wds (val W64 xs*2^(64-blen t))).take (xs.length+1) ++ (List.replicate (xs.length+1) 0).drop (wds (val W64 xs*2^(64-blen t))).length)
 rw[v0] at t0 u0 d0
 refine ZuR (d:=51) (dx:=Operand.tmp 47) (sx:=Operand.tmp 50) (dT:=77) (sT:=77) (e:=94) (k:=.u64) (sp:=H0) (mid:=List.replicate (xs.length+1) 0) (ys:=wds (val W64 xs*2^(64-blen t))) (n:=xs.length+1) (m:=r0) (dc:=xs.length+1) (sc:=s0) b (fun w=>((Box (fun j=>b≤j) w (fun w=>((((((Zaj w (.slice A xs.length c) (val W64 xs)∧Zah .u64 w A (xs))∧Zaj w (.slice f ys.length c2) (val W64 ys))∧Zah .u64 w f (ys))∧True)∧True)∧Zaj w (.slice g dd.length o) (val W64 ys*2^(64-blen t))))∧Own .u64 94 w b (zz))∧True)) (by simp) O.1.symm (by simp) (fun w Q=>Q.1.2) (fun w Q=>(Q.2).shows) (Or.inl S) (fun w w' Q N W=>⟨⟨((Q.1.1).fr (N.mono (fun _ _ e=>by rw[e];exact uK _))),(by rw[←v0];rwa [rU] at W)⟩,trivial⟩) ?_
 refine xr 0 [eS1 0 A xs.length c,eS1 1 f ys.length c2,eS1 4 none 0 0,eS1 5 none 0 0,yJ 8 ((64-blen t:Nat):Int),eS1 9 g dd.length o,eS1 10 (some ⟨b,0,none⟩) (xs.length+1) (xs.length+1)] [] ?_
 refine xe (Zaa (Zac (Zab (xq 5 [yJ 56 (IntKind.i64.wrap (((xs.length:Nat):Int)-((ys.length:Nat):Int)))] [] ?_))))
 rw[yW (((xs.length:Nat):Int)-((ys.length:Nat):Int)) (((xs.length-(ys.length):Nat):Int)) (by omega)]
 refine xq 1 [(57,.v (.int .i64 (IntKind.i64.wrap (((xs.length-(ys.length):Nat):Int)+1))))] [] ?_
 rw[show IntKind.i64.wrap ((((xs.length-(ys.length):Nat):Int)+1))=((xs.length-(ys.length)+1:Nat):Int) by rw[IntKind.wrap_i64];omega]
 refine ZgX (d:=58) (t:=77) (e:=94) (k:=.u64) (kl:=.i64) (kc:=.i64) (l:=.tmp 57) (c:=.tmp 57) (xs.length-(ys.length)+1) 8 (by omega) (by decide) fun r22 w0 x0=>?_
 have Q0:b<r22:=x0 b (fun w Q=>(Q.1.2).lt)
 refine xr 1 [eS1 1 f ys.length c2,eS1 4 none 0 0,eS1 5 none 0 0,yJ 8 ((64-blen t:Nat):Int),eS1 9 g dd.length o,eS1 10 (some ⟨b,0,none⟩) (xs.length+1) (xs.length+1),eS1 11 (some ⟨r22,0,none⟩) (xs.length-(ys.length)+1) (xs.length-(ys.length)+1)] [] ?_
 refine xe (Zaa (Zac (Zac (Zab (xq 3 [(61,.v (.int .i64 (IntKind.i64.wrap (((xs.length-(ys.length)+1:Nat):Int)-1))))] [] ?_)))))
 rw[yW (((xs.length-ys.length+1:Nat):Int)-1) (((xs.length-ys.length+1:Nat):Int)-1) (by omega)]
 refine xq 1 [yJ 12 (((xs.length-ys.length+1:Nat):Int)-1)] [] ?_
 refine xe (Zaa (ZaH ?_))
 refine SXc.weak [eS1 1 f ys.length c2,eS1 4 none 0 0,eS1 5 none 0 0,yJ 8 ((64-blen t:Nat):Int),eS1 9 g dd.length o,eS1 10 (some ⟨b,0,none⟩) (xs.length+1) (xs.length+1),eS1 11 (some ⟨r22,0,none⟩) (xs.length-(ys.length)+1) (xs.length-(ys.length)+1),yJ 12 ((((xs.length-ys.length+1):Nat):Int)-1)] [] (Ψ:=fun w=>((Box (fun j=>b≤j) w (fun w=>((((((Zaj w (.slice A xs.length c) (val W64 xs)∧Zah .u64 w A (xs))∧Zaj w (.slice f ys.length c2) (val W64 ys))∧Zah .u64 w f (ys))∧True)∧True)∧Zaj w (.slice g dd.length o) (val W64 ys*2^(64-blen t))))∧Own .u64 94 w b (zz))∧Own .u64 94 w r22 ((List.replicate (xs.length-(ys.length)+1) 0)))) (ZaE.of (by kernel_rfl)) (by kernel_rfl) (fun w Q=>⟨⟨(Q.1).self.1.1,(Q.1).self.1.2⟩,Q.2⟩) ?_
 refine ZbI (fun nn ss ff=>∃ (k:Nat) (E qs:List Nat),ss=ofL [eS1 1 f ys.length c2,eS1 4 none 0 0,eS1 5 none 0 0,yJ 8 ((64-blen t:Nat):Int),eS1 9 g dd.length o,eS1 10 (some ⟨b,0,none⟩) (xs.length+1) (xs.length+1),eS1 11 (some ⟨r22,0,none⟩) (xs.length-(ys.length)+1) (xs.length-(ys.length)+1),yJ 12 ((k:Int)-1)] []∧ff=(fun w=>((Box (fun j=>b≤j) w (fun w=>((((((Zaj w (.slice A xs.length c) (val W64 xs)∧Zah .u64 w A (xs))∧Zaj w (.slice f ys.length c2) (val W64 ys))∧Zah .u64 w f (ys))∧True)∧True)∧Zaj w (.slice g dd.length o) (val W64 ys*2^(64-blen t))))∧Own .u64 94 w b (E))∧Own .u64 94 w r22 (qs)))∧(OvR (val W64 xs*2^(64-blen t)) (val W64 dd) (xs.length+1) (xs.length-ys.length+1) k E qs)∧(k≤xs.length-ys.length+1)∧nn=(1+k)) ((1+(xs.length-ys.length+1))) ⟨(xs.length-ys.length+1),zz,(List.replicate (xs.length-(ys.length)+1) 0),rfl,rfl,(OvR.start t0 u0 d0 (by rw[b0];exact Zwz hx ty (by omega) (by omega))),uK _,rfl⟩ ?_
 rintro nn ss ff ⟨k,E,qs,rfl,rfl,F,hk,rfl⟩
 refine Zac (Zac (Zab (xq 2 [(63,.v (.bool (decide (((k:Int)-1)≥0))))] [] ?_)))
 refine xe (Zaa ?_)
 refine yQ ((decide (((k:Int)-1)≥0))) (fun L=>?_) fun L=>?_
 ·have e0:=uC L
  obtain⟨j,rfl⟩:∃ j,k=j+1:=⟨k-1,by omega⟩
  rw[show ((((j+1):Nat):Int)-1)=(j:Int) by omega]
  refine Zal (Zaa (Zac (ZaH (Zab (xq 8 [eS1 66 (some ⟨r22,0,none⟩) (xs.length-(ys.length)+1) (xs.length-(ys.length)+1),yJ 67 (j:Int),eS1 68 (some ⟨b,0,none⟩) (xs.length+1) (xs.length+1),yJ 69 (j:Int),yJ 73 (IntKind.i64.wrap ((j:Int)+((ys.length:Nat):Int)))] [] ?_)))))
  rw[yW ((j:Int)+((ys.length:Nat):Int)) (((j+(ys.length):Nat):Int)) (by omega)]
  refine xq 1 [(74,.v (.int .i64 (IntKind.i64.wrap (((j+(ys.length):Nat):Int)+1))))] [] ?_
  rw[show IntKind.i64.wrap ((((j+(ys.length):Nat):Int)+1))=((j+(ys.length)+1:Nat):Int) by rw[IntKind.wrap_i64];omega]
  refine xqk 75 (.slice (some ⟨b,j,none⟩) (dd.length+1) (xs.length+1-j)) (fun w R Q=>Ztu (t:=77) (e:=94) (x:=.tmp 68) (len:=(xs.length+1)) (cap:=(xs.length+1)) (l:=j) (h:=j+(ys.length)+1) (n:=dd.length+1) (m:=xs.length+1-j) (lo:=.tmp 69) (hi:=.tmp 74) (by omega) (by omega) (by omega) (by omega) (by omega)) ?_
  refine xq 1 [eS1 76 g dd.length o] [] ?_
  refine ZhW (xs:=E) (α:=List Nat) 175 [.slice (some ⟨b,j,none⟩) (dd.length+1) (xs.length+1-j),.slice g dd.length o] (d:=77) (fun x=>.int .u64 ((win j dd.length E/val W64 dd:Nat):Int)) (fun x=>WinR j dd.length E x∧win j dd.length x=win j dd.length E%val W64 dd) (fun x=>x) b (fun x w=>((Box (fun j=>b≤j) w (fun w=>((((((Zaj w (.slice A xs.length c) (val W64 xs)∧Zah .u64 w A (xs))∧Zaj w (.slice f ys.length c2) (val W64 ys))∧Zah .u64 w f (ys))∧True)∧True)∧Zaj w (.slice g dd.length o) (val W64 ys*2^(64-blen t))))∧Own .u64 94 w b (x))∧Own .u64 94 w r22 (qs))) (fun w Q=>Q.1.2) (by have:=F.1;omega) (Or.inl S) (fun w R Q=>Zld b _ j E dd _ _ _ Q.1.2 (by rw[C];exact ((Q.1.1).self.2).shows) hA (by rw[F.1];omega) (by rw[F.1];omega) F.2.1 a0 (by omega) K (F.ready p0 (by omega)).2.2) (fun x w w' hp Q N W=>⟨⟨((Q.1.1).fr (N.mono (fun _ _ e=>by rw[e];exact uK _))),W⟩,((Q.2).fr N (show ¬ (r22=b) by omega))⟩) fun x U=>?_
  obtain⟨M,rfl⟩:∃ y,y=x:=⟨_,rfl⟩
  have HS:=F.step p0 K (by omega) (by omega) U.1 U.2
  have R0:=F.2.2.1
  refine xr 0 [eS1 1 f ys.length c2,eS1 4 none 0 0,eS1 5 none 0 0,yJ 8 ((64-blen t:Nat):Int),eS1 9 g dd.length o,eS1 10 (some ⟨b,0,none⟩) (xs.length+1) (xs.length+1),eS1 11 (some ⟨r22,0,none⟩) (xs.length-(ys.length)+1) (xs.length-(ys.length)+1),yJ 12 (j:Int),eS1 66 (some ⟨r22,0,none⟩) (xs.length-(ys.length)+1) (xs.length-(ys.length)+1),yJ 67 (j:Int),yU 77 ((win j dd.length E/val W64 dd:Nat):Int)] [] ?_
  refine xqk 78 (.pointer (some ⟨r22,j,none⟩)) (fun w R Q=>ZbJ (t:=77) (e:=94) (x:=.tmp 66) (ix:=.tmp 67) (len:=(xs.length-(ys.length)+1)) (cap:=(xs.length-(ys.length)+1)) (i:=j) (by omega)) ?_
  refine Zcn (t:=94) (x:=.tmp 78) (y:=.tmp 77) r22 (j) (win j dd.length E/val W64 dd) (fun w=>((Box (fun j=>b≤j) w (fun w=>((((((Zaj w (.slice A xs.length c) (val W64 xs)∧Zah .u64 w A (xs))∧Zaj w (.slice f ys.length c2) (val W64 ys))∧Zah .u64 w f (ys))∧True)∧True)∧Zaj w (.slice g dd.length o) (val W64 ys*2^(64-blen t))))∧Own .u64 94 w b (M))∧Own .u64 94 w r22 ((qs).set (j) (win j dd.length E/val W64 dd)))) (fun w Q=>Q.2) (by omega) (Or.inl w0) (fun w w' Q N W=>⟨⟨((Q.1.1).fr (N.mono (fun _ _ e=>by rw[e];omega))),((Q.1.2).fr N (show ¬ (b=r22) by omega))⟩,W⟩) ?_
  refine xe (Zbk (Zaa (Zab (xq 2 [yJ 65 (IntKind.i64.wrap ((j:Int)-1))] [] ?_))))
  rw[yW ((j:Int)-1) ((j:Int)-1) (by omega)]
  refine xq 1 [yJ 12 ((j:Int)-1)] [] ?_
  refine xe ?_
  refine SXq.weak [eS1 1 f ys.length c2,eS1 4 none 0 0,eS1 5 none 0 0,yJ 8 ((64-blen t:Nat):Int),eS1 9 g dd.length o,eS1 10 (some ⟨b,0,none⟩) (xs.length+1) (xs.length+1),eS1 11 (some ⟨r22,0,none⟩) (xs.length-(ys.length)+1) (xs.length-(ys.length)+1),yJ 12 ((j:Int)-1)] [] (Ψ:=fun w=>((Box (fun j=>b≤j) w (fun w=>((((((Zaj w (.slice A xs.length c) (val W64 xs)∧Zah .u64 w A (xs))∧Zaj w (.slice f ys.length c2) (val W64 ys))∧Zah .u64 w f (ys))∧True)∧True)∧Zaj w (.slice g dd.length o) (val W64 ys*2^(64-blen t))))∧Own .u64 94 w b (M))∧Own .u64 94 w r22 (((qs).set (j) (win j dd.length E/val W64 dd))))) (ZaE.of (by kernel_rfl)) (by kernel_rfl) (fun w Q=>⟨⟨Q.1.1,Q.1.2⟩,Q.2⟩) ?_
  exact Za5 ((1+j)) (by omega) ⟨j,M,((qs).set (j) (win j dd.length E/val W64 dd)),rfl,rfl,HS,by omega,rfl⟩
 have e0:=uD L
 obtain rfl:k=0:=by omega
 refine Zbt (Zaw (Zaw (ZbH (Zaa (Zac (Zab (xq 1 [eS1 79 (some ⟨r22,0,none⟩) (xs.length-(ys.length)+1) (xs.length-(ys.length)+1)] [] ?_)))))))
 refine xqc 106 [.slice (some ⟨r22,0,none⟩) (xs.length-(ys.length)+1) (xs.length-(ys.length)+1)] 80 ZaJ _ (fun w R Q=>yM ZaD (Zg1 Q.2 F.2.2.2.1 F.2.2.1 ((F.done K).1.trans (by rw[b0,Zv2])) (by omega) (by omega))) fun B=>?_
 obtain⟨y0,z0,A0⟩:=B
 refine xq 1 [eS1 81 (some ⟨b,0,none⟩) (xs.length+1) (xs.length+1)] [] ?_
 refine xqc 106 [.slice (some ⟨b,0,none⟩) (xs.length+1) (xs.length+1)] 82 ZaJ _ (fun w R Q=>yM ZaD (Zg1 Q.1.1.2 F.2.1 F.1 (F.done K).2 (by omega) (by omega))) fun B=>?_
 obtain⟨I0,J0,K0⟩:=B
 refine xq 1 [yJ 83 ((64-blen t:Nat):Int)] [] ?_
 refine xqc 128 [.slice I0 J0 K0,.int .i64 ((64-blen t:Nat):Int)] 84 ZaJ _ (fun w R Q=>(Zdc (64-blen t) Q.2 (uA (Zbj (rM (uM _ K))) (by rw[←ZaQ a0 o0];omega)) (by omega)).mono (fun _ _ h=>ZaD (by rw[show (val W64 xs*2^(64-blen t)%val W64 dd)/2^(64-blen t)=val W64 xs%val W64 ys by rw[b0,Zv1]] at h;exact h))) fun B=>?_
 obtain⟨B0,C0,D0⟩:=B
 refine xq 2 [eS1 4 y0 z0 A0,eS1 5 B0 C0 D0] [] ?_
 refine xe (Zaa (Zaf ?_))
 refine yR (.tuple #[.slice y0 z0 A0,.slice B0 C0 D0]) fun w' R Q=>?_
 exact⟨_,_,rfl,Q.1.1.2,Q.2,R⟩
def shNb (r:FR) (x:ShN):Value:=.tuple #[yV r.s x.1 x.2.1 x.2.2 r.e,.int .i64 r.err]
def ZaX (w:World) (r:FR) (e:Ending) (w':World):Prop:=∃ x:ShN,e=.returned (shNb r x)∧Zaj w' (ZaJ x) r.m∧Ext w w'
theorem ZaU {w w':World}{e:Ending}{r:FR}(h:ZaX w r e w'):ZbO (shNb r) (fun x w=>Zaj w (ZaJ x) r.m) w e w':=by
 obtain⟨x,rfl,a,Q⟩:=h
 exact⟨x,rfl,Q,boxn Q (fun S b c d=>a.nrb c d)⟩
theorem ZqR (s:Bool)(e:Int):Zbi s 0 e=⟨false,0,0,0⟩:=rfl
theorem Zn3 {n:Nat}(s:Bool){e:Int}(a:0<n)(b:¬ e+tzn n < -1048576)(c:¬ e+tzn n>1048576):Zbi s n e=⟨s,oddM n,e+tzn n,0⟩:=by
 unfold Zbi
 rw[uN (by omega),uP ⟨by omega,by omega⟩]
theorem Zmv {n:Nat}(s:Bool){e:Int}(a:0<n)(h:e+tzn n < -1048576∨e+tzn n>1048576):Zbi s n e=⟨false,0,0,2⟩:=by
 unfold Zbi
 rw[uN (by omega),uN (by rintro⟨b,c⟩;omega)];rfl
theorem ZdN (n:Nat):blen n≤64*wl n:=by
 rw[Zbg,sZ]
 have:=Zjm n
 rwa [Zao] at this
theorem Zv3 {n:Nat}(h:wl n≤4294967296):tzn n≤274877906944:=by
 rcases uH n with rfl|a
 ·rw[tzn,dif_pos (Or.inl rfl)];omega
 obtain⟨c,b⟩:=ZdD a
 have d:blen n=blen (oddM n)+tzn n:=by
  have:=ZfZ (show 0<oddM n by omega) (tzn n)
  rwa [←b] at this
 have:=ZdN n
 omega
theorem Zlf {n:Nat}(h:wl n≤4294967296):blen n≤274877906944:=by have:=ZdN n;omega
theorem Zh1 {s:Bool}{n bits:Nat}{e:Int}{m:Bool}(h:blen n≤bits):Zbv s n e bits m=Zbi s n e:=by unfold Zbv;rw[uP h]
theorem Zdx {s:Bool}{n bits j:Nat}{e:Int}{m:Bool}(h:blen n=bits+(j+1))(a:n/2^j%2=1)(b:tzn n<j∨n/2^(j+1)%2=1∨m=true)(c:0<n) :
 Zbv s n e bits m=Zbi s (n/2^(j+1)+1) (e+((j+1:Nat):Int)):=by
 unfold Zbv ZcA
 rw[uN (by omega),h,show bits+(j+1)-bits-1=j by omega,show bits+(j+1)-bits=j+1 by omega,uP ⟨a,by rw[←Zr7 c];exact b⟩]
theorem Zd9 {s:Bool}{n bits j:Nat}{e:Int}{m:Bool}(h:blen n=bits+(j+1))(a:0<n)(b:¬ (n/2^j%2=1∧(tzn n<j∨n/2^(j+1)%2=1∨m=true))) :
 Zbv s n e bits m=Zbi s (n/2^(j+1)) (e+((j+1:Nat):Int)):=by
 unfold Zbv ZcA
 rw[uN (by omega),h,show bits+(j+1)-bits-1=j by omega,show bits+(j+1)-bits=j+1 by omega,uN (by rw[←Zr7 a];exact b)]
theorem Zv4:Trim [1]:=by
 intro k a
 have:k=0:=by simp at a;omega
 subst this
 simp
theorem wl_1:wl 1≤4294967296:=uA (Ze6.2 (by rw[Zao];decide)) (by decide)
theorem ZdO {w:World}{b:Nat}(h:Blk 94 w b #[.int .u64 1]):Zaj w (.slice (some ⟨b,0,none⟩) 1 1) 1 :=
 ⟨_,[1],1,rfl,uK _,(Blk.own1 (r:=1) h).shows0,Dig.nil.cons (by rw[Zao];decide),Zv4,rfl⟩
def Zh2 (w:World) (Q:Nat) (v:Value):Prop:=Q<w.heap.size∧w.cell? ⟨Q,0,none⟩=some v
theorem Zh2.ext {w w':World}{Q:Nat}{v:Value}(h:Zh2 w Q v)(a:Ext w w'):Zh2 w' Q v:=⟨uY h.1 a.size,(a.cell (p:=⟨Q,0,none⟩) h.1 (fun f=>f)).trans h.2⟩
theorem Zsk (Q:Nat)(A:Option Addr)(l c:Nat)(w:World)(h:Zh2 w Q (.slice A l c)):yA 143 #[.pointer (some ⟨Q,0,none⟩)] w (RetV w (.bool (decide (0<l)))):=by
 have a:=h.2
 go_enter Tryz.func143,Tryz.ntmps143
 go_wp2
 go_ret
 exact⟨vG Ending.returned (vG Value.bool (rP.2 (by omega))),Fr.refl _ _⟩
theorem Zsl (w:World):yA 125 #[] w (RetV w (.bool false)):=by
 go_enter Tryz.func125,Tryz.ntmps125
 go_wp2
 go_ret
 exact⟨rfl,Fr.refl _ _⟩
theorem ZbW (s:Bool)(A:Option Addr)(l c n:Nat)(e:Int)(w:World)(u:Glob w)(q:Zaj w (.slice A l c) n)(o:wl n≤4294967296)(x : -1152921504606846976≤e)(y:e≤1152921504606846976) :
 yA 118 #[.bool s,.slice A l c,.int .i64 e] w (ZaX w (Zbi s n e)):=by
 refine Zax (Φ:=fun w=>(Glob w∧Zaj w (.slice A l c) (n))) Tryz.func118 rfl (by kernel_rfl) (fun w' r=>⟨u.ext r,q.ext r⟩) ?_
 refine Zac ?_
 have z:=q.len0
 have B:=Zv3 o
 have C:=@Zca n
 refine Zab (xq 2 [(6,.p 6 0),yJ 7 0] [yF 6 79 false none 0 0 0] ?_)
 refine xe (Zaa (Zac (Zac (Zab (xq 3 [yB 11 (((l:Int):Int) == 0)] [] ?_)))))
 refine xe (Zaa ?_)
 refine yQ ((((l:Int):Int) == 0)) (fun b=>?_) fun b=>?_
 ·have f:=tA.1 b
  have m:n=0:=by omega
  refine Zac (Zab (xq 3 [yJ 7 0] [] ?_))
  refine xe (Zaa (Zaf (Zae ?_)))
  refine yR (.tuple #[yV false none 0 0 0,.int .i64 0]) fun w' R Q=>?_
  rw[m,ZqR]
  exact⟨(none,0,0),rfl,Zaj.zero _,R⟩
 have f:=Zbo b
 have m:0<n:=by omega
 refine Zal (Zaa (Zac (Zab (xq 1 [eS1 13 A l c] [] ?_))))
 refine xqc 157 [.slice A l c] 14 (fun _:Unit=>.int .i64 ((tzn n:Nat):Int)) _ (fun w R Q=>yN (Zgc Q.1 Q.2 o m)) fun t=>?_
 refine xq 1 [yJ 8 ((tzn n:Nat):Int)] [] ?_
 refine xe (Zaa (Zac (Zab (xq 3 [yJ 17 (IntKind.i64.wrap (e+((tzn n:Nat):Int)))] [] ?_))))
 rw[yW (e+((tzn n:Nat):Int)) (e+((tzn n:Nat):Int)) (by omega)]
 refine xq 1 [yJ 2 (e+((tzn n:Nat):Int))] [] ?_
 refine xe (Zaa (Zac (Zac (Zab (xq 3 [(20,.v (.bool (decide ((e+((tzn n:Nat):Int))<(-1048576)))))] [] ?_)))))
 rcases bl2 ((decide ((e+((tzn n:Nat):Int))<(-1048576)))) with a|a
 ·rw[a]
  have g:=uC a
  refine xq 3 [yB 23 true] [] ?_
  refine xe (Zaa (xa (Zac (Zab (xq 3 [yJ 7 2] [] ?_)))))
  refine xe (Zaa (Zaf (Zae ?_)))
  refine yR (.tuple #[yV false none 0 0 0,.int .i64 2]) fun w' R Q=>?_
  rw[Zmv s m (by omega)]
  exact⟨(none,0,0),rfl,Zaj.zero _,R⟩
 rw[a]
 have g:=uD a
 refine xq 3 [(23,.v (.bool (decide ((e+((tzn n:Nat):Int))>1048576))))] [] ?_
 refine xe (Zaa ?_)
 refine yQ ((decide ((e+((tzn n:Nat):Int))>1048576))) (fun d=>?_) fun d=>?_
 ·have h:=uC d
  refine Zac (Zab (xq 3 [yJ 7 2] [] ?_))
  refine xe (Zaa (Zaf (Zae ?_)))
  refine yR (.tuple #[yV false none 0 0 0,.int .i64 2]) fun w' R Q=>?_
  rw[Zmv s m (by omega)]
  exact⟨(none,0,0),rfl,Zaj.zero _,R⟩
 have h:=uD d
 refine Zal (Zaa (Zac (Zab (xq 3 [yB 25 s,eS1 26 A l c,yJ 27 ((tzn n:Nat):Int)] [] ?_))))
 refine xqc 128 [.slice A l c,.int .i64 ((tzn n:Nat):Int)] 28 ZaJ _ (fun w R Q=>yM ZaD (Zdc (tzn n) Q.1.2 o (by omega))) fun t=>?_
 obtain⟨i,j,k⟩:=t
 refine xq 4 [yJ 7 0] [yF 6 79 s i j k (e+((tzn n:Nat):Int))] ?_
 refine xe (Zaa (Zaf ?_))
 refine yR (.tuple #[yV s i j k (e+((tzn n:Nat):Int)),.int .i64 0]) fun w' R Q=>?_
 rw[Zn3 s m (by omega) (by omega)]
 exact⟨(i,j,k),rfl,Q.2,R⟩
theorem Zc6 (s:Bool)(A:Option Addr)(l c n:Nat)(e:Int)(bits:Nat)(w:World)(hg:Glob w)(hN:Zaj w (.slice A l c) n)(F:wl n≤4294967296)(z0 : -576460752303423488≤e)(A0:e≤576460752303423488)(hb:bits≤4294967296) :
 yA 123 #[.bool s,.slice A l c,.int .i64 e,.int .i64 (bits:Int),.func (.func 125) #[] #[]] w (ZaX w (Zbv s n e bits false)):=by
 refine Zax (Φ:=fun w=>(Glob w∧Zaj w (.slice A l c) (n))) Tryz.func123 rfl (by kernel_rfl) (fun w' hf=>⟨hg.ext hf,hN.ext hf⟩) ?_
 refine Zac ?_
 have B0:=Zlf F
 by_cases G:blen n≤bits
 ·obtain⟨k,hk⟩:∃ k,bits=blen n+k:=⟨bits-blen n,by omega⟩
  refine Zab (xq 2 [(10,.p 10 0),yJ 11 0] [yF 10 79 false none 0 0 0] ?_)
  refine xe (Zaa (Zac (Zab (xq 1 [eS1 14 A l c] [] ?_))))
  refine xqc 65 [.slice A l c] 15 (fun _:Unit=>.int .i64 ((blen n:Nat):Int)) _ (fun w R Q=>yN (ZbV Q.2 F)) fun g=>?_
  refine xq 2 [yJ 17 (IntKind.i64.wrap (((blen n:Nat):Int)-(bits:Int)))] [] ?_
  rw[show IntKind.i64.wrap (((blen n:Nat):Int)-(bits:Int)) = -(k:Int) by rw[IntKind.wrap_i64];omega]
  refine xq 1 [yJ 12 (-(k:Int))] [] ?_
  refine xe (Zaa (Zac (Zac (Zab (xq 2 [(19,.v (.bool (decide ((-(k:Int))≤0))))] [] ?_)))))
  rw[show decide (-(k:Int)≤0)=true from uQ (by omega)]
  refine xe (Zaa (xa (Zac (Zab (xq 3 [yB 20 s,eS1 21 A l c,yJ 22 e] [] ?_)))))
  obtain⟨i,H⟩:=yE (Zbi s (n) (e))
  refine xqc 118 [.bool s,.slice A l c,.int .i64 e] 23 (shNb i) _ (fun w R Q=>yM ZaU ((show Calls _ _ _ _ (ZaX w i) by rw[←H];exact ZbW s _ _ _ _ _ _ Q.1.1 Q.1.2 F (by omega) (by omega)))) fun g=>?_
  obtain⟨M,N,O⟩:=g
  refine xq 4 [yJ 11 i.err] [yF 10 79 i.s M N O i.e] ?_
  refine xe (Zaa (Zaf (Zae ?_)))
  refine yR (.tuple #[yV i.s M N O i.e,.int .i64 i.err]) fun w' R Q=>?_
  rw[Zh1 G,H]
  exact⟨(M,N,O),rfl,Q.2,R⟩
 obtain⟨j,hj⟩:∃ j,blen n=bits+(j+1):=⟨blen n-bits-1,by omega⟩
 have P:0<n:=sQ (fun e=>by rw[e,Zdv] at G;omega)
 have C:wl (n/2^(j+1))≤4294967296:=uA (Zbj (uO _ _)) F
 have S:wl (n/2^(j+1)+1)≤4294967296:=uA (Zbj (qH P (Nat.one_lt_two_pow (by omega)))) F
 obtain⟨b1,T⟩:=yE (decide (n/2^j%2=1))
 obtain⟨b2,U⟩:=yE (decide (n/2^(j+1)/2^0%2=1))
 obtain⟨b3,V⟩:=yE false
 refine Zab (xq 2 [(10,.p 10 0),yJ 11 0] [yF 10 79 false none 0 0 0] ?_)
 refine xe (Zaa (Zac (Zab (xq 1 [eS1 14 A l c] [] ?_))))
 refine xqc 65 [.slice A l c] 15 (fun _:Unit=>.int .i64 ((blen n:Nat):Int)) _ (fun w R Q=>yN (ZbV Q.2 F)) fun g=>?_
 refine xq 2 [yJ 17 (IntKind.i64.wrap (((blen n:Nat):Int)-(bits:Int)))] [] ?_
 rw[yW (((blen n:Nat):Int)-(bits:Int)) (((j+1:Nat):Int)) (by omega)]
 refine xq 1 [yJ 12 ((j+1:Nat):Int)] [] ?_
 refine xe (Zaa (Zac (Zac (Zab (xq 2 [yB 19 (decide (((j+1:Nat):Int)≤0))] [] ?_)))))
 rw[show decide (((j+1:Nat):Int)≤0)=false from uJ (by omega)]
 refine xe (Zaa (xb (Zal (Zaa (Zac (Zab (xq 2 [eS1 26 A l c,yJ 27 ((j+1:Nat):Int)] [] ?_)))))))
 refine xqc 128 [.slice A l c,.int .i64 ((j+1:Nat):Int)] 28 ZaJ _ (fun w R Q=>yM ZaD (Zdc (j+1) Q.1.2 F (by omega))) fun g=>?_
 obtain⟨a,b,f⟩:=g
 refine xq 1 [eS1 13 a b f] [] ?_
 refine xe (Zaa (Zac (Zac (Zab (xq 3 [eS1 29 A l c,yJ 31 (IntKind.i64.wrap (((j+1:Nat):Int)-1))] [] ?_)))))
 rw[yW (((j+1:Nat):Int)-1) ((j:Int)) (by omega)]
 refine xqc 158 [.slice A l c,.int .i64 (j:Int)] 32 (fun _:Unit=>.bool b1) _ (fun w R Q=>yN ((show Calls _ _ _ _ (RetV w (.bool b1)) by rw[←T];exact Zfz (j) Q.1.1.2 (by omega)))) fun g=>?_
 refine xq 1 [yB 33 b1] [] ?_
 rcases bl2 (b1) with m|m
 ·rw[m]
  have k1:=uC (T.trans m)
  refine xq 1 [eS1 34 A l c] [] ?_
  refine xqc 157 [.slice A l c] 35 (fun _:Unit=>.int .i64 ((tzn n:Nat):Int)) _ (fun w R Q=>yN (Zgc Q.1.1.1.1 Q.1.1.1.2 F P)) fun g=>?_
  refine xq 2 [yJ 37 (IntKind.i64.wrap (((j+1:Nat):Int)-1))] [] ?_
  rw[yW (((j+1:Nat):Int)-1) ((j:Int)) (by omega)]
  refine xq 2 [yB 39 (decide (((tzn n:Nat):Int)<(j:Int)))] [] ?_
  rcases bl2 ((decide (((tzn n:Nat):Int)<(j:Int)))) with o|o
  ·rw[o]
   have W:=uC o
   have k4:tzn n<j:=by omega
   refine xr 8 [yB 0 s,yJ 2 e,(10,.p 10 0),yJ 11 0,yJ 12 ((j+1:Nat):Int),eS1 13 a b f,yB 47 true] [yF 10 79 false none 0 0 0] ?_
   refine xe (Zaa (xa (Zab (xq 1 [eS1 48 a b f] [] ?_))))
   refine yD (d:=49) (fun D:Nat=>.slice (some ⟨D,0,none⟩) 1 1) (fun D zw=>Blk 94 zw D #[.int .u64 1]) (fun w R Q=>ZaZ (t:=77) (e:=94) (n:=1) (sz:=1) (z:=.int .u64 0) (parts:=#[(0,Operand.const (Value.int IntKind.u64 1))]) (by kernel_rfl) (by kernel_rfl) (by kernel_rfl) (by kernel_rfl) (by kernel_rfl) (by kernel_rfl)) fun w0=>?_
   refine xr 0 [yB 0 s,yJ 2 e,(10,.p 10 0),yJ 11 0,yJ 12 ((j+1:Nat):Int),eS1 13 a b f,eS1 48 a b f,eS1 49 (some ⟨w0,0,none⟩) 1 1] [yF 10 79 false none 0 0 0] ?_
   refine xqc 126 [.slice a b f,.slice (some ⟨w0,0,none⟩) 1 1] 50 ZaJ _ (fun w R Q=>yM ZaD (Zcx Q.1.1.1.2 (ZdO Q.2) C wl_1)) fun g=>?_
   obtain⟨X,Y,Z⟩:=g
   refine xq 1 [eS1 13 X Y Z] [] ?_
   refine xe (Zaa (Zac (Zab (xq 5 [yB 51 s,eS1 52 X Y Z,yJ 55 (IntKind.i64.wrap (e+((j+1:Nat):Int)))] [] ?_))))
   rw[yW (e+((j+1:Nat):Int)) (e+((j+1:Nat):Int)) (by omega)]
   obtain⟨q,I⟩:=yE (Zbi s (n/2^(j+1)+1) ((e+((j+1:Nat):Int))))
   refine xqc 118 [.bool s,.slice X Y Z,.int .i64 (e+((j+1:Nat):Int))] 56 (shNb q) _ (fun w R Q=>yM ZaU ((show Calls _ _ _ _ (ZaX w q) by rw[←I];exact ZbW s _ _ _ _ _ _ Q.1.1.1.1.1.1.1 Q.2 S (by omega) (by omega)))) fun g=>?_
   obtain⟨a0,b0,c0⟩:=g
   refine xq 4 [yJ 11 q.err] [yF 10 79 q.s a0 b0 c0 q.e] ?_
   refine xe (Zaa (Zaf ?_))
   refine yR (.tuple #[yV q.s a0 b0 c0 q.e,.int .i64 q.err]) fun w' R Q=>?_
   rw[Zdx hj k1 (Or.inl k4) P,I]
   exact⟨(a0,b0,c0),rfl,Q.2,R⟩
  rw[o]
  have W:=uD o
  have k4:¬ tzn n<j:=by omega
  refine xr 1 [yB 0 s,yJ 2 e,(4,.v (.func (.func 125) #[] #[])),(10,.p 10 0),yJ 11 0,yJ 12 ((j+1:Nat):Int),eS1 13 a b f,yB 33 true,yB 39 false,eS1 40 a b f] [yF 10 79 false none 0 0 0] ?_
  refine xqc 158 [.slice a b f,.int .i64 0] 41 (fun _:Unit=>.bool b2) _ (fun w R Q=>yN ((show Calls _ _ _ _ (RetV w (.bool b2)) by rw[←U];exact Zfz (0) Q.1.1.2 (by omega)))) fun g=>?_
  refine xq 2 [yB 43 b2] [] ?_
  rcases bl2 (b2) with r|r
  ·rw[r]
   have k2:=uC (U.trans r)
   rw[vQ,sK] at k2
   refine xq 4 [yB 47 true] [] ?_
   refine xe (Zaa (xa (Zab (xq 1 [eS1 48 a b f] [] ?_))))
   refine yD (d:=49) (fun D:Nat=>.slice (some ⟨D,0,none⟩) 1 1) (fun D zw=>Blk 94 zw D #[.int .u64 1]) (fun w R Q=>ZaZ (t:=77) (e:=94) (n:=1) (sz:=1) (z:=.int .u64 0) (parts:=#[(0,Operand.const (Value.int IntKind.u64 1))]) (by kernel_rfl) (by kernel_rfl) (by kernel_rfl) (by kernel_rfl) (by kernel_rfl) (by kernel_rfl)) fun x0=>?_
   refine xr 0 [yB 0 s,yJ 2 e,(10,.p 10 0),yJ 11 0,yJ 12 ((j+1:Nat):Int),eS1 13 a b f,eS1 48 a b f,eS1 49 (some ⟨x0,0,none⟩) 1 1] [yF 10 79 false none 0 0 0] ?_
   refine xqc 126 [.slice a b f,.slice (some ⟨x0,0,none⟩) 1 1] 50 ZaJ _ (fun w R Q=>yM ZaD (Zcx Q.1.1.1.1.2 (ZdO Q.2) C wl_1)) fun g=>?_
   obtain⟨d0,e0,f0⟩:=g
   refine xq 1 [eS1 13 d0 e0 f0] [] ?_
   refine xe (Zaa (Zac (Zab (xq 5 [yB 51 s,eS1 52 d0 e0 f0,yJ 55 (IntKind.i64.wrap (e+((j+1:Nat):Int)))] [] ?_))))
   rw[yW (e+((j+1:Nat):Int)) (e+((j+1:Nat):Int)) (by omega)]
   obtain⟨u,J⟩:=yE (Zbi s (n/2^(j+1)+1) ((e+((j+1:Nat):Int))))
   refine xqc 118 [.bool s,.slice d0 e0 f0,.int .i64 (e+((j+1:Nat):Int))] 56 (shNb u) _ (fun w R Q=>yM ZaU ((show Calls _ _ _ _ (ZaX w u) by rw[←J];exact ZbW s _ _ _ _ _ _ Q.1.1.1.1.1.1.1.1 Q.2 S (by omega) (by omega)))) fun g=>?_
   obtain⟨g0,i0,j0⟩:=g
   refine xq 4 [yJ 11 u.err] [yF 10 79 u.s g0 i0 j0 u.e] ?_
   refine xe (Zaa (Zaf ?_))
   refine yR (.tuple #[yV u.s g0 i0 j0 u.e,.int .i64 u.err]) fun w' R Q=>?_
   rw[Zdx hj k1 (Or.inr (Or.inl k2)) P,J]
   exact⟨(g0,i0,j0),rfl,Q.2,R⟩
  rw[r]
  have k2:=uD (U.trans r)
  rw[vQ,sK] at k2
  refine xq 1 [(44,.v (.func (.func 125) #[] #[]))] [] ?_
  refine xqc 125 [] 45 (fun _:Unit=>.bool b3) _ (fun w R Q=>yN ((show Calls _ _ _ _ (RetV w (.bool b3)) by rw[←V];exact Zsl _))) fun g=>?_
  refine xq 2 [yB 47 b3] [] ?_
  refine xe (Zaa ?_)
  refine yQ (b3) (fun E=>?_) fun E=>?_
  ·have k3:=V.trans E
   refine Zab (xq 1 [eS1 48 a b f] [] ?_)
   refine yD (d:=49) (fun D:Nat=>.slice (some ⟨D,0,none⟩) 1 1) (fun D zw=>Blk 94 zw D #[.int .u64 1]) (fun w R Q=>ZaZ (t:=77) (e:=94) (n:=1) (sz:=1) (z:=.int .u64 0) (parts:=#[(0,Operand.const (Value.int IntKind.u64 1))]) (by kernel_rfl) (by kernel_rfl) (by kernel_rfl) (by kernel_rfl) (by kernel_rfl) (by kernel_rfl)) fun y0=>?_
   refine xr 0 [yB 0 s,yJ 2 e,(10,.p 10 0),yJ 11 0,yJ 12 ((j+1:Nat):Int),eS1 13 a b f,eS1 48 a b f,eS1 49 (some ⟨y0,0,none⟩) 1 1] [yF 10 79 false none 0 0 0] ?_
   refine xqc 126 [.slice a b f,.slice (some ⟨y0,0,none⟩) 1 1] 50 ZaJ _ (fun w R Q=>yM ZaD (Zcx Q.1.1.1.1.1.2 (ZdO Q.2) C wl_1)) fun g=>?_
   obtain⟨k0,l0,m0⟩:=g
   refine xq 1 [eS1 13 k0 l0 m0] [] ?_
   refine xe (Zaa (Zac (Zab (xq 5 [yB 51 s,eS1 52 k0 l0 m0,yJ 55 (IntKind.i64.wrap (e+((j+1:Nat):Int)))] [] ?_))))
   rw[yW (e+((j+1:Nat):Int)) (e+((j+1:Nat):Int)) (by omega)]
   obtain⟨x,K⟩:=yE (Zbi s (n/2^(j+1)+1) ((e+((j+1:Nat):Int))))
   refine xqc 118 [.bool s,.slice k0 l0 m0,.int .i64 (e+((j+1:Nat):Int))] 56 (shNb x) _ (fun w R Q=>yM ZaU ((show Calls _ _ _ _ (ZaX w x) by rw[←K];exact ZbW s _ _ _ _ _ _ Q.1.1.1.1.1.1.1.1.1 Q.2 S (by omega) (by omega)))) fun g=>?_
   obtain⟨n0,o0,p0⟩:=g
   refine xq 4 [yJ 11 x.err] [yF 10 79 x.s n0 o0 p0 x.e] ?_
   refine xe (Zaa (Zaf ?_))
   refine yR (.tuple #[yV x.s n0 o0 p0 x.e,.int .i64 x.err]) fun w' R Q=>?_
   rw[Zdx hj k1 (Or.inr (Or.inr k3)) P,K]
   exact⟨(n0,o0,p0),rfl,Q.2,R⟩
  have k3:=V.trans E
  refine Zal (Zaa (Zac (Zab (xq 5 [yB 51 s,eS1 52 a b f,yJ 55 (IntKind.i64.wrap (e+((j+1:Nat):Int)))] [] ?_))))
  rw[yW (e+((j+1:Nat):Int)) (e+((j+1:Nat):Int)) (by omega)]
  obtain⟨y,hr25⟩:=yE (Zbi s (n/2^(j+1)) ((e+((j+1:Nat):Int))))
  refine xqc 118 [.bool s,.slice a b f,.int .i64 (e+((j+1:Nat):Int))] 56 (shNb y) _ (fun w R Q=>yM ZaU ((show Calls _ _ _ _ (ZaX w y) by rw[←hr25];exact ZbW s _ _ _ _ _ _ Q.1.1.1.1.1.1.1 Q.1.1.1.1.2 C (by omega) (by omega)))) fun g=>?_
  obtain⟨q0,r0,s0⟩:=g
  refine xq 4 [yJ 11 y.err] [yF 10 79 y.s q0 r0 s0 y.e] ?_
  refine xe (Zaa (Zaf ?_))
  refine yR (.tuple #[yV y.s q0 r0 s0 y.e,.int .i64 y.err]) fun w' R Q=>?_
  rw[Zd9 hj P (fun h=>by rcases h.2 with h|h|h;exact k4 h;exact k2 h;rw[k3] at h;cases h),hr25]
  exact⟨(q0,r0,s0),rfl,Q.2,R⟩
 rw[m]
 have k1:=uD (T.trans m)
 refine xq 14 [yB 47 false] [] ?_
 refine xe (Zaa (xb (Zal (Zaa (Zac (Zab (xq 5 [yB 51 s,eS1 52 a b f,yJ 55 (IntKind.i64.wrap (e+((j+1:Nat):Int)))] [] ?_)))))))
 rw[yW (e+((j+1:Nat):Int)) (e+((j+1:Nat):Int)) (by omega)]
 obtain⟨B,L⟩:=yE (Zbi s (n/2^(j+1)) ((e+((j+1:Nat):Int))))
 refine xqc 118 [.bool s,.slice a b f,.int .i64 (e+((j+1:Nat):Int))] 56 (shNb B) _ (fun w R Q=>yM ZaU ((show Calls _ _ _ _ (ZaX w B) by rw[←L];exact ZbW s _ _ _ _ _ _ Q.1.1.1.1 Q.1.2 C (by omega) (by omega)))) fun g=>?_
 obtain⟨t0,u0,v0⟩:=g
 refine xq 4 [yJ 11 B.err] [yF 10 79 B.s t0 u0 v0 B.e] ?_
 refine xe (Zaa (Zaf ?_))
 refine yR (.tuple #[yV B.s t0 u0 v0 B.e,.int .i64 B.err]) fun w' R Q=>?_
 rw[Zd9 hj P (fun h=>k1 h.1),L]
 exact⟨(t0,u0,v0),rfl,Q.2,R⟩
theorem ZqS (s:Bool)(A:Option Addr)(l c n:Nat)(e:Int)(bits:Nat)(Q:Nat)(A2:Option Addr)(l2 c2:Nat)(w:World)(hg:Glob w)(hN:Zaj w (.slice A l c) n)(F:wl n≤4294967296)(A0 : -576460752303423488≤e)(B0:e≤576460752303423488)(hb:bits≤4294967296)(hQ:Zh2 w Q (.slice A2 l2 c2)) :
 yA 123 #[.bool s,.slice A l c,.int .i64 e,.int .i64 (bits:Int),.func (.func 143) #[] #[.pointer (some ⟨Q,0,none⟩)]] w (ZaX w (Zbv s n e bits (decide (0<l2)))):=by
 refine Zax (Φ:=fun w=>((Glob w∧Zaj w (.slice A l c) (n))∧Zh2 w Q (.slice A2 l2 c2))) Tryz.func123 rfl (by kernel_rfl) (fun w' hf=>⟨⟨hg.ext hf,hN.ext hf⟩,hQ.ext hf⟩) ?_
 refine Zac ?_
 have C0:=Zlf F
 by_cases G:blen n≤bits
 ·obtain⟨k,hk⟩:∃ k,bits=blen n+k:=⟨bits-blen n,by omega⟩
  refine Zab (xq 2 [(10,.p 10 0),yJ 11 0] [yF 10 79 false none 0 0 0] ?_)
  refine xe (Zaa (Zac (Zab (xq 1 [eS1 14 A l c] [] ?_))))
  refine xqc 65 [.slice A l c] 15 (fun _:Unit=>.int .i64 ((blen n:Nat):Int)) _ (fun w S R=>(ZbV R.1.2 F).mono (fun _ _ h=>Zag h rfl)) fun g=>?_
  refine xq 2 [yJ 17 (IntKind.i64.wrap (((blen n:Nat):Int)-(bits:Int)))] [] ?_
  rw[show IntKind.i64.wrap (((blen n:Nat):Int)-(bits:Int)) = -(k:Int) by rw[IntKind.wrap_i64];omega]
  refine xq 1 [yJ 12 (-(k:Int))] [] ?_
  refine xe (Zaa (Zac (Zac (Zab (xq 2 [(19,.v (.bool (decide ((-(k:Int))≤0))))] [] ?_)))))
  rw[show decide (-(k:Int)≤0)=true from uQ (by omega)]
  refine xe (Zaa (xa (Zac (Zab (xq 3 [yB 20 s,eS1 21 A l c,yJ 22 e] [] ?_)))))
  obtain⟨i,H⟩:=yE (Zbi s (n) (e))
  refine xqc 118 [.bool s,.slice A l c,.int .i64 e] 23 (shNb i) _ (fun w S R=>((show Calls _ _ _ _ (ZaX w i) by rw[←H];exact ZbW s _ _ _ _ _ _ R.1.1.1 R.1.1.2 F (by omega) (by omega))).mono (fun _ _=>ZaU)) fun g=>?_
  obtain⟨M,N,O⟩:=g
  refine xq 4 [yJ 11 i.err] [yF 10 79 i.s M N O i.e] ?_
  refine xe (Zaa (Zaf (Zae ?_)))
  refine yR (.tuple #[yV i.s M N O i.e,.int .i64 i.err]) fun w' S R=>?_
  rw[Zh1 G,H]
  exact⟨(M,N,O),rfl,R.2,S⟩
 obtain⟨j,hj⟩:∃ j,blen n=bits+(j+1):=⟨blen n-bits-1,by omega⟩
 have P:0<n:=sQ (fun e=>by rw[e,Zdv] at G;omega)
 have C:wl (n/2^(j+1))≤4294967296:=uA (Zbj (uO _ _)) F
 have T:wl (n/2^(j+1)+1)≤4294967296:=uA (Zbj (qH P (Nat.one_lt_two_pow (by omega)))) F
 obtain⟨b1,U⟩:=yE (decide (n/2^j%2=1))
 obtain⟨b2,V⟩:=yE (decide (n/2^(j+1)/2^0%2=1))
 obtain⟨b3,W⟩:=yE (decide (0<l2))
 refine Zab (xq 2 [(10,.p 10 0),yJ 11 0] [yF 10 79 false none 0 0 0] ?_)
 refine xe (Zaa (Zac (Zab (xq 1 [eS1 14 A l c] [] ?_))))
 refine xqc 65 [.slice A l c] 15 (fun _:Unit=>.int .i64 ((blen n:Nat):Int)) _ (fun w S R=>(ZbV R.1.2 F).mono (fun _ _ h=>Zag h rfl)) fun g=>?_
 refine xq 2 [yJ 17 (IntKind.i64.wrap (((blen n:Nat):Int)-(bits:Int)))] [] ?_
 rw[yW (((blen n:Nat):Int)-(bits:Int)) (((j+1:Nat):Int)) (by omega)]
 refine xq 1 [yJ 12 ((j+1:Nat):Int)] [] ?_
 refine xe (Zaa (Zac (Zac (Zab (xq 2 [yB 19 (decide (((j+1:Nat):Int)≤0))] [] ?_)))))
 rw[show decide (((j+1:Nat):Int)≤0)=false from uJ (by omega)]
 refine xe (Zaa (xb (Zal (Zaa (Zac (Zab (xq 2 [eS1 26 A l c,yJ 27 ((j+1:Nat):Int)] [] ?_)))))))
 refine xqc 128 [.slice A l c,.int .i64 ((j+1:Nat):Int)] 28 ZaJ _ (fun w S R=>(Zdc (j+1) R.1.1.2 F (by omega)).mono (fun _ _=>ZaD)) fun g=>?_
 obtain⟨a,b,f⟩:=g
 refine xq 1 [eS1 13 a b f] [] ?_
 refine xe (Zaa (Zac (Zac (Zab (xq 3 [eS1 29 A l c,yJ 31 (IntKind.i64.wrap (((j+1:Nat):Int)-1))] [] ?_)))))
 rw[yW (((j+1:Nat):Int)-1) ((j:Int)) (by omega)]
 refine xqc 158 [.slice A l c,.int .i64 (j:Int)] 32 (fun _:Unit=>.bool b1) _ (fun w S R=>((show Calls _ _ _ _ (RetV w (.bool b1)) by rw[←U];exact Zfz (j) R.1.1.1.2 (by omega))).mono (fun _ _ h=>Zag h rfl)) fun g=>?_
 refine xq 1 [yB 33 b1] [] ?_
 rcases bl2 (b1) with m|m
 ·rw[m]
  have k1:=uC (U.trans m)
  refine xq 1 [eS1 34 A l c] [] ?_
  refine xqc 157 [.slice A l c] 35 (fun _:Unit=>.int .i64 ((tzn n:Nat):Int)) _ (fun w S R=>(Zgc R.1.1.1.1.1 R.1.1.1.1.2 F P).mono (fun _ _ h=>Zag h rfl)) fun g=>?_
  refine xq 2 [yJ 37 (IntKind.i64.wrap (((j+1:Nat):Int)-1))] [] ?_
  rw[yW (((j+1:Nat):Int)-1) ((j:Int)) (by omega)]
  refine xq 2 [yB 39 (decide (((tzn n:Nat):Int)<(j:Int)))] [] ?_
  rcases bl2 ((decide (((tzn n:Nat):Int)<(j:Int)))) with o|o
  ·rw[o]
   have X:=uC o
   have k4:tzn n<j:=by omega
   refine xr 8 [yB 0 s,yJ 2 e,(10,.p 10 0),yJ 11 0,yJ 12 ((j+1:Nat):Int),eS1 13 a b f,yB 47 true] [yF 10 79 false none 0 0 0] ?_
   refine xe (Zaa (xa (Zab (xq 1 [eS1 48 a b f] [] ?_))))
   refine yD (d:=49) (fun D:Nat=>.slice (some ⟨D,0,none⟩) 1 1) (fun D zw=>Blk 94 zw D #[.int .u64 1]) (fun w S R=>ZaZ (t:=77) (e:=94) (n:=1) (sz:=1) (z:=.int .u64 0) (parts:=#[(0,Operand.const (Value.int IntKind.u64 1))]) (by kernel_rfl) (by kernel_rfl) (by kernel_rfl) (by kernel_rfl) (by kernel_rfl) (by kernel_rfl)) fun x0=>?_
   refine xr 0 [yB 0 s,yJ 2 e,(10,.p 10 0),yJ 11 0,yJ 12 ((j+1:Nat):Int),eS1 13 a b f,eS1 48 a b f,eS1 49 (some ⟨x0,0,none⟩) 1 1] [yF 10 79 false none 0 0 0] ?_
   refine xqc 126 [.slice a b f,.slice (some ⟨x0,0,none⟩) 1 1] 50 ZaJ _ (fun w S R=>(Zcx R.1.1.1.2 (ZdO R.2) C wl_1).mono (fun _ _=>ZaD)) fun g=>?_
   obtain⟨Y,Z,a0⟩:=g
   refine xq 1 [eS1 13 Y Z a0] [] ?_
   refine xe (Zaa (Zac (Zab (xq 5 [yB 51 s,eS1 52 Y Z a0,yJ 55 (IntKind.i64.wrap (e+((j+1:Nat):Int)))] [] ?_))))
   rw[yW (e+((j+1:Nat):Int)) (e+((j+1:Nat):Int)) (by omega)]
   obtain⟨q,I⟩:=yE (Zbi s (n/2^(j+1)+1) ((e+((j+1:Nat):Int))))
   refine xqc 118 [.bool s,.slice Y Z a0,.int .i64 (e+((j+1:Nat):Int))] 56 (shNb q) _ (fun w S R=>((show Calls _ _ _ _ (ZaX w q) by rw[←I];exact ZbW s _ _ _ _ _ _ R.1.1.1.1.1.1.1.1 R.2 T (by omega) (by omega))).mono (fun _ _=>ZaU)) fun g=>?_
   obtain⟨b0,c0,d0⟩:=g
   refine xq 4 [yJ 11 q.err] [yF 10 79 q.s b0 c0 d0 q.e] ?_
   refine xe (Zaa (Zaf ?_))
   refine yR (.tuple #[yV q.s b0 c0 d0 q.e,.int .i64 q.err]) fun w' S R=>?_
   rw[Zdx hj k1 (Or.inl k4) P,I]
   exact⟨(b0,c0,d0),rfl,R.2,S⟩
  rw[o]
  have X:=uD o
  have k4:¬ tzn n<j:=by omega
  refine xr 1 [yB 0 s,yJ 2 e,(4,.v (.func (.func 143) #[] #[.pointer (some ⟨Q,0,none⟩)])),(10,.p 10 0),yJ 11 0,yJ 12 ((j+1:Nat):Int),eS1 13 a b f,yB 33 true,yB 39 false,eS1 40 a b f] [yF 10 79 false none 0 0 0] ?_
  refine xqc 158 [.slice a b f,.int .i64 0] 41 (fun _:Unit=>.bool b2) _ (fun w S R=>((show Calls _ _ _ _ (RetV w (.bool b2)) by rw[←V];exact Zfz (0) R.1.1.2 (by omega))).mono (fun _ _ h=>Zag h rfl)) fun g=>?_
  refine xq 2 [yB 43 b2] [] ?_
  rcases bl2 (b2) with r|r
  ·rw[r]
   have k2:=uC (V.trans r)
   rw[vQ,sK] at k2
   refine xq 4 [yB 47 true] [] ?_
   refine xe (Zaa (xa (Zab (xq 1 [eS1 48 a b f] [] ?_))))
   refine yD (d:=49) (fun D:Nat=>.slice (some ⟨D,0,none⟩) 1 1) (fun D zw=>Blk 94 zw D #[.int .u64 1]) (fun w S R=>ZaZ (t:=77) (e:=94) (n:=1) (sz:=1) (z:=.int .u64 0) (parts:=#[(0,Operand.const (Value.int IntKind.u64 1))]) (by kernel_rfl) (by kernel_rfl) (by kernel_rfl) (by kernel_rfl) (by kernel_rfl) (by kernel_rfl)) fun y0=>?_
   refine xr 0 [yB 0 s,yJ 2 e,(10,.p 10 0),yJ 11 0,yJ 12 ((j+1:Nat):Int),eS1 13 a b f,eS1 48 a b f,eS1 49 (some ⟨y0,0,none⟩) 1 1] [yF 10 79 false none 0 0 0] ?_
   refine xqc 126 [.slice a b f,.slice (some ⟨y0,0,none⟩) 1 1] 50 ZaJ _ (fun w S R=>(Zcx R.1.1.1.1.2 (ZdO R.2) C wl_1).mono (fun _ _=>ZaD)) fun g=>?_
   obtain⟨e0,f0,g0⟩:=g
   refine xq 1 [eS1 13 e0 f0 g0] [] ?_
   refine xe (Zaa (Zac (Zab (xq 5 [yB 51 s,eS1 52 e0 f0 g0,yJ 55 (IntKind.i64.wrap (e+((j+1:Nat):Int)))] [] ?_))))
   rw[yW (e+((j+1:Nat):Int)) (e+((j+1:Nat):Int)) (by omega)]
   obtain⟨u,J⟩:=yE (Zbi s (n/2^(j+1)+1) ((e+((j+1:Nat):Int))))
   refine xqc 118 [.bool s,.slice e0 f0 g0,.int .i64 (e+((j+1:Nat):Int))] 56 (shNb u) _ (fun w S R=>((show Calls _ _ _ _ (ZaX w u) by rw[←J];exact ZbW s _ _ _ _ _ _ R.1.1.1.1.1.1.1.1.1 R.2 T (by omega) (by omega))).mono (fun _ _=>ZaU)) fun g=>?_
   obtain⟨i0,j0,k0⟩:=g
   refine xq 4 [yJ 11 u.err] [yF 10 79 u.s i0 j0 k0 u.e] ?_
   refine xe (Zaa (Zaf ?_))
   refine yR (.tuple #[yV u.s i0 j0 k0 u.e,.int .i64 u.err]) fun w' S R=>?_
   rw[Zdx hj k1 (Or.inr (Or.inl k2)) P,J]
   exact⟨(i0,j0,k0),rfl,R.2,S⟩
  rw[r]
  have k2:=uD (V.trans r)
  rw[vQ,sK] at k2
  refine xq 1 [(44,.v (.func (.func 143) #[] #[.pointer (some ⟨Q,0,none⟩)]))] [] ?_
  refine xqc 143 [.pointer (some ⟨Q,0,none⟩)] 45 (fun _:Unit=>.bool b3) _ (fun w S R=>((show Calls _ _ _ _ (RetV w (.bool b3)) by rw[←W];exact Zsk Q A2 l2 c2 _ R.1.1.1.1.1.2)).mono (fun _ _ h=>Zag h rfl)) fun g=>?_
  refine xq 2 [yB 47 b3] [] ?_
  refine xe (Zaa ?_)
  refine yQ (b3) (fun E=>?_) fun E=>?_
  ·have k3:=W.trans E
   refine Zab (xq 1 [eS1 48 a b f] [] ?_)
   refine yD (d:=49) (fun D:Nat=>.slice (some ⟨D,0,none⟩) 1 1) (fun D zw=>Blk 94 zw D #[.int .u64 1]) (fun w S R=>ZaZ (t:=77) (e:=94) (n:=1) (sz:=1) (z:=.int .u64 0) (parts:=#[(0,Operand.const (Value.int IntKind.u64 1))]) (by kernel_rfl) (by kernel_rfl) (by kernel_rfl) (by kernel_rfl) (by kernel_rfl) (by kernel_rfl)) fun z0=>?_
   refine xr 0 [yB 0 s,yJ 2 e,(10,.p 10 0),yJ 11 0,yJ 12 ((j+1:Nat):Int),eS1 13 a b f,eS1 48 a b f,eS1 49 (some ⟨z0,0,none⟩) 1 1] [yF 10 79 false none 0 0 0] ?_
   refine xqc 126 [.slice a b f,.slice (some ⟨z0,0,none⟩) 1 1] 50 ZaJ _ (fun w S R=>(Zcx R.1.1.1.1.1.2 (ZdO R.2) C wl_1).mono (fun _ _=>ZaD)) fun g=>?_
   obtain⟨l0,m0,n0⟩:=g
   refine xq 1 [eS1 13 l0 m0 n0] [] ?_
   refine xe (Zaa (Zac (Zab (xq 5 [yB 51 s,eS1 52 l0 m0 n0,yJ 55 (IntKind.i64.wrap (e+((j+1:Nat):Int)))] [] ?_))))
   rw[yW (e+((j+1:Nat):Int)) (e+((j+1:Nat):Int)) (by omega)]
   obtain⟨x,K⟩:=yE (Zbi s (n/2^(j+1)+1) ((e+((j+1:Nat):Int))))
   refine xqc 118 [.bool s,.slice l0 m0 n0,.int .i64 (e+((j+1:Nat):Int))] 56 (shNb x) _ (fun w S R=>((show Calls _ _ _ _ (ZaX w x) by rw[←K];exact ZbW s _ _ _ _ _ _ R.1.1.1.1.1.1.1.1.1.1 R.2 T (by omega) (by omega))).mono (fun _ _=>ZaU)) fun g=>?_
   obtain⟨o0,p0,q0⟩:=g
   refine xq 4 [yJ 11 x.err] [yF 10 79 x.s o0 p0 q0 x.e] ?_
   refine xe (Zaa (Zaf ?_))
   refine yR (.tuple #[yV x.s o0 p0 q0 x.e,.int .i64 x.err]) fun w' S R=>?_
   rw[Zdx hj k1 (Or.inr (Or.inr k3)) P,K]
   exact⟨(o0,p0,q0),rfl,R.2,S⟩
  have k3:=W.trans E
  refine Zal (Zaa (Zac (Zab (xq 5 [yB 51 s,eS1 52 a b f,yJ 55 (IntKind.i64.wrap (e+((j+1:Nat):Int)))] [] ?_))))
  rw[yW (e+((j+1:Nat):Int)) (e+((j+1:Nat):Int)) (by omega)]
  obtain⟨y,hr25⟩:=yE (Zbi s (n/2^(j+1)) ((e+((j+1:Nat):Int))))
  refine xqc 118 [.bool s,.slice a b f,.int .i64 (e+((j+1:Nat):Int))] 56 (shNb y) _ (fun w S R=>((show Calls _ _ _ _ (ZaX w y) by rw[←hr25];exact ZbW s _ _ _ _ _ _ R.1.1.1.1.1.1.1.1 R.1.1.1.1.2 C (by omega) (by omega))).mono (fun _ _=>ZaU)) fun g=>?_
  obtain⟨r0,s0,t0⟩:=g
  refine xq 4 [yJ 11 y.err] [yF 10 79 y.s r0 s0 t0 y.e] ?_
  refine xe (Zaa (Zaf ?_))
  refine yR (.tuple #[yV y.s r0 s0 t0 y.e,.int .i64 y.err]) fun w' S R=>?_
  rw[Zd9 hj P (fun h=>by rcases h.2 with h|h|h;exact k4 h;exact k2 h;rw[k3] at h;cases h),hr25]
  exact⟨(r0,s0,t0),rfl,R.2,S⟩
 rw[m]
 have k1:=uD (U.trans m)
 refine xq 14 [yB 47 false] [] ?_
 refine xe (Zaa (xb (Zal (Zaa (Zac (Zab (xq 5 [yB 51 s,eS1 52 a b f,yJ 55 (IntKind.i64.wrap (e+((j+1:Nat):Int)))] [] ?_)))))))
 rw[yW (e+((j+1:Nat):Int)) (e+((j+1:Nat):Int)) (by omega)]
 obtain⟨B,L⟩:=yE (Zbi s (n/2^(j+1)) ((e+((j+1:Nat):Int))))
 refine xqc 118 [.bool s,.slice a b f,.int .i64 (e+((j+1:Nat):Int))] 56 (shNb B) _ (fun w S R=>((show Calls _ _ _ _ (ZaX w B) by rw[←L];exact ZbW s _ _ _ _ _ _ R.1.1.1.1.1 R.1.2 C (by omega) (by omega))).mono (fun _ _=>ZaU)) fun g=>?_
 obtain⟨u0,v0,w0⟩:=g
 refine xq 4 [yJ 11 B.err] [yF 10 79 B.s u0 v0 w0 B.e] ?_
 refine xe (Zaa (Zaf ?_))
 refine yR (.tuple #[yV B.s u0 v0 w0 B.e,.int .i64 B.err]) fun w' S R=>?_
 rw[Zd9 hj P (fun h=>k1 h.1),L]
 exact⟨(u0,v0,w0),rfl,R.2,S⟩
theorem Zmw {u v:Value}{m n:Nat}{w:World}(d:Zaj w u m)(e:Zaj w v n)(f:wl m≤4294967295)(g:wl n≤4294967296)(l:0<n):yA 142 #[u,v] w (ZfU w (m/n) (m%n)):=by
 have a:=d
 have b:=e
 obtain⟨A,o,c,rfl,y,p,h,i,rfl⟩:=d
 obtain⟨q,r,s,rfl,t,x,j,k,rfl⟩:=e
 rw[←ZaQ h i] at f
 rw[←ZaQ j k] at g
 exact Zsj A q o r c s w p x f g h j a b i k l
theorem ZtQ {s:Bool}{A:Option Addr}{l c:Nat}{e:Int}:ZpE #[.bool s,.slice A l c,.int .i64 e]:=by
 intro i k;rcases i with _|_|_|i<;>simp
theorem Blk.cell3n {t:TypeId}{w:World}{g:Nat}{x y z:Value}(h:Blk t w g #[x,y,z]):w.cell? ⟨g,0,none⟩=some x∧w.cell? ⟨g,1,none⟩=some y∧w.cell? ⟨g,2,none⟩=some z∧w.frozen? ⟨g,0,none⟩=false∧w.frozen? ⟨g,1,none⟩=false∧w.frozen? ⟨g,2,none⟩=false :=
 ⟨h.cell 0,h.cell 1,h.cell 2,h.frozen 0,h.frozen 1,h.frozen 2⟩
theorem Zv5 {fn:Func}{t t2:Tmp}{a:Array Value}{w g b:World}{r:Nat}{x:FR}{A u:Option Addr}{l c y c0:Nat}{z:Bool}{B:Int}(d:fn.results=#[.cell t 79,.tmp t2])(C:a[t]? = some (.pointer (some ⟨r,0,none⟩)))(h:a[t2]? = some (.int .i64 x.err))(j:w.heap.size≤r)(D:Ext w g)(E:Blk 79 g r #[.bool z,.slice u y c0,.int .i64 B])(q:Ext g b)(F:Zaj b (.slice A l c) x.m) :
 bodyPost Tryz.prog fn (ZaX w x) .ret ⟨a,[]⟩ (((b.setCell ⟨r,0,none⟩ (.bool x.s)).setCell ⟨r,1,none⟩ (.slice A l c)).setCell ⟨r,2,none⟩ (.int .i64 x.e)):=by
 have f:=E.ext q
 have k:Blk 79 (((b.setCell ⟨r,0,none⟩ (.bool x.s)).setCell ⟨r,1,none⟩ (.slice A l c)).setCell ⟨r,2,none⟩ (.int .i64 x.e)) r #[.bool x.s,.slice A l c,.int .i64 x.e]:=((f.set_ 0 _).set_ 1 _).set_ 2 _
 obtain⟨G,H,I,_⟩:=k.cell3n
 have J:Fr (fun i=>i=r) b (((b.setCell ⟨r,0,none⟩ (.bool x.s)).setCell ⟨r,1,none⟩ (.slice A l c)).setCell ⟨r,2,none⟩ (.int .i64 x.e)):=(((show Fr (fun i=>i=r) b b from Fr.refl _ _).setCell (p:=⟨r,0,none⟩) (Or.inl rfl) _).setCell (p:=⟨r,1,none⟩) (Or.inl rfl) _).setCell (p:=⟨r,2,none⟩) (Or.inl rfl) _
 have n:=F.other f ZtQ J
 have o:Ext w (((b.setCell ⟨r,0,none⟩ (.bool x.s)).setCell ⟨r,1,none⟩ (.slice A l c)).setCell ⟨r,2,none⟩ (.int .i64 x.e)):=(((D.trans q).setCell (p:=⟨r,0,none⟩) (Or.inr j) _).setCell (p:=⟨r,1,none⟩) (Or.inr j) _).setCell (p:=⟨r,2,none⟩) (Or.inr j) _
 generalize ((b.setCell ⟨r,0,none⟩ (.bool x.s)).setCell ⟨r,1,none⟩ (.slice A l c)).setCell ⟨r,2,none⟩ (.int .i64 x.e)=W at *
 exact bodyPost_ret (v:=shNb x (A,l,c)) (by simp[results,d,C,h,go_sem,G,H,I,shNb]) rfl ⟨(A,l,c),rfl,n,o⟩
theorem Zlg {a b:Nat}(h:a<64*b):wl (2^a)≤b:=ZbZ.2 (by rw[show W64=2^64 by rw[Zao],← sZ];exact qO (by decide) h)
theorem ZiW (s:Bool)(A:Option Addr)(l c n:Nat)(B:Option Addr)(m d k:Nat)(e:Int)(bits:Nat)(w:World)(hg:Glob w)(hN:Zaj w (.slice A l c) n)(hK:Zaj w (.slice B m d) k)(h0:wl n≤1000000)(i0:wl k≤1000000)(D:0<k)(j0 : -288230376151711744≤e)(k0:e≤288230376151711744)(P:0<bits)(hb:bits≤1000000) :
 yA 99 #[.bool s,.slice A l c,.slice B m d,.int .i64 e,.int .i64 (bits:Int)] w (ZaX w (ZaK s n k e bits)):=by
 have l0:=ZdN n
 have m0:=ZdN k
 obtain⟨a1,E⟩:∃ a,a=(rk0 n k bits-1).toNat:=⟨_,rfl⟩
 obtain⟨a2,j⟩:∃ a,a=(-(rk0 n k bits-1)).toNat:=⟨_,rfl⟩
 obtain⟨b,Q⟩:∃ x:Int,x=(bits:Int)+1+(blen k:Nat)-(blen n:Nat):=⟨_,rfl⟩
 have f:rk0 n k bits-1 = -b:=by unfold rk0;omega
 rw[f] at E j
 rw[Int.neg_neg] at j
 have n0 : -100000000≤b:=by omega
 have o0:b≤100000000:=by omega
 have F:fa n (rk0 n k bits-1)=n*2^a2:=by unfold fa;rw[f,Int.neg_neg,← j]
 have G:fb k (rk0 n k bits-1)=k*2^a1:=by unfold fb;rw[f,← E]
 have p0:wl (n*2^a2)≤4000000:=by
  refine uA (Zhj _ _) ?_
  have:wl (2^a2)≤2000001:=Zlg (by omega)
  omega
 have q0:wl (k*2^a1)≤4000000:=by
  refine uA (Zhj _ _) ?_
  have:wl (2^a1)≤2000001:=Zlg (by omega)
  omega
 have r0:(if (0:Int)>b then (0:Int) else b)=(a2:Int):=by split<;>omega
 have s0:(if (0:Int) > -b then (0:Int) else -b)=(a1:Int):=by split<;>omega
 have HG:=zh hg
 have HN:=zh hN
 have HK:=zh hK
 clear hg hN hK
 obtain⟨x,R⟩:=yE (ZaK s n k e bits)
 rw[R]
 have HX:=zh R
 clear R
 go_enter Tryz.func99,Tryz.ntmps99
 go_wp2_with fail
 refine (ZbV (HK.out.ext ((Fr.refl _ _).alloc _)) (by omega)).mono ?_
 rintro H w1 ⟨rfl,o⟩
 have I:Hid (Ext w w1):=((Fr.refl _ _).alloc _).trans o
 have S:Hid (Blk 79 w1 w.heap.size #[.bool false,.slice none 0 0,.int .i64 0]):=(show Blk 79 (w.alloc (.cells #[.bool false,.slice none 0 0,.int .i64 0] 79)) w.heap.size #[.bool false,.slice none 0 0,.int .i64 0] from heap_alloc_new w _).ext o
 clear o
 go_wp2_with fail
 refine (ZbV (HN.out.ext I.out) (by omega)).mono ?_
 rintro H w2 ⟨rfl,p⟩
 have J:=zh (I.out.trans p)
 have T:=zh (S.out.ext p)
 clear p
 go_wp2_with fail
 rw[show max ((bits:Int)+1+(blen k:Nat)-(blen n:Nat)) 0=(a2:Int) by omega]
 refine (Zdg a2 (HN.out.ext J.out) (by omega) (by omega)).mono ?_
 rintro H w3 ⟨v3,rfl,q,r⟩
 obtain⟨A3,l3,c3,rfl⟩:=q.slice
 have K:=zh (J.out.trans r)
 have U:=zh (T.out.ext r)
 have V:=zh q
 clear q r
 go_wp2_with fail
 rw[show max (-((bits:Int)+1+(blen k:Nat)-(blen n:Nat))) 0=(a1:Int) by omega]
 refine (Zdg a1 (HK.out.ext K.out) (by omega) (by omega)).mono ?_
 rintro H w4 ⟨v4,rfl,t,g⟩
 obtain⟨A4,l4,c4,rfl⟩:=t.slice
 have W:=zh (K.out.trans g)
 have X:=zh (U.out.ext g)
 have L:=zh (V.out.ext g)
 have Y:=zh t
 clear t g
 go_wp2_with fail
 refine (Zmw L.out Y.out (by omega) (by omega) (sE D (p2 a1))).mono ?_
 rintro H Z ⟨v5,v6,rfl,u,v,y⟩
 obtain⟨A5,l5,c5,rfl⟩:=u.slice
 obtain⟨A6,O,c6,rfl⟩:=v.slice
 have M:=zh (W.out.trans y)
 have a0:=zh (X.out.ext y)
 have b0:=zh u
 have c0:=zh v
 clear u v y
 go_wp2_with fail
 have i:Zh2 (Z.alloc (.cells #[.slice A6 O c6] 77)) Z.heap.size (.slice A6 O c6):=⟨by simp,by rw[Lib.cell_of_heap (heap_alloc_new Z _)];rfl⟩
 have d0:wl (n*2^a2/(k*2^a1))≤4294967296:=uA (Zbj (uO _ _)) (by omega)
 refine (ZqS s A5 l5 c5 _ _ bits _ A6 O c6 _ (HG.out.ext (M.out.alloc _)) (b0.out.ext ((Fr.refl _ _).alloc _)) d0 (by omega) (by omega) (by omega) i).mono ?_
 rintro H w6 ⟨⟨A7,l7,c7⟩,rfl,z,C⟩
 have hr:Zbv s (n*2^a2/(k*2^a1)) (e-((bits:Int)+1+(blen k:Nat)-(blen n:Nat))) bits (decide (0<O))=x:=by
  rw[←HX.out,← Q]
  rcases uH n with rfl|hn
  ·rw[sG,Nat.zero_div,ZjU,Zco]
  have h:=Zo7 s (n:=n) (d:=k) e (bits:=bits) hn D P
  have hq:fq n k (rk0 n k bits-1)=n*2^a2/(k*2^a1):=by unfold fq;rw[F,G]
  rw[hq,F,G,f] at h
  rw[←h,show e + -b=e-b by omega]
  congr 1
  have e0:=c0.out.len0
  exact rP.2 (by rw[e0];have:=@Zca (n*2^a2%(k*2^a1));omega)
 rw[hr] at z
 rw[hr]
 clear hr
 have f0:=zh z
 have g0:Hid (Ext w w6):=(M.out.alloc _).trans C
 have N:=zh ((a0.out.ext ((Fr.refl _ _).alloc _)).ext C)
 obtain⟨z0,z1,z2,z3,z4,z5⟩:=N.out.cell3n
 clear z C i
 simp only[shNb]
 go_wp2
 exact Zv5 rfl rfl rfl (uK _) g0.out N.out (Fr.refl _ _) f0.out
theorem Zhy {a b:Int}:(if b<a then b else a)=min a b:=by omega
def Zg2 (s:Bool) (m n:Nat) (e:Int) (bits:Nat):FR:=if n=0 then ⟨false,0,0,5⟩ else ZaK s m n e bits
def sumR (sx:Bool) (xm:Nat) (xe:Int) (sy:Bool) (ym:Nat) (ye:Int) (bits:Nat):FR :=
 if xm=0 then ZaK sy ym 1 ye bits else if ym=0 then ZaK sx xm 1 xe bits else addR sx xm xe sy ym ye bits
theorem Zg3 {n a:Nat}(c:wl n≤1000000)(ha:a≤100000000):wl (n*2^a)≤4000000:=by
 have:=Zhj n (2^a)
 have:wl (2^a)≤2000001:=Zlg (by omega)
 omega
section
variable {s t:Bool} {a b bits:Nat} {low:Int}
theorem Zmx (ha:0<a)(h:s=t):ZaK (decide (sg s a+sg t b<0)) (sg s a+sg t b).natAbs 1 low bits=ZaK s (a+b) 1 low bits:=by
 subst h
 have c:decide (sg s a+sg s b<0)=s:=by cases s<;>simp[sg]<;>omega
 have d:(sg s a+sg s b).natAbs=a+b:=by cases s<;>simp[sg]<;>omega
 rw[c,d]
theorem Zlh (h:¬ s=t)(f:b≤a):ZaK (decide (sg s a+sg t b<0)) (sg s a+sg t b).natAbs 1 low bits=ZaK s (a-b) 1 low bits:=by
 have c:(sg s a+sg t b).natAbs=a-b:=by cases s<;>cases t<;>simp[sg] at h ⊢<;>omega
 rw[c]
 by_cases e:a-b=0
 ·rw[e,Zco,Zco]
 have d:decide (sg s a+sg t b<0)=s:=by cases s<;>cases t<;>simp[sg] at h ⊢<;>omega
 rw[d]
theorem ZjX (h:¬ s=t)(e:a<b):ZaK (decide (sg s a+sg t b<0)) (sg s a+sg t b).natAbs 1 low bits=ZaK t (b-a) 1 low bits:=by
 have c:(sg s a+sg t b).natAbs=b-a:=by cases s<;>cases t<;>simp[sg] at h ⊢<;>omega
 rw[c]
 have d:decide (sg s a+sg t b<0)=t:=by cases s<;>cases t<;>simp[sg] at h ⊢<;>omega
 rw[d]
end
theorem Zn4 {sx:Bool}{c:Nat}{xe:Int}{d:Bool}{ym:Nat}{e:Int}{bits u1 u2:Nat}{low:Int}(f:min xe e=low)(g:xe-low=u1)(h:e-low=u2) :
 addR sx c xe d ym e bits=ZaK (decide (sg sx (c*2^u1)+sg d (ym*2^u2)<0)) (sg sx (c*2^u1)+sg d (ym*2^u2)).natAbs 1 low bits:=by
 unfold addR
 rw[f,g,h]
 rfl
theorem Zgn {a b:Nat}:cmpI a b≥0↔b≤a:=by
 have:=@ZdB a b
 omega
theorem Zg4 (s:Bool)(A:Option Addr)(l c x:Nat)(e:Int)(w:World)(f:Zaj w (.slice A l c) x)(d:wl x≤4294967296)(g : -1152921504606846976≤e)(h:e≤1152921504606846976) :
 yA 121 #[yV s A l c e] w (RetV w (.int .i64 (((blen x:Nat):Int)+e))):=by
 refine Zax (Φ:=fun w=>Zaj w (.slice A l c) (x)) Tryz.func121 rfl (by kernel_rfl) (fun w' i=>f.ext i) ?_
 refine Zac ?_
 have j:=Zlf d
 refine Zab (xq 2 [(1,.p 1 0),yJ 2 0] [yF 1 79 s A l c e] ?_)
 refine xe (Zaa (Zac ?_))
 refine yO 7 Zam ?_
 refine xqg 2 [eS1 4 A l c] ?_
 refine xqd 65 [.slice A l c] 5 (fun _:Unit=>.int .i64 ((blen x:Nat):Int)) _ (fun w R Q=>yN (ZbV Q d)) fun k=>?_
 refine xqg 3 [yJ 8 (IntKind.i64.wrap (((blen x:Nat):Int)+e))] ?_
 rw[yW (((blen x:Nat):Int)+e) (((blen x:Nat):Int)+e) (by omega)]
 refine xqg 1 [yJ 2 (((blen x:Nat):Int)+e)] ?_
 refine xz (xe (Zaa (Zaf ?_)))
 refine yR (.int .i64 (((blen x:Nat):Int)+e)) fun w' R Q=>?_
 exact⟨rfl,R⟩
theorem Zsm (s:Bool)(A:Option Addr)(l c x:Nat)(e:Int)(t:Bool)(B:Option Addr)(m d y:Nat)(f:Int)(bits:Nat)(C:0<bits)(X:bits≤4096)(w:World)(K:Glob w)(I:Zaj w (.slice A l c) x)(L:wl x≤100000)(M : -1073741824≤e)(N:e≤1073741824)(J:Zaj w (.slice B m d) y)(O:wl y≤100000)(P : -1073741824≤f)(S:f≤1073741824) :
 yA 82 #[yV s A l c e, yV t B m d f,.int .i64 (bits:Int)] w (ZaX w (ZaK (s != t) (x*y) 1 (e+f) bits)):=by
 refine Zax (Φ:=fun w=>((Glob w∧Zaj w (.slice A l c) (x))∧Zaj w (.slice B m d) (y))) Tryz.func82 rfl (by kernel_rfl) (fun w' D=>⟨⟨K.ext D,I.ext D⟩,J.ext D⟩) ?_
 refine Zac ?_
 have T:=I.len0
 have U:=J.len0
 have V:=@Zca x
 have W:=@Zca y
 refine Zab (xq 4 [(3,.p 3 0),(4,.p 4 0),(6,.p 6 0),yJ 7 0] [yF 6 79 false none 0 0 0,yF 4 79 t B m d f,yF 3 79 s A l c e] ?_)
 refine xe (Zaa (Zac (Zac (Zab (xq 5 [yB 12 (((l:Int):Int) == 0)] [] ?_)))))
 rcases bl2 ((((l:Int):Int) == 0)) with h|h
 ·rw[h]
  have q:=tA.1 h
  have u:x=0:=by omega
  refine xq 5 [yB 17 true] [] ?_
  refine xe (Zaa (xa (Zac (Zab (xq 3 [yJ 7 0] [] ?_)))))
  refine xe (Zaa (Zaf (Zae ?_)))
  refine yR (.tuple #[yV false none 0 0 0,.int .i64 0]) fun w' R Q=>?_
  rw[u,sG,Zco]
  exact⟨(none,0,0),rfl,Zaj.zero _,R⟩
 rw[h]
 have q:=Zbo h
 have u:¬ x=0:=by omega
 refine xq 5 [yB 17 (((m:Int):Int) == 0)] [] ?_
 refine xe (Zaa ?_)
 refine yQ ((((m:Int):Int) == 0)) (fun i=>?_) fun i=>?_
 ·have r:=tA.1 i
  have z:y=0:=by omega
  refine Zac (Zab (xq 3 [yJ 7 0] [] ?_))
  refine xe (Zaa (Zaf (Zae ?_)))
  refine yR (.tuple #[yV false none 0 0 0,.int .i64 0]) fun w' R Q=>?_
  rw[z,tL,Zco]
  exact⟨(none,0,0),rfl,Zaj.zero _,R⟩
 have r:=Zbo i
 have z:¬ y=0:=by omega
 refine Zal (Zaa (Zac ?_))
 refine yO 19 Zam ?_
 refine xqg 9 [yB 23 (s != t),eS1 25 A l c,eS1 27 B m d] ?_
 refine xqd 124 [.slice A l c,.slice B m d] 28 ZaJ _ (fun w R Q=>yM ZaD (Zh0 Q.1.2 Q.2 (by omega) (by omega))) fun E=>?_
 obtain⟨F,G,H⟩:=E
 refine xqg 5 [yJ 33 (IntKind.i64.wrap (e+f))] ?_
 rw[yW (e+f) (e+f) (by omega)]
 refine xqg 1 [yJ 34 (bits:Int)] ?_
 obtain⟨g,o⟩:=yE (Zbv ((s != t)) (x*y) ((e+f)) bits false)
 refine xqd 123 [.bool (s != t),.slice F G H,.int .i64 (e+f),.int .i64 (bits:Int),.func (.func 125) #[] #[]] 35 (shNb g) _ (fun w R Q=>yM ZaU ((show Calls _ _ _ _ (ZaX w g) by rw[←o];exact Zc6 ((s != t)) _ _ _ _ ((e+f)) _ _ Q.1.1.1 Q.2 (by have:=Zhj x y;omega) (by omega) (by omega) (by omega)))) fun E=>?_
 obtain⟨j,k,n⟩:=E
 refine xqg 2 [(36,.v (yV g.s j k n g.e)),yJ 37 g.err] ?_
 refine xz (xq 2 [yJ 7 g.err] [yF 6 79 g.s j k n g.e] ?_)
 refine xe (Zaa (Zaf ?_))
 refine yR (.tuple #[yV g.s j k n g.e,.int .i64 g.err]) fun w' R Q=>?_
 rw[←Zcp _ _ _ C,o]
 exact⟨(j,k,n),rfl,Q.2,R⟩
theorem Zsn (s:Bool)(A:Option Addr)(l c x:Nat)(e:Int)(t:Bool)(B:Option Addr)(m d y:Nat)(f:Int)(bits:Nat)(r:0<bits)(O:bits≤4096)(w:World)(C:Glob w)(v:Zaj w (.slice A l c) x)(D:wl x≤100000)(E : -1073741824≤e)(F:e≤1073741824)(z:Zaj w (.slice B m d) y)(G:wl y≤100000)(H : -1073741824≤f)(I:f≤1073741824) :
 yA 83 #[yV s A l c e, yV t B m d f,.int .i64 (bits:Int)] w (ZaX w (Zg2 (s != t) x y (e-f) bits)):=by
 refine Zax (Φ:=fun w=>((Glob w∧Zaj w (.slice A l c) (x))∧Zaj w (.slice B m d) (y))) Tryz.func83 rfl (by kernel_rfl) (fun w' u=>⟨⟨C.ext u,v.ext u⟩,z.ext u⟩) ?_
 refine Zac ?_
 have J:=v.len0
 have K:=z.len0
 have L:=@Zca x
 have M:=@Zca y
 refine Zab (xq 4 [(3,.p 3 0),(4,.p 4 0),(6,.p 6 0),yJ 7 0] [yF 6 79 false none 0 0 0,yF 4 79 t B m d f,yF 3 79 s A l c e] ?_)
 refine xe (Zaa (Zac (Zac (Zab (xq 4 [yB 11 (((m:Int):Int) == 0)] [] ?_)))))
 refine xe (Zaa ?_)
 refine yQ ((((m:Int):Int) == 0)) (fun h=>?_) fun h=>?_
 ·have j:=tA.1 h
  have k:y=0:=by omega
  refine Zac (Zab (xq 3 [yJ 7 5] [] ?_))
  refine xe (Zaa (Zaf (Zae ?_)))
  refine yR (.tuple #[yV false none 0 0 0,.int .i64 5]) fun w' R Q=>?_
  rw[show Zg2 (s != t) x y (e-f) bits=⟨false,0,0,5⟩ from uP k]
  exact⟨(none,0,0),rfl,Zaj.zero _,R⟩
 have j:=Zbo h
 have k:¬ y=0:=by omega
 refine Zal (Zaa (Zac (Zab (xq 14 [yB 17 (s != t),eS1 19 A l c,eS1 21 B m d,yJ 26 (IntKind.i64.wrap (e-f))] [] ?_))))
 rw[yW (e-f) (e-f) (by omega)]
 refine xq 1 [yJ 27 (bits:Int)] [] ?_
 obtain⟨g,i⟩:=yE (ZaK (s != t) x y ((e-f)) bits)
 refine xqc 99 [.bool (s != t),.slice A l c,.slice B m d,.int .i64 (e-f),.int .i64 (bits:Int)] 28 (shNb g) _ (fun w R Q=>yM ZaU ((show Calls _ _ _ _ (ZaX w g) by rw[←i];exact ZiW (s != t) _ _ _ x _ _ _ y _ bits _ Q.1.1 Q.1.2 Q.2 (by omega) (by omega) (by omega) (by omega) (by omega) r (by omega)))) fun N=>?_
 obtain⟨n,o,q⟩:=N
 refine xq 4 [yJ 7 g.err] [yF 6 79 g.s n o q g.e] ?_
 refine xe (Zaa (Zaf ?_))
 refine yR (.tuple #[yV g.s n o q g.e,.int .i64 g.err]) fun w' R Q=>?_
 rw[show Zg2 (s != t) x y (e-f) bits=ZaK (s != t) x y (e-f) bits from uN k,i]
 exact⟨(n,o,q),rfl,Q.2,R⟩
theorem ZiX (s:Bool)(A:Option Addr)(l c x:Nat)(e:Int)(t:Bool)(B:Option Addr)(m d y:Nat)(f:Int)(bits:Nat)(I:0<bits)(hb:bits≤4096)(w:World)(hg:Glob w)(hX:Zaj w (.slice A l c) x)(F1:wl x≤100000)(G1 : -1073741824≤e)(H1:e≤1073741824)(hY:Zaj w (.slice B m d) y)(I1:wl y≤100000)(J1 : -1073741824≤f)(K1:f≤1073741824) :
 yA 84 #[yV s A l c e, yV t B m d f,.int .i64 (bits:Int)] w (ZaX w (sumR s x e t y f bits)):=by
 refine Zax (Φ:=fun w=>((Glob w∧Zaj w (.slice A l c) (x))∧Zaj w (.slice B m d) (y))) Tryz.func84 rfl (by kernel_rfl) (fun w' hf=>⟨⟨hg.ext hf,hX.ext hf⟩,hY.ext hf⟩) ?_
 refine Zac ?_
 have L1:=hX.len0
 have M1:=hY.len0
 have N1:=@Zca x
 have O1:=@Zca y
 have R1:=ZdN x
 have S1:=ZdN y
 refine Zab (xq 4 [(3,.p 3 0),(4,.p 4 0),(6,.p 6 0),yJ 7 0] [yF 6 79 false none 0 0 0,yF 4 79 t B m d f,yF 3 79 s A l c e] ?_)
 refine xe (Zaa (Zac (Zac (Zab (xq 4 [yB 15 (((l:Int):Int) == 0)] [] ?_)))))
 refine xe (Zaa ?_)
 refine yQ ((((l:Int):Int) == 0)) (fun c0=>?_) fun c0=>?_
 ·have O0:=tA.1 c0
  have P0:x=0:=by omega
  refine Zab (xq 4 [] [yF 4 79 s A l c e,yF 3 79 t B m d f] ?_)
  refine xe (Zaa (Zac (Zac (Zab (xq 4 [yB 21 (((l:Int):Int) == 0)] [] ?_)))))
  rw[c0]
  refine xe (Zaa (xa (Zac (Zab (xq 7 [yB 23 t,eS1 25 B m d,yJ 27 f,yJ 28 (bits:Int)] [] ?_)))))
  obtain⟨Y,F0⟩:=yE (Zbv t (y) (f) bits false)
  refine xqc 123 [.bool t,.slice B m d,.int .i64 f,.int .i64 (bits:Int),.func (.func 125) #[] #[]] 29 (shNb Y) _ (fun w R Q=>yM ZaU ((show Calls _ _ _ _ (ZaX w Y) by rw[←F0];exact Zc6 t _ _ _ _ f _ _ Q.1.1 Q.2 (by omega) (by omega) (by omega) (by omega)))) fun j=>?_
  obtain⟨Q0,R0,S0⟩:=j
  refine xq 4 [yJ 7 Y.err] [yF 6 79 Y.s Q0 R0 S0 Y.e] ?_
  refine xe (Zaa (Zaf (Zae ?_)))
  refine yR (.tuple #[yV Y.s Q0 R0 S0 Y.e,.int .i64 Y.err]) fun w' R Q=>?_
  rw[show sumR s x e t y f bits=ZaK t y 1 f bits from uP P0,← Zcp _ _ _ I,F0]
  exact⟨(Q0,R0,S0),rfl,Q.2,R⟩
 have O0:=Zbo c0
 have P0:¬ x=0:=by omega
 refine Zal (Zaa (Zac (Zac (Zab (xq 4 [yB 21 (((m:Int):Int) == 0)] [] ?_)))))
 refine xe (Zaa ?_)
 refine yQ ((((m:Int):Int) == 0)) (fun f0=>?_) fun f0=>?_
 ·have T0:=tA.1 f0
  have h1:y=0:=by omega
  refine Zac (Zab (xq 7 [yB 23 s,eS1 25 A l c,yJ 27 e,yJ 28 (bits:Int)] [] ?_))
  obtain⟨Z,G0⟩:=yE (Zbv s (x) (e) bits false)
  refine xqc 123 [.bool s,.slice A l c,.int .i64 e,.int .i64 (bits:Int),.func (.func 125) #[] #[]] 29 (shNb Z) _ (fun w R Q=>yM ZaU ((show Calls _ _ _ _ (ZaX w Z) by rw[←G0];exact Zc6 s _ _ _ _ e _ _ Q.1.1 Q.1.2 (by omega) (by omega) (by omega) (by omega)))) fun j=>?_
  obtain⟨U0,V0,W0⟩:=j
  refine xq 4 [yJ 7 Z.err] [yF 6 79 Z.s U0 V0 W0 Z.e] ?_
  refine xe (Zaa (Zaf (Zae ?_)))
  refine yR (.tuple #[yV Z.s U0 V0 W0 Z.e,.int .i64 Z.err]) fun w' R Q=>?_
  rw[show sumR s x e t y f bits=ZaK s x 1 e bits by unfold sumR;rw[uN P0,uP h1],← Zcp _ _ _ I,G0]
  exact⟨(U0,V0,W0),rfl,Q.2,R⟩
 have T0:=Zbo f0
 have h1:¬ y=0:=by omega
 refine Zal (Zaa ?_)
 refine ZgD (fun ss ff=>∃ (o:Bool) (P1:Option Addr) (pl pc p:Nat) (i:Int) (r:Bool) (Q1:Option Addr) (ql qc q:Nat) (k:Int),ss=ofL [yJ 2 (bits:Int),(3,.p 3 0),(4,.p 4 0),(6,.p 6 0),yJ 7 0] [yF 6 79 false none 0 0 0,yF 3 79 o P1 pl pc i,yF 4 79 r Q1 ql qc k]∧ff=(fun w=>((Glob w∧Zaj w (.slice P1 pl pc) (p))∧Zaj w (.slice Q1 ql qc) (q)))∧(0<p)∧(0<q)∧(wl p≤100000)∧(wl q≤100000)∧(-1073741824≤i)∧(i≤1073741824)∧(-1073741824≤k)∧(k≤1073741824)∧(((blen q:Nat):Int)+k≤((blen p:Nat):Int)+i)∧(addR s x e t y f bits=addR o p i r q k bits)) ?_ ?_
 ·refine Zac ?_
  refine yO 5 Zam ?_
  refine xqg 1 [(32,.v (yV s A l c e))] ?_
  refine xqd 121 [yV s A l c e] 33 (fun _:Unit=>.int .i64 (((blen x:Nat):Int)+e)) _ (fun w R Q=>yN (Zg4 _ _ _ _ _ _ _ Q.1.2 (by omega) (by omega) (by omega))) fun j=>?_
  refine xqg 1 [(34,.v (yV t B m d f))] ?_
  refine xqd 121 [yV t B m d f] 35 (fun _:Unit=>.int .i64 (((blen y:Nat):Int)+f)) _ (fun w R Q=>yN (Zg4 _ _ _ _ _ _ _ Q.1.2 (by omega) (by omega) (by omega))) fun j=>?_
  refine xqg 1 [(36,.v (.bool (decide ((((blen x:Nat):Int)+e)<(((blen y:Nat):Int)+f)))))] ?_
  refine xz (xe (Zaa ?_))
  refine yQ ((decide ((((blen x:Nat):Int)+e)<(((blen y:Nat):Int)+f)))) (fun g0=>?_) fun g0=>?_
  ·have X0:=uC g0
   refine Zab (xq 4 [] [yF 4 79 s A l c e,yF 3 79 t B m d f] ?_)
   refine xe ?_
   refine yP [yJ 2 (bits:Int),(3,.p 3 0),(4,.p 4 0),(6,.p 6 0),yJ 7 0] [yF 6 79 false none 0 0 0,yF 3 79 t B m d f,yF 4 79 s A l c e] (fun w=>((Glob w∧Zaj w (.slice B m d) (y))∧Zaj w (.slice A l c) (x))) (fun w Q=>⟨⟨Q.1.1.1.1,Q.1.1.2⟩,Q.1.1.1.2⟩) ?_
   exact Zb6 ⟨t,B,m,d,y,f,s,A,l,c,x,e,rfl,rfl,(by omega),(by omega),(by omega),(by omega),(by omega),(by omega),(by omega),(by omega),(by omega),(Zsa _ _ _ _ _ _ _)⟩
  have X0:=uD g0
  refine Zal ?_
  refine yP [yJ 2 (bits:Int),(3,.p 3 0),(4,.p 4 0),(6,.p 6 0),yJ 7 0] [yF 6 79 false none 0 0 0,yF 3 79 s A l c e,yF 4 79 t B m d f] (fun w=>((Glob w∧Zaj w (.slice A l c) (x))∧Zaj w (.slice B m d) (y))) (fun w Q=>⟨⟨Q.1.1.1.1,Q.1.1.1.2⟩,Q.1.1.2⟩) ?_
  exact Zb6 ⟨s,A,l,c,x,e,t,B,m,d,y,f,rfl,rfl,(by omega),(by omega),(by omega),(by omega),(by omega),(by omega),(by omega),(by omega),(by omega),rfl⟩
 rintro ss ff ⟨o,P1,pl,pc,p,i,r,Q1,ql,qc,q,k,rfl,rfl,m0,i1,T1,U1,V1,W1,X1,Y1,E1,H0⟩
 refine Zac (Zac ?_)
 have Z1:=ZdN p
 have a2:=ZdN q
 have b2:=ZeX m0
 have c2:=ZeX i1
 obtain⟨z,hz⟩:=yE (min i (((blen p:Nat):Int)+i-(bits:Int)-2))
 refine yO 9 Zam ?_
 refine xqg 3 [yJ 40 i,(41,.v (yV o P1 pl pc i))] ?_
 refine xqd 121 [yV o P1 pl pc i] 42 (fun _:Unit=>.int .i64 (((blen p:Nat):Int)+i)) _ (fun w R Q=>yN (Zg4 _ _ _ _ _ _ _ Q.1.2 (by omega) (by omega) (by omega))) fun j=>?_
 refine xqg 2 [(44,.v (.int .i64 (IntKind.i64.wrap ((((blen p:Nat):Int)+i)-(bits:Int)))))] ?_
 rw[yW (((blen p:Nat):Int)+i-(bits:Int)) (((blen p:Nat):Int)+i-(bits:Int)) (by omega)]
 refine xqg 1 [(45,.v (.int .i64 (IntKind.i64.wrap ((((blen p:Nat):Int)+i-(bits:Int))-2))))] ?_
 rw[yW (((blen p:Nat):Int)+i-(bits:Int)-2) (((blen p:Nat):Int)+i-(bits:Int)-2) (by omega)]
 refine xqg 1 [yJ 46 (if (((blen p:Nat):Int)+i-(bits:Int)-2)<i then (((blen p:Nat):Int)+i-(bits:Int)-2) else i)] ?_
 rw[(show (if ((blen p:Nat):Int)+i-(bits:Int)-2<i then ((blen p:Nat):Int)+i-(bits:Int)-2 else i)=z from Zhy.trans hz)]
 refine xqg 1 [yJ 8 z] ?_
 refine xz (xe (Zaa (Zac (Zab (xq 1 [(47,.v (yV r Q1 ql qc k))] [] ?_)))))
 refine xqc 121 [yV r Q1 ql qc k] 48 (fun _:Unit=>.int .i64 (((blen q:Nat):Int)+k)) _ (fun w R Q=>yN (Zg4 _ _ _ _ _ _ _ Q.1.2 (by omega) (by omega) (by omega))) fun j=>?_
 refine xq 2 [(50,.v (.bool (decide ((((blen q:Nat):Int)+k)≤z))))] [] ?_
 refine xe (Zaa ?_)
 refine yQ ((decide ((((blen q:Nat):Int)+k)≤z))) (fun h0=>?_) fun h0=>?_
 ·have Y0:=uC h0
  refine Zab (xq 2 [yB 52 r] [] ?_)
  refine yD (d:=53) (fun zb:Nat=>.slice (some ⟨zb,0,none⟩) 1 1) (fun zb zw=>Blk 94 zw zb #[.int .u64 1]) (fun w R Q=>ZaZ (t:=77) (e:=94) (n:=1) (sz:=1) (z:=.int .u64 0) (parts:=#[(0,Operand.const (Value.int IntKind.u64 1))]) (by kernel_rfl) (by kernel_rfl) (by kernel_rfl) (by kernel_rfl) (by kernel_rfl) (by kernel_rfl)) fun i0=>?_
  refine xr 2 [yJ 2 (bits:Int),(3,.p 3 0),(4,.p 4 0),(6,.p 6 0),yJ 7 0,yB 52 r,eS1 53 (some ⟨i0,0,none⟩) 1 1,yJ 55 (IntKind.i64.wrap (z-1))] [yF 6 79 false none 0 0 0,yF 3 79 o P1 pl pc i,yF 4 79 r Q1 ql qc k] ?_
  rw[yW (z-1) (z-1) (by omega)]
  refine xq 2 [] [yF 4 79 r (some ⟨i0,0,none⟩) 1 1 (z-1)] ?_
  refine xe (Zaa (Zac ?_))
  obtain⟨g,a0⟩:=yE (min i (z-1))
  obtain⟨u1,Z0⟩:∃ u:Nat,i-g=u:=uV (by omega)
  obtain⟨u2,a1⟩:∃ u:Nat,(z-1)-g=u:=uV (by omega)
  have hS:addR s x e t y f bits=addR o p i r 1 (z-1) bits:=H0.trans (ZqN _ _ _ _ I m0 i1 (by omega) (by omega) (by omega))
  rw[Zn4 a0 Z0 a1] at hS
  have b1:u1≤100000000:=by omega
  have c1:u2≤100000000:=by omega
  have j1 : -4294967296≤g:=by omega
  have k1:g≤4294967296:=by omega
  obtain⟨a,ha⟩:=yE (p*2^u1)
  obtain⟨b,b0⟩:=yE (1*2^u2)
  have d1:wl a≤4000000:=by rw[←ha];exact Zg3 (by omega) b1
  have e1:wl b≤4000000:=by rw[←b0];exact Zg3 (uA (Ze6.2 (by rw[Zao];decide)) (by decide)) c1
  have f1:0<a:=by rw[←ha];exact sE m0 (p2 u1)
  rw[ha,b0] at hS
  refine Zab (xq 5 [yJ 61 (if (z-1)<i then (z-1) else i)] [] ?_)
  rw[(show (if (z-1)<i then (z-1) else i)=g from Zhy.trans a0)]
  refine xq 1 [yJ 9 g] [] ?_
  refine xe (Zaa (Zac ?_))
  refine SXc.weak [yJ 2 (bits:Int),(3,.p 3 0),(4,.p 4 0),(6,.p 6 0),yJ 7 0,yJ 9 g] [yF 4 79 r (some ⟨i0,0,none⟩) 1 1 (z-1),yF 6 79 false none 0 0 0,yF 3 79 o P1 pl pc i] (ZaE.of (by kernel_rfl)) (by kernel_rfl) (fun _ h=>h) ?_
  refine yO 16 Zam ?_
  refine xqg 6 [eS1 63 P1 pl pc,yJ 67 (IntKind.i64.wrap (i-g))] ?_
  rw[yW (i-g) ((u1:Int)) (by omega)]
  refine xqd 66 [.slice P1 pl pc,.int .i64 (u1:Int)] 68 ZaJ _ (fun w R Q=>(Zdg u1 Q.1.1.1.1.2 (by omega) (by omega)).mono (fun _ _ h=>ZaD (by rw[ha] at h;exact h))) fun j=>?_
  obtain⟨J,K,L⟩:=j
  refine xqg 6 [eS1 70 (some ⟨i0,0,none⟩) 1 1,yJ 74 (IntKind.i64.wrap ((z-1)-g))] ?_
  rw[yW ((z-1)-g) ((u2:Int)) (by omega)]
  refine xqd 66 [.slice (some ⟨i0,0,none⟩) 1 1,.int .i64 (u2:Int)] 75 ZaJ _ (fun w R Q=>(Zdg u2 (ZdO Q.1.2) wl_1 (by omega)).mono (fun _ _ h=>ZaD (by rw[b0] at h;exact h))) fun j=>?_
  obtain⟨M,N,O⟩:=j
  refine xqg 2 [eS1 10 J K L,eS1 11 M N O] ?_
  refine xz (xe (Zaa (Zac (ZaH (Zac (Zab (xq 6 [yB 76 (o == r)] [] ?_)))))))
  refine xe (Zaa ?_)
  refine yQ ((o == r)) (fun d0=>?_) fun d0=>?_
  ·have P:o=r:=eq_of_beq d0
   refine Zac ?_
   refine yO 10 Zam ?_
   refine xqg 4 [yB 83 o,eS1 84 J K L,eS1 85 M N O] ?_
   refine xqd 126 [.slice J K L,.slice M N O] 86 ZaJ _ (fun w R Q=>yM ZaD (Zcx Q.1.2 Q.2 (by omega) (by omega))) fun j=>?_
   obtain⟨l1,m1,n1⟩:=j
   refine xqg 2 [yJ 87 g,yJ 88 (bits:Int)] ?_
   obtain⟨C,I0⟩:=yE (Zbv o (a+b) (g) bits false)
   refine xqd 123 [.bool o,.slice l1 m1 n1,.int .i64 g,.int .i64 (bits:Int),.func (.func 125) #[] #[]] 89 (shNb C) _ (fun w R Q=>yM ZaU ((show Calls _ _ _ _ (ZaX w C) by rw[←I0];exact Zc6 o _ _ _ _ g _ _ Q.1.1.1.1.1.1.1.1 Q.2 (by have:=ZkA d1 e1;omega) (by omega) (by omega) (by omega)))) fun j=>?_
   obtain⟨n0,o0,p0⟩:=j
   refine xqg 2 [(90,.v (yV C.s n0 o0 p0 C.e)),yJ 91 C.err] ?_
   refine xz (xq 2 [yJ 7 C.err] [yF 6 79 C.s n0 o0 p0 C.e] ?_)
   refine xe (Zaa (Zaf (Zbn (Zae ?_))))
   refine yR (.tuple #[yV C.s n0 o0 p0 C.e,.int .i64 C.err]) fun w' R Q=>?_
   rw[show sumR s x e t y f bits=addR s x e t y f bits by unfold sumR;rw[uN (by omega),uN (by omega)],hS]
   rw[Zmx f1 P,← Zcp _ _ _ I,I0]
   exact⟨(n0,o0,p0),rfl,Q.2,R⟩
  have P:¬ o=r:=fun e'=>by rw[e'] at d0;simp at d0
  refine Zac (Zab (xq 2 [eS1 93 J K L,eS1 94 M N O] [] ?_))
  refine xqc 122 [.slice J K L,.slice M N O] 95 (fun _:Unit=>.int .i64 (cmpI (a:Int) (b:Int))) _ (fun w R Q=>yN (ZdM Q.1.2 Q.2 (by omega))) fun j=>?_
  refine xq 2 [(92,.v (.bool (decide ((cmpI (a:Int) (b:Int))≥0))))] [] ?_
  refine xe (Zaa ?_)
  refine yQ ((decide ((cmpI (a:Int) (b:Int))≥0))) (fun j0=>?_) fun j0=>?_
  ·have k0:b≤a:=by have:=Zgn.1 (uC j0);omega
   refine Zac ?_
   refine yO 10 Zam ?_
   refine xqg 4 [yB 98 o,eS1 99 J K L,eS1 100 M N O] ?_
   refine xqd 127 [.slice J K L,.slice M N O] 101 ZaJ _ (fun w R Q=>yM ZaD (Zgb Q.1.1.2 Q.1.2 (by omega) k0)) fun j=>?_
   obtain⟨o1,p1,q1⟩:=j
   refine xqg 2 [yJ 102 g,yJ 103 (bits:Int)] ?_
   obtain⟨D,J0⟩:=yE (Zbv o (a-b) (g) bits false)
   refine xqd 123 [.bool o,.slice o1 p1 q1,.int .i64 g,.int .i64 (bits:Int),.func (.func 125) #[] #[]] 104 (shNb D) _ (fun w R Q=>yM ZaU ((show Calls _ _ _ _ (ZaX w D) by rw[←J0];exact Zc6 o _ _ _ _ g _ _ Q.1.1.1.1.1.1.1.1.1 Q.2 (uA (Zbj (Nat.sub_le _ _)) (by omega)) (by omega) (by omega) (by omega)))) fun j=>?_
   obtain⟨q0,r0,s0⟩:=j
   refine xqg 2 [(105,.v (yV D.s q0 r0 s0 D.e)),yJ 106 D.err] ?_
   refine xz (xq 2 [yJ 7 D.err] [yF 6 79 D.s q0 r0 s0 D.e] ?_)
   refine xe (Zaa (Zaf (Zbn (Zae ?_))))
   refine yR (.tuple #[yV D.s q0 r0 s0 D.e,.int .i64 D.err]) fun w' R Q=>?_
   rw[show sumR s x e t y f bits=addR s x e t y f bits by unfold sumR;rw[uN (by omega),uN (by omega)],hS]
   rw[Zlh P k0,← Zcp _ _ _ I,J0]
   exact⟨(q0,r0,s0),rfl,Q.2,R⟩
  have g1:a<b:=by have:=mt Zgn.2 (uD j0);omega
  refine Zal (Zbk (Zaa (Zac ?_)))
  refine yO 10 Zam ?_
  refine xqg 4 [yB 108 r,eS1 109 M N O,eS1 110 J K L] ?_
  refine xqd 127 [.slice M N O,.slice J K L] 111 ZaJ _ (fun w R Q=>yM ZaD (Zgb Q.1.2 Q.1.1.2 (by omega) (by omega))) fun j=>?_
  obtain⟨r1,s1,t1⟩:=j
  refine xqg 2 [yJ 112 g,yJ 113 (bits:Int)] ?_
  obtain⟨E,K0⟩:=yE (Zbv r (b-a) (g) bits false)
  refine xqd 123 [.bool r,.slice r1 s1 t1,.int .i64 g,.int .i64 (bits:Int),.func (.func 125) #[] #[]] 114 (shNb E) _ (fun w R Q=>yM ZaU ((show Calls _ _ _ _ (ZaX w E) by rw[←K0];exact Zc6 r _ _ _ _ g _ _ Q.1.1.1.1.1.1.1.1.1 Q.2 (uA (Zbj (Nat.sub_le _ _)) (by omega)) (by omega) (by omega) (by omega)))) fun j=>?_
  obtain⟨t0,u0,v0⟩:=j
  refine xqg 2 [(115,.v (yV E.s t0 u0 v0 E.e)),yJ 116 E.err] ?_
  refine xz (xq 2 [yJ 7 E.err] [yF 6 79 E.s t0 u0 v0 E.e] ?_)
  refine xe (Zaa (Zaf ?_))
  refine yR (.tuple #[yV E.s t0 u0 v0 E.e,.int .i64 E.err]) fun w' R Q=>?_
  rw[show sumR s x e t y f bits=addR s x e t y f bits by unfold sumR;rw[uN (by omega),uN (by omega)],hS]
  rw[ZjX P g1,← Zcp _ _ _ I,K0]
  exact⟨(t0,u0,v0),rfl,Q.2,R⟩
 have Y0:=uD h0
 refine Zal (Zaa (Zac ?_))
 obtain⟨g,a0⟩:=yE (min i k)
 obtain⟨u1,Z0⟩:∃ u:Nat,i-g=u:=uV (by omega)
 obtain⟨u2,a1⟩:∃ u:Nat,k-g=u:=uV (by omega)
 have hS:=H0
 rw[Zn4 a0 Z0 a1] at hS
 have b1:u1≤100000000:=by omega
 have c1:u2≤100000000:=by omega
 have j1 : -4294967296≤g:=by omega
 have k1:g≤4294967296:=by omega
 obtain⟨a,ha⟩:=yE (p*2^u1)
 obtain⟨b,b0⟩:=yE (q*2^u2)
 have d1:wl a≤4000000:=by rw[←ha];exact Zg3 (by omega) b1
 have e1:wl b≤4000000:=by rw[←b0];exact Zg3 (by omega) c1
 have f1:0<a:=by rw[←ha];exact sE m0 (p2 u1)
 rw[ha,b0] at hS
 refine Zab (xq 5 [yJ 61 (if k<i then k else i)] [] ?_)
 rw[(show (if k<i then k else i)=g from Zhy.trans a0)]
 refine xq 1 [yJ 9 g] [] ?_
 refine xe (Zaa (Zac ?_))
 refine SXc.weak [yJ 2 (bits:Int),(3,.p 3 0),(4,.p 4 0),(6,.p 6 0),yJ 7 0,yJ 9 g] [yF 6 79 false none 0 0 0,yF 3 79 o P1 pl pc i,yF 4 79 r Q1 ql qc k] (ZaE.of (by kernel_rfl)) (by kernel_rfl) (fun _ h=>h) ?_
 refine yO 16 Zam ?_
 refine xqg 6 [eS1 63 P1 pl pc,yJ 67 (IntKind.i64.wrap (i-g))] ?_
 rw[yW (i-g) ((u1:Int)) (by omega)]
 refine xqd 66 [.slice P1 pl pc,.int .i64 (u1:Int)] 68 ZaJ _ (fun w R Q=>(Zdg u1 Q.1.1.1.2 (by omega) (by omega)).mono (fun _ _ h=>ZaD (by rw[ha] at h;exact h))) fun j=>?_
 obtain⟨S,T,U⟩:=j
 refine xqg 6 [eS1 70 Q1 ql qc,yJ 74 (IntKind.i64.wrap (k-g))] ?_
 rw[yW (k-g) ((u2:Int)) (by omega)]
 refine xqd 66 [.slice Q1 ql qc,.int .i64 (u2:Int)] 75 ZaJ _ (fun w R Q=>(Zdg u2 Q.1.1.1.2 (by omega) (by omega)).mono (fun _ _ h=>ZaD (by rw[b0] at h;exact h))) fun j=>?_
 obtain⟨V,W,X⟩:=j
 refine xqg 2 [eS1 10 S T U,eS1 11 V W X] ?_
 refine xz (xe (Zaa (Zac (ZaH (Zac (Zab (xq 6 [yB 76 (o == r)] [] ?_)))))))
 refine xe (Zaa ?_)
 refine yQ ((o == r)) (fun e0=>?_) fun e0=>?_
 ·have P:o=r:=eq_of_beq e0
  refine Zac ?_
  refine yO 10 Zam ?_
  refine xqg 4 [yB 83 o,eS1 84 S T U,eS1 85 V W X] ?_
  refine xqd 126 [.slice S T U,.slice V W X] 86 ZaJ _ (fun w R Q=>yM ZaD (Zcx Q.1.2 Q.2 (by omega) (by omega))) fun j=>?_
  obtain⟨v1,w1,x1⟩:=j
  refine xqg 2 [yJ 87 g,yJ 88 (bits:Int)] ?_
  obtain⟨F,L0⟩:=yE (Zbv o (a+b) (g) bits false)
  refine xqd 123 [.bool o,.slice v1 w1 x1,.int .i64 g,.int .i64 (bits:Int),.func (.func 125) #[] #[]] 89 (shNb F) _ (fun w R Q=>yM ZaU ((show Calls _ _ _ _ (ZaX w F) by rw[←L0];exact Zc6 o _ _ _ _ g _ _ Q.1.1.1.1.1.1.1 Q.2 (by have:=ZkA d1 e1;omega) (by omega) (by omega) (by omega)))) fun j=>?_
  obtain⟨w0,x0,y0⟩:=j
  refine xqg 2 [(90,.v (yV F.s w0 x0 y0 F.e)),yJ 91 F.err] ?_
  refine xz (xq 2 [yJ 7 F.err] [yF 6 79 F.s w0 x0 y0 F.e] ?_)
  refine xe (Zaa (Zaf (Zbn (Zae ?_))))
  refine yR (.tuple #[yV F.s w0 x0 y0 F.e,.int .i64 F.err]) fun w' R Q=>?_
  rw[show sumR s x e t y f bits=addR s x e t y f bits by unfold sumR;rw[uN (by omega),uN (by omega)],hS]
  rw[Zmx f1 P,← Zcp _ _ _ I,L0]
  exact⟨(w0,x0,y0),rfl,Q.2,R⟩
 have P:¬ o=r:=fun e'=>by rw[e'] at e0;simp at e0
 refine Zac (Zab (xq 2 [eS1 93 S T U,eS1 94 V W X] [] ?_))
 refine xqc 122 [.slice S T U,.slice V W X] 95 (fun _:Unit=>.int .i64 (cmpI (a:Int) (b:Int))) _ (fun w R Q=>yN (ZdM Q.1.2 Q.2 (by omega))) fun j=>?_
 refine xq 2 [(92,.v (.bool (decide ((cmpI (a:Int) (b:Int))≥0))))] [] ?_
 refine xe (Zaa ?_)
 refine yQ ((decide ((cmpI (a:Int) (b:Int))≥0))) (fun l0=>?_) fun l0=>?_
 ·have k0:b≤a:=by have:=Zgn.1 (uC l0);omega
  refine Zac ?_
  refine yO 10 Zam ?_
  refine xqg 4 [yB 98 o,eS1 99 S T U,eS1 100 V W X] ?_
  refine xqd 127 [.slice S T U,.slice V W X] 101 ZaJ _ (fun w R Q=>yM ZaD (Zgb Q.1.1.2 Q.1.2 (by omega) k0)) fun j=>?_
  obtain⟨y1,z1,A1⟩:=j
  refine xqg 2 [yJ 102 g,yJ 103 (bits:Int)] ?_
  obtain⟨G,M0⟩:=yE (Zbv o (a-b) (g) bits false)
  refine xqd 123 [.bool o,.slice y1 z1 A1,.int .i64 g,.int .i64 (bits:Int),.func (.func 125) #[] #[]] 104 (shNb G) _ (fun w R Q=>yM ZaU ((show Calls _ _ _ _ (ZaX w G) by rw[←M0];exact Zc6 o _ _ _ _ g _ _ Q.1.1.1.1.1.1.1.1 Q.2 (uA (Zbj (Nat.sub_le _ _)) (by omega)) (by omega) (by omega) (by omega)))) fun j=>?_
  obtain⟨z0,A0,B0⟩:=j
  refine xqg 2 [(105,.v (yV G.s z0 A0 B0 G.e)),yJ 106 G.err] ?_
  refine xz (xq 2 [yJ 7 G.err] [yF 6 79 G.s z0 A0 B0 G.e] ?_)
  refine xe (Zaa (Zaf (Zbn (Zae ?_))))
  refine yR (.tuple #[yV G.s z0 A0 B0 G.e,.int .i64 G.err]) fun w' R Q=>?_
  rw[show sumR s x e t y f bits=addR s x e t y f bits by unfold sumR;rw[uN (by omega),uN (by omega)],hS]
  rw[Zlh P k0,← Zcp _ _ _ I,M0]
  exact⟨(z0,A0,B0),rfl,Q.2,R⟩
 have g1:a<b:=by have:=mt Zgn.2 (uD l0);omega
 refine Zal (Zbk (Zaa (Zac ?_)))
 refine yO 10 Zam ?_
 refine xqg 4 [yB 108 r,eS1 109 V W X,eS1 110 S T U] ?_
 refine xqd 127 [.slice V W X,.slice S T U] 111 ZaJ _ (fun w R Q=>yM ZaD (Zgb Q.1.2 Q.1.1.2 (by omega) (by omega))) fun j=>?_
 obtain⟨B1,C1,D1⟩:=j
 refine xqg 2 [yJ 112 g,yJ 113 (bits:Int)] ?_
 obtain⟨H,N0⟩:=yE (Zbv r (b-a) (g) bits false)
 refine xqd 123 [.bool r,.slice B1 C1 D1,.int .i64 g,.int .i64 (bits:Int),.func (.func 125) #[] #[]] 114 (shNb H) _ (fun w R Q=>yM ZaU ((show Calls _ _ _ _ (ZaX w H) by rw[←N0];exact Zc6 r _ _ _ _ g _ _ Q.1.1.1.1.1.1.1.1 Q.2 (uA (Zbj (Nat.sub_le _ _)) (by omega)) (by omega) (by omega) (by omega)))) fun j=>?_
 obtain⟨C0,D0,E0⟩:=j
 refine xqg 2 [(115,.v (yV H.s C0 D0 E0 H.e)),yJ 116 H.err] ?_
 refine xz (xq 2 [yJ 7 H.err] [yF 6 79 H.s C0 D0 E0 H.e] ?_)
 refine xe (Zaa (Zaf ?_))
 refine yR (.tuple #[yV H.s C0 D0 E0 H.e,.int .i64 H.err]) fun w' R Q=>?_
 rw[show sumR s x e t y f bits=addR s x e t y f bits by unfold sumR;rw[uN (by omega),uN (by omega)],hS]
 rw[ZjX P g1,← Zcp _ _ _ I,N0]
 exact⟨(C0,D0,E0),rfl,Q.2,R⟩
def ZaF (q:Rat):List UInt8:=if q.den=1 then Lib.itoa q.num else Lib.itoa q.num ++ [47] ++ Lib.itoa (q.den:Int)
theorem Zn7 {x y:Int}(c:0<y):(Rat.divInt x y).num=x.tdiv (Int.gcd x y:Int)∧((Rat.divInt x y).den:Int)=y.tdiv (Int.gcd x y:Int):=by
 have a:(Int.gcd x y:Int)∣x:=Int.gcd_dvd_left _ _
 have b:(Int.gcd x y:Int)∣y:=Int.gcd_dvd_right _ _
 rw[Rat.num_divInt,Rat.den_divInt,uN (by omega),rN c,Int.one_mul,Int.gcd_comm y x,Int.tdiv_eq_ediv_of_dvd a,Int.tdiv_eq_ediv_of_dvd b]
 refine⟨rfl,?_⟩
 rw[tC]
 congr 1
 omega
theorem ZiZ {x y:Int}(a:0<y)(h:((Int.gcd x y:Nat):Int)=1):(Rat.divInt x y).num=x∧((Rat.divInt x y).den:Int)=y:=by
 have:=Zn7 (x:=x) a
 rwa [h,Int.tdiv_one,Int.tdiv_one] at this
theorem Zli {c:UInt8}(h:Zav c=true):UInt8.ofNat (48+(c.toNat-48))=c:=by
 have:=Zeu h
 apply UInt8.toNat.inj
 rw[UInt8.toNat_ofNat']
 have:=c.toNat_lt
 omega
theorem Zn8:∀ (k:Nat) (l:List UInt8),l.length=k→l.all Zav=true→l≠[]→l.head? ≠ some 48→Lib.decDigits (Zak l)=l:=by
 intro k
 induction k with
 | zero=>intro l d _ g;exact absurd (tH.1 d) g
 | succ k ih =>
  intro l d f g b
  obtain⟨l',c,rfl⟩:∃ l' c,l=l' ++ [c]:=by
   rcases List.eq_nil_or_concat l with h|⟨l',c,h⟩
   ·exact absurd h g
   exact⟨l',c,by simpa using h⟩
  rw[rL,tR] at f
  have i:Zav c=true:=by simpa using f.2
  have m:=Zeu i
  rw[Zd8]
  by_cases a:l'=[]
  ·subst a
   have e:Zak []=0:=rfl
   rw[e,tL,tU,Zea (by omega),Zli i];rfl
  have j:l'.head? ≠ some 48:=by
   rw[List.head?_append] at b
   cases hx:l'.head? with
   | none=>exact absurd (List.head?_eq_none_iff.1 hx) a
   | some x=>rw[hx] at b;exact b
  have n:=ih l' (by simp at d;exact d) f.1 a j
  have o:=(ZhV f.1 a j).1
  rw[Zh3 (by omega),show (10*Zak l'+(c.toNat-48))/10=Zak l' by omega,show (10*Zak l'+(c.toNat-48))%10=c.toNat-48 by omega,n,Zli i]
theorem Zpb (n:Nat):(Lib.decDigits n).head? ≠ some 45:=by
 intro e
 cases h:Lib.decDigits n with
 | nil=>exact ZbB n h
 | cons x xs =>
  rw[h] at e
  simp only[List.head?_cons,rJ] at e
  subst e
  have:=Zb9 n
  rw[h] at this
  simp only[sV,tR] at this
  exact absurd this.1 (by decide)
theorem ZfA {p:UInt8→Bool}{l r:List UInt8}{c:UInt8}(h:l.all p=true)(a:p c=false):(l ++ c :: r).takeWhile p=l∧(l ++ c :: r).dropWhile p=c :: r:=by
 induction l with
 | nil=>simp[a]
 | cons x xs ih =>
  simp only[sV,tR] at h
  obtain⟨b,d⟩:=ih h.2
  rw[pA,qT,List.dropWhile_cons,h.1]
  simp[b,d]
theorem ZfN (z:Int)(r:List UInt8):ZaA (Lib.itoa z ++ r)=(decide (z<0),Lib.decDigits z.natAbs ++ r):=by
 by_cases h:z<0
 ·rw[Zh4 h,uQ h]
  unfold ZaA
  rw[uP (by simp)]
  rfl
 rw[Zjz (by omega),uJ h]
 unfold ZaA
 rw[uN]
 intro e
 rw[List.head?_append] at e
 cases hx:(Lib.decDigits z.natAbs).head? with
 | none=>exact absurd (List.head?_eq_none_iff.1 hx) (ZbB _)
 | some c =>
  rw[hx] at e
  exact Zpb _ (hx.trans e)
theorem Zi0 (z:Int):sg (decide (z<0)) z.natAbs=z:=by
 unfold sg
 split
 ·rename_i h;have:=uC h;omega
 rename_i h;have:¬ z<0:=fun k=>h (uQ k);omega
theorem Zlj {q:Rat}(h:q.den=1):((q.num:Int):Rat)=q:=by
 apply Rat.ext<;>simp[h]
theorem Zv7 {q:Rat}(h:q.den≠1):q.num≠0:=by
 intro e
 have:=q.reduced
 rw[e] at this
 simp[Nat.Coprime] at this
 exact h this
theorem Zcq (n:Nat):Lib.itoa (n:Int)=Lib.decDigits n:=by
 rw[Zjz (by omega),uR]
theorem ZqY {q:Rat}(h:q.den≠1):Zbl (ZaF q)=(decide (q.num<0),Lib.decDigits q.num.natAbs,Lib.decDigits q.den,true):=by
 have l:=Zv7 h
 have m:=q.den_nz
 unfold ZaF
 rw[uN h,Zcq,tB]
 unfold Zbl
 rw[ZfN]
 simp only[]
 obtain⟨g,i⟩:=ZfA (p:=Zav) (r:=Lib.decDigits q.den) (c:=47) (Zb9 q.num.natAbs) (by decide)
 have e:Lib.decDigits q.num.natAbs ++ ([47] ++ Lib.decDigits q.den)=Lib.decDigits q.num.natAbs ++ 47 :: Lib.decDigits q.den:=rfl
 rw[e,g,i]
 have f:=ZeY q.num.natAbs (by omega)
 rw[uN (fun e=>f (by rw[e];rfl)),uN (fun e=>e.elim (ZbB _) f),uN (by simp),uN (by simp)]
 simp only[List.tail_cons]
 obtain⟨j,k⟩:=Zd3 (Zb9 q.den)
 rw[j,k]
 have a:=ZeY q.den (by omega)
 have b:Lib.decDigits q.den≠[49]:=fun e=>by
  have:=ZcX q.den
  rw[e] at this
  exact h (by rw[←this];rfl)
 have d:=ZbB q.den
 simp[a,b,d]
theorem ZmA (q:Rat):Zba (ZaF q)=some q:=by
 by_cases h:q.den=1
 ·unfold ZaF
  rw[uP h,Zmz,Zlj h]
 unfold Zba
 rw[ZqY h]
 simp only[]
 rw[uN (ZbB _),ZcX,ZcX,uP q.reduced,Zi0,Rat.mkRat_self]
theorem ZmB {neg:Bool}{a:Nat}(h:a=0→neg=false):(sg neg a<0↔neg=true)∧(sg neg a).natAbs=a:=by
 cases neg with
 | false=>simp[sg]
 | true =>
  have:a≠0:=fun e=>by cases h e
  simp[sg];omega
theorem Zhz {neg:Bool}{a:Nat}(h:a=0→neg=false):Lib.itoa (sg neg a)=(if neg then [45] else []) ++ Lib.decDigits a:=by
 obtain⟨c,b⟩:=ZmB h
 cases neg with
 | false=>rw[Zjz (by simp[sg]),b];rfl
 | true=>rw[Zh4 (c.2 rfl),b];rfl
theorem ZjZ {l r:List UInt8}{neg:Bool}(h:ZaA l=(neg,r)):l=(if neg then [45] else []) ++ r:=by
 unfold ZaA at h
 split at h
 ·rename_i hh
  injection h with h1 h2
  subst h1 h2
  cases l with
  | nil=>cases hh
  | cons x xs=>simp at hh;subst hh;rfl
 injection h with h1 h2
 subst h1 h2
 rfl
theorem ZdP {l:List UInt8}{q:Rat}(h:Zba l=some q):ZaF q=l:=by
 unfold Zba at h
 cases hs:Zbl l with
 | mk neg r =>
  obtain⟨num,den,ok⟩:=r
  rw[hs] at h
  cases ok with
  | false=>cases h
  | true =>
   simp only[] at h
   have k:=ZeS hs
   obtain⟨A,m⟩:=Zk5 hs
   cases hu:ZaA l with
   | mk neg' t =>
    have j:=ZjZ hu
    have a:t.takeWhile Zav ++ t.dropWhile Zav=t:=rX
    unfold Zbl at hs
    rw[hu] at hs
    simp only[] at hs
    split at hs
    ·-- zero
     rename_i f
     injection hs with e1 hs;injection hs with e2 hs;injection hs with e3 e4
     subst e1 e2 e3
     simp at e4
     rw[uP rfl,f] at h
     have B:Zak [48]=0:=rfl
     rw[B] at h
     injection h with h
     rw[e4.1] at h j
     rw[←h,j,← a,f,e4.2]
     simp only[sg]
     unfold ZaF
     rw[uP (by simp)]
     have:Lib.itoa ((0:Nat):Int)=[48]:=by rw[Zcq,Zea (by omega)];rfl
     simpa using this
    split at hs
    ·injection hs with _ hs;injection hs with _ hs;injection hs with _ hs;cases hs
    rename_i z
    have n:t.takeWhile Zav≠[]:=fun e=>z (Or.inl e)
    have o:(t.takeWhile Zav).head? ≠ some 48:=fun e=>z (Or.inr e)
    have g:=Zn8 _ _ rfl (Zcw (p:=Zav) t) n o
    split at hs
    ·rename_i s
     injection hs with e1 hs;injection hs with e2 hs;injection hs with e3 _
     subst e1 e2 e3
     rw[uP rfl] at h
     injection h with h
     rw[←h]
     unfold ZaF
     rw[uP (by simp)]
     have i:(((sg neg' (Zak (t.takeWhile Zav)):Int)):Rat).num=sg neg' (Zak (t.takeWhile Zav)):=rfl
     rw[i,Zhz (fun e=>(m e).1),g,j]
     rw[s,sP] at a
     rw[a]
    split at hs
    ·injection hs with _ hs;injection hs with _ hs;injection hs with _ hs;cases hs
    rename_i s b
    injection hs with e1 hs;injection hs with e2 hs;injection hs with e3 e4
    subst e1 e2
    rw[e3] at e4
    simp at e4
    obtain⟨⟨⟨u,v⟩,C⟩,E⟩:=e4
    rw[uN v] at h
    split at h
    ·rename_i D
     injection h with h
     have F:=A v
     have w:q.num=sg neg' (Zak (t.takeWhile Zav))∧q.den=Zak den:=by
      have:=ZiZ (x:=sg neg' (Zak (t.takeWhile Zav))) (y:=(Zak den:Int)) (by omega) (by
       unfold Int.gcd
       rw[(ZmB (fun e=>(m e).1)).2,uR,D];rfl)
      rw[Rat.divInt_ofNat,h] at this
      exact⟨this.1,by have:=this.2;omega⟩
     unfold ZaF
     rw[uN (by rw[w.2];omega),w.1,w.2,Zhz (fun e=>(m e).1),g,Zcq,Zn8 _ _ rfl k.2.1 v C,j]
     have d:t.dropWhile Zav=47 :: den:=by
      cases hx:t.dropWhile Zav with
      | nil=>exact absurd hx s
      | cons c r =>
       rw[hx] at b u e3
       simp at b u e3
       subst b
       have:=rX (p:=Zav) (l:=r)
       rw[e3,u,sP] at this
       rw[this]
     rw[d] at a
     rw[tB,tB]
     congr 1
    cases h
theorem ZtU {l:List UInt8}{q:Rat}:Zba l=some q↔ZaF q=l :=
 ⟨ZdP,fun h=>by rw[←h];exact ZmA q⟩
def fvB (s:List UInt8) (e:Int):Bool :=
 if s=[48] then decide (e=0)
 else decide ((ZaA s).2≠[]∧(ZaA s).2.head? ≠ some 48∧okE e∧(ZaA s).2.all Zav=true∧Zak (ZaA s).2%2=1)
def flM (s:List UInt8):Int:=sg (ZaA s).1 (Zak (ZaA s).2)
theorem Zi1:Lib.itoa 0=[48]:=by
 rw[show (0:Int)=((0:Nat):Int) from rfl,Zcq,Zea (by omega)];rfl
theorem Zn9:flM [48]=0:=by decide
theorem Zv8 {neg:Bool}{a:Nat}(h:a%2=1):sg neg a%2=1:=by unfold sg;split<;>omega
theorem ZpU {s:List UInt8}{e:Int}(h:fvB s e=true):s=Lib.itoa (flM s)∧((flM s=0∧e=0)∨(flM s%2=1∧okE e)):=by
 unfold fvB at h
 by_cases a:s=[48]
 ·rw[uP a] at h
  subst a
  rw[Zn9]
  exact⟨Zi1.symm,Or.inl ⟨rfl,uC h⟩⟩
 rw[uN a] at h
 obtain⟨b,c,d,f,g⟩:=uC h
 unfold flM
 refine⟨?_,Or.inr ⟨Zv8 g,d⟩⟩
 rw[Zhz (fun h=>by omega),Zn8 _ _ rfl f b c]
 exact ZjZ rfl
theorem ZfO (z:Int):ZaA (Lib.itoa z)=(decide (z<0),Lib.decDigits z.natAbs):=by
 have:=ZfN z []
 rwa [sP,sP] at this
theorem Zkk (z:Int):flM (Lib.itoa z)=z:=by
 unfold flM;rw[ZfO,ZcX];exact Zi0 z
theorem ZpV (z e:Int):fvB (Lib.itoa z) e=decide ((z=0∧e=0)∨(z%2=1∧okE e)):=by
 unfold fvB
 by_cases a:z=0
 ·subst a
  rw[Zi1,uP rfl]
  by_cases b:e=0
  ·subst b;rfl
  rw[uJ b]
  symm
  exact uJ (fun h=>by rcases h with h|h<;>omega)
 have c:¬ Lib.itoa z=[48]:=fun h=>a (by rw[←Zkk z,h,Zn9])
 rw[uN c,ZfO]
 refine rP.2 ⟨fun⟨_,_,d,_,f⟩=>Or.inr ⟨?_,d⟩,fun h=>?_⟩
 ·rw[ZcX] at f;omega
 rcases h with ⟨h,_⟩|⟨i,g⟩
 ·exact absurd h a
 exact⟨ZbB _,ZeY _ (by omega),g,Zb9 _,by rw[ZcX];omega⟩
theorem ZpW {s:List UInt8}{q:Rat}(h:Zba s=some q)(b:q.den=1)(e:Int):fvB s e=decide ((q.num=0∧e=0)∨(q.num%2=1∧okE e))∧flM s=q.num:=by
 have c:s=Lib.itoa q.num:=by
  have a:=ZdP h
  unfold ZaF at a
  rw[uP b] at a
  exact a.symm
 rw[c]
 exact⟨ZpV _ _,Zkk _⟩
theorem ZtV {l:List UInt8}{c:UInt8}(h:(l ++ [c]).all Zav=true):Zak (l ++ [c])%2=c.toNat % 2:=by
 rw[Zd8]
 have a:Zav c=true:=by rw[rL] at h;simp at h;exact h.2
 have:=Zeu a
 omega
noncomputable def valF (l:List UInt8):Rat:=(Zba l).getD 0
theorem Zsr {l:List UInt8}(b:l.all Zav=true)(f:l.length≤570):wl (Zak l)≤30:=by
 rw[ZbZ]
 have c:=ZbM l b
 obtain⟨k,d⟩:∃ k,k=30:=⟨_,rfl⟩
 have a:10^l.length≤10^(19*k):=vF (by omega) (by omega)
 rw[←d]
 rw[sZ] at a
 have e:(10^19)^k≤W64^k:=sJ (by rw[Zao];decide) k
 exact uY c (uA a e)
theorem Zss {l:List UInt8}(h:Zba l=none):valF l=0:=by unfold valF;rw[h];rfl
theorem Zg5 {l:List UInt8}{q:Rat}(h:Zba l=some q):valF l=q:=by unfold valF;rw[h];rfl
end Go.Proofs.YtklpdkpcocnglaaGreatDoor
namespace Go.Proofs.YtklpdkpcocnglaaGreatDoor
open Go.RowKit Go.Sort
end Go.Proofs.YtklpdkpcocnglaaGreatDoor
namespace Go.Proofs.YtklpdkpcocnglaaGreatDoor
open Go.RowKit
section
variable {s t:ByteArray} {p q r:Rat} {w:World}
end
theorem Zq0 {w w':World}{e:Ending}{l:List UInt8}(h:Zkl w l e w'):ZbO (fun x:Int×Int×Bool=>.tuple #[.agg #[.int .i64 x.1,.int .i64 x.2.1],.bool x.2.2]) (fun x _=>Zgo l x.1 x.2.1 x.2.2) w e w':=by
 obtain⟨a,b,c,rfl,d,Q⟩:=h
 exact⟨(a,b,c),rfl,Q,BoxN.pure d⟩
abbrev ShSp:=Bool×ByteArray×ByteArray×Bool
theorem Zq1 {w w':World}{e:Ending}{s:ByteArray}(h:Zkc s w e w'):ZbO (fun x:ShSp=>.tuple #[.agg #[.bool x.1,.string x.2.1,.string x.2.2.1],.bool x.2.2.2]) (fun x _=>Zbl (bytes s)=(x.1,bytes x.2.1,bytes x.2.2.1,x.2.2.2)) w e w':=by
 obtain⟨neg,t,d,a,rfl,b,Q⟩:=h
 exact⟨(neg,t,d,a),rfl,Q,BoxN.pure b⟩
theorem ZpX {x:ByteArray}(h:bytes x=[]):(x.toList == (⟨#[]⟩:ByteArray).toList)=true:=by
 rw[Lib.toList_data,Lib.toList_data,show x.data.toList=[] from h];rfl
theorem ZpY {x:ByteArray}(h:¬ bytes x=[]):(x.toList == (⟨#[]⟩:ByteArray).toList)=false:=by
 rw[Lib.toList_data,Lib.toList_data]
 exact tG.2 h
theorem Zsu {l:List UInt8}{neg:Bool}{t d:List UInt8}(h:Zbl l=(neg,t,d,false)):Zba l=none:=by unfold Zba;rw[h]
theorem Zsv {l:List UInt8}{neg:Bool}{t d:List UInt8}(h:Zbl l=(neg,t,d,true))(a:d=[]):(Zba l).isSome=true:=by unfold Zba;rw[h];simp[a]
theorem Zsw {l:List UInt8}{neg:Bool}{t d:List UInt8}(h:Zbl l=(neg,t,d,true))(b:¬ d=[]):(Zba l).isSome=decide (((Int.gcd (Zak t:Int) (Zak d:Int):Nat):Int)=1):=by
 unfold Zba
 rw[h]
 have e:Int.gcd (Zak t:Int) (Zak d:Int)=Nat.gcd (Zak t) (Zak d):=rfl
 rw[e]
 simp only[uN b]
 by_cases a:Nat.gcd (Zak t) (Zak d)=1
 ·rw[uP a,a];rfl
 rw[uN a];simp;omega
theorem Zq2 {l:List UInt8}{a b:Int}(h:Zgo l a b true):(Zba l).isSome=true:=by
 rcases h with ⟨_,q,h,_⟩|⟨h,_⟩
 ·rw[h];rfl
 cases h
theorem Zg7 (s:ByteArray)(w:World)(I:Glob w)(J:(bytes s).length≤570) :
 yA 54 #[.string s] w (RetV w (.bool (Zba (bytes s)).isSome)):=by
 have m:s.size≤1099511627776:=by rw[Zaq] at J;omega
 refine Zax (Φ:=fun w=>Glob w) Tryz.func54 rfl (by kernel_rfl) (fun w' K=>I.ext K) ?_
 refine Zac (Zab (xr 1 [yT 0 s,yB 2 false] [] ?_))
 refine xe (Zaa (Zac (Zac (Zab (xr 1 [yT 0 s,yB 2 false,yT 8 s] [] ?_)))))
 refine xc 92 [.string s] 9 (fun x:Int×Int×Bool=>.tuple #[.agg #[.int .i64 x.1,.int .i64 x.2.1],.bool x.2.2]) _ (fun w R Q=>yM Zq0 (ZmY s _ m)) fun f=>?_
 obtain⟨M,N,C⟩:=f
 rcases C with _|_
 ·refine xr 6 [yT 0 s,yB 2 false,yB 4 false] [] ?_
  refine xe (Zaa (Zac (Zab (xr 1 [yT 0 s,yB 2 false,yB 12 false] [] ?_))))
  refine xe (Zaa (xb (Zal (Zaa (Zac (Zab (xr 1 [yB 2 false,yT 14 s] [] ?_)))))))
  refine xc 93 [.string s] 15 (fun x:ShSp=>.tuple #[.agg #[.bool x.1,.string x.2.1,.string x.2.2.1],.bool x.2.2.2]) _ (fun w R Q=>yM Zq1 (Zml s _ m)) fun f=>?_
  obtain⟨a,c,b,D⟩:=f
  rcases D with _|_
  ·refine xr 6 [yB 2 false,(5,.p 5 0),yB 6 false] [(5,123,[.v (.bool a),.v (.string c),.v (.string b)])] ?_
   refine xe (Zaa (Zac (Zac ?_)))
   refine SXc.know (p:=Zbl (bytes s)=(a,bytes c,bytes b,false)) (fun w _ Q=>Q.2) fun n=>?_
   refine Zab (xr 7 [yB 2 false,(5,.p 5 0),yB 6 false,yB 24 true] [(5,123,[.v (.bool a),.v (.string c),.v (.string b)])] ?_)
   refine xe (Zaa (xa (Zac (Zab (xr 2 [yB 2 false,(5,.p 5 0)] [(5,123,[.v (.bool a),.v (.string c),.v (.string b)])] ?_)))))
   refine xe (Zaa (Zaf (Zae ?_)))
   refine yR (.bool false) fun w' R Q=>?_
   exact⟨by rw[Zsu n];rfl,R⟩
  refine xr 6 [yB 2 false,(5,.p 5 0),yB 6 true] [(5,123,[.v (.bool a),.v (.string c),.v (.string b)])] ?_
  refine xe (Zaa (Zac (Zac ?_)))
  refine SXc.know (p:=Zbl (bytes s)=(a,bytes c,bytes b,true)) (fun w _ Q=>Q.2) fun n=>?_
  by_cases B:bytes b=[]
  ·refine Zab (xr 6 [yB 2 false,(5,.p 5 0),yB 6 true,yB 20 false,yB 23 ((b:ByteArray).toList == (⟨#[]⟩:ByteArray).toList)] [(5,123,[.v (.bool a),.v (.string c),.v (.string b)])] ?_)
   rw[ZpX B]
   refine xr 1 [yB 2 false,(5,.p 5 0),yB 6 true,yB 24 true] [(5,123,[.v (.bool a),.v (.string c),.v (.string b)])] ?_
   refine xe (Zaa (xa (Zac (Zab (xr 2 [yB 2 true,(5,.p 5 0)] [(5,123,[.v (.bool a),.v (.string c),.v (.string b)])] ?_)))))
   refine xe (Zaa (Zaf (Zae ?_)))
   refine yR (.bool true) fun w' R Q=>?_
   exact⟨by rw[Zsv n B],R⟩
  refine Zab (xr 6 [yB 2 false,(5,.p 5 0),yB 6 true,yB 20 false,yB 23 ((b:ByteArray).toList == (⟨#[]⟩:ByteArray).toList)] [(5,123,[.v (.bool a),.v (.string c),.v (.string b)])] ?_)
  rw[ZpY B]
  refine xr 1 [yB 2 false,(5,.p 5 0),yB 6 true,yB 24 false] [(5,123,[.v (.bool a),.v (.string c),.v (.string b)])] ?_
  refine xe (Zaa (xb (Zal (Zaa (Zac ?_)))))
  obtain⟨d,e,L⟩:=ZeS n
  have g:ZhU c.size:=by unfold ZhU;rw[←Zaq];omega
  have h:ZhU b.size:=by unfold ZhU;rw[←Zaq];omega
  have E:wl ((Zak (bytes c):Nat):Int).natAbs≤79:=by rw[uR];exact uA (Zsr d (by omega)) (by decide)
  have F:wl ((Zak (bytes b):Nat):Int).natAbs≤79:=by rw[uR];exact uA (Zsr e (by omega)) (by decide)
  have G:Fits ((Zak (bytes c):Nat):Int):=by unfold Fits;omega
  have H:Fits ((Zak (bytes b):Nat):Int):=by unfold Fits;omega
  refine yO 9 Zam ?_
  refine xf 2 [yB 2 false,(5,.p 5 0),yT 27 c] [(5,123,[.v (.bool a),.v (.string c),.v (.string b)])] ?_
  refine xd 94 [.string c] 28 Zaz _ (fun w R Q=>yM Zkd (ZiM c _ d g)) fun f=>?_
  obtain⟨i,j,k,l⟩:=f
  refine xf 2 [yB 2 false,eI2 28 i j k l,yT 30 b] [(5,123,[.v (.bool a),.v (.string c),.v (.string b)])] ?_
  refine xd 94 [.string b] 31 Zaz _ (fun w R Q=>yM Zkd (ZiM b _ e h)) fun f=>?_
  obtain⟨o,q,r,t⟩:=f
  refine xf 0 [yB 2 false,eI2 28 i j k l,eI2 31 o q r t] [(5,123,[.v (.bool a),.v (.string c),.v (.string b)])] ?_
  refine xd 95 [vI2 i j k l,vI2 o q r t] 32 Zaz _ (fun w R Q=>yM Zkd (ZuO _ _ ((Zak (bytes c):Int)) ((Zak (bytes b):Int)) _ Q.1.1.1.1 Q.1.2 Q.2 G H (Zng.words E F))) fun f=>?_
  obtain⟨u,y,z,A⟩:=f
  refine xf 0 [yB 2 false,eI2 32 u y z A] [(5,123,[.v (.bool a),.v (.string c),.v (.string b)])] ?_
  refine xd 96 [vI2 u y z A] 33 (fun _:Unit=>.bool (decide ((((Int.gcd ((Zak (bytes c):Int)) ((Zak (bytes b):Int)):Nat):Int))=1))) _ (fun w R Q=>yN (ZrX _ (((Int.gcd ((Zak (bytes c):Int)) ((Zak (bytes b):Int)):Nat):Int)) _ Q.2)) fun f=>?_
  refine xf 1 [(2,.v (.bool (decide ((((Int.gcd ((Zak (bytes c):Int)) ((Zak (bytes b):Int)):Nat):Int))=1))))] [(5,123,[.v (.bool a),.v (.string c),.v (.string b)])] ?_
  refine xz (xe (Zaa (Zaf ?_)))
  refine Zad (v:=.bool (decide ((((Int.gcd ((Zak (bytes c):Int)) ((Zak (bytes b):Int)):Nat):Int))=1))) (by kernel_rfl) fun w' R Q=>?_
  exact⟨by rw[Zsw n B],R⟩
 refine xr 6 [yT 0 s,yB 2 false,yB 4 true] [] ?_
 refine xe (Zaa (Zac (Zab (xr 1 [yT 0 s,yB 2 false,yB 12 true] [] ?_))))
 refine xe (Zaa (xa (Zac (Zab (xr 1 [yT 0 s,yB 2 true] [] ?_)))))
 refine xe (Zaa (Zaf (Zae ?_)))
 refine yR (.bool true) fun w' R Q=>?_
 exact⟨by rw[Zq2 Q.2],R⟩
section
variable {l r a t b:List UInt8} {neg:Bool} {c:UInt8}
end
/-! ### Zbw of small numbers -/
theorem ZfB {n:Nat}(h:n<10):Lib.itoa (n:Int)=[UInt8.ofNat (48+n)]:=by
 unfold Lib.itoa
 rw[uN (by omega),qY,Lib.decDigits,dif_pos h]
theorem Zkm {q:Rat}{n:Nat}(h:n<10)(d:q.num=(n:Int))(e:q.den=1):ZaF q=[UInt8.ofNat (48+n)]:=by
 unfold ZaF;rw[uP e,d,ZfB h]
theorem Zvc {q:Rat}{n d:Nat}(h:n<10)(e:d<10)(f:q.num=(n:Int))(g:q.den=d)(i:d≠1):ZaF q=[UInt8.ofNat (48+n),47,UInt8.ofNat (48+d)]:=by
 unfold ZaF;rw[g,uN i,f,ZfB h,ZfB e];rfl
theorem t1:ZaF (mkRat 1 1)=[49]:=Zkm (n:=1) (by decide) (by decide) (by decide)
theorem t3:ZaF (mkRat 3 1)=[51]:=Zkm (n:=3) (by decide) (by decide) (by decide)
theorem t12:ZaF (mkRat 1 2)=[49,47,50]:=Zvc (n:=1) (d:=2) (by decide) (by decide) (by decide) (by decide) (by decide)
section
variable {w w':World} {e:Ending} {s:ByteArray}
theorem Zq3 (h:ZnL s w e w'):ZbO (fun x:ByteArray×Bool=>.tuple #[.string x.1,.bool x.2]) (fun x _=>ZaA (bytes s)=(x.2,bytes x.1)) w e w':=by
 obtain⟨r,neg,rfl,h,rfl⟩:=h
 exact⟨(r,neg),rfl,Fr.refl _ _,BoxN.pure h⟩
end
theorem ZpZ {a b:ByteArray}(h:bytes a=bytes b):a=b:=by
 cases a with|mk a=>cases b with|mk b=>simp only[bytes] at h;rw[Array.toList_inj.1 h]
def e4:Nat:=400
theorem Zp0 {s:ByteArray}(h:bytes s=[48]):(s.toList == (⟨#[48]⟩:ByteArray).toList)=true:=by
 rw[Lib.toList_data,Lib.toList_data,show s.data.toList=[48] from h];rfl
theorem Zp1 {s:ByteArray}(h:¬ bytes s=[48]):(s.toList == (⟨#[48]⟩:ByteArray).toList)=false:=by
 rw[Lib.toList_data,Lib.toList_data];exact tG.2 h
theorem zt:ZaF 0=[48]:=Zkm (n:=0) (by decide) (by decide) (by decide)
theorem ZeO {P:Program}{o:Oper}{ρ:Operand→Value}{w:World}{t:TypeId}{x i:Operand}{b:ByteArray}{k:Nat}{c:UInt8}(a:o.op=Op.index t x i)(d:P.underlying t=some .string)(e:ρ x=.string b)(hi:ρ i=.int .i64 (k:Int))(f:b[k]? = some c):(execOp ρ o).run P w=.ok (.value (.int .u8 (c.toNat:Int))) w:=by
 simp[execOp,a,Instr.index,asIntOf,underlying,d,e,hi,f,Result.andThen]
end Go.Proofs.YtklpdkpcocnglaaGreatDoor
