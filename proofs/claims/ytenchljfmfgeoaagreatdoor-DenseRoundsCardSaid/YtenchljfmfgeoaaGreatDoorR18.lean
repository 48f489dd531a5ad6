/-
 My texts Fnb, Fnc, Fnd, FlS, FlN, Nu, Nq, Nv, Nad, Sx17, Kar, Dvb, Dvc, Spl, Spl2, Print, Comb, CrtM, Fermat, DecR, RStr, Frac, Rt, FlT, Reduce, Whole, Ra, Reduce2, Ts, Ai, Fs, Cmp, Tx, Sign, Dc, Len put together.
-/
import Derived.Test.YtenchljfmfgeoaaGreatDoorR15
import Derived.Test.YtenchljfmfgeoaaGreatDoorR07
import Derived.Test.YtenchljfmfgeoaaGreatDoorR08
import Derived.Test.YtenchljfmfgeoaaGreatDoorR06
import Derived.Deep.RegionLaw
import Derived.Test.YtenchljfmfgeoaaGreatDoorR14
import Derived.Test.YtenchljfmfgeoaaGreatDoorR01
import Derived.Laws.IdiomStrings
import Derived.Test.YtenchljfmfgeoaaGreatDoorR03
import Derived.Deep.QuietTactic
import Derived.BigQuiet
import Derived.Outline
import Derived.Deep.RegionWith
import Derived.Deep.DeepCutAuto
import Derived.Test.YtenchljfmfgeoaaGreatDoorR13
import Derived.Test.YtenchljfmfgeoaaGreatDoorR02
set_option maxRecDepth 100000
set_option maxHeartbeats 8000000
namespace Go.Proofs.YtenchljfmfgeoaaGreatDoor
open Go.RowKit Tryz
section
variable {N:Nat} {S0:Nat→Prop} {w:World} {Φ:World→Prop} {P:Program}
theorem dM (S0:Nat→Prop){fn:Func}{f:FuncId}{c:Code}{args:List Value}{R:Ending→World→Prop}(j:P.funcs[f]? = some fn)(l:fn.body=some c)(m:Nat.ble args.length fn.ntmps=true)(Q:Box (fun _=>False) w Φ)(h:SXc P fn.ntmps S0 w (bodyPost P fn R) c (ofL (Zcq 0 args) []) Φ):Calls P f args.toArray w R:=by
 refine calls_of_wp j l (h (fun _=>0) _ w ⟨?_,rfl,fun i x n=>?_,⟨fun b t p e=>(by cases e),fun b c e=>(by cases e),fun b e=>(by cases e),Fr.refl _ _,fun i b off e=>?_,fun b t p e=>(by cases e)⟩,?_⟩)
 ·have:=vQ m
  simp;omega
 ·obtain⟨_,v,hv,rfl⟩:=cO args 0 i x n
  have d:i<args.length:=by
   rcases vL i args.length with a|a
   ·exact a
   rw[vN qO] at hv;cases hv
  simp only[AV.conc]
  rw[Array.getElem?_append_left (by simpa using d)]
  simpa using hv
 ·obtain⟨_,v,hv,e'⟩:=cO args 0 i _ e
  cases e'
 intro w' g
 exact Q w' (g.mono (fun i _ a=>by obtain⟨b,e,_⟩:=a;cases e))
end
section
variable {P:Program} {o:Oper} {ρ:Operand→Value} {w:World} {x y:Operand} {t k:TypeId}
theorem ZqB {a:Nat}(b:o.op=Op.binOp .and t x y k:=by kernel_rfl)(c:ρ x=.int .u64 (a:Int):=by kernel_rfl)(d:ρ y=.int .u64 1:=by kernel_rfl)(ha:a<W64:=by assumption):(execOp ρ o).run P w=.ok (.value (.int .u64 ((a%2:Nat):Int))) w:=by
 have h:bits .and .u64 (a:Int) 1=((a%2:Nat):Int):=by
  have:=bits_and_u64_nat a 1 (by rw[←zO];exact ha) qD
  rw[oO] at this
  exact this
 rw[←h]
 simp only[execOp,b,c,d,eqGuard,binOp]
 rfl
end
/-! ### length -/
theorem Zev {xs:qN}{k t:Nat}(d:Dig W64 xs)(e:xs.length=k+1)(f:Trim xs)(b:xs[k]?.getD 0=t):blen (val W64 xs)=64*k+blen t:=by
 have g:0<t:=rA (by rw[←b];exact f k e)
 have c:=zU (B:=W64) k (show k<xs.length by omega)
 rw[uC qO,b] at c
 have a:=xW (d.take k)
 rw[uL,uT qO,dQ] at a
 rw[c,dQ]
 exact ZiF a g
theorem Zew {t:Nat}(h:t<W64):Lib.bitLen t=blen t:=by
 rcases uJ t with rfl|a
 ·rfl
 obtain⟨b,_,c,d⟩:=eF a h
 have:=Zd7 (k:=Lib.bitLen t-1) c (by rw[pP b];exact d)
 omega
theorem Znk (t:Nat)(w:World)(h:t<W64):yA 173 #[.int .u64 (t:Int)] w (RetV w (.int .i64 ((blen t:Nat):Int))):=by
 have a:=h
 rw[zO] at a
 refine (Tryz.bits_Len64 (t:Int) w qO qO).mono ?_
 rintro e w' ⟨rfl,rfl⟩
 exact⟨by rw[pF,Zew h],Fr.refl _ _⟩
theorem ZlN (t:Nat)(w:World)(h:t<W64):yA 194 #[.int .u64 (t:Int)] w (RetV w (.int .i64 ((64-blen t:Nat):Int))):=by
 refine (aD t w h).mono ?_
 rintro e w' ⟨rfl,rfl⟩
 have:blen t≤64:=wZ.2 (by rw[zO] at h;exact h)
 exact⟨by rw[Zew h];congr 2;omega,Fr.refl _ _⟩
/-! ### zeros -/
theorem Zo4 (x:Nat)(w:World)(a:Glob w)(b:0<x)(h:x<W64):yA 200 #[.int .u64 (x:Int)] w (RetV w (.int .i64 ((tzn x:Nat):Int))):=by
 obtain⟨g,c⟩:=jV b
 have d:tzn x<64:=by
  refine qI fun f=>?_
  have:=uW (n:=2) qD f
  have i:1*2^tzn x≤oddM x*2^tzn x:=uE _ qO
  rw[zO] at h
  omega
 refine (Zco x (tzn x) (oddM x/2) w a (by rw[show 2*(oddM x/2)+1=oddM x by omega,uH];exact c) d h).mono ?_
 rintro e w' ⟨rfl,rfl⟩
 exact⟨rfl,Fr.refl _ _⟩
def ZerR (xs:List Nat) (k:Nat):Prop:=val W64 (xs.take k)=0
theorem ZerR.start (xs:qN):ZerR xs 0:=by unfold ZerR;simp
theorem ZerR.lt {xs:qN}{k:Nat}(h:ZerR xs k)(b:0<val W64 xs):k<xs.length:=by
 rcases vL k xs.length with a|a
 ·exact a
 unfold ZerR at h;rw[uC a] at h;omega
theorem ZerR.step {xs:qN}{k:Nat}(h:ZerR xs k)(a:k<xs.length)(b:xs[k]?.getD 0=0):ZerR xs (k+1):=by
 unfold ZerR at *
 rw[zU k a,h,b];simp
theorem ZqC {x r:Nat}(a:0<x)(b:x<W64):tzn (x+W64*r)=tzn x:=by
 obtain⟨g,c⟩:=jV a
 have h:tzn x<64:=by
  refine qI fun d=>?_
  have:=uW (n:=2) qD d
  have i:1*2^tzn x≤oddM x*2^tzn x:=uE _ qO
  rw[zO] at b
  omega
 have e:x+W64*r=(oddM x+2^(64-tzn x)*r)*2^tzn x:=by
  rw[uX,← c,Nat.mul_right_comm,← uQ,pP qO,zO]
 have f:2^(64-tzn x)=2*2^(63-tzn x):=by rw[show 64-tzn x=(63-tzn x)+1 by omega,uN,uH]
 rw[e]
 exact Zcc (by rw[f,uG];omega) _
theorem ZerR.done {xs:qN}{k x:Nat}(h:ZerR xs k)(c:Dig W64 xs)(d:k<xs.length)(a:xs[k]?.getD 0=x)(e:x≠0):tzn (val W64 xs)=64*k+tzn x:=by
 unfold ZerR at h
 have b:=xP (B:=W64) (xs:=xs) k
 rw[h,uT qO,xQ k d,a,vW,dQ,uH] at b
 rw[b,Zcb qO,ZqC qO (a ▸ c.getD zM k),vP]
theorem ZerR.bound {xs:qN}{k x:Nat}(b:Dig W64 xs)(c:xs[k]?.getD 0=x)(e:x≠0):tzn x<64:=by
 have a:x<W64:=c ▸ b.getD zM k
 obtain⟨f,g⟩:=jV (show 0<x by omega)
 refine qI fun d=>?_
 have:=uW (n:=2) qD d
 have h:1*2^tzn x≤oddM x*2^tzn x:=uE _ qO
 rw[zO] at a
 omega
/-! ### bit -/
theorem ZqD {xs:qN}{i x:Nat}(b:Dig W64 xs)(c:i/64<xs.length)(d:xs[i/64]?.getD 0=x):val W64 xs/2^i%2=x/2^(i%64)%2:=by
 have a:=Zgi xs (i/64) (i%64) b qO
 rw[show 64*(i/64)+i%64=i by omega] at a
 rw[←a,xQ _ c,d]
 have g:i%64<64:=uM _ qD
 generalize i%64=t at *
 generalize val W64 (xs.drop (i/64+1))=r
 have e:W64*r=2^t*(2^(64-t)*r):=by rw[←uG,← uQ,show t+(64-t)=64 by omega,zO]
 have f:2^(64-t)=2*2^(63-t):=by rw[show 64-t=(63-t)+1 by omega,uN,uH]
 rw[e,Nat.add_mul_div_left _ _ (p2 t),f,uG,sR]
theorem Zo5 {xs:qN}{i:Nat}(a:Dig W64 xs)(b:¬ i/64<xs.length):val W64 xs/2^i%2=0:=by
 rw[ZeK a qO]
theorem ZrQ (m:Nat):(((m%2:Nat):Int) == 1)=decide (m%2=1):=by
 rcases Nat.mod_two_eq_zero_or_one m with h|h<;>rw[h]<;>rfl
/-! ### division by a word,in place -/
def DwR (xs:List Nat) (u k:Nat) (qs:List Nat) (r:Nat):Prop:=dW xs u k qs r∧qs.take k=xs.take k
theorem DwR.start {xs:qN}{u:Nat}(a:Dig W64 xs)(b:0<u):DwR xs u xs.length xs 0 :=
 ⟨⟨rfl,a,b,by rw[vE (uF _)];simp⟩,rfl⟩
theorem DwR.at {xs a:qN}{u k r:Nat}(h:DwR xs u (k+1) a r):a[k]?.getD 0=xs[k]?.getD 0:=by
 have:=vI (fun l=>l[k]?.getD 0) h.2
 simp only[sA (show k<k+1 by omega)] at this
 exact this
theorem DwR.step {xs a:qN}{u k r x:Nat}(h:DwR xs u (k+1) a r)(c:k<xs.length)(d:a[k]?.getD 0=x)(b:x<W64):DwR xs u k (a.set k (divQ r x u)) (divR r x u):=by
 refine⟨h.1.step c (h.at.symm.trans d) b,?_⟩
 have:=vI (List.take k) h.2
 rw[List.take_take,List.take_take,uT qO] at this
 rw[rE (uF k)];exact this
theorem Zhd (hi lo y:Nat)(w:World)(b:hi<y)(c:y<W64)(a:lo<W64):yA 174 #[.int .u64 (hi:Int),.int .u64 (lo:Int),.int .u64 (y:Int)] w (RetV w (.tuple #[.int .u64 ((divQ hi lo y:Nat):Int),.int .u64 ((divR hi lo y:Nat):Int)])):=by
 refine (Zbl hi lo y w b c a).mono ?_
 rintro e w' ⟨rfl,n,rfl⟩
 exact⟨rfl,(Fr.refl _ _).drewN n⟩
/-! ### a multiple subtracted within a row -/
def SpR (zs0 ys:List Nat) (q o k:Nat) (zs:List Nat) (c b:Nat):Prop :=
 zs.length=zs0.length∧Dig W64 zs∧c<W64∧b≤1∧zs.take o=zs0.take o∧zs.drop (o+k)=zs0.drop (o+k) ∧
  val W64 (zs.take (o+k))+W64^o*(q*val W64 (ys.take k))=val W64 (zs0.take (o+k))+W64^(o+k)*(c+b)
theorem SpR.start {a:qN}(ys:qN)(q o:Nat)(h:Dig W64 a):SpR a ys q o 0 a 0 0:=⟨rfl,h,zM,qO,rfl,rfl,qS⟩
theorem bW {zs a:qN}{k:Nat}(h:zs.drop k=a.drop k):zs[k]?.getD 0=a[k]?.getD 0:=by
 have:=vI (fun l=>l[0]?.getD 0) h
 simpa [vK] using this
theorem ZiH {x q c:Nat}(a:x<W64)(b:q<W64)(d:c<W64):wK x q+xL (xC x q) c 0<W64:=by
 have e:=dC x q
 have f:=fF (xC x q) c 0
 have g:=Zcl a b
 refine bQ _ (vS (m:=x*q+c) ?_ qO)
 rw[uK];omega
theorem SpR.step {a ys zs:qN}{q o k c b x z:Nat}(h:SpR a ys q o k zs c b)(p:o+k<a.length)(j:ys[k]?.getD 0=x)(l:zs[o+k]?.getD 0=z)(r:Dig W64 ys)(s:q<W64) :
 SpR a ys q o (k+1) (zs.set (o+k) (lN z (xG (xC x q) c 0) b)) (wK x q+xL (xC x q) c 0) (lO z (xG (xC x q) c 0) b):=by
 obtain⟨u,m,v,A,B,n,C⟩:=h
 have f:x<W64:=j ▸ r.getD zM k
 have g:z<W64:=l ▸ m.getD zM _
 have D:a[o+k]?.getD 0=z:=(bW n).symm.trans l
 have F:=dC x q
 have G:=fF (xC x q) c 0
 have H:=ZaU g (dB (xC x q) c 0) A
 refine⟨by simpa using u,m.set _ (aB _ _ _),ZiH f s v,Zck _ _ _,?_,?_,?_⟩
 ·rw[rE qO];exact B
 ·have e:=vI (List.drop 1) n
  rw[vV,vV] at e
  rw[tJ qO,show o+(k+1)=o+k+1 by omega];exact e
 rw[show o+(k+1)=(o+k)+1 by omega,xJ _ _ _ _ qO,zU (o+k) p,lI k,D,j,uN]
 have i:lN z (xG (xC x q) c 0) b+x*q+c+b=z+W64*(wK x q+xL (xC x q) c 0+lO z (xG (xC x q) c 0) b):=by
  rw[uK,uK];omega
 have d:=vI (W64^(o+k) * ·) i
 simp only[uK] at d
 have E:W64^o*(q*(val W64 (ys.take k)+W64^k*x))=W64^o*(q*val W64 (ys.take k))+W64^(o+k)*(x*q):=by
  rw[uK q,uK (W64^o),uQ,tF q (W64^k) x,uG (W64^o),uH q x]
 rw[E,uG (W64^(o+k)) W64]
 simp only[uK]
 rw[uK] at C
 omega
def ZdB (zs0 ys:List Nat) (q o:Nat) (zs:List Nat) (b:Nat):Prop :=
 zs.length=zs0.length∧Dig W64 zs∧b≤1∧zs.take o=zs0.take o∧zs.drop (o+ys.length+1)=zs0.drop (o+ys.length+1) ∧
  val W64 (zs.take (o+ys.length+1))+W64^o*(q*val W64 ys)=val W64 (zs0.take (o+ys.length+1))+W64^(o+ys.length+1)*b
theorem SpR.done {a ys zs:qN}{q o c b z:Nat}(h:SpR a ys q o ys.length zs c b)(m:o+ys.length<a.length)(g:zs[o+ys.length]?.getD 0=z):ZdB a ys q o (zs.set (o+ys.length) (lN z c b)) (lO z c b):=by
 obtain⟨n,i,p,r,s,j,l⟩:=h
 have f:z<W64:=g ▸ i.getD zM _
 have u:a[o+ys.length]?.getD 0=z:=(bW j).symm.trans g
 have v:=ZaU f p r
 refine⟨by simpa using n,i.set _ (aB _ _ _),Zck _ _ _,?_,?_,?_⟩
 ·rw[rE qO];exact s
 ·have e:=vI (List.drop 1) j
  rw[vV,vV] at e
  rw[tJ qO];exact e
 rw[uC (uF ys.length)] at l
 rw[xJ _ _ _ _ qO,zU _ m,u,uN]
 have d:=vI (W64^(o+ys.length) * ·) v
 simp only[uK] at d
 rw[uG (W64^(o+ys.length)) W64]
 rw[uK] at l
 omega
/-! ### the divisor added within a row -/
def AbR (zs0 ys:List Nat) (o k:Nat) (zs:List Nat) (c:Nat):Prop :=
 zs.length=zs0.length∧Dig W64 zs∧c≤1∧zs.take o=zs0.take o∧zs.drop (o+k)=zs0.drop (o+k) ∧
  val W64 (zs.take (o+k))+W64^(o+k)*c=val W64 (zs0.take (o+k))+W64^o*val W64 (ys.take k)
theorem AbR.start {a:qN}(ys:qN)(o:Nat)(h:Dig W64 a):AbR a ys o 0 a 0:=⟨rfl,h,qO,rfl,rfl,qS⟩
theorem AbR.step {a ys zs:qN}{o k c x z:Nat}(h:AbR a ys o k zs c)(j:o+k<a.length)(d:ys[k]?.getD 0=x)(f:zs[o+k]?.getD 0=z)(l:Dig W64 ys):AbR a ys o (k+1) (zs.set (o+k) (xG z x c)) (xL z x c):=by
 obtain⟨m,g,n,p,i,r⟩:=h
 have q:a[o+k]?.getD 0=z:=(bW i).symm.trans f
 refine⟨by simpa using m,g.set _ (dB _ _ _),Zcj (f ▸ g.getD zM _) (d ▸ l.getD zM k) n,?_,?_,?_⟩
 ·rw[rE qO];exact p
 ·have e:=vI (List.drop 1) i
  rw[vV,vV] at e
  rw[tJ qO,show o+(k+1)=o+k+1 by omega];exact e
 rw[show o+(k+1)=(o+k)+1 by omega,xJ _ _ _ _ qO,zU (o+k) j,lI k,q,d,uN]
 have b:=vI (W64^(o+k) * ·) (fF z x c)
 simp only[uK] at b
 rw[uK (W64^o),← uG (W64^o) (W64^k),← uQ,uG (W64^(o+k)) W64]
 omega
def ZdC (zs0 ys:List Nat) (o:Nat) (zs:List Nat) (c:Nat):Prop :=
 zs.length=zs0.length∧Dig W64 zs∧c≤1∧zs.take o=zs0.take o∧zs.drop (o+ys.length+1)=zs0.drop (o+ys.length+1) ∧
  val W64 (zs.take (o+ys.length+1))+W64^(o+ys.length+1)*c=val W64 (zs0.take (o+ys.length+1))+W64^o*val W64 ys
theorem AbR.done {a ys zs:qN}{o c z:Nat}(h:AbR a ys o ys.length zs c)(i:o+ys.length<a.length)(d:zs[o+ys.length]?.getD 0=z):ZdC a ys o (zs.set (o+ys.length) (xG z 0 c)) (xL z 0 c):=by
 obtain⟨j,f,l,m,g,n⟩:=h
 have p:a[o+ys.length]?.getD 0=z:=(bW g).symm.trans d
 refine⟨by simpa using j,f.set _ (dB _ _ _),Zcj (d ▸ f.getD zM _) zM l,?_,?_,?_⟩
 ·rw[rE qO];exact m
 ·have e:=vI (List.drop 1) g
  rw[vV,vV] at e
  rw[tJ qO];exact e
 rw[uC (uF ys.length)] at n
 rw[xJ _ _ _ _ qO,zU _ i,p,uN]
 have b:=vI (W64^(o+ys.length) * ·) (fF z 0 c)
 simp only[uK] at b
 rw[uG (W64^(o+ys.length)) W64]
 omega
theorem ZjX (A:qA)(xs:qN)(c:Nat)(w:World)(l:zE .u64 w A xs)(p:xs.length≤4294967296)(g:Dig W64 xs)(m:Trim xs) :
 yA 139 #[.slice A xs.length c] w (RetV w (.int .i64 ((blen (val W64 xs):Nat):Int))):=by
 refine zT (Φ:=fun w=>zE .u64 w A xs) func139 rfl qK (fun w' n=>l.ext n) ?_
 refine yY (xq 1 [yJ 2 0] [] ?_)
 refine yZ (zC (yY (xq 3 [yB 5 ((((xs.length:Nat):Int):Int) == 0)] [] ?_)))
 refine xe (zA ?_)
 refine yQ (((((xs.length:Nat):Int):Int) == 0)) (fun d=>?_) fun d=>?_
 ·have f:=tV.1 d
  refine yY (xq 1 [yJ 2 0] [] ?_)
  refine yZ (zG (zH ?_))
  refine yR (yI 0) fun w' R Q=>?_
  exact⟨by obtain rfl:xs=[]:=vZ.1 qO;rfl,R⟩
 have f:=lG d
 refine zJ (zA (yY (xq 3 [yJ 8 (IntKind.i64.wrap (((xs.length:Nat):Int)-1))] [] ?_)))
 rw[yW (((xs.length:Nat):Int)-1) (((xs.length-1:Nat):Int)) qO]
 refine xq 1 [yJ 9 (IntKind.i64.wrap (64*((xs.length-1:Nat):Int)))] [] ?_
 rw[yW (64*((xs.length-1:Nat):Int)) (((64*(xs.length-1):Nat):Int)) qO]
 refine xq 4 [eS1 10 A xs.length c,yJ 13 (IntKind.i64.wrap (((xs.length:Nat):Int)-1))] [] ?_
 rw[yW (((xs.length:Nat):Int)-1) (((xs.length-1:Nat):Int)) qO]
 refine xqk 14 (atA A (xs.length-1)) (fun w R Q=>wE (t:=107) (e:=141) (x:=.tmp 10) (ix:=.tmp 13) (len:=xs.length) (cap:=c) (i:=xs.length-1) ((Q).ne (j:=xs.length-1) qO) qO) ?_
 obtain⟨a,b⟩:=yE (xs[xs.length-1]?.getD 0)
 refine xqk 15 (yX (a:Int)) (fun w R Q=>by rw[←b];exact wP (t:=141) (x:=.tmp 14) (Q) (j:=xs.length-1) qO) ?_
 refine xqc 173 [yX (a:Int)] 16 (fun _:Unit=>yI ((blen a:Nat):Int)) _ (fun w R Q=>yN (Znk a _ (by rw[←b];exact g.getD zM _))) fun q=>?_
 refine xq 1 [(17,.v (yI (IntKind.i64.wrap (((64*(xs.length-1):Nat):Int)+((blen a:Nat):Int)))))] [] ?_
 rw[show IntKind.i64.wrap (((64*(xs.length-1):Nat):Int)+((blen a:Nat):Int))=((blen (val W64 xs):Nat):Int) by rw[Zev (k:=xs.length-1) g qO m b,IntKind.wrap_i64];have:=wZ.2 (show a<2^64 by have h:a<W64:=(by rw[←b];exact g.getD zM _);rw[zO] at h;exact h);omega]
 refine xq 1 [yJ 2 ((blen (val W64 xs):Nat):Int)] [] ?_
 refine yZ (zG ?_)
 refine yR (yI ((blen (val W64 xs):Nat):Int)) fun w' R Q=>?_
 exact⟨rfl,R⟩
theorem ZlO (A:qA)(xs:qN)(c:Nat)(w:World)(u:zE .u64 w A xs)(B:xs.length≤4294967296)(m:Dig W64 xs)(v:Glob w)(z:0<val W64 xs) :
 yA 171 #[.slice A xs.length c] w (RetV w (.int .i64 ((tzn (val W64 xs):Nat):Int))):=by
 refine zT (Φ:=fun w=>(zE .u64 w A xs∧Glob w)) func171 rfl qK (fun w' p=>⟨u.ext p,v.ext p⟩) ?_
 refine yY (xq 1 [yJ 2 0] [] ?_)
 refine yZ (yY (xq 1 [yJ 3 0] [] ?_))
 refine yZ (zC (zS ?_))
 refine yC [eS1 0 A xs.length c,yJ 2 0,yJ 3 ((0:Nat):Int)] [] (fun w=>(zE .u64 w A (xs)∧Glob w)) (fun w Q=>⟨Q.1,Q.2⟩) ?_
 refine xR (fun q r s=>∃ (k:Nat),r=ofL [eS1 0 A xs.length c,yJ 2 0,yJ 3 (k:Int)] []∧s=(fun w=>(zE .u64 w A (xs)∧Glob w))∧(ZerR xs k)∧q=(xs.length-k)) ((xs.length-0)) ⟨0,rfl,rfl,ZerR.start xs,rfl⟩ ?_
 rintro q r s ⟨k,rfl,rfl,n,rfl⟩
 refine zC (zC ?_)
 have h:=n.lt z
 refine zB (xq 2 [eS1 4 A xs.length c,yJ 5 (k:Int)] [] ?_)
 refine xqk 6 (atA A k) (fun w R Q=>wE (t:=107) (e:=141) (x:=.tmp 4) (ix:=.tmp 5) (len:=xs.length) (cap:=c) (i:=k) ((Q.1).ne (j:=k) qO) qO) ?_
 obtain⟨b,a⟩:=yE (xs[k]?.getD 0)
 refine xqk 7 (yX (b:Int)) (fun w R Q=>by rw[←a];exact wP (t:=141) (x:=.tmp 6) (Q.1) (j:=k) qO) ?_
 refine xq 1 [yB 8 (((b:Int):Int) == 0)] [] ?_
 refine xe (zA ?_)
 refine yQ ((((b:Int):Int) == 0)) (fun d=>?_) fun d=>?_
 ·have g:=tV.1 d
  refine zJ (zA (zS (zB (xq 2 [yJ 10 (IntKind.i64.wrap ((k:Int)+1))] [] ?_))))
  rw[yW ((k:Int)+1) (((k+1:Nat):Int)) qO]
  refine xq 1 [yJ 3 ((k+1:Nat):Int)] [] ?_
  refine xe (xS ?_)
  refine yP [eS1 0 A xs.length c,yJ 2 0,yJ 3 (((k+1):Nat):Int)] [] (fun w=>(zE .u64 w A (xs)∧Glob w)) (fun w Q=>⟨Q.1,Q.2⟩) ?_
  exact xI ((xs.length-(k+1))) qO ⟨(k+1),rfl,rfl,(n.step h (by rw[a];omega)),rfl⟩
 have g:=lG d
 refine xN (zK (zK (xV (zA (yY (xq 2 [yJ 12 (IntKind.i64.wrap (64*(k:Int)))] [] ?_))))))
 rw[yW (64*(k:Int)) (((64*k:Nat):Int)) qO]
 refine xq 2 [eS1 13 A xs.length c,yJ 14 (k:Int)] [] ?_
 refine xqk 15 (atA A k) (fun w R Q=>wE (t:=107) (e:=141) (x:=.tmp 13) (ix:=.tmp 14) (len:=xs.length) (cap:=c) (i:=k) ((Q.1).ne (j:=k) qO) qO) ?_
 obtain⟨l,f⟩:=yE (xs[k]?.getD 0)
 refine xqk 16 (yX (l:Int)) (fun w R Q=>by rw[←f];exact wP (t:=141) (x:=.tmp 15) (Q.1) (j:=k) qO) ?_
 obtain rfl:b=l:=by rw[←a,f]
 refine xqc 200 [yX (b:Int)] 17 (fun _:Unit=>yI ((tzn b:Nat):Int)) _ (fun w R Q=>yN (Zo4 b _ Q.2 qO (by rw[←a];exact m.getD zM _))) fun C=>?_
 refine xq 1 [yJ 18 (IntKind.i64.wrap (((64*k:Nat):Int)+((tzn b:Nat):Int)))] [] ?_
 rw[show IntKind.i64.wrap (((64*k:Nat):Int)+((tzn b:Nat):Int))=((tzn (val W64 xs):Nat):Int) by rw[n.done m h a qO,IntKind.wrap_i64];have:=ZerR.bound m a qO;omega]
 refine xq 1 [yJ 2 ((tzn (val W64 xs):Nat):Int)] [] ?_
 refine yZ (zG ?_)
 refine yR (yI ((tzn (val W64 xs):Nat):Int)) fun w' R Q=>?_
 exact⟨rfl,R⟩
theorem Zo6 (A:qA)(xs:qN)(c:Nat)(w:World)(m:zE .u64 w A xs)(l:Dig W64 xs)(i:Nat)(hi:i≤274877906944) :
 yA 170 #[.slice A xs.length c,.int .i64 ((i:Nat):Int)] w (RetV w (.bool (decide (val W64 xs/2^i%2=1)))):=by
 refine zT (Φ:=fun w=>zE .u64 w A xs) func170 rfl qK (fun w' p=>m.ext p) ?_
 refine yY (xq 1 [yB 4 false] [] ?_)
 refine yZ (yY (xq 2 [(6,.v (yI (IntKind.i64.wrap (((i:Int)).tdiv 64))))] [] ?_))
 rw[show IntKind.i64.wrap ((((i:Int)).tdiv 64))=((i/64:Nat):Int) from tdq (i) 64 qO]
 refine xq 4 [yB 10 (decide (((i/64:Nat):Int)<((xs.length:Nat):Int)))] [] ?_
 rcases bl2 ((decide (((i/64:Nat):Int)<((xs.length:Nat):Int)))) with b|b
 ·rw[b]
  have g:=uA b
  have h:i/64<xs.length:=qO
  refine xq 3 [eS1 11 A xs.length c,(13,.v (yI (IntKind.i64.wrap (((i:Int)).tdiv 64))))] [] ?_
  rw[show IntKind.i64.wrap ((((i:Int)).tdiv 64))=((i/64:Nat):Int) from tdq (i) 64 qO]
  refine xqk 14 (atA A (i/64)) (fun w R Q=>wE (t:=107) (e:=141) (x:=.tmp 11) (ix:=.tmp 13) (len:=xs.length) (cap:=c) (i:=i/64) ((Q).ne (j:=i/64) qO) qO) ?_
  obtain⟨d,f⟩:=yE (xs[i/64]?.getD 0)
  refine xqk 15 (yX (d:Int)) (fun w R Q=>by rw[←f];exact wP (t:=141) (x:=.tmp 14) (Q) (j:=i/64) qO) ?_
  refine xq 2 [yJ 17 (((i:Int)).tmod 64)] [] ?_
  rw[show ((i:Int)).tmod 64=((i%64:Nat):Int) from tdr (i) 64]
  refine xqk 18 (yX ((d/2^(i%64):Nat):Int)) (fun w R Q=>Ziz (t:=141) (x:=.tmp 15) (y:=.tmp 17) (k:=3) (ky:=.i64) (a:=d) (n:=(i%64)) qO) ?_
  refine xqk 19 (yX (((d/2^(i%64))%2:Nat):Int)) (fun w R Q=>ZqB (t:=141) (x:=.tmp 18) (y:=(Operand.const (Value.int IntKind.u64 1))) (k:=141) (a:=(d/2^(i%64))) (ha:=vS (uY _ _) (by rw[←f];exact l.getD zM _))) ?_
  refine xq 1 [(20,.v (.bool (((((d/2^(i%64))%2:Nat):Int):Int) == 1)))] [] ?_
  rw[show ((((d/2^(i%64))%2:Nat):Int) == 1)=decide (val W64 xs/2^i%2=1) from (ZrQ _).trans (by rw[ZqD l h f])]
  refine xq 2 [yB 4 (decide (val W64 xs/2^i%2=1))] [] ?_
  refine yZ (zG ?_)
  refine yR (.bool (decide (val W64 xs/2^i%2=1))) fun w' R Q=>?_
  exact⟨rfl,R⟩
 rw[b]
 have g:=uB b
 have h:¬ i/64<xs.length:=qO
 refine xq 12 [yB 4 false] [] ?_
 refine yZ (zG ?_)
 refine yR (.bool false) fun w' R Q=>?_
 exact⟨by rw[Zo5 l h];rfl,R⟩
theorem ZqE {xs ys:qN}{j x y:Nat}(c:j<xs.length)(d:j<ys.length)(h:xs.drop (j+1)=ys.drop (j+1))(a:xs[j]?.getD 0=x)(b:ys[j]?.getD 0=y)(e:x=y):xs.drop j=ys.drop j:=by
 subst e
 rw[tP c,tP d,h]
 rw[uP c] at a
 rw[uP d] at b
 simp only[qG] at a b
 rw[a,b]
theorem ZiI (A d:qA)(xs ys:qN)(c c2:Nat)(w:World)(S:zE .u64 w A xs)(T:zE .u64 w d ys)(V:xs.length≤4294967296)(G:Dig W64 xs)(H:Dig W64 ys)(I:Trim xs)(J:Trim ys) :
 yA 136 #[.slice A xs.length c,.slice d ys.length c2] w (RetV w (.int .i64 (cmpI ((val W64 xs:Nat):Int) ((val W64 ys:Nat):Int)))):=by
 refine zT (Φ:=fun w=>(zE .u64 w A xs∧zE .u64 w d ys)) func136 rfl qK (fun w' K=>⟨S.ext K,T.ext K⟩) ?_
 refine yY (xq 1 [yJ 4 0] [] ?_)
 refine yZ (zC (yY (xq 5 [yB 10 ((((xs.length:Nat):Int):Int) != ((ys.length:Nat):Int))] [] ?_)))
 refine xe (zA ?_)
 refine yQ (((((xs.length:Nat):Int):Int) != ((ys.length:Nat):Int))) (fun h=>?_) fun h=>?_
 ·have s:=Zbs h
  refine zC (yY (xq 5 [yB 15 (decide (((xs.length:Nat):Int)<((ys.length:Nat):Int)))] [] ?_))
  refine xe (zA ?_)
  refine yQ ((decide (((xs.length:Nat):Int)<((ys.length:Nat):Int)))) (fun l=>?_) fun l=>?_
  ·have u:=uA l
   refine yY (xq 1 [yJ 4 (-1)] [] ?_)
   refine yZ (zG (zH (zH ?_)))
   refine yR (yI (-1)) fun w' R Q=>?_
   exact⟨by rw[←Zge G H I J qO,jR qO],R⟩
  have u:=uB l
  refine zJ (zA (yY (xq 1 [yJ 4 1] [] ?_)))
  refine yZ (zG (zH ?_))
  refine yR (yI 1) fun w' R Q=>?_
  exact⟨by rw[←Zge G H I J qO,gE qO],R⟩
 have s:=Zbt h
 refine zJ (zA (zC (yY (xq 3 [yJ 18 (IntKind.i64.wrap (((xs.length:Nat):Int)-1))] [] ?_))))
 rw[yW (((xs.length:Nat):Int)-1) (((xs.length:Nat):Int)-1) qO]
 refine xq 1 [yJ 5 (((xs.length:Nat):Int)-1)] [] ?_
 refine yZ (zS ?_)
 refine yC [eS1 0 A xs.length c,eS1 1 d ys.length c2,yJ 4 0,yJ 5 (((xs.length:Nat):Int)-1)] [] (fun w=>(zE .u64 w A (xs)∧zE .u64 w d (ys))) (fun w Q=>⟨Q.1,Q.2⟩) ?_
 refine xR (fun L M O=>∃ (k:Nat),M=ofL [eS1 0 A xs.length c,eS1 1 d ys.length c2,yJ 4 0,yJ 5 ((k:Int)-1)] []∧O=(fun w=>(zE .u64 w A (xs)∧zE .u64 w d (ys)))∧(xs.drop k=ys.drop k)∧(k≤xs.length)∧L=(1+k)) ((1+xs.length)) ⟨xs.length,rfl,rfl,(by rw[vE (uF _),vE qO]),uF _,rfl⟩ ?_
 rintro L M O ⟨k,rfl,rfl,D,W,rfl⟩
 refine zC (yY (xq 2 [(20,.v (.bool (decide (((k:Int)-1)≥0))))] [] ?_))
 refine xe (zA ?_)
 refine yQ ((decide (((k:Int)-1)≥0))) (fun m=>?_) fun m=>?_
 ·have z:=uA m
  obtain⟨j,rfl⟩:∃ j,k=j+1:=⟨k-1,qO⟩
  rw[show ((((j+1):Nat):Int)-1)=(j:Int) by omega]
  refine zJ (zA (zC (zS (zC ?_))))
  refine yO 9 zP ?_
  refine xqf 2 [eS1 23 A xs.length c,yJ 24 (j:Int)] [] ?_
  refine xqj 25 (atA A j) (fun w Q=>wE (t:=107) (e:=141) (x:=.tmp 23) (ix:=.tmp 24) (len:=xs.length) (cap:=c) (i:=j) ((Q.1).ne (j:=j) qO) qO) ?_
  obtain⟨f,a⟩:=yE (xs[j]?.getD 0)
  refine xqj 26 (yX (f:Int)) (fun w Q=>by rw[←a];exact wP (t:=141) (x:=.tmp 25) (Q.1) (j:=j) qO) ?_
  refine xqf 2 [eS1 27 d ys.length c2,yJ 28 (j:Int)] [] ?_
  refine xqj 29 (atA d j) (fun w Q=>wE (t:=107) (e:=141) (x:=.tmp 27) (ix:=.tmp 28) (len:=ys.length) (cap:=c2) (i:=j) ((Q.2).ne (j:=j) qO) qO) ?_
  obtain⟨g,b⟩:=yE (ys[j]?.getD 0)
  refine xqj 30 (yX (g:Int)) (fun w Q=>by rw[←b];exact wP (t:=141) (x:=.tmp 29) (Q.2) (j:=j) qO) ?_
  refine xqf 1 [yB 31 (((f:Int):Int) != (g:Int))] [] ?_
  refine xz (xe (zA ?_))
  refine yQ ((((f:Int):Int) != (g:Int))) (fun n=>?_) fun n=>?_
  ·have B:=Zbs n
   refine zC (zC ?_)
   refine yO 9 zP ?_
   refine xqf 2 [eS1 32 A xs.length c,yJ 33 (j:Int)] [] ?_
   refine xqj 34 (atA A j) (fun w Q=>wE (t:=107) (e:=141) (x:=.tmp 32) (ix:=.tmp 33) (len:=xs.length) (cap:=c) (i:=j) ((Q.1).ne (j:=j) qO) qO) ?_
   obtain⟨E,q⟩:=yE (xs[j]?.getD 0)
   refine xqj 35 (yX (E:Int)) (fun w Q=>by rw[←q];exact wP (t:=141) (x:=.tmp 34) (Q.1) (j:=j) qO) ?_
   obtain rfl:f=E:=by rw[←a,q]
   refine xqf 2 [eS1 36 d ys.length c2,yJ 37 (j:Int)] [] ?_
   refine xqj 38 (atA d j) (fun w Q=>wE (t:=107) (e:=141) (x:=.tmp 36) (ix:=.tmp 37) (len:=ys.length) (cap:=c2) (i:=j) ((Q.2).ne (j:=j) qO) qO) ?_
   obtain⟨F,r⟩:=yE (ys[j]?.getD 0)
   refine xqj 39 (yX (F:Int)) (fun w Q=>by rw[←r];exact wP (t:=141) (x:=.tmp 38) (Q.2) (j:=j) qO) ?_
   obtain rfl:g=F:=by rw[←b,r]
   refine xqf 1 [yB 40 (decide ((f:Int)<(g:Int)))] [] ?_
   refine xz (xe (zA ?_))
   refine yQ ((decide ((f:Int)<(g:Int)))) (fun p=>?_) fun p=>?_
   ·have C:=uA p
    refine yY (xq 1 [yJ 4 (-1)] [] ?_)
    refine yZ (zG (zH (xT (zH (zH (xT (zH ?_)))))))
    refine yR (yI (-1)) fun w' R Q=>?_
    exact⟨by rw[←Zdg G H qO (k:=j) qO D a b qO,jR qO],R⟩
   have C:=uB p
   refine zJ (zA (yY (xq 1 [yJ 4 1] [] ?_)))
   refine yZ (zG (xT (zH (zH (xT (zH ?_))))))
   refine yR (yI 1) fun w' R Q=>?_
   exact⟨by rw[←Zdg G H qO (k:=j) qO D a b qO,gE qO],R⟩
  have B:=Zbt n
  have U:xs.drop j=ys.drop j:=ZqE qO qO D a b qO
  refine zJ (xS (zA (zB (xq 2 [yJ 22 (IntKind.i64.wrap ((j:Int)-1))] [] ?_))))
  rw[yW ((j:Int)-1) ((j:Int)-1) qO]
  refine xq 1 [yJ 5 ((j:Int)-1)] [] ?_
  refine xe ?_
  refine yP [eS1 0 A xs.length c,eS1 1 d ys.length c2,yJ 4 0,yJ 5 ((j:Int)-1)] [] (fun w=>(zE .u64 w A (xs)∧zE .u64 w d (ys))) (fun w Q=>⟨Q.1,Q.2⟩) ?_
  exact xI ((1+j)) qO ⟨j,rfl,rfl,U,qO,rfl⟩
 have z:=uB m
 obtain rfl:k=0:=qO
 refine xN (zK (zK (xV (zA (yY (xq 1 [yJ 4 0] [] ?_))))))
 refine yZ (zG ?_)
 refine yR (yI 0) fun w' R Q=>?_
 exact⟨by rw[tX,tX] at D;rw[D,Zbg],R⟩
def ZrR (b:Nat) (xs:List Nat) (u:Nat) (w:World) (e:Ending) (w':World):Prop:=∃ qs,e=.returned (.int .u64 ((val W64 xs%u:Nat):Int))∧(qs.length=xs.length∧Dig W64 qs∧val W64 qs=val W64 xs/u)∧Fr (fun i=>i=b) w w'∧Own .u64 141 w' b qs
theorem Zbx (b c:Nat)(xs:qN)(u:Nat)(w:World)(m:Own .u64 141 w b xs)(D:xs.length≤4294967296)(z:Dig W64 xs)(A:0<u)(n:u<W64) :
 yA 146 #[.slice (some ⟨b,0,none⟩) xs.length c,.int .u64 ((u:Nat):Int)] w (ZrR b xs u w):=by
 refine dM (fun i=>i=b) (Φ:=fun w=>Own .u64 141 w b xs) func146 rfl qK (fun w' B=>m.ext B) ?_
 refine yY (xq 1 [yU 4 0] [] ?_)
 refine yZ (yY (xq 1 [yU 5 0] [] ?_))
 refine yZ (zC (yY (xq 3 [yJ 9 (IntKind.i64.wrap (((xs.length:Nat):Int)-1))] [] ?_)))
 rw[yW (((xs.length:Nat):Int)-1) (((xs.length:Nat):Int)-1) qO]
 refine xq 1 [yJ 6 (((xs.length:Nat):Int)-1)] [] ?_
 refine yZ (zS ?_)
 refine yC [eS1 0 (yL b) xs.length c,yU 1 (u:Int),yU 4 0,yU 5 ((0:Nat):Int),yJ 6 (((xs.length:Nat):Int)-1)] [] (fun w=>Own .u64 141 w b (xs)) (fun w Q=>Q) ?_
 refine xR (fun p q s=>∃ (k:Nat) (r:Nat) (h:List Nat),q=ofL [eS1 0 (yL b) xs.length c,yU 1 (u:Int),yU 4 0,yU 5 (r:Int),yJ 6 ((k:Int)-1)] []∧s=(fun w=>Own .u64 141 w b (h))∧(DwR xs u k h r)∧(k≤xs.length)∧p=(1+k)) ((1+xs.length)) ⟨xs.length,0,xs,rfl,rfl,DwR.start z A,uF _,rfl⟩ ?_
 rintro p q s ⟨k,r,h,rfl,rfl,g,E,rfl⟩
 refine zC (yY (xq 2 [(11,.v (.bool (decide (((k:Int)-1)≥0))))] [] ?_))
 refine xe (zA ?_)
 refine yQ ((decide (((k:Int)-1)≥0))) (fun f=>?_) fun f=>?_
 ·have l:=uA f
  obtain⟨j,rfl⟩:∃ j,k=j+1:=⟨k-1,qO⟩
  rw[show ((((j+1):Nat):Int)-1)=(j:Int) by omega]
  have C:=g.1.1
  refine zJ (zA (zC (zS (zB (xq 5 [eS1 15 (yL b) xs.length c,yJ 16 (j:Int),yU 17 (r:Int),eS1 18 (yL b) xs.length c,yJ 19 (j:Int)] [] ?_)))))
  refine xqk 20 (.pointer (some ⟨b,j,none⟩)) (fun w R Q=>lS (t:=107) (e:=141) (x:=.tmp 18) (ix:=.tmp 19) (len:=xs.length) (cap:=c) (i:=j) qO) ?_
  obtain⟨a,d⟩:=yE (h[j]?.getD 0)
  refine xqk 21 (yX (a:Int)) (fun w R Q=>by rw[←d];exact gH (t:=141) (x:=.tmp 20) (Q) (j:=j) qO) ?_
  refine xq 1 [yU 22 (u:Int)] [] ?_
  refine xqc 174 [yX (r:Int), yX (a:Int), yX (u:Int)] 23 (fun _:Unit=>.tuple #[yX ((divQ r a u:Nat):Int), yX ((divR r a u:Nat):Int)]) _ (fun w R Q=>yN (Zhd r a u _ g.1.2.2.1 n (by rw[←d];exact g.1.2.1.getD zM _))) fun F=>?_
  refine xq 3 [yU 24 ((divQ r a u:Nat):Int),yU 25 ((divR r a u:Nat):Int)] [] ?_
  refine xqk 26 (.pointer (some ⟨b,j,none⟩)) (fun w R Q=>lS (t:=107) (e:=141) (x:=.tmp 15) (ix:=.tmp 16) (len:=xs.length) (cap:=c) (i:=j) qO) ?_
  refine jE (t:=141) (x:=.tmp 26) (y:=.tmp 24) b (j) (divQ r a u) (fun w=>(Own .u64 141 w b ((h).set (j) (divQ r a u))∧True)) (fun w Q=>Q.1) qO (Or.inr rfl) (fun w w' Q G m=>⟨m,trivial⟩) ?_
  refine xq 1 [yU 5 ((divR r a u:Nat):Int)] [] ?_
  refine xe (xS (zA (zB (xq 2 [yJ 13 (IntKind.i64.wrap ((j:Int)-1))] [] ?_))))
  rw[yW ((j:Int)-1) ((j:Int)-1) qO]
  refine xq 1 [yJ 6 ((j:Int)-1)] [] ?_
  refine xe ?_
  refine yP [eS1 0 (yL b) xs.length c,yU 1 (u:Int),yU 4 0,yU 5 (((divR r a u):Nat):Int),yJ 6 ((j:Int)-1)] [] (fun w=>Own .u64 141 w b (((h).set (j) (divQ r a u)))) (fun w Q=>Q.1) ?_
  exact xI ((1+j)) qO ⟨j,(divR r a u),((h).set (j) (divQ r a u)),rfl,rfl,(g.step qO d (by rw[←d];exact g.1.2.1.getD zM _)),qO,rfl⟩
 have l:=uB f
 obtain rfl:k=0:=qO
 refine xN (zK (zK (xV (zA (yY (xq 2 [yU 4 (r:Int)] [] ?_))))))
 refine yZ (zG ?_)
 refine yR (yX (r:Int)) fun w' R Q=>?_
 exact⟨h,by rw[g.1.done.2],⟨g.1.1,g.1.2.1,g.1.done.1⟩,R,Q⟩
def ZkC (b:Nat) (w:World) (p:List Nat→Nat→Prop) (e:Ending) (w':World):Prop:=∃ x:List Nat × Nat,e=.returned (.bool (((x.2:Nat):Int) == 1))∧p x.1 x.2∧Fr (fun i=>i=b) w w'∧Own .u64 141 w' b x.1
theorem ZiJ (b c o:Nat)(m ys:qN)(A:qA)(c2:Nat)(w:World)(C:Own .u64 141 w b m)(S:zE .u64 w A ys)(J:∀ a,A=some a→a.block≠b)(U:o+ys.length<m.length)(V:m.length≤4294967296)(T:Dig W64 m)(D:Dig W64 ys)(q:Nat)(E:q<W64) :
 yA 220 #[.slice (some ⟨b,o,none⟩) (ys.length+1) c,.slice A ys.length c2,.int .u64 ((q:Nat):Int)] w (ZkC b w (ZdB m ys q o)):=by
 refine dM (fun i=>i=b) (Φ:=fun w=>(Own .u64 141 w b m∧zE .u64 w A ys)) func220 rfl qK (fun w' K=>⟨C.ext K,S.ext K⟩) ?_
 refine yY (xq 1 [yB 6 false] [] ?_)
 refine yZ (yY (xq 2 [yU 7 0,yU 8 0] [] ?_))
 refine yZ (zC (yY (xq 3 [eS1 14 A ys.length c2,yJ 15 ((ys.length:Nat):Int),yJ 16 0] [] ?_)))
 refine yZ (zS ?_)
 refine yC [eS1 0 (some ⟨b,o,none⟩) (ys.length+1) c,eS1 1 A ys.length c2,yU 2 (q:Int),yB 6 false,yU 7 ((0:Nat):Int),yU 8 ((0:Nat):Int),eS1 14 A ys.length c2,yJ 15 ((ys.length:Nat):Int),yJ 16 ((0:Nat):Int)] [] (fun w=>(Own .u64 141 w b (m)∧zE .u64 w A (ys))) (fun w Q=>⟨Q.1,Q.2⟩) ?_
 refine xR (fun L M O=>∃ (f g k:Nat) (r:List Nat),M=ofL [eS1 0 (some ⟨b,o,none⟩) (ys.length+1) c,eS1 1 A ys.length c2,yU 2 (q:Int),yB 6 false,yU 7 (f:Int),yU 8 (g:Int),eS1 14 A ys.length c2,yJ 15 ((ys.length:Nat):Int),yJ 16 (k:Int)] []∧O=(fun w=>(Own .u64 141 w b (r)∧zE .u64 w A (ys)))∧(SpR m ys q o k r f g)∧(k≤ys.length)∧L=(ys.length-k)) ((ys.length-0)) ⟨0,0,0,m,rfl,rfl,SpR.start ys q o T,qO,rfl⟩ ?_
 rintro L M O ⟨f,g,k,r,rfl,rfl,z,W,rfl⟩
 refine yY (xq 1 [yB 17 (decide ((k:Int)<((ys.length:Nat):Int)))] [] ?_)
 refine yZ (zC ?_)
 refine yQ ((decide ((k:Int)<((ys.length:Nat):Int)))) (fun p=>?_) fun p=>?_
 ·have B:=uA p
  have F:=z.1
  have G:=z.2.2.2.1
  refine zJ (zA (zC (zS (yY (xq 1 [yJ 18 (k:Int)] [] ?_)))))
  refine xqk 19 (atA A k) (fun w R Q=>wE (t:=107) (e:=141) (x:=.tmp 14) (ix:=.tmp 16) (len:=ys.length) (cap:=c2) (i:=k) ((Q.2).ne (j:=k) qO) qO) ?_
  obtain⟨d,n⟩:=yE (ys[k]?.getD 0)
  refine xqk 20 (yX (d:Int)) (fun w R Q=>by rw[←n];exact wP (t:=141) (x:=.tmp 19) (Q.2) (j:=k) qO) ?_
  refine xq 2 [yJ 9 (k:Int),yU 10 (d:Int)] [] ?_
  refine yZ (yY (xq 2 [yU 22 (d:Int),yU 23 (q:Int)] [] ?_))
  refine xqc 161 [yX (d:Int), yX (q:Int)] 24 (fun _:Unit=>.tuple #[yX ((wK d q:Nat):Int), yX ((xC d q:Nat):Int)]) _ (fun w R Q=>yN (Zdw d q _ (by rw[←n];exact D.getD zM _) E)) fun X=>?_
  refine xq 5 [yU 11 ((wK d q:Nat):Int),yU 12 ((xC d q:Nat):Int)] [] ?_
  refine yZ (yY (xq 2 [yU 28 ((xC d q:Nat):Int),yU 29 (f:Int)] [] ?_))
  refine xqk 30 (.tuple #[yX ((xG (xC d q) f 0:Nat):Int), yX ((xL (xC d q) f 0:Nat):Int)]) (fun w R Q=>fQ (args:=[Operand.tmp 28,Operand.tmp 29,Operand.const (Value.int IntKind.u64 0)]) (ts:=#[141,141,141]) (gW (xC d q) f 0 qO w)) ?_
  refine xq 5 [yU 12 ((xG (xC d q) f 0:Nat):Int),yU 13 ((xL (xC d q) f 0:Nat):Int)] [] ?_
  refine yZ (yY (xq 3 [(35,.v (yX (IntKind.u64.wrap (((wK d q:Nat):Int)+((xL (xC d q) f 0:Nat):Int)))))] [] ?_))
  rw[ZfJ (a:=wK d q) (b:=xL (xC d q) f 0) (ZiH (by rw[←n];exact D.getD zM _) E z.2.2.1)]
  refine xq 1 [yU 7 ((wK d q+xL (xC d q) f 0:Nat):Int)] [] ?_
  refine yZ (zB (xq 4 [eS1 37 (some ⟨b,o,none⟩) (ys.length+1) c,yJ 38 (k:Int),eS1 39 (some ⟨b,o,none⟩) (ys.length+1) c,yJ 40 (k:Int)] [] ?_))
  refine xqk 41 (.pointer (some ⟨b,o+k,none⟩)) (fun w R Q=>jU (t:=107) (e:=141) (x:=.tmp 39) (ix:=.tmp 40) (len:=(ys.length+1)) (cap:=c) (i:=k) qO) ?_
  obtain⟨h,s⟩:=yE (r[o+k]?.getD 0)
  refine xqk 42 (yX (h:Int)) (fun w R Q=>by rw[←s];exact gH (t:=141) (x:=.tmp 41) (Q.1.1) (j:=o+k) qO) ?_
  refine xq 2 [yU 43 ((xG (xC d q) f 0:Nat):Int),yU 44 (g:Int)] [] ?_
  refine xqk 45 (.tuple #[yX ((lN h (xG (xC d q) f 0) g:Nat):Int), yX ((lO h (xG (xC d q) f 0) g:Nat):Int)]) (fun w R Q=>fQ (args:=[Operand.tmp 42,Operand.tmp 43,Operand.tmp 44]) (ts:=#[141,141,141]) (gX h (xG (xC d q) f 0) g qO w)) ?_
  refine xq 3 [yU 46 ((lN h (xG (xC d q) f 0) g:Nat):Int),yU 47 ((lO h (xG (xC d q) f 0) g:Nat):Int)] [] ?_
  refine xqk 48 (.pointer (some ⟨b,o+k,none⟩)) (fun w R Q=>jU (t:=107) (e:=141) (x:=.tmp 37) (ix:=.tmp 38) (len:=(ys.length+1)) (cap:=c) (i:=k) qO) ?_
  refine jE (t:=141) (x:=.tmp 48) (y:=.tmp 46) b (o+k) (lN h (xG (xC d q) f 0) g) (fun w=>((Own .u64 141 w b ((r).set (o+k) (lN h (xG (xC d q) f 0) g))∧zE .u64 w A (ys))∧True)) (fun w Q=>Q.1.1) qO (Or.inr rfl) (fun w w' Q H C=>⟨⟨C,((Q.1.2).fr H (fun a I _=>J a I))⟩,trivial⟩) ?_
  refine xr 1 [eS1 0 (some ⟨b,o,none⟩) (ys.length+1) c,eS1 1 A ys.length c2,yU 2 (q:Int),yB 6 false,yU 7 ((wK d q+xL (xC d q) f 0:Nat):Int),yU 8 ((lO h (xG (xC d q) f 0) g:Nat):Int),eS1 14 A ys.length c2,yJ 15 ((ys.length:Nat):Int),yJ 16 (k:Int)] [] ?_
  refine xe (xS (zA (zB (xq 1 [yJ 49 (IntKind.i64.wrap ((k:Int)+1))] [] ?_))))
  rw[yW ((k:Int)+1) (((k+1:Nat):Int)) qO]
  refine xq 1 [yJ 16 ((k+1:Nat):Int)] [] ?_
  refine xe ?_
  refine yP [eS1 0 (some ⟨b,o,none⟩) (ys.length+1) c,eS1 1 A ys.length c2,yU 2 (q:Int),yB 6 false,yU 7 (((wK d q+xL (xC d q) f 0):Nat):Int),(8,.v (yX (((lO h (xG (xC d q) f 0) g):Nat):Int))),eS1 14 A ys.length c2,yJ 15 ((ys.length:Nat):Int),yJ 16 (((k+1):Nat):Int)] [] (fun w=>(Own .u64 141 w b (((r).set (o+k) (lN h (xG (xC d q) f 0) g)))∧zE .u64 w A (ys))) (fun w Q=>⟨Q.1.1,Q.1.2⟩) ?_
  exact xI ((ys.length-(k+1))) qO ⟨(wK d q+xL (xC d q) f 0),(lO h (xG (xC d q) f 0) g),(k+1),((r).set (o+k) (lN h (xG (xC d q) f 0) g)),rfl,rfl,(z.step qO n s D E),qO,rfl⟩
 have B:=uB p
 have F:=z.1
 have G:=z.2.2.2.1
 obtain rfl:k=ys.length:=qO
 refine xN (zK (zK (xV (zA (yY (xq 6 [eS1 51 (some ⟨b,o,none⟩) (ys.length+1) c,yJ 53 ((ys.length:Nat):Int),eS1 54 (some ⟨b,o,none⟩) (ys.length+1) c,yJ 56 ((ys.length:Nat):Int)] [] ?_))))))
 refine xqk 57 (.pointer (some ⟨b,o+ys.length,none⟩)) (fun w R Q=>jU (t:=107) (e:=141) (x:=.tmp 54) (ix:=.tmp 56) (len:=(ys.length+1)) (cap:=c) (i:=ys.length) qO) ?_
 obtain⟨l,u⟩:=yE (r[o+ys.length]?.getD 0)
 refine xqk 58 (yX (l:Int)) (fun w R Q=>by rw[←u];exact gH (t:=141) (x:=.tmp 57) (Q.1) (j:=o+ys.length) qO) ?_
 refine xq 2 [yU 59 (f:Int),yU 60 (g:Int)] [] ?_
 refine xqk 61 (.tuple #[yX ((lN l f g:Nat):Int), yX ((lO l f g:Nat):Int)]) (fun w R Q=>fQ (args:=[Operand.tmp 58,Operand.tmp 59,Operand.tmp 60]) (ts:=#[141,141,141]) (gX l f g qO w)) ?_
 refine xq 3 [yU 62 ((lN l f g:Nat):Int),yU 63 ((lO l f g:Nat):Int)] [] ?_
 refine xqk 64 (.pointer (some ⟨b,o+ys.length,none⟩)) (fun w R Q=>jU (t:=107) (e:=141) (x:=.tmp 51) (ix:=.tmp 53) (len:=(ys.length+1)) (cap:=c) (i:=ys.length) qO) ?_
 refine jE (t:=141) (x:=.tmp 64) (y:=.tmp 62) b (o+ys.length) (lN l f g) (fun w=>(Own .u64 141 w b ((r).set (o+ys.length) (lN l f g))∧zE .u64 w A (ys))) (fun w Q=>Q.1) qO (Or.inr rfl) (fun w w' Q H C=>⟨C,((Q.2).fr H (fun a I _=>J a I))⟩) ?_
 refine xq 1 [yU 8 ((lO l f g:Nat):Int)] [] ?_
 refine yZ (yY (xq 3 [yB 6 ((((lO l f g:Nat):Int):Int) == 1)] [] ?_))
 refine yZ (zG ?_)
 refine yR (.bool ((((lO l f g:Nat):Int):Int) == 1)) fun w' R Q=>?_
 exact⟨(_,_),rfl,z.done qO u,R,Q.1⟩
theorem ZiK (b c o:Nat)(l ys:qN)(A:qA)(c2:Nat)(w:World)(v:Own .u64 141 w b l)(J:zE .u64 w A ys)(E:∀ a,A=some a→a.block≠b)(M:o+ys.length<l.length)(O:l.length≤4294967296)(K:Dig W64 l)(L:Dig W64 ys) :
 yA 221 #[.slice (some ⟨b,o,none⟩) (ys.length+1) c,.slice A ys.length c2] w (ZkC b w (ZdC l ys o)):=by
 refine dM (fun i=>i=b) (Φ:=fun w=>(Own .u64 141 w b l∧zE .u64 w A ys)) func221 rfl qK (fun w' F=>⟨v.ext F,J.ext F⟩) ?_
 refine yY (xq 1 [yB 4 false] [] ?_)
 refine yZ (yY (xq 1 [yU 5 0] [] ?_))
 refine yZ (zC (yY (xq 3 [eS1 8 A ys.length c2,yJ 9 ((ys.length:Nat):Int),yJ 10 0] [] ?_)))
 refine yZ (zS ?_)
 refine yC [eS1 0 (some ⟨b,o,none⟩) (ys.length+1) c,eS1 1 A ys.length c2,yB 4 false,yU 5 ((0:Nat):Int),eS1 8 A ys.length c2,yJ 9 ((ys.length:Nat):Int),yJ 10 ((0:Nat):Int)] [] (fun w=>(Own .u64 141 w b (l)∧zE .u64 w A (ys))) (fun w Q=>⟨Q.1,Q.2⟩) ?_
 refine xR (fun G H I=>∃ (f k:Nat) (n:List Nat),H=ofL [eS1 0 (some ⟨b,o,none⟩) (ys.length+1) c,eS1 1 A ys.length c2,yB 4 false,yU 5 (f:Int),eS1 8 A ys.length c2,yJ 9 ((ys.length:Nat):Int),yJ 10 (k:Int)] []∧I=(fun w=>(Own .u64 141 w b (n)∧zE .u64 w A (ys)))∧(AbR l ys o k n f)∧(k≤ys.length)∧G=(ys.length-k)) ((ys.length-0)) ⟨0,0,l,rfl,rfl,AbR.start ys o K,qO,rfl⟩ ?_
 rintro G H I ⟨f,k,n,rfl,rfl,u,S,rfl⟩
 refine yY (xq 1 [yB 11 (decide ((k:Int)<((ys.length:Nat):Int)))] [] ?_)
 refine yZ (zC ?_)
 refine yQ ((decide ((k:Int)<((ys.length:Nat):Int)))) (fun m=>?_) fun m=>?_
 ·have s:=uA m
  have z:=u.1
  have B:=u.2.2.1
  refine zJ (zA (zC (zS (yY (xq 1 [yJ 12 (k:Int)] [] ?_)))))
  refine xqk 13 (atA A k) (fun w R Q=>wE (t:=107) (e:=141) (x:=.tmp 8) (ix:=.tmp 10) (len:=ys.length) (cap:=c2) (i:=k) ((Q.2).ne (j:=k) qO) qO) ?_
  obtain⟨d,p⟩:=yE (ys[k]?.getD 0)
  refine xqk 14 (yX (d:Int)) (fun w R Q=>by rw[←p];exact wP (t:=141) (x:=.tmp 13) (Q.2) (j:=k) qO) ?_
  refine xq 2 [yJ 6 (k:Int),yU 7 (d:Int)] [] ?_
  refine yZ (zB (xq 4 [eS1 16 (some ⟨b,o,none⟩) (ys.length+1) c,yJ 17 (k:Int),eS1 18 (some ⟨b,o,none⟩) (ys.length+1) c,yJ 19 (k:Int)] [] ?_))
  refine xqk 20 (.pointer (some ⟨b,o+k,none⟩)) (fun w R Q=>jU (t:=107) (e:=141) (x:=.tmp 18) (ix:=.tmp 19) (len:=(ys.length+1)) (cap:=c) (i:=k) qO) ?_
  obtain⟨g,q⟩:=yE (n[o+k]?.getD 0)
  refine xqk 21 (yX (g:Int)) (fun w R Q=>by rw[←q];exact gH (t:=141) (x:=.tmp 20) (Q.1) (j:=o+k) qO) ?_
  refine xq 2 [yU 22 (d:Int),yU 23 (f:Int)] [] ?_
  refine xqk 24 (.tuple #[yX ((xG g d f:Nat):Int), yX ((xL g d f:Nat):Int)]) (fun w R Q=>fQ (args:=[Operand.tmp 21,Operand.tmp 22,Operand.tmp 23]) (ts:=#[141,141,141]) (gW g d f qO w)) ?_
  refine xq 3 [yU 25 ((xG g d f:Nat):Int),yU 26 ((xL g d f:Nat):Int)] [] ?_
  refine xqk 27 (.pointer (some ⟨b,o+k,none⟩)) (fun w R Q=>jU (t:=107) (e:=141) (x:=.tmp 16) (ix:=.tmp 17) (len:=(ys.length+1)) (cap:=c) (i:=k) qO) ?_
  refine jE (t:=141) (x:=.tmp 27) (y:=.tmp 25) b (o+k) (xG g d f) (fun w=>(Own .u64 141 w b ((n).set (o+k) (xG g d f))∧zE .u64 w A (ys))) (fun w Q=>Q.1) qO (Or.inr rfl) (fun w w' Q C v=>⟨v,((Q.2).fr C (fun a D _=>E a D))⟩) ?_
  refine xq 1 [yU 5 ((xL g d f:Nat):Int)] [] ?_
  refine xe (xS (zA (zB (xq 1 [yJ 28 (IntKind.i64.wrap ((k:Int)+1))] [] ?_))))
  rw[yW ((k:Int)+1) (((k+1:Nat):Int)) qO]
  refine xq 1 [yJ 10 ((k+1:Nat):Int)] [] ?_
  refine xe ?_
  refine yP [eS1 0 (some ⟨b,o,none⟩) (ys.length+1) c,eS1 1 A ys.length c2,yB 4 false,yU 5 (((xL g d f):Nat):Int),eS1 8 A ys.length c2,yJ 9 ((ys.length:Nat):Int),yJ 10 (((k+1):Nat):Int)] [] (fun w=>(Own .u64 141 w b (((n).set (o+k) (xG g d f)))∧zE .u64 w A (ys))) (fun w Q=>⟨Q.1,Q.2⟩) ?_
  exact xI ((ys.length-(k+1))) qO ⟨(xL g d f),(k+1),((n).set (o+k) (xG g d f)),rfl,rfl,(u.step qO p q L),qO,rfl⟩
 have s:=uB m
 have z:=u.1
 have B:=u.2.2.1
 obtain rfl:k=ys.length:=qO
 refine xN (zK (zK (xV (zA (yY (xq 6 [eS1 30 (some ⟨b,o,none⟩) (ys.length+1) c,yJ 32 ((ys.length:Nat):Int),eS1 33 (some ⟨b,o,none⟩) (ys.length+1) c,yJ 35 ((ys.length:Nat):Int)] [] ?_))))))
 refine xqk 36 (.pointer (some ⟨b,o+ys.length,none⟩)) (fun w R Q=>jU (t:=107) (e:=141) (x:=.tmp 33) (ix:=.tmp 35) (len:=(ys.length+1)) (cap:=c) (i:=ys.length) qO) ?_
 obtain⟨h,r⟩:=yE (n[o+ys.length]?.getD 0)
 refine xqk 37 (yX (h:Int)) (fun w R Q=>by rw[←r];exact gH (t:=141) (x:=.tmp 36) (Q.1) (j:=o+ys.length) qO) ?_
 refine xq 1 [yU 38 (f:Int)] [] ?_
 refine xqk 39 (.tuple #[yX ((xG h 0 f:Nat):Int), yX ((xL h 0 f:Nat):Int)]) (fun w R Q=>fQ (args:=[Operand.tmp 37,Operand.const (Value.int IntKind.u64 0),Operand.tmp 38]) (ts:=#[141,141,141]) (gW h 0 f qO w)) ?_
 refine xq 3 [yU 40 ((xG h 0 f:Nat):Int),yU 41 ((xL h 0 f:Nat):Int)] [] ?_
 refine xqk 42 (.pointer (some ⟨b,o+ys.length,none⟩)) (fun w R Q=>jU (t:=107) (e:=141) (x:=.tmp 30) (ix:=.tmp 32) (len:=(ys.length+1)) (cap:=c) (i:=ys.length) qO) ?_
 refine jE (t:=141) (x:=.tmp 42) (y:=.tmp 40) b (o+ys.length) (xG h 0 f) (fun w=>(Own .u64 141 w b ((n).set (o+ys.length) (xG h 0 f))∧zE .u64 w A (ys))) (fun w Q=>Q.1) qO (Or.inr rfl) (fun w w' Q C v=>⟨v,((Q.2).fr C (fun a D _=>E a D))⟩) ?_
 refine xq 1 [yU 5 ((xL h 0 f:Nat):Int)] [] ?_
 refine yZ (yY (xq 3 [yB 4 ((((xL h 0 f:Nat):Int):Int) == 1)] [] ?_))
 refine yZ (zG ?_)
 refine yR (.bool ((((xL h 0 f:Nat):Int):Int) == 1)) fun w' R Q=>?_
 exact⟨(_,_),rfl,u.done qO r,R,Q.1⟩
noncomputable def win (o n:Nat) (zs:List Nat):Nat:=val W64 ((zs.drop o).take (n+1))
theorem aK {o n:Nat}{zs:qN}(h:o≤zs.length):val W64 (zs.take (o+n+1))=val W64 (zs.take o)+W64^o*win o n zs:=by
 unfold win
 rw[show o+n+1=o+(n+1) by omega,List.take_add,kI,uL,uT h]
theorem Znl {o n:Nat}{zs:qN}(a:Dig W64 zs):win o n zs<W64^(n+1):=by
 have:=xW ((a.drop o).take (n+1))
 refine uS this (uW zM (by rw[uL];exact Nat.min_le_left _ _))
def WinR (o n:Nat) (zs0 zs:List Nat):Prop:=zs.length=zs0.length∧Dig W64 zs∧zs.take o=zs0.take o∧zs.drop (o+n+1)=zs0.drop (o+n+1)
theorem WinR.start {o n:Nat}{zs0:qN}(h:Dig W64 zs0):WinR o n zs0 zs0:=⟨rfl,h,rfl,rfl⟩
theorem ZfL {o a b c d x:Nat}(h:x+W64^o*a+W64^o*b=x+W64^o*c+W64^o*d):a+b=c+d:=by
 have e:W64^o*(a+b)=W64^o*(c+d):=by rw[uK,uK];omega
 exact Nat.eq_of_mul_eq_mul_left (uU zM) e
theorem ZdB.win {a c ys zs:qN}{q o b:Nat}(h:ZdB c ys q o zs b)(p:o≤a.length)(k:WinR o ys.length a c):WinR o ys.length a zs∧b≤1∧win o ys.length zs+q*val W64 ys=win o ys.length c+W64^(ys.length+1)*b:=by
 obtain⟨f,g,i,d,j,e⟩:=h
 obtain⟨l,r,m,n⟩:=k
 refine⟨⟨f.trans l,g,d.trans m,j.trans n⟩,i,?_⟩
 rw[aK qO,aK qO,d,show o+ys.length+1=o+(ys.length+1) by omega,uQ,uG (W64^o)] at e
 exact ZfL e
theorem ZdC.win {a b ys zs:qN}{o c:Nat}(h:ZdC b ys o zs c)(p:o≤a.length)(k:WinR o ys.length a b):WinR o ys.length a zs∧c≤1∧win o ys.length zs+W64^(ys.length+1)*c=win o ys.length b+val W64 ys:=by
 obtain⟨f,g,i,d,j,e⟩:=h
 obtain⟨l,q,m,n⟩:=k
 refine⟨⟨f.trans l,g,d.trans m,j.trans n⟩,i,?_⟩
 rw[aK qO,aK qO,d,show o+ys.length+1=o+(ys.length+1) by omega,uQ,uG (W64^o)] at e
 exact ZfL e
theorem ZqF {o n:Nat}{zs:qN}{u0 u1 u2:Nat}(e:2≤n)(f:o+n<zs.length)(c:zs[o+n]?.getD 0=u0)(a:zs[o+(n-1)]?.getD 0=u1)(b:zs[o+(n-2)]?.getD 0=u2)(d:Dig W64 zs) :
 ∃ l,l<W64^(n-2)∧win o n zs=l+W64^(n-2)*(u2+W64*(u1+W64*u0)):=by
 obtain⟨m,rfl⟩:∃ m,n=m+2:=⟨n-2,qO⟩
 refine⟨val W64 ((zs.drop o).take m),?_,?_⟩
 ·have:=xW ((d.drop o).take m)
  rw[uL,vT,uT qO] at this
  exact this
 unfold win
 simp only[show m+2-1=m+1 by omega,show m+2-2=m by omega] at a b ⊢
 have g:∀ j,(zs.drop o)[j]?.getD 0=zs[o+j]?.getD 0:=fun j=>by rw[vK]
 rw[lI (m+2),lI (m+1),lI m,g,g,g,c,a,b]
 simp only[uN,uK,uG,tS]
theorem ZqG {n:Nat}{ys:qN}{t v2:Nat}(c:2≤n)(d:ys.length=n)(a:ys[n-1]?.getD 0=t)(b:ys[n-2]?.getD 0=v2):∃ l,val W64 ys=l+W64^(n-2)*(v2+W64*t):=by
 obtain⟨m,rfl⟩:∃ m,n=m+2:=⟨n-2,qO⟩
 refine⟨val W64 (ys.take m),?_⟩
 simp only[show m+2-1=m+1 by omega,show m+2-2=m by omega] at a b ⊢
 have:=lI (B:=W64) (xs:=ys) (m+1)
 rw[uC qO,lI m,a,b,uN] at this
 rw[this]
 simp only[uK,uG,tS]
theorem Zo7 {B l U V a u0 u1 u2 v2 t:Nat}(f:l<B)(g:U=l+B*(u2+W64*(u1+W64*u0)))(b:V=a+B*(v2+W64*t))(h:u2<W64)(c:0<t):U/V≤divQ u0 u1 t:=by
 unfold divQ
 rw[pC c]
 have i:=pI U V
 generalize U/V=q at *
 have j:q*(B*(W64*t))≤q*V:=uI _ (by rw[b,uK];omega)
 have d:B*(q*(W64*t))<B*(u2+W64*(u1+W64*u0)+1):=by
  rw[tF,uK B (_+_) 1];omega
 have k:=sK d
 have e:W64*(q*t)<W64*(u1+W64*u0+1):=by
  rw[tF,uK W64 (_+_) 1];omega
 have m:=sK e
 rw[uH u0];omega
theorem ZfM {B l U V b u0 u1 u2 v2 t g r:Nat}(j:l<B)(k:U=l+B*(u2+W64*(u1+W64*u0)))(c:V=b+B*(v2+W64*t))(d:r+g*t=u0*W64+u1)(h:r*W64+u2<g*v2)(a:0<V):U/V+1≤g:=by
 rw[Nat.add_one_le_iff,vO a]
 have f:u2+W64*(u1+W64*u0)+1≤g*(v2+W64*t):=by
  have e:W64*(r+g*t)=W64*(u1+W64*u0):=by rw[d,vP,uH u0]
  rw[uK g,tF g]
  rw[uK W64 r] at e
  rw[uH r] at h
  omega
 have i:B*(u2+W64*(u1+W64*u0)+1)≤g*V:=by
  refine uD (uI B f) ?_
  rw[tF,c]
  exact uI _ qO
 rw[uK B (_+_) 1] at i
 omega
theorem Znm {U V:Nat}(h:U<W64*V):U/V≤W64-1:=by
 have a:0<V:=rA (fun e=>by subst e;omega)
 have:=(vO a).2 h
 omega
theorem ZkD {hi lo r u g v:Nat}(h:lo+W64*hi=g*v)(b:¬ hi<r)(c:hi=r→¬ lo≤u)(d:u<W64):r*W64+u<g*v:=by
 rw[←h,uH r]
 rcases pV hi r with a|a|a
 ·exact absurd a b
 ·have:=c a;subst a;omega
 have:=uI W64 a
 rw[Nat.mul_succ] at this
 omega
def CorR (U V P:Nat) (g b wn:Nat):Prop:=b≤1∧wn<P∧U/V≤g∧wn+g*V=U+P*b
theorem CorR.pos {U V P g b a:Nat}(h:CorR U V P g b a)(c:b=1)(d:0<V):U/V+1≤g:=by
 obtain⟨_,e,_,f⟩:=h
 subst c
 rw[Nat.add_one_le_iff,vO d]
 omega
theorem CorR.step {U V P g b d wn' c:Nat}(h:CorR U V P g b d)(e:b=1)(i:0<V)(l:c≤1)(j:wn'<P)(f:wn'+P*c=d+V):CorR U V P (g-1) (1-c) wn':=by
 have m:=h.pos e i
 obtain⟨n,o,p,a⟩:=h
 subst e
 unfold CorR
 generalize U/V=q at *
 refine⟨qO,j,qO,?_⟩
 obtain⟨k,rfl⟩:∃ k,g=k+1:=⟨g-1,qO⟩
 rw[tM]
 rw[uX] at a
 rcases (by omega:c=0∨c=1) with rfl|rfl
 ·simp at f a ⊢;omega
 simp at f a ⊢;omega
theorem CorR.done {U V P g a:Nat}(h:CorR U V P g 0 a)(b:0<V):g=U/V∧a=U%V:=by
 obtain⟨d,f,i,c⟩:=h
 rw[tT,tG] at c
 have j:g≤U/V:=by rw[pC b];omega
 have e:g=U/V:=qO
 refine⟨e,?_⟩
 have:=vX U V
 rw[←e,uH] at this
 omega
theorem ZsF:(18446744073709551615:Int)=((W64-1:Nat):Int):=by rw[zO];rfl
theorem ZpX {a b:Nat}(h:¬ a+b<W64)(ha:a<W64)(c:b<W64):IntKind.u64.wrap ((a:Int)+(b:Int))=((a+b-W64:Nat):Int):=by
 rw[IntKind.wrap_u64]
 rw[zO] at *
 omega
theorem ZqH {c:Nat}(h:c≤1):(!(((c:Nat):Int) == 1))=(((1-c:Nat):Int) == 1):=by
 rcases (by omega:c=0∨c=1) with rfl|rfl<;>rfl
def ZrS (b o:Nat) (zs0 ys:List Nat) (w:World) (e:Ending) (w':World):Prop:=∃ zs,e=.returned (.int .u64 ((win o ys.length zs0/val W64 ys:Nat):Int))∧(WinR o ys.length zs0 zs∧win o ys.length zs=win o ys.length zs0%val W64 ys)∧Fr (fun i=>i=b) w w'∧Own .u64 141 w' b zs
theorem ZfN (b c o:Nat)(g ys:qN)(A:qA)(c2:Nat)(w:World)(hO:Own .u64 141 w b g)(hY:zE .u64 w A ys)(hA:∀ a,A=some a→a.block≠b)(ho:o+ys.length<g.length)(hl:g.length≤4294967296)(O:Dig W64 g)(hy:Dig W64 ys)(q0:2≤ys.length)(C:0<val W64 ys)(r0:win o ys.length g<W64*val W64 ys) :
 yA 195 #[.slice (some ⟨b,o,none⟩) (ys.length+1) c,.slice A ys.length c2] w (ZrS b o g ys w):=by
 obtain⟨u2,D⟩:=yE (g[o+(ys.length-2)]?.getD 0)
 refine dM (fun i=>i=b) (Φ:=fun w=>(Own .u64 141 w b g∧zE .u64 w A ys)) func195 rfl qK (fun w' hf=>⟨hO.ext hf,hY.ext hf⟩) ?_
 refine yY (xq 1 [yU 4 0] [] ?_)
 refine yZ (yY (xq 3 [yJ 5 ((ys.length:Nat):Int)] [] ?_))
 refine yZ (yY (xq 3 [eS1 14 A ys.length c2,yJ 16 (IntKind.i64.wrap (((ys.length:Nat):Int)-1))] [] ?_))
 rw[yW (((ys.length:Nat):Int)-1) (((ys.length-1:Nat):Int)) qO]
 refine xqk 17 (atA A (ys.length-1)) (fun w R Q=>wE (t:=107) (e:=141) (x:=.tmp 14) (ix:=.tmp 16) (len:=ys.length) (cap:=c2) (i:=ys.length-1) ((Q.2).ne (j:=ys.length-1) qO) qO) ?_
 obtain⟨x10,q⟩:=yE (ys[ys.length-1]?.getD 0)
 refine xqk 18 (yX (x10:Int)) (fun w R Q=>by rw[←q];exact wP (t:=141) (x:=.tmp 17) (Q.2) (j:=ys.length-1) qO) ?_
 refine xq 1 [yU 6 (x10:Int)] [] ?_
 refine yZ (yY (xq 1 [yU 7 18446744073709551615] [] ?_))
 rw[ZsF]
 refine xe (zA ?_)
 refine Zb9 (fun P S=>∃ (f:Nat),P=ofL [eS1 0 (some ⟨b,o,none⟩) (ys.length+1) c,eS1 1 A ys.length c2,yU 7 (f:Int)] []∧S=(fun w=>(Own .u64 141 w b (g)∧zE .u64 w A (ys)))∧(win o ys.length g/val W64 ys≤f)∧(f<W64)) ?_ ?_
 ·refine yY (xq 2 [eS1 19 (some ⟨b,o,none⟩) (ys.length+1) c,yJ 20 ((ys.length:Nat):Int)] [] ?_)
  refine xqk 21 (.pointer (some ⟨b,o+ys.length,none⟩)) (fun w R Q=>jU (t:=107) (e:=141) (x:=.tmp 19) (ix:=.tmp 20) (len:=(ys.length+1)) (cap:=c) (i:=ys.length) qO) ?_
  obtain⟨k,E⟩:=yE (g[o+ys.length]?.getD 0)
  refine xqk 22 (yX (k:Int)) (fun w R Q=>by rw[←E];exact gH (t:=141) (x:=.tmp 21) (Q.1) (j:=o+ys.length) qO) ?_
  refine xq 2 [yB 24 (decide ((k:Int)<(x10:Int)))] [] ?_
  refine xe (zA ?_)
  refine yQ ((decide ((k:Int)<(x10:Int)))) (fun F=>?_) fun F=>?_
  ·have a0:=uA F
   refine yY (xq 1 [yU 8 0] [] ?_)
   refine yZ (zC ?_)
   refine Za2 16 [0,0,3,7,0,0,32,112,240,0,1023,2047,4095,4095,8191,32767] qK qK zP ?_
   refine xqf 2 [eS1 26 (some ⟨b,o,none⟩) (ys.length+1) c,yJ 27 ((ys.length:Nat):Int)] [] ?_
   refine xqj 28 (.pointer (some ⟨b,o+ys.length,none⟩)) (fun w Q=>jU (t:=107) (e:=141) (x:=.tmp 26) (ix:=.tmp 27) (len:=(ys.length+1)) (cap:=c) (i:=ys.length) qO) ?_
   obtain⟨l0,T⟩:=yE (g[o+ys.length]?.getD 0)
   refine xqj 29 (yX (l0:Int)) (fun w Q=>by rw[←T];exact gH (t:=141) (x:=.tmp 28) (Q.1) (j:=o+ys.length) qO) ?_
   obtain rfl:k=l0:=by rw[←E,T]
   refine xqf 3 [eS1 30 (some ⟨b,o,none⟩) (ys.length+1) c,yJ 32 (IntKind.i64.wrap (((ys.length:Nat):Int)-1))] [] ?_
   rw[yW (((ys.length:Nat):Int)-1) (((ys.length-1:Nat):Int)) qO]
   refine xqj 33 (.pointer (some ⟨b,o+(ys.length-1),none⟩)) (fun w Q=>jU (t:=107) (e:=141) (x:=.tmp 30) (ix:=.tmp 32) (len:=(ys.length+1)) (cap:=c) (i:=ys.length-1) qO) ?_
   obtain⟨l,B⟩:=yE (g[o+(ys.length-1)]?.getD 0)
   refine xqj 34 (yX (l:Int)) (fun w Q=>by rw[←B];exact gH (t:=141) (x:=.tmp 33) (Q.1) (j:=o+(ys.length-1)) qO) ?_
   refine xqf 1 [yU 35 (x10:Int)] [] ?_
   refine xqd 174 [yX (k:Int), yX (l:Int), yX (x10:Int)] 36 (fun _:Unit=>.tuple #[yX ((divQ k l x10:Nat):Int), yX ((divR k l x10:Nat):Int)]) _ (fun w R Q=>yN (Zhd k l x10 _ qO (by rw[←q];exact hy.getD zM _) (by rw[←B];exact O.getD zM _))) fun xx=>?_
   refine xqf 5 [yU 7 ((divQ k l x10:Nat):Int),yU 8 ((divR k l x10:Nat):Int)] [] ?_
   refine xz (yZ (zS ?_))
   obtain⟨lw,b0,hU⟩:=ZqF (o:=o) (n:=ys.length) qO qO E B D O
   obtain⟨y2,c0⟩:=yE (ys[ys.length-2]?.getD 0)
   obtain⟨vl,hV⟩:=ZqG (ys:=ys) q0 rfl q c0
   refine yC [eS1 0 (some ⟨b,o,none⟩) (ys.length+1) c,eS1 1 A ys.length c2,yU 4 0,yJ 5 ((ys.length:Nat):Int),yU 6 (x10:Int),yU 7 (((divQ k l x10):Nat):Int),yU 8 (((divR k l x10):Nat):Int)] [] (fun w=>(Own .u64 141 w b (g)∧zE .u64 w A (ys))) (fun w Q=>⟨Q.1.1,Q.1.2⟩) ?_
   have m0:0<x10:=qO
   refine xR (fun nn P S=>∃ (f h:Nat),P=ofL [eS1 0 (some ⟨b,o,none⟩) (ys.length+1) c,eS1 1 A ys.length c2,yU 4 0,yJ 5 ((ys.length:Nat):Int),yU 6 (x10:Int),yU 7 (f:Int),yU 8 (h:Int)] []∧S=(fun w=>(Own .u64 141 w b (g)∧zE .u64 w A (ys)))∧(win o ys.length g/val W64 ys≤f)∧(f<W64)∧(h+f*x10=k*W64+l)∧(h<W64)∧nn=(1+f)) ((1+(divQ k l x10))) ⟨(divQ k l x10),(divR k l x10),rfl,rfl,(Zo7 b0 hU hV (by rw[←D];exact O.getD zM _) m0),(Zgf qO (by rw[←B];exact O.getD zM _)),(by rw[vP];exact Zcn _ _ _),(qJ (ZbW _ _ m0) (by rw[←q];exact hy.getD zM _)),rfl⟩ ?_
   rintro nn P S ⟨f,h,rfl,rfl,hq,y,hr,s0,rfl⟩
   refine zS (yY (xq 4 [yU 40 (f:Int),eS1 41 A ys.length c2,yJ 43 (IntKind.i64.wrap (((ys.length:Nat):Int)-2))] [] ?_))
   rw[yW (((ys.length:Nat):Int)-2) (((ys.length-2:Nat):Int)) qO]
   refine xqk 44 (atA A (ys.length-2)) (fun w R Q=>wE (t:=107) (e:=141) (x:=.tmp 41) (ix:=.tmp 43) (len:=ys.length) (cap:=c2) (i:=ys.length-2) ((Q.2).ne (j:=ys.length-2) qO) qO) ?_
   obtain⟨n0,U⟩:=yE (ys[ys.length-2]?.getD 0)
   refine xqk 45 (yX (n0:Int)) (fun w R Q=>by rw[←U];exact wP (t:=141) (x:=.tmp 44) (Q.2) (j:=ys.length-2) qO) ?_
   obtain rfl:y2=n0:=by rw[←c0,U]
   refine xqc 161 [yX (f:Int), yX (y2:Int)] 46 (fun _:Unit=>.tuple #[yX ((wK f y2:Nat):Int), yX ((xC f y2:Nat):Int)]) _ (fun w R Q=>yN (Zdw f y2 _ y (by rw[←c0];exact hy.getD zM _))) fun xx=>?_
   refine xq 5 [yU 9 ((wK f y2:Nat):Int),yU 10 ((xC f y2:Nat):Int)] [] ?_
   refine yZ (zC (yY (xq 4 [yB 52 (decide (((wK f y2:Nat):Int)<(h:Int)))] [] ?_)))
   rcases bl2 ((decide (((wK f y2:Nat):Int)<(h:Int)))) with s|s
   ·rw[s]
    have d0:=uA s
    refine xq 13 [yB 65 true] [] ?_
    refine yZ (xa (xN (zK ?_)))
    refine Zb2 qK ?_
    refine zK (xV ?_)
    refine yP [eS1 0 (some ⟨b,o,none⟩) (ys.length+1) c,eS1 1 A ys.length c2,yU 7 (f:Int)] [] (fun w=>(Own .u64 141 w b (g)∧zE .u64 w A (ys))) (fun w Q=>⟨Q.1.1,Q.1.2⟩) ?_
    exact jJ ⟨f,rfl,rfl,hq,y⟩
   rw[s]
   have d0:=uB s
   refine xq 4 [yB 56 ((((wK f y2:Nat):Int):Int) == (h:Int))] [] ?_
   rcases bl2 (((((wK f y2:Nat):Int):Int) == (h:Int))) with u|u
   ·rw[u]
    have G:=tV.1 u
    refine xq 4 [yU 57 ((xC f y2:Nat):Int),eS1 58 (some ⟨b,o,none⟩) (ys.length+1) c,yJ 60 (IntKind.i64.wrap (((ys.length:Nat):Int)-2))] [] ?_
    rw[yW (((ys.length:Nat):Int)-2) (((ys.length-2:Nat):Int)) qO]
    refine xqk 61 (.pointer (some ⟨b,o+(ys.length-2),none⟩)) (fun w R Q=>jU (t:=107) (e:=141) (x:=.tmp 58) (ix:=.tmp 60) (len:=(ys.length+1)) (cap:=c) (i:=ys.length-2) qO) ?_
    obtain⟨o0,V⟩:=yE (g[o+(ys.length-2)]?.getD 0)
    refine xqk 62 (yX (o0:Int)) (fun w R Q=>by rw[←V];exact gH (t:=141) (x:=.tmp 61) (Q.1.1) (j:=o+(ys.length-2)) qO) ?_
    obtain rfl:u2=o0:=by rw[←D,V]
    refine xq 3 [yB 65 (decide (((xC f y2:Nat):Int)≤(u2:Int)))] [] ?_
    refine xe (zA ?_)
    refine yQ ((decide (((xC f y2:Nat):Int)≤(u2:Int)))) (fun H=>?_) fun H=>?_
    ·have e0:=uA H
     refine xN (zK ?_)
     refine Zb2 qK ?_
     refine zK (xV ?_)
     refine yP [eS1 0 (some ⟨b,o,none⟩) (ys.length+1) c,eS1 1 A ys.length c2,yU 7 (f:Int)] [] (fun w=>(Own .u64 141 w b (g)∧zE .u64 w A (ys))) (fun w Q=>⟨Q.1.1,Q.1.2⟩) ?_
     exact jJ ⟨f,rfl,rfl,hq,y⟩
    have e0:=uB H
    refine zJ (zA (zC ?_))
    have f0:h*W64+u2<f*y2:=ZkD (dC f y2) qO (fun _=>qO) (by rw[←D];exact O.getD zM _)
    have r:=ZfM b0 hU hV hr f0 C
    have p0:1≤f:=uD (Nat.le_add_left 1 _) r
    by_cases z:h+x10<W64
    ·refine zB (xq 2 [yU 67 (IntKind.u64.wrap ((f:Int)-1))] [] ?_)
     rw[show IntKind.u64.wrap (((f:Int)-1))=((f-1:Nat):Int) by rw[IntKind.wrap_u64];have:=zO;omega]
     refine xq 1 [yU 7 ((f-1:Nat):Int)] [] ?_
     refine yZ (yY (xq 3 [yU 70 (IntKind.u64.wrap ((h:Int)+(x10:Int)))] [] ?_))
     rw[ZfJ (a:=h) (b:=x10) z]
     refine xq 1 [yU 8 ((h+x10:Nat):Int)] [] ?_
     refine yZ (yY (xq 3 [yB 73 (decide (((h+x10:Nat):Int)<(x10:Int)))] [] ?_))
     refine xe (zA ?_)
     refine yQ ((decide (((h+x10:Nat):Int)<(x10:Int)))) (fun I=>?_) fun I=>?_
     ·have g0:=uA I
      exfalso;omega
     have g0:=uB I
     refine zJ (xS ?_)
     refine yP [eS1 0 (some ⟨b,o,none⟩) (ys.length+1) c,eS1 1 A ys.length c2,yU 4 0,yJ 5 ((ys.length:Nat):Int),yU 6 (x10:Int),yU 7 (((f-1):Nat):Int),yU 8 (((h+x10):Nat):Int)] [] (fun w=>(Own .u64 141 w b (g)∧zE .u64 w A (ys))) (fun w Q=>⟨Q.1.1,Q.1.2⟩) ?_
     exact xI ((1+(f-1))) qO ⟨(f-1),(h+x10),rfl,rfl,(oE r),qO,(by obtain⟨m,rfl⟩:∃ m,f=m+1:=⟨f-1,qO⟩;rw[tM];rw[uX] at hr;omega),z,rfl⟩
    refine zB (xq 2 [yU 67 (IntKind.u64.wrap ((f:Int)-1))] [] ?_)
    rw[show IntKind.u64.wrap (((f:Int)-1))=((f-1:Nat):Int) by rw[IntKind.wrap_u64];have:=zO;omega]
    refine xq 1 [yU 7 ((f-1:Nat):Int)] [] ?_
    refine yZ (yY (xq 3 [yU 70 (IntKind.u64.wrap ((h:Int)+(x10:Int)))] [] ?_))
    rw[ZpX (a:=h) (b:=x10) z qO (by rw[←q];exact hy.getD zM _)]
    refine xq 1 [yU 8 ((h+x10-W64:Nat):Int)] [] ?_
    refine yZ (yY (xq 3 [yB 73 (decide (((h+x10-W64:Nat):Int)<(x10:Int)))] [] ?_))
    refine xe (zA ?_)
    refine yQ ((decide (((h+x10-W64:Nat):Int)<(x10:Int)))) (fun J=>?_) fun J=>?_
    ·have h0:=uA J
     refine xN ?_
     refine Zb2 qK ?_
     refine zK (xV ?_)
     refine yP [eS1 0 (some ⟨b,o,none⟩) (ys.length+1) c,eS1 1 A ys.length c2,yU 7 (((f-1):Nat):Int)] [] (fun w=>(Own .u64 141 w b (g)∧zE .u64 w A (ys))) (fun w Q=>⟨Q.1.1,Q.1.2⟩) ?_
     exact jJ ⟨(f-1),rfl,rfl,(oE r),qO⟩
    have h0:=uB J
    exfalso;omega
   rw[u]
   have G:=lG u
   refine xq 9 [yB 65 false] [] ?_
   refine yZ (xb (zJ (zA (zC ?_))))
   have f0:h*W64+u2<f*y2:=ZkD (dC f y2) qO (fun e=>absurd (show (wK f y2:Int)=h by rw[e]) G) (by rw[←D];exact O.getD zM _)
   have r:=ZfM b0 hU hV hr f0 C
   have p0:1≤f:=uD (Nat.le_add_left 1 _) r
   by_cases z:h+x10<W64
   ·refine zB (xq 2 [yU 67 (IntKind.u64.wrap ((f:Int)-1))] [] ?_)
    rw[show IntKind.u64.wrap (((f:Int)-1))=((f-1:Nat):Int) by rw[IntKind.wrap_u64];have:=zO;omega]
    refine xq 1 [yU 7 ((f-1:Nat):Int)] [] ?_
    refine yZ (yY (xq 3 [yU 70 (IntKind.u64.wrap ((h:Int)+(x10:Int)))] [] ?_))
    rw[ZfJ (a:=h) (b:=x10) z]
    refine xq 1 [yU 8 ((h+x10:Nat):Int)] [] ?_
    refine yZ (yY (xq 3 [yB 73 (decide (((h+x10:Nat):Int)<(x10:Int)))] [] ?_))
    refine xe (zA ?_)
    refine yQ ((decide (((h+x10:Nat):Int)<(x10:Int)))) (fun K=>?_) fun K=>?_
    ·have i0:=uA K
     exfalso;omega
    have i0:=uB K
    refine zJ (xS ?_)
    refine yP [eS1 0 (some ⟨b,o,none⟩) (ys.length+1) c,eS1 1 A ys.length c2,yU 4 0,yJ 5 ((ys.length:Nat):Int),yU 6 (x10:Int),yU 7 (((f-1):Nat):Int),yU 8 (((h+x10):Nat):Int)] [] (fun w=>(Own .u64 141 w b (g)∧zE .u64 w A (ys))) (fun w Q=>⟨Q.1.1,Q.1.2⟩) ?_
    exact xI ((1+(f-1))) qO ⟨(f-1),(h+x10),rfl,rfl,(oE r),qO,(by obtain⟨m,rfl⟩:∃ m,f=m+1:=⟨f-1,qO⟩;rw[tM];rw[uX] at hr;omega),z,rfl⟩
   refine zB (xq 2 [yU 67 (IntKind.u64.wrap ((f:Int)-1))] [] ?_)
   rw[show IntKind.u64.wrap (((f:Int)-1))=((f-1:Nat):Int) by rw[IntKind.wrap_u64];have:=zO;omega]
   refine xq 1 [yU 7 ((f-1:Nat):Int)] [] ?_
   refine yZ (yY (xq 3 [yU 70 (IntKind.u64.wrap ((h:Int)+(x10:Int)))] [] ?_))
   rw[ZpX (a:=h) (b:=x10) z qO (by rw[←q];exact hy.getD zM _)]
   refine xq 1 [yU 8 ((h+x10-W64:Nat):Int)] [] ?_
   refine yZ (yY (xq 3 [yB 73 (decide (((h+x10-W64:Nat):Int)<(x10:Int)))] [] ?_))
   refine xe (zA ?_)
   refine yQ ((decide (((h+x10-W64:Nat):Int)<(x10:Int)))) (fun L=>?_) fun L=>?_
   ·have j0:=uA L
    refine xN ?_
    refine Zb2 qK ?_
    refine zK (xV ?_)
    refine yP [eS1 0 (some ⟨b,o,none⟩) (ys.length+1) c,eS1 1 A ys.length c2,yU 7 (((f-1):Nat):Int)] [] (fun w=>(Own .u64 141 w b (g)∧zE .u64 w A (ys))) (fun w Q=>⟨Q.1.1,Q.1.2⟩) ?_
    exact jJ ⟨(f-1),rfl,rfl,(oE r),qO⟩
   have j0:=uB L
   exfalso;omega
  have a0:=uB F
  refine zJ ?_
  refine yP [eS1 0 (some ⟨b,o,none⟩) (ys.length+1) c,eS1 1 A ys.length c2,yU 7 (((W64-1):Nat):Int)] [] (fun w=>(Own .u64 141 w b (g)∧zE .u64 w A (ys))) (fun w Q=>⟨Q.1,Q.2⟩) ?_
  exact jJ ⟨(W64-1),rfl,rfl,Znm r0,(by have:=zM;omega)⟩
 rintro P S ⟨f,rfl,rfl,hq,y⟩
 refine zC (yY (xq 3 [eS1 74 (some ⟨b,o,none⟩) (ys.length+1) c,eS1 75 A ys.length c2,yU 76 (f:Int)] [] ?_))
 refine ZcB (xs:=g) (α:=List Nat × Nat) 220 [.slice (some ⟨b,o,none⟩) (ys.length+1) c,.slice A ys.length c2, yX (f:Int)] (d:=77) (fun x=>.bool (((x.2:Nat):Int) == 1)) (fun x=>ZdB g ys f o x.1 x.2) (fun x=>x.1) b (fun x w=>(Own .u64 141 w b (x.1)∧zE .u64 w A (ys))) (fun w Q=>Q.1) qO (Or.inr rfl) (fun w R Q=>ZiJ b _ o _ ys A _ _ Q.1 Q.2 hA qO hl O hy _ y) (fun x w w' hp Q hF hO=>⟨hO,((Q.2).fr hF (fun a ha _=>hA a ha))⟩) fun x W=>?_
 obtain⟨X,M⟩:=x
 dsimp only at W
 have p:=W.win qO (WinR.start O)
 refine xr 1 [eS1 0 (some ⟨b,o,none⟩) (ys.length+1) c,eS1 1 A ys.length c2,yU 7 (f:Int),yB 11 ((M:Int) == 1)] [] ?_
 refine yZ (zS ?_)
 refine yC [eS1 0 (some ⟨b,o,none⟩) (ys.length+1) c,eS1 1 A ys.length c2,yU 7 (f:Int),yB 11 ((M:Int) == 1)] [] (fun w=>(Own .u64 141 w b (X)∧zE .u64 w A (ys))) (fun w Q=>⟨Q.1,Q.2⟩) ?_
 refine xR (fun nn P S=>∃ (f bb:Nat) (zs:List Nat),P=ofL [eS1 0 (some ⟨b,o,none⟩) (ys.length+1) c,eS1 1 A ys.length c2,yU 7 (f:Int),yB 11 ((bb:Int) == 1)] []∧S=(fun w=>(Own .u64 141 w b (zs)∧zE .u64 w A (ys)))∧(WinR o ys.length g zs)∧(CorR (win o ys.length g) (val W64 ys) (W64^(ys.length+1)) f bb (win o ys.length zs))∧(f<W64)∧nn=(1+f)) ((1+f)) ⟨f,M,X,rfl,rfl,p.1,⟨p.2.1,Znl p.1.2.1,hq,p.2.2⟩,y,rfl⟩ ?_
 rintro nn P S ⟨f,bb,zs,rfl,rfl,HW,HC,y,rfl⟩
 refine zC (yY (xq 1 [yB 78 ((bb:Int) == 1)] [] ?_))
 refine xe (zA ?_)
 refine yQ (((bb:Int) == 1)) (fun N=>?_) fun N=>?_
 ·have k0:=tV.1 N
  refine zJ (zA (zC (zS ?_)))
  have r:=HC.pos qO C
  have p0:1≤f:=uD (Nat.le_add_left 1 _) r
  refine zB (xq 2 [eS1 81 (some ⟨b,o,none⟩) (ys.length+1) c,eS1 82 A ys.length c2] [] ?_)
  refine ZcB (xs:=zs) (α:=List Nat × Nat) 221 [.slice (some ⟨b,o,none⟩) (ys.length+1) c,.slice A ys.length c2] (d:=83) (fun x=>.bool (((x.2:Nat):Int) == 1)) (fun x=>ZdC zs ys o x.1 x.2) (fun x=>x.1) b (fun x w=>(Own .u64 141 w b (x.1)∧zE .u64 w A (ys))) (fun w Q=>Q.1) (by have:=HW.1;omega) (Or.inr rfl) (fun w R Q=>ZiK b _ o _ ys A _ _ Q.1 Q.2 hA (by rw[HW.1];omega) (by rw[HW.1];exact hl) HW.2.1 hy) (fun x w w' hp Q hF hO=>⟨hO,((Q.2).fr hF (fun a ha _=>hA a ha))⟩) fun x Y=>?_
  obtain⟨Z,v⟩:=x
  dsimp only at Y
  have p:=Y.win qO HW
  refine xr 1 [eS1 0 (some ⟨b,o,none⟩) (ys.length+1) c,eS1 1 A ys.length c2,yU 7 (f:Int),yB 11 ((bb:Int) == 1),yB 84 (!((v:Int) == 1))] [] ?_
  rw[ZqH (c:=v) p.2.1]
  refine xq 1 [yB 11 (((1-v:Nat):Int) == 1)] [] ?_
  refine xe (xS (zA (zB (xq 2 [yU 80 (IntKind.u64.wrap ((f:Int)-1))] [] ?_))))
  rw[show IntKind.u64.wrap (((f:Int)-1))=((f-1:Nat):Int) by rw[IntKind.wrap_u64];have:=zO;omega]
  refine xq 1 [yU 7 ((f-1:Nat):Int)] [] ?_
  refine xe ?_
  refine yP [eS1 0 (some ⟨b,o,none⟩) (ys.length+1) c,eS1 1 A ys.length c2,yU 7 (((f-1):Nat):Int),yB 11 ((((1-v):Nat):Int) == 1)] [] (fun w=>(Own .u64 141 w b (Z)∧zE .u64 w A (ys))) (fun w Q=>⟨Q.1,Q.2⟩) ?_
  exact xI ((1+(f-1))) qO ⟨(f-1),(1-v),Z,rfl,rfl,p.1,(HC.step qO C p.2.1 (Znl p.1.2.1) p.2.2),qO,rfl⟩
 have k0:=lG N
 obtain rfl:bb=0:=by have:=HC.1;omega
 refine xN (zK (zK (xV (zA (yY (xq 2 [yU 4 (f:Int)] [] ?_))))))
 refine yZ (zG ?_)
 refine yR (yX (f:Int)) fun w' R Q=>?_
 obtain⟨e1,e2⟩:=HC.done C
 exact⟨zs,by rw[e1],⟨HW,e2⟩,R,Q.1⟩
/-! ### Clone -/
theorem ZqI (w:World)(a:qA)(n c:Nat):(binOp .eql 107 (.slice a n c) (.slice none 0 0)).run prog w=.ok (.bool a.isNone) w :=
 Lib.run_eql_slice_nil w 107 141 a n c 0 0 underlying107
theorem ZlP (A:qA)(xs:qN)(n c:Nat)(w:World)(p:xs.length=n)(q:zE .u64 w A xs)(C:n≤4294967296) :
 yA 145 #[.slice A n c] w (Zh5 w xs):=by
 have r:=zh q
 have s:=zh p
 clear q p
 have t:=ZqI
 cases A with
 | none =>
  have x:Hid (xs=[]):=by
   rcases xs with _|⟨y,D⟩
   ·rfl
   obtain⟨b,z,h,_⟩:=r.out qS;cases h
  go_enter func145,ntmps145
  go_wp2
  go_ret
  rw[x.out]
  exact⟨none,0,rfl,Buf.nil,Fr.refl _ _,fun b d=>by obtain⟨a,ha,_⟩:=d;cases ha⟩
 | some ad =>
  go_enter func145,ntmps145
  go_wp2_with (
   at_builtin
   refine wX rfl _ _ _ rfl _ .u64 8 underlying107 eE (some ⟨w.heap.size,0,none⟩) (some ad) 0 n 0 c rfl rfl [] xs rfl s.out ?_ (r.out.alloc _) (by simp only[maxLen];omega) qO ?_
   ·exact Or.inr ⟨_,rfl,Own.new w _ _ [] [],⟨#[],heap_alloc_new w _,rfl⟩,uF _,by simp only[maxLen];omega⟩
   intro B e E f g j
   have k:=zh f
   have l:=zh g
   have o:=zh j
   clear f g j)
  go_ret
  refine⟨B,e,?_,by simpa using k.out,?_,?_⟩
  ·rw[s.out];simp
  ·refine ((Fr.refl (fun _=>False) w).alloc _).next l.out fun i hi d=>?_
   obtain⟨a,ha,d⟩:=d
   injection ha with ha
   subst ha
   simp at d;omega
  intro b d
  rcases o.out b d with ⟨a,ha,h⟩|h
  ·injection ha with ha;subst ha;simp at h;omega
  simp at h;omega
theorem ZfO (A:qA)(xs:qN)(c:Nat)(w:World)(f:zE .u64 w A xs)(g:xs.length≤4294967296)(d:0<xs.length) :
 yA 145 #[.slice A xs.length c] w (fun i w'=>∃ b c,i=.returned (.slice (some ⟨b,0,none⟩) xs.length c)∧w.heap.size≤b∧xs.length≤c∧Ext w w'∧Own .u64 141 w' b xs):=by
 refine (ZlP A xs xs.length c w rfl f g).mono ?_
 rintro e w' ⟨p,a,rfl,j,Q,k⟩
 rcases j with ⟨_,h,_⟩|⟨b,rfl,l,_,o,_⟩
 ·rw[h] at d;simp at d
 exact⟨b,a,rfl,k b ⟨_,rfl,rfl⟩,o,Q,l⟩
/-! ### compare,of numbers -/
/-! ### the long division -/
def OvR (N V n L k:Nat) (zs qs:List Nat):Prop:=zs.length=n∧Dig W64 zs∧qs.length=L∧Dig W64 qs∧val W64 zs+V*(W64^k*val W64 (qs.drop k))=N∧val W64 zs<V*W64^k
theorem OvR.start {N V n L:Nat}{zs:qN}(c:zs.length=n)(d:Dig W64 zs)(b:val W64 zs=N)(a:N<V*W64^L):OvR N V n L L zs (List.replicate L 0) :=
 ⟨c,d,qS,Dig.replicate zM _,by rw[vE qS];simpa using b,by rw[b];exact a⟩
theorem Zo8 {o n:Nat}{zs:qN}(c:o+n+1≤zs.length)(h:val W64 zs<W64^(o+n+1)):val W64 zs=val W64 (zs.take o)+W64^o*win o n zs∧val W64 (zs.drop (o+n+1))=0:=by
 have a:=xP (B:=W64) (xs:=zs) (o+n+1)
 rw[uT c] at a
 have b:val W64 (zs.drop (o+n+1))=0:=by
  refine Nat.eq_zero_of_not_pos fun d=>?_
  have:=uI (W64^(o+n+1)) d
  omega
 rw[b,tT,tG,aK qO] at a
 exact⟨a,b⟩
theorem OvR.ready {N V n L j m:Nat}{zs a:qN}(h:OvR N V n L (j+1) zs a)(b:V<W64^m)(i:j+m+1≤n):val W64 zs=val W64 (zs.take j)+W64^j*win j m zs∧val W64 (zs.drop (j+m+1))=0∧win j m zs<W64*V:=by
 obtain⟨k,l,o,p,q,c⟩:=h
 have d:val W64 zs<W64^(j+m+1):=by
  refine uS c ?_
  rw[show j+m+1=m+(j+1) by omega,uQ W64 m]
  exact uE _ (qU b)
 obtain⟨f,g⟩:=Zo8 qO d
 refine⟨f,g,?_⟩
 have:W64^j*win j m zs<W64^j*(W64*V):=by
  have e:V*W64^(j+1)=W64^j*(W64*V):=by rw[uN,uH V,uG]
  omega
 exact sK this
theorem OvR.step {N V n L j m:Nat}{zs b a:qN}(h:OvR N V n L (j+1) zs b)(f:V<W64^m)(c:0<V)(g:j+m+1≤n)(i:j<L)(k:WinR j m zs a)(l:win j m a=win j m zs%V) :
 OvR N V n L j a (b.set j (win j m zs/V)):=by
 obtain⟨H,o,p⟩:=h.ready f g
 obtain⟨q,r,s,t,x,I⟩:=h
 obtain⟨y,z,A,C⟩:=k
 have D:win j m zs/V<W64:=by rw[vO c];exact p
 have d:=xP (B:=W64) (xs:=a) (j+m+1)
 rw[C,o,tT,tG,aK qO,A,l] at d
 have e:=vX (win j m zs) V
 have J:W64^j*win j m zs=V*(W64^j*(win j m zs/V))+W64^j*(win j m zs%V):=by
  conv=>lhs;rw[←e]
  rw[uK,tF]
 refine⟨y.trans q,z,by simpa using s,t.set j D,?_,?_⟩
 ·have E:(b.set j (win j m zs/V))[j]?.getD 0=win j m zs/V:=by rw[tU qO];rfl
  rw[xQ j (by simp;omega),E,tJ qO,d]
  rw[uN] at x
  have K:V*(W64^j*(win j m zs/V+W64*val W64 (b.drop (j+1))))=V*(W64^j*(win j m zs/V))+V*(W64^j*W64*val W64 (b.drop (j+1))):=by
   rw[uK (W64^j),uK V,uG (W64^j)]
  omega
 rw[d]
 have F:=xW (r.take j)
 rw[uL,uT qO] at F
 have G:=uI (W64^j) (uM (win j m zs) c)
 rw[Nat.mul_succ] at G
 rw[uH V]
 omega
theorem OvR.done {N V n L:Nat}{zs b:qN}(h:OvR N V n L 0 zs b)(d:0<V):val W64 b=N/V∧val W64 zs=N%V:=by
 obtain⟨e,f,g,i,c,a⟩:=h
 rw[tC,sB] at a
 rw[tC,rZ,tX] at c
 rw[←c]
 rw[Nat.add_mul_div_left _ _ d,tK a,sR,vH a]
 exact⟨qO,rfl⟩
theorem ZrT {ys:qN}{k t:Nat}(d:Dig W64 ys)(e:ys.length=k+1)(f:Trim ys)(a:ys[k]?.getD 0=t):wl (val W64 ys*2^(64-blen t))=ys.length:=by
 have g:0<t:=rA (by rw[←a];exact f k e)
 have i:=Zev d e f a
 have b:t<2^64:=by have:=a ▸ d.getD zM k;rw[zO] at this;exact this
 have j:=wZ.2 b
 have c:0<val W64 ys:=by have:=zU (B:=W64) k (show k<ys.length by omega);rw[uC qO,a] at this;have:=uI (W64^k) g;have:=uU (n:=k) zM;omega
 have l:blen (val W64 ys*2^(64-blen t))=64*(k+1):=by rw[Zaq c,i];omega
 have o:wl (val W64 ys*2^(64-blen t))≤k+1:=kN.2 (by rw[dQ];exact wZ.1 qO)
 have p:¬ wl (val W64 ys*2^(64-blen t))≤k:=fun h=>by
  have:=kN.1 h
  rw[dQ] at this
  have:=wZ.2 this
  omega
 omega
theorem ZsG {xs ys:qN}{s:Nat}(a:Dig W64 xs)(b:Trim ys)(g:0<ys.length)(h:ys.length≤xs.length):val W64 xs*2^s<val W64 ys*2^s*W64^(xs.length-ys.length+1):=by
 obtain⟨k,c⟩:∃ k,ys.length=k+1:=⟨ys.length-1,qO⟩
 have d:=xW a
 have e:=Zdd (B:=W64) b c
 have f:W64^xs.length≤val W64 ys*W64^(xs.length-ys.length+1):=by
  rw[show xs.length=k+(xs.length-ys.length+1) by omega,uQ]
  rw[show k+(xs.length-ys.length+1)-ys.length+1=xs.length-ys.length+1 by omega]
  exact uE _ e
 rw[Nat.mul_right_comm]
 exact (pE (p2 s)).2 (uS d f)
theorem Zo9 {ws:qN}{n:Nat}(b:Dig W64 ws)(c:ws.length≤n):let a:=ws.take n ++ (List.replicate n 0).drop ws.length;a.length=n∧Dig W64 a∧val W64 a=val W64 ws:=by
 intro a
 have e:a=ws ++ List.replicate (n-ws.length) 0:=by show ws.take n ++ (List.replicate n 0).drop ws.length=_;rw[uC c,List.drop_replicate]
 rw[e]
 exact⟨by simp;omega,b.append (Dig.replicate zM _),by rw[kI,kO];simp⟩
theorem ZrU {xs:qN}{s:Nat}(a:Dig W64 xs)(b:s≤64):wl (val W64 xs*2^s)≤xs.length+1:=kN.2 (by
 have c:=xW a
 rw[uN]
 have d:2^s≤W64:=by rw[zO];exact uW (n:=2) qD b
 exact uS ((pE (p2 s)).2 c) (uI _ d))
theorem ZrV {x y s:Nat}:x*2^s%(y*2^s)/2^s=x%y:=by rw[sY,qZ _ (p2 s)]
theorem ZrW {x y s:Nat}:x*2^s/(y*2^s)=x/y:=qE _ _ (p2 s)
theorem Zby {b n c v:Nat}{xs:qN}{w:World}(a:Own .u64 141 w b xs)(f:Dig W64 xs)(g:xs.length=n)(h:val W64 xs=v)(i:n≤1099511627776)(d:n≤c):yA 144 #[.slice (some ⟨b,0,none⟩) n c] w (lB w v):=by
 subst g h
 refine (Zdx _ xs _ w a.shows0 i d).mono ?_
 rintro e w' ⟨rfl,Q⟩
 exact⟨_,rfl,(zF.of_own a f d).ext Q,Q⟩
theorem ZqJ {ys:qN}{y:Nat}(h:ys.length=1)(e:ys[0]?.getD 0=y):val W64 ys=y:=by
 obtain⟨z,rfl⟩:=oS.1 h
 simp at e
 simp[e]
theorem Blk.own1 {w:World}{b r:Nat}(h:Blk 141 w b #[.int .u64 ((r:Nat):Int)]):Own .u64 141 w b [r]:=⟨[],qS,h⟩
/-! ### of numbers -/
section
variable {u v:Value} {m n:Nat} {w:World}
theorem jP (f:zF w u m)(g:zF w v n)(a:wl m≤4294967296)(b:wl n≤4294967296):yA 135 #[u,v] w (lB w (m+n)):=by
 obtain⟨A,h,c,rfl,s,i,d,j,rfl⟩:=f
 obtain⟨k,l,o,rfl,p,q,e,r,rfl⟩:=g
 rw[←xO d j] at a
 rw[←xO e r] at b
 exact Zna A k h l c o w i q a b d e
theorem ZaC (g:zF w u m)(h:zF w v n)(d:wl m≤4294967296)(a:n≤m):yA 137 #[u,v] w (lB w (m-n)):=by
 obtain⟨A,i,c,rfl,t,j,e,k,rfl⟩:=g
 obtain⟨l,o,p,rfl,q,r,f,s,rfl⟩:=h
 have b:=wR a
 rw[←xO e k] at d b
 rw[←xO f s] at b
 exact ZlG A l i o c p w j r d qO e f b a
theorem ZcF (f:zF w u m)(g:zF w v n)(a:wl m≤4294967296)(b:wl n≤4294967296):yA 143 #[u,v] w (lB w (m*n)):=by
 obtain⟨A,h,c,rfl,s,i,d,j,rfl⟩:=f
 obtain⟨k,l,o,rfl,p,q,e,r,rfl⟩:=g
 rw[←xO d j] at a
 rw[←xO e r] at b
 exact ZlH A k h l c o w i q a b d e
theorem jL (k:Nat)(b:zF w u m)(d:wl m≤4294967296)(f:k≤274877906944):yA 101 #[u,.int .i64 ((k:Nat):Int)] w (lB w (m*2^k)):=by
 have a:=b
 obtain⟨A,g,c,rfl,j,h,e,i,rfl⟩:=b
 rw[←xO e i] at d
 exact Zqv A g c k w a h d e f
theorem gC (k:Nat)(b:zF w u m)(d:wl m≤4294967296)(f:k≤274877906944):yA 140 #[u,.int .i64 ((k:Nat):Int)] w (lB w (m/2^k)):=by
 have a:=b
 obtain⟨A,g,c,rfl,j,h,e,i,rfl⟩:=b
 rw[←xO e i] at d
 exact Znb A g c k w a h d e f
theorem kT (e:zF w u m)(a:wl m≤4294967296):yA 139 #[u] w (RetV w (.int .i64 ((blen m:Nat):Int))):=by
 obtain⟨A,f,c,rfl,h,g,b,d,rfl⟩:=e
 rw[←xO b d] at a
 exact ZjX A f c w g a b d
theorem ZaD (d:Glob w)(e:zF w u m)(a:wl m≤4294967296)(f:0<m):yA 171 #[u] w (RetV w (.int .i64 ((tzn m:Nat):Int))):=by
 obtain⟨A,g,c,rfl,j,h,b,i,rfl⟩:=e
 rw[←xO b i] at a
 exact ZlO A g c w h a b d f
theorem aL (i:Nat)(a:zF w u m)(hi:i≤274877906944):yA 170 #[u,.int .i64 ((i:Nat):Int)] w (RetV w (.bool (decide (m/2^i%2=1)))):=by
 obtain⟨A,b,c,rfl,f,d,e,g,rfl⟩:=a
 exact Zo6 A b c w d e i hi
theorem fR (e:zF w u m)(f:zF w v n)(a:wl m≤4294967296):yA 136 #[u,v] w (RetV w (.int .i64 (cmpI ((m:Nat):Int) ((n:Nat):Int)))):=by
 obtain⟨A,g,c,rfl,r,h,b,d,rfl⟩:=e
 obtain⟨i,j,k,rfl,l,o,p,q,rfl⟩:=f
 rw[←xO b d] at a
 exact ZiI A i g j c k w h o a b p d q
end
theorem Zno (A f:qA)(xs ys:qN)(c c2:Nat)(w:World)(hX:zE .u64 w A xs)(hY:zE .u64 w f ys)(hl:xs.length≤4294967295)(D0:ys.length≤4294967296)(hx:Dig W64 xs)(hy:Dig W64 ys)(hN:zF w (.slice A xs.length c) (val W64 xs))(hM:zF w (.slice f ys.length c2) (val W64 ys))(tx:Trim xs)(ty:Trim ys)(e0:0<val W64 ys) :
 yA 158 #[.slice A xs.length c,.slice f ys.length c2] w (Zb4 w (val W64 xs/val W64 ys) (val W64 xs%val W64 ys)):=by
 have hw:wl (val W64 xs)≤4294967296:=by rw[←xO hx tx];omega
 have E0:wl (val W64 ys)≤4294967296:=by rw[←xO hy ty];exact D0
 refine zT (Φ:=fun w=>(((zF w (.slice A xs.length c) (val W64 xs)∧zE .u64 w A xs)∧zF w (.slice f ys.length c2) (val W64 ys))∧zE .u64 w f ys)) func158 rfl qK (fun w' hf=>⟨⟨⟨hN.ext hf,hX.ext hf⟩,hM.ext hf⟩,hY.ext hf⟩) ?_
 refine yY (xq 2 [eS1 4 none 0 0,eS1 5 none 0 0] [] ?_)
 refine yZ (zC (yY (xq 2 [eS1 13 A xs.length c,eS1 14 f ys.length c2] [] ?_)))
 refine xqc 136 [.slice A xs.length c,.slice f ys.length c2] 15 (fun _:Unit=>yI (cmpI ((val W64 xs:Nat):Int) ((val W64 ys:Nat):Int))) _ (fun w R Q=>yN (fR Q.1.1.1 Q.1.2 hw)) fun xx=>?_
 refine xq 1 [(16,.v (.bool (decide ((cmpI ((val W64 xs:Nat):Int) ((val W64 ys:Nat):Int))<0))))] [] ?_
 refine xe (zA ?_)
 refine yQ ((decide ((cmpI ((val W64 xs:Nat):Int) ((val W64 ys:Nat):Int))<0))) (fun F=>?_) fun F=>?_
 ·have O:=fH.1 (uA F)
  refine yY (xq 3 [eS1 4 none 0 0,eS1 5 A xs.length c] [] ?_)
  refine yZ (zG (zH ?_))
  refine yR (.tuple #[.slice none 0 0,.slice A xs.length c]) fun w' R Q=>?_
  exact⟨_,_,rfl,by rw[tK O];exact zF.zero _,by rw[vH O];exact Q.1.1.1.1,R⟩
 have F0:val W64 ys≤val W64 xs:=Nat.le_of_not_lt (fun h'=>uB F (fH.2 h'))
 have M0:ys.length≤xs.length:=by have:=wR F0;rwa [←xO hy ty,← xO hx tx] at this
 have N0:0<ys.length:=rX.2 (fun e=>by rw[e] at e0;simp at e0)
 refine zJ (zA (zC (yY (xq 3 [yB 20 ((((ys.length:Nat):Int):Int) == 1)] [] ?_))))
 refine xe (zA ?_)
 refine yQ (((((ys.length:Nat):Int):Int) == 1)) (fun G=>?_) fun G=>?_
 ·have U:=tV.1 G
  refine yY (xq 1 [eS1 21 A xs.length c] [] ?_)
  refine ZoL 145 [.slice A xs.length c] (d:=22) (k:=.u64) (e:=141) xs (fun w R Q=>ZfO A xs c w Q.1.1.1.2 qO qO) fun q cc f0 K0 _=>?_
  refine xr 1 [eS1 0 A xs.length c,eS1 1 f ys.length c2,eS1 4 none 0 0,eS1 5 none 0 0,eS1 6 (yL q) xs.length cc] [] ?_
  refine yZ (yY (xq 2 [eS1 23 (yL q) xs.length cc,eS1 24 f ys.length c2] [] ?_))
  refine xqk 25 (atA f 0) (fun w R Q=>wE (t:=107) (e:=141) (x:=.tmp 24) (ix:=(Operand.const (Value.int IntKind.i64 0))) (len:=ys.length) (cap:=c2) (i:=0) (((Q.1).self.1.2).ne (j:=0) qO) qO) ?_
  obtain⟨r,C⟩:=yE (ys[0]?.getD 0)
  refine xqk 26 (yX (r:Int)) (fun w R Q=>by rw[←C];exact wP (t:=141) (x:=.tmp 25) ((Q.1).self.1.2) (j:=0) qO) ?_
  have g0:=ZqJ qO C
  refine ZcB (xs:=xs) (α:=List Nat) 146 [.slice (yL q) xs.length cc, yX (r:Int)] (d:=27) (fun x=>yX ((val W64 xs%r:Nat):Int)) (fun x=>x.length=xs.length∧Dig W64 x∧val W64 x=val W64 xs/r) (fun x=>x) q (fun x w=>(Box (fun j=>q≤j) w (fun w=>((((zF w (.slice A xs.length c) (val W64 xs)∧zE .u64 w A (xs))∧zF w (.slice f ys.length c2) (val W64 ys))∧zE .u64 w f (ys))∧True))∧Own .u64 141 w q (x))) (fun w Q=>Q.2) qO (Or.inl f0) (fun w R Q=>Zbx q _ _ _ _ Q.2 qO hx qO (by rw[←C];exact hy.getD zM _)) (fun x w w' hp Q M V=>⟨((Q.1).fr (M.mono (fun _ _ e=>by rw[e];exact uF _))),V⟩) fun x H=>?_
  obtain⟨L0,rfl⟩:∃ y,y=x:=⟨_,rfl⟩
  refine xr 1 [eS1 0 A xs.length c,eS1 1 f ys.length c2,eS1 4 none 0 0,eS1 5 none 0 0,eS1 6 (yL q) xs.length cc,yU 7 ((val W64 xs%r:Nat):Int)] [] ?_
  refine yZ (yY (xq 1 [eS1 28 (yL q) xs.length cc] [] ?_))
  refine xqc 144 [.slice (yL q) xs.length cc] 29 xH _ (fun w R Q=>yM xD (Zby Q.2 H.2.1 H.1 H.2.2 qO qO)) fun⟨W,X,Y⟩=>?_
  refine xq 1 [yU 30 ((val W64 xs%r:Nat):Int)] [] ?_
  refine yD (d:=31) (fun zb:Nat=>.slice (yL zb) 1 1) (fun zb zw=>Blk 141 zw zb #[yX ((val W64 xs%r:Nat):Int)]) (fun w R Q=>kC (t:=107) (e:=141) (n:=1) (sz:=1) (z:=yX 0) (parts:=#[(0,Operand.tmp 30)]) qK qK qK qK qK qK) fun h0=>?_
  refine xr 0 [eS1 0 A xs.length c,eS1 1 f ys.length c2,eS1 4 none 0 0,eS1 5 none 0 0,eS1 29 W X Y,eS1 31 (yL h0) 1 1] [] ?_
  refine xqc 144 [.slice (yL h0) 1 1] 32 xH _ (fun w R Q=>yM xD (Zby (Q.2).own1 (Dig.nil.cons (qJ (uM _ qO) (by rw[←C];exact hy.getD zM _))) (show [val W64 xs%r].length=1 from rfl) (show val W64 [val W64 xs%r]=val W64 xs%r by simp) qO qO)) fun⟨i0,j0,k0⟩=>?_
  refine xq 2 [eS1 4 W X Y,eS1 5 i0 j0 k0] [] ?_
  refine yZ (zG (zH ?_))
  refine yR (.tuple #[.slice W X Y,.slice i0 j0 k0]) fun w' R Q=>?_
  exact⟨_,_,rfl,by rw[g0];exact Q.1.1.2,by rw[g0];exact Q.2,R⟩
 have U:=lG G
 refine zJ (zA (yY (xq 4 [eS1 33 f ys.length c2,yJ 36 (IntKind.i64.wrap (((ys.length:Nat):Int)-1))] [] ?_)))
 rw[yW (((ys.length:Nat):Int)-1) (((ys.length-1:Nat):Int)) qO]
 refine xqk 37 (atA f (ys.length-1)) (fun w R Q=>wE (t:=107) (e:=141) (x:=.tmp 33) (ix:=.tmp 36) (len:=ys.length) (cap:=c2) (i:=ys.length-1) ((Q.1.2).ne (j:=ys.length-1) qO) qO) ?_
 obtain⟨l0,I⟩:=yE (ys[ys.length-1]?.getD 0)
 refine xqk 38 (yX (l0:Int)) (fun w R Q=>by rw[←I];exact wP (t:=141) (x:=.tmp 37) (Q.1.2) (j:=ys.length-1) qO) ?_
 obtain⟨t,rfl⟩:∃ t,t=l0:=⟨_,rfl⟩
 refine xqc 194 [yX (t:Int)] 39 (fun _:Unit=>yI ((64-blen t:Nat):Int)) _ (fun w R Q=>yN (ZlN t _ (by rw[←I];exact hy.getD zM _))) fun xx=>?_
 refine xq 1 [yJ 8 ((64-blen t:Nat):Int)] [] ?_
 refine yZ (yY (xq 2 [eS1 40 f ys.length c2,yJ 41 ((64-blen t:Nat):Int)] [] ?_))
 refine xqc 101 [.slice f ys.length c2, yI ((64-blen t:Nat):Int)] 42 xH _ (fun w R Q=>yM xD (jL (64-blen t) Q.1.1.1.2 E0 qO)) fun⟨g,m0,o⟩=>?_
 refine xq 1 [eS1 9 g m0 o] [] ?_
 refine yZ (zC ?_)
 refine SXc.know (p:=m0=(wds (val W64 ys*2^(64-blen t))).length∧(wds (val W64 ys*2^(64-blen t))).length≤o) (fun w _ Q=>(Q.2).lens) fun N=>?_
 obtain⟨dd,B⟩:∃ dd,dd=wds (val W64 ys*2^(64-blen t)):=⟨_,rfl⟩
 rw[←B] at N
 obtain⟨rfl,O0⟩:=N
 have Z:Dig W64 dd:=by rw[B];exact (eB _).1
 have n0:Trim dd:=by rw[B];exact ZeW _
 have a0:val W64 dd=val W64 ys*2^(64-blen t):=by rw[B];exact (eB _).2
 have b0:dd.length=ys.length:=by rw[B,ZkE];exact ZrT (k:=ys.length-1) hy qO ty I
 have J:0<val W64 dd:=bM n0 zM (fun e=>by rw[e] at b0;simp at b0;omega)
 have o0:=xW Z
 refine zB (xq 3 [yJ 45 (IntKind.i64.wrap (((xs.length:Nat):Int)+1))] [] ?_)
 rw[yW (((xs.length:Nat):Int)+1) (((xs.length+1:Nat):Int)) qO]
 refine Zbr (d:=46) (t:=107) (e:=141) (k:=.u64) (kl:=.i64) (kc:=.i64) (l:=.tmp 45) (c:=.tmp 45) (xs.length+1) 8 qO qD fun b P p0=>?_
 have hA:∀ a,g=some a→a.block≠b:=fun a ha=>Nat.ne_of_lt (p0 a.block (fun w Q=>(Q.2).shows.lt (by rw[←B,b0];omega) ha))
 refine xr 1 [eS1 0 A xs.length c,eS1 1 f ys.length c2,eS1 4 none 0 0,eS1 5 none 0 0,yJ 8 ((64-blen t:Nat):Int),eS1 9 g dd.length o,eS1 10 (yL b) (xs.length+1) (xs.length+1)] [] ?_
 refine yZ (yY (xq 3 [eS1 47 (yL b) (xs.length+1) (xs.length+1),eS1 48 A xs.length c,yJ 49 ((64-blen t:Nat):Int)] [] ?_))
 refine xqc 101 [.slice A xs.length c, yI ((64-blen t:Nat):Int)] 50 xH _ (fun w R Q=>yM xD (jL (64-blen t) (Q.1).self.1.1.1.1.1.1 hw qO)) fun⟨G0,q0,r0⟩=>?_
 refine SXi.know (p:=q0=(wds (val W64 xs*2^(64-blen t))).length∧(wds (val W64 xs*2^(64-blen t))).length≤r0) (fun w _ Q=>(Q.2).lens) fun N=>?_
 have S:=ZrU (s:=64-blen t) hx qO
 rw[←ZkE] at S
 obtain⟨s0,t0,c0⟩:=Zo9 (n:=xs.length+1) (eB (val W64 xs*2^(64-blen t))).1 S
 rw[(eB _).2] at c0
 obtain⟨zz,u0⟩:=yE ((wds (val W64 xs*2^(64-blen t))).take (xs.length+1) ++ (List.replicate (xs.length+1) 0).drop (wds (val W64 xs*2^(64-blen t))).length)
 rw[u0] at s0 t0 c0
 refine Zqs (d:=51) (dx:=Operand.tmp 47) (sx:=Operand.tmp 50) (dT:=107) (sT:=107) (e:=141) (k:=.u64) (sp:=G0) (mid:=List.replicate (xs.length+1) 0) (ys:=wds (val W64 xs*2^(64-blen t))) (n:=xs.length+1) (m:=q0) (dc:=xs.length+1) (sc:=r0) b (fun w=>((Box (fun j=>b≤j) w (fun w=>((((((zF w (.slice A xs.length c) (val W64 xs)∧zE .u64 w A (xs))∧zF w (.slice f ys.length c2) (val W64 ys))∧zE .u64 w f (ys))∧True)∧True)∧zF w (.slice g dd.length o) (val W64 ys*2^(64-blen t))))∧Own .u64 141 w b (zz))∧True)) qS N.1.symm qS (fun w Q=>Q.1.2) (fun w Q=>(Q.2).shows) (Or.inl P) (fun w w' Q M V=>⟨⟨((Q.1.1).fr (M.mono (fun _ _ e=>by rw[e];exact uF _))),(by rw[←u0];rwa [sI] at V)⟩,trivial⟩) ?_
 refine xr 0 [eS1 0 A xs.length c,eS1 1 f ys.length c2,eS1 4 none 0 0,eS1 5 none 0 0,yJ 8 ((64-blen t:Nat):Int),eS1 9 g dd.length o,eS1 10 (yL b) (xs.length+1) (xs.length+1)] [] ?_
 refine yZ (yY (xq 5 [yJ 56 (IntKind.i64.wrap (((xs.length:Nat):Int)-((ys.length:Nat):Int)))] [] ?_))
 rw[yW (((xs.length:Nat):Int)-((ys.length:Nat):Int)) (((xs.length-(ys.length):Nat):Int)) qO]
 refine xq 1 [(57,.v (yI (IntKind.i64.wrap (((xs.length-(ys.length):Nat):Int)+1))))] [] ?_
 rw[show IntKind.i64.wrap ((((xs.length-(ys.length):Nat):Int)+1))=((xs.length-(ys.length)+1:Nat):Int) by rw[IntKind.wrap_i64];omega]
 refine Zbr (d:=58) (t:=107) (e:=141) (k:=.u64) (kl:=.i64) (kc:=.i64) (l:=.tmp 57) (c:=.tmp 57) (xs.length-(ys.length)+1) 8 qO qD fun r22 v0 w0=>?_
 have P0:b<r22:=w0 b (fun w Q=>(Q.1.2).lt)
 refine xr 1 [eS1 1 f ys.length c2,eS1 4 none 0 0,eS1 5 none 0 0,yJ 8 ((64-blen t:Nat):Int),eS1 9 g dd.length o,eS1 10 (yL b) (xs.length+1) (xs.length+1),eS1 11 (yL r22) (xs.length-(ys.length)+1) (xs.length-(ys.length)+1)] [] ?_
 refine yZ (zC (yY (xq 3 [(61,.v (yI (IntKind.i64.wrap (((xs.length-(ys.length)+1:Nat):Int)-1))))] [] ?_)))
 rw[yW (((xs.length-ys.length+1:Nat):Int)-1) (((xs.length-ys.length+1:Nat):Int)-1) qO]
 refine xq 1 [yJ 12 (((xs.length-ys.length+1:Nat):Int)-1)] [] ?_
 refine yZ (zS ?_)
 refine SXc.weak [eS1 1 f ys.length c2,eS1 4 none 0 0,eS1 5 none 0 0,yJ 8 ((64-blen t:Nat):Int),eS1 9 g dd.length o,eS1 10 (yL b) (xs.length+1) (xs.length+1),eS1 11 (yL r22) (xs.length-(ys.length)+1) (xs.length-(ys.length)+1),yJ 12 ((((xs.length-ys.length+1):Nat):Int)-1)] [] (Ψ:=fun w=>((Box (fun j=>b≤j) w (fun w=>((((((zF w (.slice A xs.length c) (val W64 xs)∧zE .u64 w A (xs))∧zF w (.slice f ys.length c2) (val W64 ys))∧zE .u64 w f (ys))∧True)∧True)∧zF w (.slice g dd.length o) (val W64 ys*2^(64-blen t))))∧Own .u64 141 w b (zz))∧Own .u64 141 w r22 ((List.replicate (xs.length-(ys.length)+1) 0)))) (zY.of qK) qK (fun w Q=>⟨⟨(Q.1).self.1.1,(Q.1).self.1.2⟩,Q.2⟩) ?_
 refine xR (fun nn ss ff=>∃ (k:Nat) (D qs:List Nat),ss=ofL [eS1 1 f ys.length c2,eS1 4 none 0 0,eS1 5 none 0 0,yJ 8 ((64-blen t:Nat):Int),eS1 9 g dd.length o,eS1 10 (yL b) (xs.length+1) (xs.length+1),eS1 11 (yL r22) (xs.length-(ys.length)+1) (xs.length-(ys.length)+1),yJ 12 ((k:Int)-1)] []∧ff=(fun w=>((Box (fun j=>b≤j) w (fun w=>((((((zF w (.slice A xs.length c) (val W64 xs)∧zE .u64 w A (xs))∧zF w (.slice f ys.length c2) (val W64 ys))∧zE .u64 w f (ys))∧True)∧True)∧zF w (.slice g dd.length o) (val W64 ys*2^(64-blen t))))∧Own .u64 141 w b (D))∧Own .u64 141 w r22 (qs)))∧(OvR (val W64 xs*2^(64-blen t)) (val W64 dd) (xs.length+1) (xs.length-ys.length+1) k D qs)∧(k≤xs.length-ys.length+1)∧nn=(1+k)) ((1+(xs.length-ys.length+1))) ⟨(xs.length-ys.length+1),zz,(List.replicate (xs.length-(ys.length)+1) 0),rfl,rfl,(OvR.start s0 t0 c0 (by rw[a0];exact ZsG hx ty qO qO)),uF _,rfl⟩ ?_
 rintro nn ss ff ⟨k,D,qs,rfl,rfl,E,hk,rfl⟩
 refine zC (yY (xq 2 [(63,.v (.bool (decide (((k:Int)-1)≥0))))] [] ?_))
 refine xe (zA ?_)
 refine yQ ((decide (((k:Int)-1)≥0))) (fun K=>?_) fun K=>?_
 ·have d0:=uA K
  obtain⟨j,rfl⟩:∃ j,k=j+1:=⟨k-1,qO⟩
  rw[show ((((j+1):Nat):Int)-1)=(j:Int) by omega]
  refine zJ (zA (zC (zS (zB (xq 8 [eS1 66 (yL r22) (xs.length-(ys.length)+1) (xs.length-(ys.length)+1),yJ 67 (j:Int),eS1 68 (yL b) (xs.length+1) (xs.length+1),yJ 69 (j:Int),yJ 73 (IntKind.i64.wrap ((j:Int)+((ys.length:Nat):Int)))] [] ?_)))))
  rw[yW ((j:Int)+((ys.length:Nat):Int)) (((j+(ys.length):Nat):Int)) qO]
  refine xq 1 [(74,.v (yI (IntKind.i64.wrap (((j+(ys.length):Nat):Int)+1))))] [] ?_
  rw[show IntKind.i64.wrap ((((j+(ys.length):Nat):Int)+1))=((j+(ys.length)+1:Nat):Int) by rw[IntKind.wrap_i64];omega]
  refine xqk 75 (.slice (some ⟨b,j,none⟩) (dd.length+1) (xs.length+1-j)) (fun w R Q=>ZoN (t:=107) (e:=141) (x:=.tmp 68) (len:=(xs.length+1)) (cap:=(xs.length+1)) (l:=j) (h:=j+(ys.length)+1) (n:=dd.length+1) (m:=xs.length+1-j) (lo:=.tmp 69) (hi:=.tmp 74) qO qO qO qO qO) ?_
  refine xq 1 [eS1 76 g dd.length o] [] ?_
  refine ZcB (xs:=D) (α:=List Nat) 195 [.slice (some ⟨b,j,none⟩) (dd.length+1) (xs.length+1-j),.slice g dd.length o] (d:=77) (fun x=>yX ((win j dd.length D/val W64 dd:Nat):Int)) (fun x=>WinR j dd.length D x∧win j dd.length x=win j dd.length D%val W64 dd) (fun x=>x) b (fun x w=>((Box (fun j=>b≤j) w (fun w=>((((((zF w (.slice A xs.length c) (val W64 xs)∧zE .u64 w A (xs))∧zF w (.slice f ys.length c2) (val W64 ys))∧zE .u64 w f (ys))∧True)∧True)∧zF w (.slice g dd.length o) (val W64 ys*2^(64-blen t))))∧Own .u64 141 w b (x))∧Own .u64 141 w r22 (qs))) (fun w Q=>Q.1.2) (by have:=E.1;omega) (Or.inl P) (fun w R Q=>ZfN b _ j D dd _ _ _ Q.1.2 (by rw[B];exact ((Q.1.1).self.2).shows) hA (by rw[E.1];omega) (by rw[E.1];omega) E.2.1 Z qO J (E.ready o0 qO).2.2) (fun x w w' hp Q M V=>⟨⟨((Q.1.1).fr (M.mono (fun _ _ e=>by rw[e];exact uF _))),V⟩,((Q.2).fr M (show ¬ (r22=b) by omega))⟩) fun x T=>?_
  obtain⟨L,rfl⟩:∃ y,y=x:=⟨_,rfl⟩
  have HS:=E.step o0 J qO qO T.1 T.2
  have Q0:=E.2.2.1
  refine xr 0 [eS1 1 f ys.length c2,eS1 4 none 0 0,eS1 5 none 0 0,yJ 8 ((64-blen t:Nat):Int),eS1 9 g dd.length o,eS1 10 (yL b) (xs.length+1) (xs.length+1),eS1 11 (yL r22) (xs.length-(ys.length)+1) (xs.length-(ys.length)+1),yJ 12 (j:Int),eS1 66 (yL r22) (xs.length-(ys.length)+1) (xs.length-(ys.length)+1),yJ 67 (j:Int),yU 77 ((win j dd.length D/val W64 dd:Nat):Int)] [] ?_
  refine xqk 78 (.pointer (some ⟨r22,j,none⟩)) (fun w R Q=>lS (t:=107) (e:=141) (x:=.tmp 66) (ix:=.tmp 67) (len:=(xs.length-(ys.length)+1)) (cap:=(xs.length-(ys.length)+1)) (i:=j) qO) ?_
  refine jE (t:=141) (x:=.tmp 78) (y:=.tmp 77) r22 (j) (win j dd.length D/val W64 dd) (fun w=>((Box (fun j=>b≤j) w (fun w=>((((((zF w (.slice A xs.length c) (val W64 xs)∧zE .u64 w A (xs))∧zF w (.slice f ys.length c2) (val W64 ys))∧zE .u64 w f (ys))∧True)∧True)∧zF w (.slice g dd.length o) (val W64 ys*2^(64-blen t))))∧Own .u64 141 w b (L))∧Own .u64 141 w r22 ((qs).set (j) (win j dd.length D/val W64 dd)))) (fun w Q=>Q.2) qO (Or.inl v0) (fun w w' Q M V=>⟨⟨((Q.1.1).fr (M.mono (fun _ _ e=>by rw[e];omega))),((Q.1.2).fr M (show ¬ (b=r22) by omega))⟩,V⟩) ?_
  refine xe (xS (zA (zB (xq 2 [yJ 65 (IntKind.i64.wrap ((j:Int)-1))] [] ?_))))
  rw[yW ((j:Int)-1) ((j:Int)-1) qO]
  refine xq 1 [yJ 12 ((j:Int)-1)] [] ?_
  refine xe ?_
  refine SXq.weak [eS1 1 f ys.length c2,eS1 4 none 0 0,eS1 5 none 0 0,yJ 8 ((64-blen t:Nat):Int),eS1 9 g dd.length o,eS1 10 (yL b) (xs.length+1) (xs.length+1),eS1 11 (yL r22) (xs.length-(ys.length)+1) (xs.length-(ys.length)+1),yJ 12 ((j:Int)-1)] [] (Ψ:=fun w=>((Box (fun j=>b≤j) w (fun w=>((((((zF w (.slice A xs.length c) (val W64 xs)∧zE .u64 w A (xs))∧zF w (.slice f ys.length c2) (val W64 ys))∧zE .u64 w f (ys))∧True)∧True)∧zF w (.slice g dd.length o) (val W64 ys*2^(64-blen t))))∧Own .u64 141 w b (L))∧Own .u64 141 w r22 (((qs).set (j) (win j dd.length D/val W64 dd))))) (zY.of qK) qK (fun w Q=>⟨⟨Q.1.1,Q.1.2⟩,Q.2⟩) ?_
  exact xI ((1+j)) qO ⟨j,L,((qs).set (j) (win j dd.length D/val W64 dd)),rfl,rfl,HS,qO,rfl⟩
 have d0:=uB K
 obtain rfl:k=0:=qO
 refine xN (zK (zK (xV (zA (yY (xq 1 [eS1 79 (yL r22) (xs.length-(ys.length)+1) (xs.length-(ys.length)+1)] [] ?_))))))
 refine xqc 144 [.slice (yL r22) (xs.length-(ys.length)+1) (xs.length-(ys.length)+1)] 80 xH _ (fun w R Q=>yM xD (Zby Q.2 E.2.2.2.1 E.2.2.1 ((E.done J).1.trans (by rw[a0,ZrW])) qO qO)) fun⟨x0,y0,z0⟩=>?_
 refine xq 1 [eS1 81 (yL b) (xs.length+1) (xs.length+1)] [] ?_
 refine xqc 144 [.slice (yL b) (xs.length+1) (xs.length+1)] 82 xH _ (fun w R Q=>yM xD (Zby Q.1.1.2 E.2.1 E.1 (E.done J).2 qO qO)) fun⟨H0,I0,J0⟩=>?_
 refine xq 1 [yJ 83 ((64-blen t:Nat):Int)] [] ?_
 refine xqc 140 [.slice H0 I0 J0, yI ((64-blen t:Nat):Int)] 84 xH _ (fun w R Q=>(gC (64-blen t) Q.2 (uD (wR (qU (uM _ J))) (by rw[←xO Z n0];omega)) qO).mono (fun _ _ h=>xD (by rw[show (val W64 xs*2^(64-blen t)%val W64 dd)/2^(64-blen t)=val W64 xs%val W64 ys by rw[a0,ZrV]] at h;exact h))) fun⟨A0,B0,C0⟩=>?_
 refine xq 2 [eS1 4 x0 y0 z0,eS1 5 A0 B0 C0] [] ?_
 refine yZ (zG ?_)
 refine yR (.tuple #[.slice x0 y0 z0,.slice A0 B0 C0]) fun w' R Q=>?_
 exact⟨_,_,rfl,Q.1.1.2,Q.2,R⟩
end Go.Proofs.YtenchljfmfgeoaaGreatDoor
namespace Go.Proofs.YtenchljfmfgeoaaGreatDoor
def isq (n:Nat):Nat:=if h:n=0 then 0 else let r:=2*isq (n/4);if (r+1)*(r+1)≤n then r+1 else r
termination_by n
decreasing_by omega
theorem cU:∀ n,isq n*isq n≤n∧n<(isq n+1)*(isq n+1):=by
 intro n
 induction n using Nat.strongRecOn with
 | ind n ih =>
  by_cases h:n=0
  ·subst h;rw[isq];simp
  obtain⟨d,e⟩:=ih (n/4) qO
  rw[isq,dif_neg h]
  generalize isq (n/4)=r at *
  simp only
  have b:2*r*(2*r)=4*(r*r):=by rw[qP]
  have c:(2*r+1+1)*(2*r+1+1)=4*((r+1)*(r+1)):=by
   rw[show 2*r+1+1=2*(r+1) by omega,qP]
  split
  ·rename_i a
   refine⟨a,?_⟩
   rw[c];omega
  rename_i a
  refine⟨?_,qO⟩
  rw[b];omega
theorem ZfP {n r:Nat}(a:r*r≤n)(b:n<(r+1)*(r+1)):isq n=r:=by
 obtain⟨c,d⟩:=cU n
 rcases pV (isq n) r with h|h|h
 ·have:=vY (show isq n+1≤r by omega) (show isq n+1≤r by omega);omega
 ·exact h
 have:=vY (show r+1≤isq n by omega) (show r+1≤isq n by omega);omega
theorem pow4 (j:Nat):2^(2*j)=2^j*2^j:=by rw[←uQ];congr 1;omega
theorem ZkF (n j:Nat):isq (n/2^(2*j))=isq n/2^j:=by
 obtain⟨a,b⟩:=cU n
 generalize isq n=r at *
 have c:=vX r (2^j)
 have d:=uM r (p2 j)
 refine ZfP ?_ ?_
 ·rw[pC (p2 _),pow4,qP]
  have:r/2^j*2^j≤r:=pI _ _
  exact uD (vY this this) a
 rw[vO (p2 _),pow4,qP]
 have:r+1≤(r/2^j+1)*2^j:=by rw[uX,rZ,uH];omega
 exact uS b (vY this this)
theorem Zpa {n b:Nat}(d:2*b+2≤blen n)(c:blen n≤2*b+3):b+1≤blen (isq n)∧blen (isq n)≤b+2:=by
 obtain⟨e,f⟩:=cU n
 have l:=gU.1 (show 2*b+1<blen n by omega)
 have u:=wZ.1 c
 generalize isq n=r at *
 have g:b<blen r:=by
  refine qI fun h=>?_
  have:=wZ.1 h
  have a:=vY (show r+1≤2^b by omega) (show r+1≤2^b by omega)
  rw[←pow4] at a
  have:2^(2*b)≤2^(2*b+1):=uW qD qO
  omega
 refine⟨qO,wZ.2 (qI fun h=>?_)⟩
 have a:=vY h h
 rw[←pow4] at a
 have:2^(2*b+3)≤2^(2*(b+2)):=uW qD qO
 omega
theorem Znp (q j:Nat)(m:Bool):fB q j m=fB (q/2^j) 0 (decide (q%2^j≠0∨m=true)):=by
 unfold fB
 simp only[tC,rR,Nat.mod_one,vW,Nat.pow_one,ne_eq,not_true_eq_false,false_or,vR]
 rw[tY,← uN]
 have e:(¬ q%2^j=0∨q/2^(j+1)%2=1∨m=true)↔(q/2^(j+1)%2=1∨¬ q%2^j=0∨m=true):=by
  constructor
  ·rintro (h|h|h);exact Or.inr (Or.inl h);exact Or.inl h;exact Or.inr (Or.inr h)
  rintro (h|h|h);exact Or.inr (Or.inl h);exact Or.inl h;exact Or.inr (Or.inr h)
 simp only[oM,e]
def iQ (M:Nat) (s:Int):Bool:=decide (s<0∨isq (fq M 1 (-s))*isq (fq M 1 (-s))≠fq M 1 (-s))
theorem ZaM (M:Nat)(s:Nat):fq M 1 (-(s:Int))=M*2^s:=by
 unfold fq fa fb
 rw[show (- -(s:Int)).toNat=s by omega,show (-(s:Int)).toNat=0 by omega];simp
theorem ZlQ {M:Nat}(i:M%2=1)(s:Int)(j:Nat):iQ M (s-2*j)=decide (isq (fq M 1 (-s))%2^j≠0∨iQ M s=true):=by
 unfold iQ
 have k:fq M 1 (-(s-2*j))=fq M 1 (-s)/2^(2*j):=by rw[←Zar];congr 1;omega
 rw[k,ZkF]
 simp only[vR]
 rw[pL]
 constructor
 ·intro h
  refine tW fun a=>?_
  have l:isq (fq M 1 (-s))%2^j=0:=tW fun h=>a (Or.inl h)
  have d:0≤s:=tW fun h=>a (Or.inr (Or.inl qO))
  have b:isq (fq M 1 (-s))*isq (fq M 1 (-s))=fq M 1 (-s):=tW fun h=>a (Or.inr (Or.inr h))
  obtain⟨t,rfl⟩:=vG d
  rw[ZaM] at *
  generalize isq (M*2^t)=r at *
  obtain⟨q,rfl⟩:=Nat.dvd_of_mod_eq_zero l
  rw[pK _ (p2 j)] at h
  have e:M*2^t=(q*q)*2^(2*j):=by rw[←b,pow4];simp only[uG,uH,tF]
  rcases h with h|h
  ·have c:0<q:=by
    rcases uJ q with f|f
    ·subst f
     have:0<M*2^t:=sL qO (p2 t)
     simp at b;omega
    exact f
   have m:=Zcc i t
   rw[e,Zcb (sL c c)] at m
   omega
  rw[e,qZ _ (p2 _)] at h
  exact h rfl
 intro h
 refine tW fun a=>?_
 have d:0≤s-2*j:=tW fun h=>a (Or.inl qO)
 have b:isq (fq M 1 (-s))/2^j*(isq (fq M 1 (-s))/2^j)=fq M 1 (-s)/2^(2*j):=tW fun h=>a (Or.inr h)
 obtain⟨t,p⟩:=vG d
 obtain rfl:s=((t+2*j:Nat):Int):=qO
 rw[ZaM] at *
 have n:M*2^(t+2*j)/2^(2*j)=M*2^t:=by rw[uQ,← uG,qZ _ (p2 _)]
 rw[n] at b
 obtain⟨q,c⟩:=yE (isq (M*2^(t+2*j))/2^j)
 rw[c] at b
 have g:M*2^(t+2*j)=q*2^j*(q*2^j):=by
  rw[qP,b,← pow4,uQ,uG]
 have o:isq (M*2^(t+2*j))=q*2^j:=ZfP (by rw[←g];exact uF _) (by
  rw[g];have:=oG (Nat.lt_succ_self (q*2^j)) (Nat.lt_succ_self (q*2^j));exact this)
 rw[o] at h
 rcases h with h|h|h
 ·exact h (Nat.mul_mod_left _ _)
 ·omega
 exact h g.symm
def sqK (M:Nat) (E:Int) (bits:Nat):Int:=((blen M:Int)+E-1)/2-((bits:Int)-1)
def sqM (M:Nat) (E:Int) (bits:Nat):Nat:=fB (isq (fq M 1 (-(E-2*sqK M E bits+2)))) 0 (iQ M (E-2*sqK M E bits+2))
theorem ZcG {M:Nat}(h:0<M)(s:Int)(c:0≤(blen M:Int)+s):(blen (fq M 1 (-s)):Int)=blen M+s:=by
 rcases Int.le_total 0 s with a|a
 ·obtain⟨t,rfl⟩:=vG a
  rw[ZaM,Zaq h];omega
 obtain⟨t,b⟩:=vG (show 0 ≤ -s by omega)
 have:=Zar M 1 0 t
 rw[Int.zero_add] at this
 rw[b,this,bH]
 have e:fq M 1 0=M:=by unfold fq fa fb;simp
 rw[e];omega
theorem Zpb {M:Nat}(k:M%2=1)(E:Int){bits:Nat}(u:0<bits)(s:Int)(v:(E-s)%2=0)(w:(2*bits+2:Int)≤blen M+s)(x:(blen M:Int)+s≤2*bits+3) :
 let r:=isq (fq M 1 (-s));let j:=blen r-bits-1
 blen r=bits+(j+1)∧(E-s)/2+(j+1:Nat)=sqK M E bits∧sqM M E bits=fB r j (iQ M s):=by
 intro r j
 have d:0<M:=qO
 have e:=ZcG d s qO
 obtain⟨y,z⟩:=Zpa (b:=bits) (n:=fq M 1 (-s)) qO qO
 have l:blen r=bits+(j+1):=by show blen (isq (fq M 1 (-s)))=bits+(blen (isq (fq M 1 (-s)))-bits-1+1);omega
 have f:j≤1:=by show blen (isq (fq M 1 (-s)))-bits-1≤1;omega
 -- the exponent
 obtain⟨g,h⟩:=cU (fq M 1 (-s))
 have m:isq (fq M 1 (-s))=r:=rfl
 rw[m] at g h
 have a:=gU.1 (show bits+j<blen r by omega)
 have c:=wZ.1 (show blen r≤bits+j+1 by omega)
 have o:2^(2*(bits+j))≤fq M 1 (-s):=by rw[pow4];exact uD (vY a a) g
 have p:fq M 1 (-s)<2^(2*(bits+j+1)):=by rw[pow4];exact uS h (vY c c)
 have A:=gU.2 o
 have B:=wZ.2 p
 have i:(E-s)/2+(j+1:Nat)=sqK M E bits:=by unfold sqK;omega
 refine⟨l,i,?_⟩
 unfold sqM
 have q:E-2*sqK M E bits+2=s-2*(j:Int):=by rw[←i];omega
 have t:fq M 1 (-(s-2*(j:Int)))=fq M 1 (-s)/2^(2*j):=by rw[←Zar];congr 1;omega
 rw[q,t,ZkF,Znp r j,ZlQ k]
structure FR where
 s:Bool
 m:Nat
 e:Int
 err:Int
def ZhY:FR:=⟨false,0,0,0⟩
def errR (k:Int):FR:=⟨false,0,0,k⟩
def okE (e:Int):Prop := -1048576≤e∧e≤1048576
instance (e:Int):Decidable (okE e):=inferInstanceAs (Decidable (_∧_))
def wI (s:Bool) (n:Nat) (e:Int):FR:=if n=0 then ZhY else if okE (e+tzn n) then ⟨s,oddM n,e+tzn n,0⟩ else errR 2
theorem Znq {n:Nat}(s:Bool)(h:0<n)(j:Nat)(e:Int):wI s (n*2^j) e=wI s n (e+j):=by
 unfold wI
 have a:=sL h (p2 j)
 rw[uO (show ¬ n*2^j=0 by omega),uO (show ¬ n=0 by omega),Zcb h,Zo3 h]
 have:e+((tzn n+j:Nat):Int)=e+j+tzn n:=qO
 rw[this]
def lD (s:Bool) (n:Nat) (e:Int) (bits:Nat) (more:Bool):FR :=
 if blen n≤bits then wI s n e else wI s (fB n (blen n-bits-1) more) (e+(blen n-bits:Nat))
def wL (s:Bool) (n d:Nat) (e:Int) (bits:Nat):FR:=if n=0 then ZhY else wI s (rndM n d bits) (e+rndK n d bits)
theorem Zex (s:Bool)(e:Int)(bits:Nat)(more:Bool):lD s 0 e bits more=ZhY:=by
 unfold lD;rw[vC (by rw[fA];omega)];rfl
theorem fC (s:Bool)(d:Nat)(e:Int)(bits:Nat):wL s 0 d e bits=ZhY:=rfl
theorem kU (s:Bool)(n:Nat)(e:Int){bits:Nat}(f:0<bits):lD s n e bits false=wL s n 1 e bits:=by
 rcases uJ n with rfl|b
 ·rw[Zex,fC]
 unfold lD wL
 rw[uO (show ¬ n=0 by omega)]
 split
 ·rename_i h
  obtain⟨c,a⟩:=Zqz b f h
  rw[c,a,Znq s b]
  congr 1;omega
 rename_i h
 obtain⟨j,g⟩:∃ j,blen n=bits+(j+1):=⟨blen n-bits-1,qO⟩
 have i:fq n 1 0=n:=by unfold fq fa fb;simp
 have k:fa n 0%fb 1 0=0:=by unfold fb;simp[Nat.mod_one]
 obtain⟨c,a⟩:=ZdA b (d:=1) qD f 0 j (by rw[i];exact g)
 rw[i,k] at a
 rw[c,a,g,show bits+(j+1)-bits-1=j by omega,show bits+(j+1)-bits=j+1 by omega,Int.zero_add]
 rfl
theorem ZjY (s:Bool){n d:Nat}(e:Int){bits:Nat}(a:0<n)(b:0<d)(c:0<bits) :
 lD s (fq n d (rk0 n d bits-1)) (e+(rk0 n d bits-1)) bits (decide (fa n (rk0 n d bits-1)%fb d (rk0 n d bits-1)≠0))=wL s n d e bits:=by
 obtain⟨h,i⟩:=ZeU a b c
 have f:=Zar n d (rk0 n d bits-1) 1
 rw[show rk0 n d bits-1+(1:Nat)=rk0 n d bits by omega] at f
 rw[f,bH] at h i
 generalize o:rk0 n d bits-1=k at *
 obtain⟨j,g⟩:∃ j,blen (fq n d k)=bits+(j+1):=⟨blen (fq n d k)-bits-1,qO⟩
 obtain⟨l,m⟩:=ZdA a b c k j g
 unfold lD wL
 rw[uO qO,uO qO,l,m,g,show bits+(j+1)-bits-1=j by omega,show bits+(j+1)-bits=j+1 by omega,Int.add_assoc]
def addR (sx:Bool) (xm:Nat) (xe:Int) (sy:Bool) (ym:Nat) (ye:Int) (bits:Nat):FR :=
 wL (decide (sg sx (xm*2^(xe-min xe ye).toNat)+sg sy (ym*2^(ye-min xe ye).toNat)<0)) (sg sx (xm*2^(xe-min xe ye).toNat)+sg sy (ym*2^(ye-min xe ye).toNat)).natAbs 1 (min xe ye) bits
theorem Znr (sx:Bool)(b:Nat)(xe:Int)(c:Bool)(ym:Nat)(a:Int)(bits:Nat):addR sx b xe c ym a bits=addR c ym a sx b xe bits:=by
 unfold addR;rw[Int.min_comm a xe,Int.add_comm]
theorem Zhe {a s r:Nat}(c:Bool)(e:Int){bits:Nat}(d:0<bits)(ha:bits+1≤blen a)(b:0<r)(f:r<2^s) :
 wL c (a*2^s+r) 1 e bits=wI c (fB a (blen a-bits-1) true) (e+s+(blen a:Int)-bits):=by
 obtain⟨g,h⟩:=ZqA d ha b f
 unfold wL
 rw[uO qO,g,h]
 congr 1;omega
theorem Zns {s t:Bool}{a b:Nat}(h:b<a):decide (sg s a+sg t b<0)=s∧(sg s a+sg t b).natAbs=(if s=t then a+b else a-b):=by
 cases s<;>cases t<;>simp[sg]<;>omega
theorem ZlR (sx:Bool){a:Nat}(xe:Int)(b:Bool){ym:Nat}(c:Int){bits:Nat}(k:0<bits)(m:0<a)(l:0<ym){f:Int}(C:f≤xe)(D:f≤blen a+xe-bits-2)(F:blen ym+c≤f) :
 addR sx a xe b ym c bits=addR sx a xe b 1 (f-1) bits:=by
 have n:=cS l
 have d:∀ (s r:Nat) (E:Int),E=f-s→0<r→r<2^s→wL (decide (sg sx (a*2^(xe-E).toNat)+sg b r<0)) (sg sx (a*2^(xe-E).toNat)+sg b r).natAbs 1 E bits =
  wI sx (fB (if sx=b then a*2^(xe-f).toNat else a*2^(xe-f).toNat-1) (blen (if sx=b then a*2^(xe-f).toNat else a*2^(xe-f).toNat-1)-bits-1) true) (f+(blen (if sx=b then a*2^(xe-f).toNat else a*2^(xe-f).toNat-1):Int)-bits):=by
  intro s r E Q h o
  have i:a*2^(xe-E).toNat=a*2^(xe-f).toNat*2^s:=by
   rw[uG,← uQ];congr 2;omega
  have G:bits+2≤blen (a*2^(xe-f).toNat):=by rw[Zaq m];omega
  rw[i]
  generalize a*2^(xe-f).toNat=X at *
  have p:=gU.1 (show bits+1<blen X by omega)
  have H:2^bits*2=2^(bits+1):=(uN ..).symm
  have q:=p2 bits
  have u:=p2 s
  have j:1≤X:=qO
  have v:2^s≤X*2^s:=by have:=uE (2^s) j;omega
  obtain⟨w,x⟩:=Zns (s:=sx) (t:=b) (show r<X*2^s by omega)
  rw[w,x]
  by_cases e:sx=b
  ·rw[vC e,vC e,Zhe sx E k qO h o]
   congr 1;omega
  rw[uO e,uO e]
  have y:X*2^s-r=(X-1)*2^s+(2^s-r):=by rw[Nat.sub_mul,rZ];omega
  have g:bits+1≤blen (X-1):=gU.2 qO
  rw[y,Zhe sx E k g qO qO]
  congr 1;omega
 have z:c<f:=qO
 obtain⟨s,e⟩:=vG (show 0≤f-c by omega)
 have A:=d s ym c qO l (uS (iI ym) (uW qD qO))
 have B:=d 1 1 (f-1) qO qD qD
 unfold addR
 rw[show min xe c=c by omega,show min xe (f-1)=f-1 by omega,show (c-c).toNat=0 by omega,show (f-1-(f-1)).toNat=0 by omega]
 simp only[tC,sB]
 rw[A,B]
def Zbz (m:Nat) (e:Int) (bits:Nat):FR:=wI false (sqM m e bits) (sqK m e bits)
theorem Zae {m:Nat}(a:m%2=1)(e:Int){bits:Nat}(b:0<bits)(s:Int)(c:(e-s)%2=0)(d:(2*bits+2:Int)≤blen m+s)(f:(blen m:Int)+s≤2*bits+3) :
 lD false (isq (fq m 1 (-s))) ((e-s)/2) bits (iQ m s)=Zbz m e bits:=by
 obtain⟨i,g,h⟩:=Zpb a e b s c d f
 unfold lD Zbz
 rw[uO qO,h,← g]
 congr 1;omega
end Go.Proofs.YtenchljfmfgeoaaGreatDoor
namespace Go.Proofs.YtenchljfmfgeoaaGreatDoor
open Go.RowKit Tryz
def shNb (r:FR) (x:ShN):Value:=.tuple #[yV r.s x.1 x.2.1 x.2.2 r.e,.int .i64 r.err]
def wA (w:World) (r:FR) (e:Ending) (w':World):Prop:=∃ x:ShN,e=.returned (shNb r x)∧zF w' (xH x) r.m∧Ext w w'
theorem wC {w w':World}{e:Ending}{r:FR}(h:wA w r e w'):wV (shNb r) (fun x w=>zF w (xH x) r.m) w e w':=by
 obtain⟨x,rfl,a,Q⟩:=h
 exact⟨x,rfl,Q,boxn Q (fun S b c d=>a.nrb c d)⟩
theorem ZlS (s:Bool)(e:Int):wI s 0 e=⟨false,0,0,0⟩:=rfl
theorem Zpc {n:Nat}(s:Bool){e:Int}(a:0<n)(b:¬ e+tzn n < -1048576)(c:¬ e+tzn n>1048576):wI s n e=⟨s,oddM n,e+tzn n,0⟩:=by
 unfold wI
 rw[uO qO,vC ⟨qO,qO⟩]
theorem Zhf {n:Nat}(s:Bool){e:Int}(a:0<n)(h:e+tzn n < -1048576∨e+tzn n>1048576):wI s n e=⟨false,0,0,2⟩:=by
 unfold wI
 rw[uO qO,uO (by rintro⟨b,c⟩;omega)];rfl
theorem fS (n:Nat):blen n≤64*wl n:=by
 rw[wZ,rQ]
 have:=ZdZ n
 rwa [zO] at this
theorem ZrX {n:Nat}(h:wl n≤4294967296):tzn n≤274877906944:=by
 rcases uJ n with rfl|a
 ·rw[tzn,dif_pos (Or.inl rfl)];omega
 obtain⟨c,b⟩:=jV a
 have d:blen n=blen (oddM n)+tzn n:=by
  have:=Zaq (show 0<oddM n by omega) (tzn n)
  rwa [←b] at this
 have:=fS n
 omega
theorem ZfQ {n:Nat}(h:wl n≤4294967296):blen n≤274877906944:=by have:=fS n;omega
theorem ZcH {s:Bool}{n bits:Nat}{e:Int}{m:Bool}(h:blen n≤bits):lD s n e bits m=wI s n e:=by unfold lD;rw[vC h]
theorem fD {s:Bool}{n bits j:Nat}{e:Int}{m:Bool}(h:blen n=bits+(j+1))(a:n/2^j%2=1)(b:tzn n<j∨n/2^(j+1)%2=1∨m=true)(c:0<n) :
 lD s n e bits m=wI s (n/2^(j+1)+1) (e+((j+1:Nat):Int)):=by
 unfold lD fB
 rw[uO qO,h,show bits+(j+1)-bits-1=j by omega,show bits+(j+1)-bits=j+1 by omega,vC ⟨a,by rw[←Znj c];exact b⟩]
theorem eQ {s:Bool}{n bits j:Nat}{e:Int}{m:Bool}(h:blen n=bits+(j+1))(a:0<n)(b:¬ (n/2^j%2=1∧(tzn n<j∨n/2^(j+1)%2=1∨m=true))) :
 lD s n e bits m=wI s (n/2^(j+1)) (e+((j+1:Nat):Int)):=by
 unfold lD fB
 rw[uO qO,h,show bits+(j+1)-bits-1=j by omega,show bits+(j+1)-bits=j+1 by omega,uO (by rw[←Znj a];exact b)]
theorem ZrY:Trim [1]:=by
 intro k a
 have:k=0:=by simp at a;omega
 subst this
 simp
theorem wl_1:wl 1≤4294967296:=uD (bO.2 (by rw[zO];decide)) qD
theorem gV {w:World}{b:Nat}(h:Blk 141 w b #[.int .u64 1]):zF w (.slice (some ⟨b,0,none⟩) 1 1) 1 :=
 ⟨_,[1],1,rfl,uF _,(Blk.own1 (r:=1) h).shows0,Dig.nil.cons (by rw[zO];decide),ZrY,rfl⟩
def ZcI (w:World) (Q:Nat) (v:Value):Prop:=Q<w.heap.size∧w.cell? ⟨Q,0,none⟩=some v
theorem ZcI.ext {w w':World}{Q:Nat}{v:Value}(h:ZcI w Q v)(a:Ext w w'):ZcI w' Q v:=⟨uS h.1 a.size,(a.cell (p:=⟨Q,0,none⟩) h.1 (fun f=>f)).trans h.2⟩
theorem Znt (Q:Nat)(A:qA)(l c:Nat)(w:World)(h:ZcI w Q (.slice A l c)):yA 159 #[.pointer (some ⟨Q,0,none⟩)] w (RetV w (.bool (decide (0<l)))):=by
 have a:=h.2
 go_enter func159,ntmps159
 go_wp2
 go_ret
 exact⟨vI Ending.returned (vI Value.bool (pL.2 qO)),Fr.refl _ _⟩
theorem Znu (w:World):yA 133 #[] w (RetV w (.bool false)):=by
 go_enter func133,ntmps133
 go_wp2
 go_ret
 exact⟨rfl,Fr.refl _ _⟩
theorem kH (s:Bool)(A:qA)(l c n:Nat)(e:Int)(w:World)(t:Glob w)(q:zF w (.slice A l c) n)(o:wl n≤4294967296)(u : -1152921504606846976≤e)(x:e≤1152921504606846976) :
 yA 138 #[.bool s,.slice A l c,.int .i64 e] w (wA w (wI s n e)):=by
 refine zT (Φ:=fun w=>(Glob w∧zF w (.slice A l c) (n))) func138 rfl qK (fun w' r=>⟨t.ext r,q.ext r⟩) ?_
 refine zC ?_
 have y:=q.len0
 have z:=ZrX o
 have B:=@lL n
 refine zB (xq 2 [(6,.p 6 0),yJ 7 0] [yF 6 109 false none 0 0 0] ?_)
 refine yZ (zC (yY (xq 3 [yB 11 (((l:Int):Int) == 0)] [] ?_)))
 refine xe (zA ?_)
 refine yQ ((((l:Int):Int) == 0)) (fun b=>?_) fun b=>?_
 ·have f:=tV.1 b
  have m:n=0:=qO
  refine yY (xq 3 [yJ 7 0] [] ?_)
  refine yZ (zG (zH ?_))
  refine yR (.tuple #[yV false none 0 0 0, yI 0]) fun w' R Q=>?_
  rw[m,ZlS]
  exact⟨(none,0,0),rfl,zF.zero _,R⟩
 have f:=lG b
 have m:0<n:=qO
 refine zJ (zA (yY (xq 1 [eS1 13 A l c] [] ?_)))
 refine xqc 171 [.slice A l c] 14 (fun _:Unit=>yI ((tzn n:Nat):Int)) _ (fun w R Q=>yN (ZaD Q.1 Q.2 o m)) fun C=>?_
 refine xq 1 [yJ 8 ((tzn n:Nat):Int)] [] ?_
 refine yZ (yY (xq 3 [yJ 17 (IntKind.i64.wrap (e+((tzn n:Nat):Int)))] [] ?_))
 rw[yW (e+((tzn n:Nat):Int)) (e+((tzn n:Nat):Int)) qO]
 refine xq 1 [yJ 2 (e+((tzn n:Nat):Int))] [] ?_
 refine yZ (zC (yY (xq 3 [(20,.v (.bool (decide ((e+((tzn n:Nat):Int))<(-1048576)))))] [] ?_)))
 rcases bl2 ((decide ((e+((tzn n:Nat):Int))<(-1048576)))) with a|a
 ·rw[a]
  have g:=uA a
  refine xq 3 [yB 23 true] [] ?_
  refine yZ (xa (yY (xq 3 [yJ 7 2] [] ?_)))
  refine yZ (zG (zH ?_))
  refine yR (.tuple #[yV false none 0 0 0, yI 2]) fun w' R Q=>?_
  rw[Zhf s m qO]
  exact⟨(none,0,0),rfl,zF.zero _,R⟩
 rw[a]
 have g:=uB a
 refine xq 3 [(23,.v (.bool (decide ((e+((tzn n:Nat):Int))>1048576))))] [] ?_
 refine xe (zA ?_)
 refine yQ ((decide ((e+((tzn n:Nat):Int))>1048576))) (fun d=>?_) fun d=>?_
 ·have h:=uA d
  refine yY (xq 3 [yJ 7 2] [] ?_)
  refine yZ (zG (zH ?_))
  refine yR (.tuple #[yV false none 0 0 0, yI 2]) fun w' R Q=>?_
  rw[Zhf s m qO]
  exact⟨(none,0,0),rfl,zF.zero _,R⟩
 have h:=uB d
 refine zJ (zA (yY (xq 3 [yB 25 s,eS1 26 A l c,yJ 27 ((tzn n:Nat):Int)] [] ?_)))
 refine xqc 140 [.slice A l c, yI ((tzn n:Nat):Int)] 28 xH _ (fun w R Q=>yM xD (gC (tzn n) Q.1.2 o qO)) fun⟨i,j,k⟩=>?_
 refine xq 4 [yJ 7 0] [yF 6 109 s i j k (e+((tzn n:Nat):Int))] ?_
 refine yZ (zG ?_)
 refine yR (.tuple #[yV s i j k (e+((tzn n:Nat):Int)), yI 0]) fun w' R Q=>?_
 rw[Zpc s m qO qO]
 exact⟨(i,j,k),rfl,Q.2,R⟩
theorem iU (s:Bool)(A:qA)(l c n:Nat)(e:Int)(bits:Nat)(w:World)(hg:Glob w)(hN:zF w (.slice A l c) n)(E:wl n≤4294967296)(y0 : -576460752303423488≤e)(z0:e≤576460752303423488)(hb:bits≤4294967296) :
 yA 132 #[.bool s,.slice A l c,.int .i64 e,.int .i64 ((bits:Nat):Int),.func (.func 133) #[] #[]] w (wA w (lD s n e bits false)):=by
 refine zT (Φ:=fun w=>(Glob w∧zF w (.slice A l c) (n))) func132 rfl qK (fun w' hf=>⟨hg.ext hf,hN.ext hf⟩) ?_
 refine zC ?_
 have A0:=ZfQ E
 by_cases F:blen n≤bits
 ·obtain⟨k,hk⟩:∃ k,bits=blen n+k:=⟨bits-blen n,qO⟩
  refine zB (xq 2 [(10,.p 10 0),yJ 11 0] [yF 10 109 false none 0 0 0] ?_)
  refine yZ (yY (xq 1 [eS1 14 A l c] [] ?_))
  refine xqc 139 [.slice A l c] 15 (fun _:Unit=>yI ((blen n:Nat):Int)) _ (fun w R Q=>yN (kT Q.2 E)) fun xx=>?_
  refine xq 2 [yJ 17 (IntKind.i64.wrap (((blen n:Nat):Int)-(bits:Int)))] [] ?_
  rw[show IntKind.i64.wrap (((blen n:Nat):Int)-(bits:Int)) = -(k:Int) by rw[IntKind.wrap_i64];omega]
  refine xq 1 [yJ 12 (-(k:Int))] [] ?_
  refine yZ (zC (yY (xq 2 [(19,.v (.bool (decide ((-(k:Int))≤0))))] [] ?_)))
  rw[show decide (-(k:Int)≤0)=true from vM qO]
  refine yZ (xa (yY (xq 3 [yB 20 s,eS1 21 A l c,yJ 22 e] [] ?_)))
  obtain⟨g,G⟩:=yE (wI s (n) (e))
  refine xqc 138 [.bool s,.slice A l c, yI e] 23 (shNb g) _ (fun w R Q=>yM wC ((show Calls _ _ _ _ (wA w g) by rw[←G];exact kH s _ _ _ _ _ _ Q.1.1 Q.1.2 E qO qO))) fun⟨L,M,N⟩=>?_
  refine xq 4 [yJ 11 g.err] [yF 10 109 g.s L M N g.e] ?_
  refine yZ (zG (zH ?_))
  refine yR (.tuple #[yV g.s L M N g.e, yI g.err]) fun w' R Q=>?_
  rw[ZcH F,G]
  exact⟨(L,M,N),rfl,Q.2,R⟩
 obtain⟨j,hj⟩:∃ j,blen n=bits+(j+1):=⟨blen n-bits-1,qO⟩
 have O:0<n:=rA (fun e=>by rw[e,fA] at F;omega)
 have B:wl (n/2^(j+1))≤4294967296:=uD (wR (uY _ _)) E
 have P:wl (n/2^(j+1)+1)≤4294967296:=uD (wR (pR O (Nat.one_lt_two_pow qO))) E
 obtain⟨b1,S⟩:=yE (decide (n/2^j%2=1))
 obtain⟨b2,T⟩:=yE (decide (n/2^(j+1)/2^0%2=1))
 obtain⟨b3,U⟩:=yE false
 refine zB (xq 2 [(10,.p 10 0),yJ 11 0] [yF 10 109 false none 0 0 0] ?_)
 refine yZ (yY (xq 1 [eS1 14 A l c] [] ?_))
 refine xqc 139 [.slice A l c] 15 (fun _:Unit=>yI ((blen n:Nat):Int)) _ (fun w R Q=>yN (kT Q.2 E)) fun xx=>?_
 refine xq 2 [yJ 17 (IntKind.i64.wrap (((blen n:Nat):Int)-(bits:Int)))] [] ?_
 rw[yW (((blen n:Nat):Int)-(bits:Int)) (((j+1:Nat):Int)) qO]
 refine xq 1 [yJ 12 ((j+1:Nat):Int)] [] ?_
 refine yZ (zC (yY (xq 2 [yB 19 (decide (((j+1:Nat):Int)≤0))] [] ?_)))
 rw[show decide (((j+1:Nat):Int)≤0)=false from uV qO]
 refine yZ (xb (zJ (zA (yY (xq 2 [eS1 26 A l c,yJ 27 ((j+1:Nat):Int)] [] ?_)))))
 refine xqc 140 [.slice A l c, yI ((j+1:Nat):Int)] 28 xH _ (fun w R Q=>yM xD (gC (j+1) Q.1.2 E qO)) fun⟨a,b,f⟩=>?_
 refine xq 1 [eS1 13 a b f] [] ?_
 refine yZ (zC (yY (xq 3 [eS1 29 A l c,yJ 31 (IntKind.i64.wrap (((j+1:Nat):Int)-1))] [] ?_)))
 rw[yW (((j+1:Nat):Int)-1) ((j:Int)) qO]
 refine xqc 170 [.slice A l c, yI (j:Int)] 32 (fun _:Unit=>.bool b1) _ (fun w R Q=>yN ((show Calls _ _ _ _ (RetV w (.bool b1)) by rw[←S];exact aL (j) Q.1.1.2 qO))) fun xx=>?_
 refine xq 1 [yB 33 b1] [] ?_
 rcases bl2 (b1) with i|i
 ·rw[i]
  have k1:=uA (S.trans i)
  refine xq 1 [eS1 34 A l c] [] ?_
  refine xqc 171 [.slice A l c] 35 (fun _:Unit=>yI ((tzn n:Nat):Int)) _ (fun w R Q=>yN (ZaD Q.1.1.1.1 Q.1.1.1.2 E O)) fun xx=>?_
  refine xq 2 [yJ 37 (IntKind.i64.wrap (((j+1:Nat):Int)-1))] [] ?_
  rw[yW (((j+1:Nat):Int)-1) ((j:Int)) qO]
  refine xq 2 [yB 39 (decide (((tzn n:Nat):Int)<(j:Int)))] [] ?_
  rcases bl2 ((decide (((tzn n:Nat):Int)<(j:Int)))) with m|m
  ·rw[m]
   have V:=uA m
   have k4:tzn n<j:=qO
   refine xr 8 [yB 0 s,yJ 2 e,(10,.p 10 0),yJ 11 0,yJ 12 ((j+1:Nat):Int),eS1 13 a b f,yB 47 true] [yF 10 109 false none 0 0 0] ?_
   refine yZ (xa (zB (xq 1 [eS1 48 a b f] [] ?_)))
   refine yD (d:=49) (fun C:Nat=>.slice (yL C) 1 1) (fun C zw=>Blk 141 zw C #[yX 1]) (fun w R Q=>kC (t:=107) (e:=141) (n:=1) (sz:=1) (z:=yX 0) (parts:=#[(0,Operand.const (Value.int IntKind.u64 1))]) qK qK qK qK qK qK) fun v0=>?_
   refine xr 0 [yB 0 s,yJ 2 e,(10,.p 10 0),yJ 11 0,yJ 12 ((j+1:Nat):Int),eS1 13 a b f,eS1 48 a b f,eS1 49 (yL v0) 1 1] [yF 10 109 false none 0 0 0] ?_
   refine xqc 135 [.slice a b f,.slice (yL v0) 1 1] 50 xH _ (fun w R Q=>yM xD (jP Q.1.1.1.2 (gV Q.2) B wl_1)) fun⟨W,X,Y⟩=>?_
   refine xq 1 [eS1 13 W X Y] [] ?_
   refine yZ (yY (xq 5 [yB 51 s,eS1 52 W X Y,yJ 55 (IntKind.i64.wrap (e+((j+1:Nat):Int)))] [] ?_))
   rw[yW (e+((j+1:Nat):Int)) (e+((j+1:Nat):Int)) qO]
   obtain⟨o,H⟩:=yE (wI s (n/2^(j+1)+1) ((e+((j+1:Nat):Int))))
   refine xqc 138 [.bool s,.slice W X Y, yI (e+((j+1:Nat):Int))] 56 (shNb o) _ (fun w R Q=>yM wC ((show Calls _ _ _ _ (wA w o) by rw[←H];exact kH s _ _ _ _ _ _ Q.1.1.1.1.1.1.1 Q.2 P qO qO))) fun⟨Z,a0,b0⟩=>?_
   refine xq 4 [yJ 11 o.err] [yF 10 109 o.s Z a0 b0 o.e] ?_
   refine yZ (zG ?_)
   refine yR (.tuple #[yV o.s Z a0 b0 o.e, yI o.err]) fun w' R Q=>?_
   rw[fD hj k1 (Or.inl k4) O,H]
   exact⟨(Z,a0,b0),rfl,Q.2,R⟩
  rw[m]
  have V:=uB m
  have k4:¬ tzn n<j:=qO
  refine xr 1 [yB 0 s,yJ 2 e,(4,.v (.func (.func 133) #[] #[])),(10,.p 10 0),yJ 11 0,yJ 12 ((j+1:Nat):Int),eS1 13 a b f,yB 33 true,yB 39 false,eS1 40 a b f] [yF 10 109 false none 0 0 0] ?_
  refine xqc 170 [.slice a b f, yI 0] 41 (fun _:Unit=>.bool b2) _ (fun w R Q=>yN ((show Calls _ _ _ _ (RetV w (.bool b2)) by rw[←T];exact aL (0) Q.1.1.2 qO))) fun xx=>?_
  refine xq 2 [yB 43 b2] [] ?_
  rcases bl2 (b2) with q|q
  ·rw[q]
   have k2:=uA (T.trans q)
   rw[tC,rR] at k2
   refine xq 4 [yB 47 true] [] ?_
   refine yZ (xa (zB (xq 1 [eS1 48 a b f] [] ?_)))
   refine yD (d:=49) (fun C:Nat=>.slice (yL C) 1 1) (fun C zw=>Blk 141 zw C #[yX 1]) (fun w R Q=>kC (t:=107) (e:=141) (n:=1) (sz:=1) (z:=yX 0) (parts:=#[(0,Operand.const (Value.int IntKind.u64 1))]) qK qK qK qK qK qK) fun w0=>?_
   refine xr 0 [yB 0 s,yJ 2 e,(10,.p 10 0),yJ 11 0,yJ 12 ((j+1:Nat):Int),eS1 13 a b f,eS1 48 a b f,eS1 49 (yL w0) 1 1] [yF 10 109 false none 0 0 0] ?_
   refine xqc 135 [.slice a b f,.slice (yL w0) 1 1] 50 xH _ (fun w R Q=>yM xD (jP Q.1.1.1.1.2 (gV Q.2) B wl_1)) fun⟨c0,d0,e0⟩=>?_
   refine xq 1 [eS1 13 c0 d0 e0] [] ?_
   refine yZ (yY (xq 5 [yB 51 s,eS1 52 c0 d0 e0,yJ 55 (IntKind.i64.wrap (e+((j+1:Nat):Int)))] [] ?_))
   rw[yW (e+((j+1:Nat):Int)) (e+((j+1:Nat):Int)) qO]
   obtain⟨r,I⟩:=yE (wI s (n/2^(j+1)+1) ((e+((j+1:Nat):Int))))
   refine xqc 138 [.bool s,.slice c0 d0 e0, yI (e+((j+1:Nat):Int))] 56 (shNb r) _ (fun w R Q=>yM wC ((show Calls _ _ _ _ (wA w r) by rw[←I];exact kH s _ _ _ _ _ _ Q.1.1.1.1.1.1.1.1 Q.2 P qO qO))) fun⟨f0,g0,i0⟩=>?_
   refine xq 4 [yJ 11 r.err] [yF 10 109 r.s f0 g0 i0 r.e] ?_
   refine yZ (zG ?_)
   refine yR (.tuple #[yV r.s f0 g0 i0 r.e, yI r.err]) fun w' R Q=>?_
   rw[fD hj k1 (Or.inr (Or.inl k2)) O,I]
   exact⟨(f0,g0,i0),rfl,Q.2,R⟩
  rw[q]
  have k2:=uB (T.trans q)
  rw[tC,rR] at k2
  refine xq 1 [(44,.v (.func (.func 133) #[] #[]))] [] ?_
  refine xqc 133 [] 45 (fun _:Unit=>.bool b3) _ (fun w R Q=>yN ((show Calls _ _ _ _ (RetV w (.bool b3)) by rw[←U];exact Znu _))) fun xx=>?_
  refine xq 2 [yB 47 b3] [] ?_
  refine xe (zA ?_)
  refine yQ (b3) (fun D=>?_) fun D=>?_
  ·have k3:=U.trans D
   refine zB (xq 1 [eS1 48 a b f] [] ?_)
   refine yD (d:=49) (fun C:Nat=>.slice (yL C) 1 1) (fun C zw=>Blk 141 zw C #[yX 1]) (fun w R Q=>kC (t:=107) (e:=141) (n:=1) (sz:=1) (z:=yX 0) (parts:=#[(0,Operand.const (Value.int IntKind.u64 1))]) qK qK qK qK qK qK) fun x0=>?_
   refine xr 0 [yB 0 s,yJ 2 e,(10,.p 10 0),yJ 11 0,yJ 12 ((j+1:Nat):Int),eS1 13 a b f,eS1 48 a b f,eS1 49 (yL x0) 1 1] [yF 10 109 false none 0 0 0] ?_
   refine xqc 135 [.slice a b f,.slice (yL x0) 1 1] 50 xH _ (fun w R Q=>yM xD (jP Q.1.1.1.1.1.2 (gV Q.2) B wl_1)) fun⟨j0,k0,l0⟩=>?_
   refine xq 1 [eS1 13 j0 k0 l0] [] ?_
   refine yZ (yY (xq 5 [yB 51 s,eS1 52 j0 k0 l0,yJ 55 (IntKind.i64.wrap (e+((j+1:Nat):Int)))] [] ?_))
   rw[yW (e+((j+1:Nat):Int)) (e+((j+1:Nat):Int)) qO]
   obtain⟨u,J⟩:=yE (wI s (n/2^(j+1)+1) ((e+((j+1:Nat):Int))))
   refine xqc 138 [.bool s,.slice j0 k0 l0, yI (e+((j+1:Nat):Int))] 56 (shNb u) _ (fun w R Q=>yM wC ((show Calls _ _ _ _ (wA w u) by rw[←J];exact kH s _ _ _ _ _ _ Q.1.1.1.1.1.1.1.1.1 Q.2 P qO qO))) fun⟨m0,n0,o0⟩=>?_
   refine xq 4 [yJ 11 u.err] [yF 10 109 u.s m0 n0 o0 u.e] ?_
   refine yZ (zG ?_)
   refine yR (.tuple #[yV u.s m0 n0 o0 u.e, yI u.err]) fun w' R Q=>?_
   rw[fD hj k1 (Or.inr (Or.inr k3)) O,J]
   exact⟨(m0,n0,o0),rfl,Q.2,R⟩
  have k3:=U.trans D
  refine zJ (zA (yY (xq 5 [yB 51 s,eS1 52 a b f,yJ 55 (IntKind.i64.wrap (e+((j+1:Nat):Int)))] [] ?_)))
  rw[yW (e+((j+1:Nat):Int)) (e+((j+1:Nat):Int)) qO]
  obtain⟨x,hr25⟩:=yE (wI s (n/2^(j+1)) ((e+((j+1:Nat):Int))))
  refine xqc 138 [.bool s,.slice a b f, yI (e+((j+1:Nat):Int))] 56 (shNb x) _ (fun w R Q=>yM wC ((show Calls _ _ _ _ (wA w x) by rw[←hr25];exact kH s _ _ _ _ _ _ Q.1.1.1.1.1.1.1 Q.1.1.1.1.2 B qO qO))) fun⟨p0,q0,r0⟩=>?_
  refine xq 4 [yJ 11 x.err] [yF 10 109 x.s p0 q0 r0 x.e] ?_
  refine yZ (zG ?_)
  refine yR (.tuple #[yV x.s p0 q0 r0 x.e, yI x.err]) fun w' R Q=>?_
  rw[eQ hj O (fun h=>by rcases h.2 with h|h|h;exact k4 h;exact k2 h;rw[k3] at h;cases h),hr25]
  exact⟨(p0,q0,r0),rfl,Q.2,R⟩
 rw[i]
 have k1:=uB (S.trans i)
 refine xq 14 [yB 47 false] [] ?_
 refine yZ (xb (zJ (zA (yY (xq 5 [yB 51 s,eS1 52 a b f,yJ 55 (IntKind.i64.wrap (e+((j+1:Nat):Int)))] [] ?_)))))
 rw[yW (e+((j+1:Nat):Int)) (e+((j+1:Nat):Int)) qO]
 obtain⟨y,K⟩:=yE (wI s (n/2^(j+1)) ((e+((j+1:Nat):Int))))
 refine xqc 138 [.bool s,.slice a b f, yI (e+((j+1:Nat):Int))] 56 (shNb y) _ (fun w R Q=>yM wC ((show Calls _ _ _ _ (wA w y) by rw[←K];exact kH s _ _ _ _ _ _ Q.1.1.1.1 Q.1.2 B qO qO))) fun⟨s0,t0,u0⟩=>?_
 refine xq 4 [yJ 11 y.err] [yF 10 109 y.s s0 t0 u0 y.e] ?_
 refine yZ (zG ?_)
 refine yR (.tuple #[yV y.s s0 t0 u0 y.e, yI y.err]) fun w' R Q=>?_
 rw[eQ hj O (fun h=>k1 h.1),K]
 exact⟨(s0,t0,u0),rfl,Q.2,R⟩
theorem ZlT (s:Bool)(A:qA)(l c n:Nat)(e:Int)(bits:Nat)(Q:Nat)(A2:qA)(l2 c2:Nat)(w:World)(hg:Glob w)(hN:zF w (.slice A l c) n)(E:wl n≤4294967296)(z0 : -576460752303423488≤e)(A0:e≤576460752303423488)(hb:bits≤4294967296)(hQ:ZcI w Q (.slice A2 l2 c2)) :
 yA 132 #[.bool s,.slice A l c,.int .i64 e,.int .i64 ((bits:Nat):Int),.func (.func 159) #[] #[.pointer (some ⟨Q,0,none⟩)]] w (wA w (lD s n e bits (decide (0<l2)))):=by
 refine zT (Φ:=fun w=>((Glob w∧zF w (.slice A l c) (n))∧ZcI w Q (.slice A2 l2 c2))) func132 rfl qK (fun w' hf=>⟨⟨hg.ext hf,hN.ext hf⟩,hQ.ext hf⟩) ?_
 refine zC ?_
 have B0:=ZfQ E
 by_cases F:blen n≤bits
 ·obtain⟨k,hk⟩:∃ k,bits=blen n+k:=⟨bits-blen n,qO⟩
  refine zB (xq 2 [(10,.p 10 0),yJ 11 0] [yF 10 109 false none 0 0 0] ?_)
  refine yZ (yY (xq 1 [eS1 14 A l c] [] ?_))
  refine xqc 139 [.slice A l c] 15 (fun _:Unit=>yI ((blen n:Nat):Int)) _ (fun w S R=>(kT R.1.2 E).mono (fun _ _ h=>zL h rfl)) fun xx=>?_
  refine xq 2 [yJ 17 (IntKind.i64.wrap (((blen n:Nat):Int)-(bits:Int)))] [] ?_
  rw[show IntKind.i64.wrap (((blen n:Nat):Int)-(bits:Int)) = -(k:Int) by rw[IntKind.wrap_i64];omega]
  refine xq 1 [yJ 12 (-(k:Int))] [] ?_
  refine yZ (zC (yY (xq 2 [(19,.v (.bool (decide ((-(k:Int))≤0))))] [] ?_)))
  rw[show decide (-(k:Int)≤0)=true from vM qO]
  refine yZ (xa (yY (xq 3 [yB 20 s,eS1 21 A l c,yJ 22 e] [] ?_)))
  obtain⟨g,G⟩:=yE (wI s (n) (e))
  refine xqc 138 [.bool s,.slice A l c, yI e] 23 (shNb g) _ (fun w S R=>((show Calls _ _ _ _ (wA w g) by rw[←G];exact kH s _ _ _ _ _ _ R.1.1.1 R.1.1.2 E qO qO)).mono (fun _ _=>wC)) fun⟨L,M,N⟩=>?_
  refine xq 4 [yJ 11 g.err] [yF 10 109 g.s L M N g.e] ?_
  refine yZ (zG (zH ?_))
  refine yR (.tuple #[yV g.s L M N g.e, yI g.err]) fun w' S R=>?_
  rw[ZcH F,G]
  exact⟨(L,M,N),rfl,R.2,S⟩
 obtain⟨j,hj⟩:∃ j,blen n=bits+(j+1):=⟨blen n-bits-1,qO⟩
 have O:0<n:=rA (fun e=>by rw[e,fA] at F;omega)
 have B:wl (n/2^(j+1))≤4294967296:=uD (wR (uY _ _)) E
 have P:wl (n/2^(j+1)+1)≤4294967296:=uD (wR (pR O (Nat.one_lt_two_pow qO))) E
 obtain⟨b1,T⟩:=yE (decide (n/2^j%2=1))
 obtain⟨b2,U⟩:=yE (decide (n/2^(j+1)/2^0%2=1))
 obtain⟨b3,V⟩:=yE (decide (0<l2))
 refine zB (xq 2 [(10,.p 10 0),yJ 11 0] [yF 10 109 false none 0 0 0] ?_)
 refine yZ (yY (xq 1 [eS1 14 A l c] [] ?_))
 refine xqc 139 [.slice A l c] 15 (fun _:Unit=>yI ((blen n:Nat):Int)) _ (fun w S R=>(kT R.1.2 E).mono (fun _ _ h=>zL h rfl)) fun xx=>?_
 refine xq 2 [yJ 17 (IntKind.i64.wrap (((blen n:Nat):Int)-(bits:Int)))] [] ?_
 rw[yW (((blen n:Nat):Int)-(bits:Int)) (((j+1:Nat):Int)) qO]
 refine xq 1 [yJ 12 ((j+1:Nat):Int)] [] ?_
 refine yZ (zC (yY (xq 2 [yB 19 (decide (((j+1:Nat):Int)≤0))] [] ?_)))
 rw[show decide (((j+1:Nat):Int)≤0)=false from uV qO]
 refine yZ (xb (zJ (zA (yY (xq 2 [eS1 26 A l c,yJ 27 ((j+1:Nat):Int)] [] ?_)))))
 refine xqc 140 [.slice A l c, yI ((j+1:Nat):Int)] 28 xH _ (fun w S R=>(gC (j+1) R.1.1.2 E qO).mono (fun _ _=>xD)) fun⟨a,b,f⟩=>?_
 refine xq 1 [eS1 13 a b f] [] ?_
 refine yZ (zC (yY (xq 3 [eS1 29 A l c,yJ 31 (IntKind.i64.wrap (((j+1:Nat):Int)-1))] [] ?_)))
 rw[yW (((j+1:Nat):Int)-1) ((j:Int)) qO]
 refine xqc 170 [.slice A l c, yI (j:Int)] 32 (fun _:Unit=>.bool b1) _ (fun w S R=>((show Calls _ _ _ _ (RetV w (.bool b1)) by rw[←T];exact aL (j) R.1.1.1.2 qO)).mono (fun _ _ h=>zL h rfl)) fun xx=>?_
 refine xq 1 [yB 33 b1] [] ?_
 rcases bl2 (b1) with i|i
 ·rw[i]
  have k1:=uA (T.trans i)
  refine xq 1 [eS1 34 A l c] [] ?_
  refine xqc 171 [.slice A l c] 35 (fun _:Unit=>yI ((tzn n:Nat):Int)) _ (fun w S R=>(ZaD R.1.1.1.1.1 R.1.1.1.1.2 E O).mono (fun _ _ h=>zL h rfl)) fun xx=>?_
  refine xq 2 [yJ 37 (IntKind.i64.wrap (((j+1:Nat):Int)-1))] [] ?_
  rw[yW (((j+1:Nat):Int)-1) ((j:Int)) qO]
  refine xq 2 [yB 39 (decide (((tzn n:Nat):Int)<(j:Int)))] [] ?_
  rcases bl2 ((decide (((tzn n:Nat):Int)<(j:Int)))) with m|m
  ·rw[m]
   have W:=uA m
   have k4:tzn n<j:=qO
   refine xr 8 [yB 0 s,yJ 2 e,(10,.p 10 0),yJ 11 0,yJ 12 ((j+1:Nat):Int),eS1 13 a b f,yB 47 true] [yF 10 109 false none 0 0 0] ?_
   refine yZ (xa (zB (xq 1 [eS1 48 a b f] [] ?_)))
   refine yD (d:=49) (fun C:Nat=>.slice (yL C) 1 1) (fun C zw=>Blk 141 zw C #[yX 1]) (fun w S R=>kC (t:=107) (e:=141) (n:=1) (sz:=1) (z:=yX 0) (parts:=#[(0,Operand.const (Value.int IntKind.u64 1))]) qK qK qK qK qK qK) fun w0=>?_
   refine xr 0 [yB 0 s,yJ 2 e,(10,.p 10 0),yJ 11 0,yJ 12 ((j+1:Nat):Int),eS1 13 a b f,eS1 48 a b f,eS1 49 (yL w0) 1 1] [yF 10 109 false none 0 0 0] ?_
   refine xqc 135 [.slice a b f,.slice (yL w0) 1 1] 50 xH _ (fun w S R=>(jP R.1.1.1.2 (gV R.2) B wl_1).mono (fun _ _=>xD)) fun⟨X,Y,Z⟩=>?_
   refine xq 1 [eS1 13 X Y Z] [] ?_
   refine yZ (yY (xq 5 [yB 51 s,eS1 52 X Y Z,yJ 55 (IntKind.i64.wrap (e+((j+1:Nat):Int)))] [] ?_))
   rw[yW (e+((j+1:Nat):Int)) (e+((j+1:Nat):Int)) qO]
   obtain⟨o,H⟩:=yE (wI s (n/2^(j+1)+1) ((e+((j+1:Nat):Int))))
   refine xqc 138 [.bool s,.slice X Y Z, yI (e+((j+1:Nat):Int))] 56 (shNb o) _ (fun w S R=>((show Calls _ _ _ _ (wA w o) by rw[←H];exact kH s _ _ _ _ _ _ R.1.1.1.1.1.1.1.1 R.2 P qO qO)).mono (fun _ _=>wC)) fun⟨a0,b0,c0⟩=>?_
   refine xq 4 [yJ 11 o.err] [yF 10 109 o.s a0 b0 c0 o.e] ?_
   refine yZ (zG ?_)
   refine yR (.tuple #[yV o.s a0 b0 c0 o.e, yI o.err]) fun w' S R=>?_
   rw[fD hj k1 (Or.inl k4) O,H]
   exact⟨(a0,b0,c0),rfl,R.2,S⟩
  rw[m]
  have W:=uB m
  have k4:¬ tzn n<j:=qO
  refine xr 1 [yB 0 s,yJ 2 e,(4,.v (.func (.func 159) #[] #[.pointer (yL Q)])),(10,.p 10 0),yJ 11 0,yJ 12 ((j+1:Nat):Int),eS1 13 a b f,yB 33 true,yB 39 false,eS1 40 a b f] [yF 10 109 false none 0 0 0] ?_
  refine xqc 170 [.slice a b f, yI 0] 41 (fun _:Unit=>.bool b2) _ (fun w S R=>((show Calls _ _ _ _ (RetV w (.bool b2)) by rw[←U];exact aL (0) R.1.1.2 qO)).mono (fun _ _ h=>zL h rfl)) fun xx=>?_
  refine xq 2 [yB 43 b2] [] ?_
  rcases bl2 (b2) with q|q
  ·rw[q]
   have k2:=uA (U.trans q)
   rw[tC,rR] at k2
   refine xq 4 [yB 47 true] [] ?_
   refine yZ (xa (zB (xq 1 [eS1 48 a b f] [] ?_)))
   refine yD (d:=49) (fun C:Nat=>.slice (yL C) 1 1) (fun C zw=>Blk 141 zw C #[yX 1]) (fun w S R=>kC (t:=107) (e:=141) (n:=1) (sz:=1) (z:=yX 0) (parts:=#[(0,Operand.const (Value.int IntKind.u64 1))]) qK qK qK qK qK qK) fun x0=>?_
   refine xr 0 [yB 0 s,yJ 2 e,(10,.p 10 0),yJ 11 0,yJ 12 ((j+1:Nat):Int),eS1 13 a b f,eS1 48 a b f,eS1 49 (yL x0) 1 1] [yF 10 109 false none 0 0 0] ?_
   refine xqc 135 [.slice a b f,.slice (yL x0) 1 1] 50 xH _ (fun w S R=>(jP R.1.1.1.1.2 (gV R.2) B wl_1).mono (fun _ _=>xD)) fun⟨d0,e0,f0⟩=>?_
   refine xq 1 [eS1 13 d0 e0 f0] [] ?_
   refine yZ (yY (xq 5 [yB 51 s,eS1 52 d0 e0 f0,yJ 55 (IntKind.i64.wrap (e+((j+1:Nat):Int)))] [] ?_))
   rw[yW (e+((j+1:Nat):Int)) (e+((j+1:Nat):Int)) qO]
   obtain⟨r,I⟩:=yE (wI s (n/2^(j+1)+1) ((e+((j+1:Nat):Int))))
   refine xqc 138 [.bool s,.slice d0 e0 f0, yI (e+((j+1:Nat):Int))] 56 (shNb r) _ (fun w S R=>((show Calls _ _ _ _ (wA w r) by rw[←I];exact kH s _ _ _ _ _ _ R.1.1.1.1.1.1.1.1.1 R.2 P qO qO)).mono (fun _ _=>wC)) fun⟨g0,i0,j0⟩=>?_
   refine xq 4 [yJ 11 r.err] [yF 10 109 r.s g0 i0 j0 r.e] ?_
   refine yZ (zG ?_)
   refine yR (.tuple #[yV r.s g0 i0 j0 r.e, yI r.err]) fun w' S R=>?_
   rw[fD hj k1 (Or.inr (Or.inl k2)) O,I]
   exact⟨(g0,i0,j0),rfl,R.2,S⟩
  rw[q]
  have k2:=uB (U.trans q)
  rw[tC,rR] at k2
  refine xq 1 [(44,.v (.func (.func 159) #[] #[.pointer (yL Q)]))] [] ?_
  refine xqc 159 [.pointer (yL Q)] 45 (fun _:Unit=>.bool b3) _ (fun w S R=>((show Calls _ _ _ _ (RetV w (.bool b3)) by rw[←V];exact Znt Q A2 l2 c2 _ R.1.1.1.1.1.2)).mono (fun _ _ h=>zL h rfl)) fun xx=>?_
  refine xq 2 [yB 47 b3] [] ?_
  refine xe (zA ?_)
  refine yQ (b3) (fun D=>?_) fun D=>?_
  ·have k3:=V.trans D
   refine zB (xq 1 [eS1 48 a b f] [] ?_)
   refine yD (d:=49) (fun C:Nat=>.slice (yL C) 1 1) (fun C zw=>Blk 141 zw C #[yX 1]) (fun w S R=>kC (t:=107) (e:=141) (n:=1) (sz:=1) (z:=yX 0) (parts:=#[(0,Operand.const (Value.int IntKind.u64 1))]) qK qK qK qK qK qK) fun y0=>?_
   refine xr 0 [yB 0 s,yJ 2 e,(10,.p 10 0),yJ 11 0,yJ 12 ((j+1:Nat):Int),eS1 13 a b f,eS1 48 a b f,eS1 49 (yL y0) 1 1] [yF 10 109 false none 0 0 0] ?_
   refine xqc 135 [.slice a b f,.slice (yL y0) 1 1] 50 xH _ (fun w S R=>(jP R.1.1.1.1.1.2 (gV R.2) B wl_1).mono (fun _ _=>xD)) fun⟨k0,l0,m0⟩=>?_
   refine xq 1 [eS1 13 k0 l0 m0] [] ?_
   refine yZ (yY (xq 5 [yB 51 s,eS1 52 k0 l0 m0,yJ 55 (IntKind.i64.wrap (e+((j+1:Nat):Int)))] [] ?_))
   rw[yW (e+((j+1:Nat):Int)) (e+((j+1:Nat):Int)) qO]
   obtain⟨u,J⟩:=yE (wI s (n/2^(j+1)+1) ((e+((j+1:Nat):Int))))
   refine xqc 138 [.bool s,.slice k0 l0 m0, yI (e+((j+1:Nat):Int))] 56 (shNb u) _ (fun w S R=>((show Calls _ _ _ _ (wA w u) by rw[←J];exact kH s _ _ _ _ _ _ R.1.1.1.1.1.1.1.1.1.1 R.2 P qO qO)).mono (fun _ _=>wC)) fun⟨n0,o0,p0⟩=>?_
   refine xq 4 [yJ 11 u.err] [yF 10 109 u.s n0 o0 p0 u.e] ?_
   refine yZ (zG ?_)
   refine yR (.tuple #[yV u.s n0 o0 p0 u.e, yI u.err]) fun w' S R=>?_
   rw[fD hj k1 (Or.inr (Or.inr k3)) O,J]
   exact⟨(n0,o0,p0),rfl,R.2,S⟩
  have k3:=V.trans D
  refine zJ (zA (yY (xq 5 [yB 51 s,eS1 52 a b f,yJ 55 (IntKind.i64.wrap (e+((j+1:Nat):Int)))] [] ?_)))
  rw[yW (e+((j+1:Nat):Int)) (e+((j+1:Nat):Int)) qO]
  obtain⟨x,hr25⟩:=yE (wI s (n/2^(j+1)) ((e+((j+1:Nat):Int))))
  refine xqc 138 [.bool s,.slice a b f, yI (e+((j+1:Nat):Int))] 56 (shNb x) _ (fun w S R=>((show Calls _ _ _ _ (wA w x) by rw[←hr25];exact kH s _ _ _ _ _ _ R.1.1.1.1.1.1.1.1 R.1.1.1.1.2 B qO qO)).mono (fun _ _=>wC)) fun⟨q0,r0,s0⟩=>?_
  refine xq 4 [yJ 11 x.err] [yF 10 109 x.s q0 r0 s0 x.e] ?_
  refine yZ (zG ?_)
  refine yR (.tuple #[yV x.s q0 r0 s0 x.e, yI x.err]) fun w' S R=>?_
  rw[eQ hj O (fun h=>by rcases h.2 with h|h|h;exact k4 h;exact k2 h;rw[k3] at h;cases h),hr25]
  exact⟨(q0,r0,s0),rfl,R.2,S⟩
 rw[i]
 have k1:=uB (T.trans i)
 refine xq 14 [yB 47 false] [] ?_
 refine yZ (xb (zJ (zA (yY (xq 5 [yB 51 s,eS1 52 a b f,yJ 55 (IntKind.i64.wrap (e+((j+1:Nat):Int)))] [] ?_)))))
 rw[yW (e+((j+1:Nat):Int)) (e+((j+1:Nat):Int)) qO]
 obtain⟨y,K⟩:=yE (wI s (n/2^(j+1)) ((e+((j+1:Nat):Int))))
 refine xqc 138 [.bool s,.slice a b f, yI (e+((j+1:Nat):Int))] 56 (shNb y) _ (fun w S R=>((show Calls _ _ _ _ (wA w y) by rw[←K];exact kH s _ _ _ _ _ _ R.1.1.1.1.1 R.1.2 B qO qO)).mono (fun _ _=>wC)) fun⟨t0,u0,v0⟩=>?_
 refine xq 4 [yJ 11 y.err] [yF 10 109 y.s t0 u0 v0 y.e] ?_
 refine yZ (zG ?_)
 refine yR (.tuple #[yV y.s t0 u0 v0 y.e, yI y.err]) fun w' S R=>?_
 rw[eQ hj O (fun h=>k1 h.1),K]
 exact⟨(t0,u0,v0),rfl,R.2,S⟩
theorem Zhg {u v:Value}{m n:Nat}{w:World}(d:zF w u m)(e:zF w v n)(f:wl m≤4294967295)(g:wl n≤4294967296)(l:0<n):yA 158 #[u,v] w (Zb4 w (m/n) (m%n)):=by
 have a:=d
 have b:=e
 obtain⟨A,o,c,rfl,y,p,h,i,rfl⟩:=d
 obtain⟨q,r,s,rfl,t,x,j,k,rfl⟩:=e
 rw[←xO h i] at f
 rw[←xO j k] at g
 exact Zno A q o r c s w p x f g h j a b i k l
theorem Zpd {s:Bool}{A:qA}{l c:Nat}{e:Int}:Zkr #[.bool s,.slice A l c,.int .i64 e]:=by
 intro i k;rcases i with _|_|_|i<;>simp
theorem Blk.cell3n {t:TypeId}{w:World}{g:Nat}{x y z:Value}(h:Blk t w g #[x,y,z]):w.cell? ⟨g,0,none⟩=some x∧w.cell? ⟨g,1,none⟩=some y∧w.cell? ⟨g,2,none⟩=some z∧w.frozen? ⟨g,0,none⟩=false∧w.frozen? ⟨g,1,none⟩=false∧w.frozen? ⟨g,2,none⟩=false :=
 ⟨h.cell 0,h.cell 1,h.cell 2,h.frozen 0,h.frozen 1,h.frozen 2⟩
theorem ZrZ {fn:Func}{t t2:Tmp}{a:Array Value}{w g b:World}{r:Nat}{x:FR}{A u:qA}{l c y c0:Nat}{s0:Bool}{z:Int}(d:fn.results=#[.cell t 109,.tmp t2])(B:a[t]? = some (.pointer (some ⟨r,0,none⟩)))(h:a[t2]? = some (.int .i64 x.err))(j:w.heap.size≤r)(C:Ext w g)(D:Blk 109 g r #[.bool s0,.slice u y c0,.int .i64 z])(q:Ext g b)(E:zF b (.slice A l c) x.m) :
 bodyPost prog fn (wA w x) .ret ⟨a,[]⟩ (((b.setCell ⟨r,0,none⟩ (.bool x.s)).setCell ⟨r,1,none⟩ (.slice A l c)).setCell ⟨r,2,none⟩ (.int .i64 x.e)):=by
 have f:=D.ext q
 have k:Blk 109 (((b.setCell ⟨r,0,none⟩ (.bool x.s)).setCell ⟨r,1,none⟩ (.slice A l c)).setCell ⟨r,2,none⟩ (.int .i64 x.e)) r #[.bool x.s,.slice A l c,.int .i64 x.e]:=((f.set_ 0 _).set_ 1 _).set_ 2 _
 obtain⟨F,G,H,_⟩:=k.cell3n
 have I:Fr (fun i=>i=r) b (((b.setCell ⟨r,0,none⟩ (.bool x.s)).setCell ⟨r,1,none⟩ (.slice A l c)).setCell ⟨r,2,none⟩ (.int .i64 x.e)):=(((show Fr (fun i=>i=r) b b from Fr.refl _ _).setCell (p:=⟨r,0,none⟩) (Or.inl rfl) _).setCell (p:=⟨r,1,none⟩) (Or.inl rfl) _).setCell (p:=⟨r,2,none⟩) (Or.inl rfl) _
 have n:=E.other f Zpd I
 have o:Ext w (((b.setCell ⟨r,0,none⟩ (.bool x.s)).setCell ⟨r,1,none⟩ (.slice A l c)).setCell ⟨r,2,none⟩ (.int .i64 x.e)):=(((C.trans q).setCell (p:=⟨r,0,none⟩) (Or.inr j) _).setCell (p:=⟨r,1,none⟩) (Or.inr j) _).setCell (p:=⟨r,2,none⟩) (Or.inr j) _
 generalize ((b.setCell ⟨r,0,none⟩ (.bool x.s)).setCell ⟨r,1,none⟩ (.slice A l c)).setCell ⟨r,2,none⟩ (.int .i64 x.e)=W at *
 exact bodyPost_ret (v:=shNb x (A,l,c)) (by simp[results,d,B,h,go_sem,F,G,H,shNb]) rfl ⟨(A,l,c),rfl,n,o⟩
theorem Zba {a b:Nat}(h:a<64*b):wl (2^a)≤b:=kN.2 (by rw[show W64=2^64 by rw[zO],← rQ];exact Nat.pow_lt_pow_right qD h)
theorem ZdD (s:Bool)(A:qA)(l c n:Nat)(B:qA)(m d k:Nat)(e:Int)(bits:Nat)(w:World)(hg:Glob w)(hN:zF w (.slice A l c) n)(hK:zF w (.slice B m d) k)(h0:wl n≤1000000)(i0:wl k≤1000000)(D:0<k)(j0 : -288230376151711744≤e)(k0:e≤288230376151711744)(P:0<bits)(hb:bits≤1000000) :
 yA 110 #[.bool s,.slice A l c,.slice B m d,.int .i64 e,.int .i64 ((bits:Nat):Int)] w (wA w (wL s n k e bits)):=by
 have l0:=fS n
 have m0:=fS k
 obtain⟨a1,E⟩:∃ a,a=(rk0 n k bits-1).toNat:=⟨_,rfl⟩
 obtain⟨a2,j⟩:∃ a,a=(-(rk0 n k bits-1)).toNat:=⟨_,rfl⟩
 obtain⟨b,Q⟩:∃ x:Int,x=(bits:Int)+1+(blen k:Nat)-(blen n:Nat):=⟨_,rfl⟩
 have f:rk0 n k bits-1 = -b:=by unfold rk0;omega
 rw[f] at E j
 rw[Int.neg_neg] at j
 have n0 : -100000000≤b:=qO
 have o0:b≤100000000:=qO
 have F:fa n (rk0 n k bits-1)=n*2^a2:=by unfold fa;rw[f,Int.neg_neg,← j]
 have G:fb k (rk0 n k bits-1)=k*2^a1:=by unfold fb;rw[f,← E]
 have p0:wl (n*2^a2)≤4000000:=by
  refine uD (Zak _ _) ?_
  have:wl (2^a2)≤2000001:=Zba qO
  omega
 have q0:wl (k*2^a1)≤4000000:=by
  refine uD (Zak _ _) ?_
  have:wl (2^a1)≤2000001:=Zba qO
  omega
 have r0:(if (0:Int)>b then (0:Int) else b)=(a2:Int):=by split<;>omega
 have s0:(if (0:Int) > -b then (0:Int) else -b)=(a1:Int):=by split<;>omega
 have HG:=zh hg
 have HN:=zh hN
 have HK:=zh hK
 clear hg hN hK
 obtain⟨x,R⟩:=yE (wL s n k e bits)
 rw[R]
 have HX:=zh R
 clear R
 go_enter func110,ntmps110
 go_wp2_with fail
 refine (kT (HK.out.ext ((Fr.refl _ _).alloc _)) qO).mono ?_
 rintro H w1 ⟨rfl,o⟩
 have I:Hid (Ext w w1):=((Fr.refl _ _).alloc _).trans o
 have S:Hid (Blk 109 w1 w.heap.size #[.bool false,.slice none 0 0,.int .i64 0]):=(show Blk 109 (w.alloc (.cells #[.bool false,.slice none 0 0,.int .i64 0] 109)) w.heap.size #[.bool false,.slice none 0 0,.int .i64 0] from heap_alloc_new w _).ext o
 clear o
 go_wp2_with fail
 refine (kT (HN.out.ext I.out) qO).mono ?_
 rintro H w2 ⟨rfl,p⟩
 have J:=zh (I.out.trans p)
 have T:=zh (S.out.ext p)
 clear p
 go_wp2_with fail
 rw[show max ((bits:Int)+1+(blen k:Nat)-(blen n:Nat)) 0=(a2:Int) by omega]
 refine (jL a2 (HN.out.ext J.out) qO qO).mono ?_
 rintro H w3 ⟨v3,rfl,q,r⟩
 obtain⟨A3,l3,c3,rfl⟩:=q.slice
 have K:=zh (J.out.trans r)
 have U:=zh (T.out.ext r)
 have V:=zh q
 clear q r
 go_wp2_with fail
 rw[show max (-((bits:Int)+1+(blen k:Nat)-(blen n:Nat))) 0=(a1:Int) by omega]
 refine (jL a1 (HK.out.ext K.out) qO qO).mono ?_
 rintro H w4 ⟨v4,rfl,t,g⟩
 obtain⟨A4,l4,c4,rfl⟩:=t.slice
 have W:=zh (K.out.trans g)
 have X:=zh (U.out.ext g)
 have L:=zh (V.out.ext g)
 have Y:=zh t
 clear t g
 go_wp2_with fail
 refine (Zhg L.out Y.out qO qO (sL D (p2 a1))).mono ?_
 rintro H Z ⟨v5,v6,rfl,u,v,y⟩
 obtain⟨A5,l5,c5,rfl⟩:=u.slice
 obtain⟨A6,O,c6,rfl⟩:=v.slice
 have M:=zh (W.out.trans y)
 have a0:=zh (X.out.ext y)
 have b0:=zh u
 have c0:=zh v
 clear u v y
 go_wp2_with fail
 have i:ZcI (Z.alloc (.cells #[.slice A6 O c6] 107)) Z.heap.size (.slice A6 O c6):=⟨qS,by rw[Lib.cell_of_heap (heap_alloc_new Z _)];rfl⟩
 have d0:wl (n*2^a2/(k*2^a1))≤4294967296:=uD (wR (uY _ _)) qO
 refine (ZlT s A5 l5 c5 _ _ bits _ A6 O c6 _ (HG.out.ext (M.out.alloc _)) (b0.out.ext ((Fr.refl _ _).alloc _)) d0 qO qO qO i).mono ?_
 rintro H w6 ⟨⟨A7,l7,c7⟩,rfl,z,C⟩
 have hr:lD s (n*2^a2/(k*2^a1)) (e-((bits:Int)+1+(blen k:Nat)-(blen n:Nat))) bits (decide (0<O))=x:=by
  rw[←HX.out,← Q]
  rcases uJ n with rfl|hn
  ·rw[sM,Nat.zero_div,Zex,fC]
  have h:=ZjY s (n:=n) (d:=k) e (bits:=bits) hn D P
  have hq:fq n k (rk0 n k bits-1)=n*2^a2/(k*2^a1):=by unfold fq;rw[F,G]
  rw[hq,F,G,f] at h
  rw[←h,show e + -b=e-b by omega]
  congr 1
  have e0:=c0.out.len0
  exact pL.2 (by rw[e0];have:=@lL (n*2^a2%(k*2^a1));omega)
 rw[hr] at z
 rw[hr]
 clear hr
 have f0:=zh z
 have g0:Hid (Ext w w6):=(M.out.alloc _).trans C
 have N:=zh ((a0.out.ext ((Fr.refl _ _).alloc _)).ext C)
 obtain⟨z0,z1,z2,z3,z4,z5⟩:=N.out.cell3n
 clear z C i
 simp only[shNb]
 go_wp2
 exact ZrZ rfl rfl rfl (uF _) g0.out N.out (Fr.refl _ _) f0.out
theorem ZgA {a b:Int}:(if b<a then b else a)=min a b:=qO
def ZcJ (s:Bool) (m n:Nat) (e:Int) (bits:Nat):FR:=if n=0 then ⟨false,0,0,5⟩ else wL s m n e bits
def sumR (sx:Bool) (xm:Nat) (xe:Int) (sy:Bool) (ym:Nat) (ye:Int) (bits:Nat):FR :=
 if xm=0 then wL sy ym 1 ye bits else if ym=0 then wL sx xm 1 xe bits else addR sx xm xe sy ym ye bits
theorem ZbA {n a:Nat}(c:wl n≤1000000)(ha:a≤100000000):wl (n*2^a)≤4000000:=by
 have:=Zak n (2^a)
 have:wl (2^a)≤2000001:=Zba qO
 omega
section
variable {s t:Bool} {a b bits:Nat} {low:Int}
theorem Zhh (ha:0<a)(h:s=t):wL (decide (sg s a+sg t b<0)) (sg s a+sg t b).natAbs 1 low bits=wL s (a+b) 1 low bits:=by
 subst h
 have c:decide (sg s a+sg s b<0)=s:=by cases s<;>simp[sg]<;>omega
 have d:(sg s a+sg s b).natAbs=a+b:=by cases s<;>simp[sg]<;>omega
 rw[c,d]
theorem ZfR (h:¬ s=t)(f:b≤a):wL (decide (sg s a+sg t b<0)) (sg s a+sg t b).natAbs 1 low bits=wL s (a-b) 1 low bits:=by
 have c:(sg s a+sg t b).natAbs=a-b:=by cases s<;>cases t<;>simp[sg] at h ⊢<;>omega
 rw[c]
 by_cases e:a-b=0
 ·rw[e,fC,fC]
 have d:decide (sg s a+sg t b<0)=s:=by cases s<;>cases t<;>simp[sg] at h ⊢<;>omega
 rw[d]
theorem Zey (h:¬ s=t)(e:a<b):wL (decide (sg s a+sg t b<0)) (sg s a+sg t b).natAbs 1 low bits=wL t (b-a) 1 low bits:=by
 have c:(sg s a+sg t b).natAbs=b-a:=by cases s<;>cases t<;>simp[sg] at h ⊢<;>omega
 rw[c]
 have d:decide (sg s a+sg t b<0)=t:=by cases s<;>cases t<;>simp[sg] at h ⊢<;>omega
 rw[d]
end
theorem ZiL {sx:Bool}{c:Nat}{xe:Int}{d:Bool}{ym:Nat}{e:Int}{bits u1 u2:Nat}{low:Int}(f:min xe e=low)(g:xe-low=u1)(h:e-low=u2) :
 addR sx c xe d ym e bits=wL (decide (sg sx (c*2^u1)+sg d (ym*2^u2)<0)) (sg sx (c*2^u1)+sg d (ym*2^u2)).natAbs 1 low bits:=by
 unfold addR
 rw[f,g,h]
 rfl
theorem ZaN {a b:Nat}:cmpI a b≥0↔b≤a:=by
 have:=@fH a b
 omega
theorem ZbB (s:Bool)(A:qA)(l c x:Nat)(e:Int)(w:World)(f:zF w (.slice A l c) x)(d:wl x≤4294967296)(g : -1152921504606846976≤e)(h:e≤1152921504606846976) :
 yA 134 #[yV s A l c e] w (RetV w (.int .i64 (((blen x:Nat):Int)+e))):=by
 refine zT (Φ:=fun w=>zF w (.slice A l c) (x)) func134 rfl qK (fun w' i=>f.ext i) ?_
 refine zC ?_
 have j:=ZfQ d
 refine zB (xq 2 [(1,.p 1 0),yJ 2 0] [yF 1 109 s A l c e] ?_)
 refine yZ (zC ?_)
 refine yO 7 zP ?_
 refine xqg 2 [eS1 4 A l c] ?_
 refine xqd 139 [.slice A l c] 5 (fun _:Unit=>yI ((blen x:Nat):Int)) _ (fun w R Q=>yN (kT Q d)) fun k=>?_
 refine xqg 3 [yJ 8 (IntKind.i64.wrap (((blen x:Nat):Int)+e))] ?_
 rw[yW (((blen x:Nat):Int)+e) (((blen x:Nat):Int)+e) qO]
 refine xqg 1 [yJ 2 (((blen x:Nat):Int)+e)] ?_
 refine xz (yZ (zG ?_))
 refine yR (yI (((blen x:Nat):Int)+e)) fun w' R Q=>?_
 exact⟨rfl,R⟩
theorem Znv (s:Bool)(A:qA)(l c x:Nat)(e:Int)(t:Bool)(B:qA)(m d y:Nat)(f:Int)(bits:Nat)(C:0<bits)(W:bits≤4096)(w:World)(J:Glob w)(H:zF w (.slice A l c) x)(K:wl x≤100000)(L : -1073741824≤e)(M:e≤1073741824)(I:zF w (.slice B m d) y)(N:wl y≤100000)(O : -1073741824≤f)(P:f≤1073741824) :
 yA 130 #[yV s A l c e, yV t B m d f,.int .i64 ((bits:Nat):Int)] w (wA w (wL (s != t) (x*y) 1 (e+f) bits)):=by
 refine zT (Φ:=fun w=>((Glob w∧zF w (.slice A l c) (x))∧zF w (.slice B m d) (y))) func130 rfl qK (fun w' D=>⟨⟨J.ext D,H.ext D⟩,I.ext D⟩) ?_
 refine zC ?_
 have S:=H.len0
 have T:=I.len0
 have U:=@lL x
 have V:=@lL y
 refine zB (xq 4 [(3,.p 3 0),(4,.p 4 0),(6,.p 6 0),yJ 7 0] [yF 6 109 false none 0 0 0,yF 4 109 t B m d f,yF 3 109 s A l c e] ?_)
 refine yZ (zC (yY (xq 5 [yB 12 (((l:Int):Int) == 0)] [] ?_)))
 rcases bl2 ((((l:Int):Int) == 0)) with h|h
 ·rw[h]
  have q:=tV.1 h
  have u:x=0:=qO
  refine xq 5 [yB 17 true] [] ?_
  refine yZ (xa (yY (xq 3 [yJ 7 0] [] ?_)))
  refine yZ (zG (zH ?_))
  refine yR (.tuple #[yV false none 0 0 0, yI 0]) fun w' R Q=>?_
  rw[u,sM,fC]
  exact⟨(none,0,0),rfl,zF.zero _,R⟩
 rw[h]
 have q:=lG h
 have u:¬ x=0:=qO
 refine xq 5 [yB 17 (((m:Int):Int) == 0)] [] ?_
 refine xe (zA ?_)
 refine yQ ((((m:Int):Int) == 0)) (fun i=>?_) fun i=>?_
 ·have r:=tV.1 i
  have z:y=0:=qO
  refine yY (xq 3 [yJ 7 0] [] ?_)
  refine yZ (zG (zH ?_))
  refine yR (.tuple #[yV false none 0 0 0, yI 0]) fun w' R Q=>?_
  rw[z,tT,fC]
  exact⟨(none,0,0),rfl,zF.zero _,R⟩
 have r:=lG i
 have z:¬ y=0:=qO
 refine zJ (zA (zC ?_))
 refine yO 19 zP ?_
 refine xqg 9 [yB 23 (s != t),eS1 25 A l c,eS1 27 B m d] ?_
 refine xqd 143 [.slice A l c,.slice B m d] 28 xH _ (fun w R Q=>yM xD (ZcF Q.1.2 Q.2 qO qO)) fun⟨E,F,G⟩=>?_
 refine xqg 5 [yJ 33 (IntKind.i64.wrap (e+f))] ?_
 rw[yW (e+f) (e+f) qO]
 refine xqg 1 [yJ 34 (bits:Int)] ?_
 obtain⟨g,o⟩:=yE (lD ((s != t)) (x*y) ((e+f)) bits false)
 refine xqd 132 [.bool (s != t),.slice E F G, yI (e+f), yI (bits:Int),.func (.func 133) #[] #[]] 35 (shNb g) _ (fun w R Q=>yM wC ((show Calls _ _ _ _ (wA w g) by rw[←o];exact iU ((s != t)) _ _ _ _ ((e+f)) _ _ Q.1.1.1 Q.2 (by have:=Zak x y;omega) qO qO qO))) fun⟨j,k,n⟩=>?_
 refine xqg 2 [(36,.v (yV g.s j k n g.e)),yJ 37 g.err] ?_
 refine xz (xq 2 [yJ 7 g.err] [yF 6 109 g.s j k n g.e] ?_)
 refine yZ (zG ?_)
 refine yR (.tuple #[yV g.s j k n g.e, yI g.err]) fun w' R Q=>?_
 rw[←kU _ _ _ C,o]
 exact⟨(j,k,n),rfl,Q.2,R⟩
theorem Znw (s:Bool)(A:qA)(l c x:Nat)(e:Int)(t:Bool)(B:qA)(m d y:Nat)(f:Int)(bits:Nat)(r:0<bits)(N:bits≤4096)(w:World)(C:Glob w)(v:zF w (.slice A l c) x)(D:wl x≤100000)(E : -1073741824≤e)(F:e≤1073741824)(z:zF w (.slice B m d) y)(G:wl y≤100000)(H : -1073741824≤f)(I:f≤1073741824) :
 yA 96 #[yV s A l c e, yV t B m d f,.int .i64 ((bits:Nat):Int)] w (wA w (ZcJ (s != t) x y (e-f) bits)):=by
 refine zT (Φ:=fun w=>((Glob w∧zF w (.slice A l c) (x))∧zF w (.slice B m d) (y))) func96 rfl qK (fun w' u=>⟨⟨C.ext u,v.ext u⟩,z.ext u⟩) ?_
 refine zC ?_
 have J:=v.len0
 have K:=z.len0
 have L:=@lL x
 have M:=@lL y
 refine zB (xq 4 [(3,.p 3 0),(4,.p 4 0),(6,.p 6 0),yJ 7 0] [yF 6 109 false none 0 0 0,yF 4 109 t B m d f,yF 3 109 s A l c e] ?_)
 refine yZ (zC (yY (xq 4 [yB 11 (((m:Int):Int) == 0)] [] ?_)))
 refine xe (zA ?_)
 refine yQ ((((m:Int):Int) == 0)) (fun h=>?_) fun h=>?_
 ·have j:=tV.1 h
  have k:y=0:=qO
  refine yY (xq 3 [yJ 7 5] [] ?_)
  refine yZ (zG (zH ?_))
  refine yR (.tuple #[yV false none 0 0 0, yI 5]) fun w' R Q=>?_
  rw[show ZcJ (s != t) x y (e-f) bits=⟨false,0,0,5⟩ from vC k]
  exact⟨(none,0,0),rfl,zF.zero _,R⟩
 have j:=lG h
 have k:¬ y=0:=qO
 refine zJ (zA (yY (xq 14 [yB 17 (s != t),eS1 19 A l c,eS1 21 B m d,yJ 26 (IntKind.i64.wrap (e-f))] [] ?_)))
 rw[yW (e-f) (e-f) qO]
 refine xq 1 [yJ 27 (bits:Int)] [] ?_
 obtain⟨g,i⟩:=yE (wL (s != t) x y ((e-f)) bits)
 refine xqc 110 [.bool (s != t),.slice A l c,.slice B m d, yI (e-f), yI (bits:Int)] 28 (shNb g) _ (fun w R Q=>yM wC ((show Calls _ _ _ _ (wA w g) by rw[←i];exact ZdD (s != t) _ _ _ x _ _ _ y _ bits _ Q.1.1 Q.1.2 Q.2 qO qO qO qO qO r qO))) fun⟨n,o,q⟩=>?_
 refine xq 4 [yJ 7 g.err] [yF 6 109 g.s n o q g.e] ?_
 refine yZ (zG ?_)
 refine yR (.tuple #[yV g.s n o q g.e, yI g.err]) fun w' R Q=>?_
 rw[show ZcJ (s != t) x y (e-f) bits=wL (s != t) x y (e-f) bits from uO k,i]
 exact⟨(n,o,q),rfl,Q.2,R⟩
theorem Zhi (s:Bool)(A:qA)(l c x:Nat)(e:Int)(t:Bool)(B:qA)(m d y:Nat)(f:Int)(bits:Nat)(H:0<bits)(hb:bits≤4096)(w:World)(hg:Glob w)(hX:zF w (.slice A l c) x)(E1:wl x≤100000)(F1 : -1073741824≤e)(G1:e≤1073741824)(hY:zF w (.slice B m d) y)(H1:wl y≤100000)(I1 : -1073741824≤f)(J1:f≤1073741824) :
 yA 91 #[yV s A l c e, yV t B m d f,.int .i64 ((bits:Nat):Int)] w (wA w (sumR s x e t y f bits)):=by
 refine zT (Φ:=fun w=>((Glob w∧zF w (.slice A l c) (x))∧zF w (.slice B m d) (y))) func91 rfl qK (fun w' hf=>⟨⟨hg.ext hf,hX.ext hf⟩,hY.ext hf⟩) ?_
 refine zC ?_
 have K1:=hX.len0
 have L1:=hY.len0
 have M1:=@lL x
 have N1:=@lL y
 have O1:=fS x
 have R1:=fS y
 refine zB (xq 4 [(3,.p 3 0),(4,.p 4 0),(6,.p 6 0),yJ 7 0] [yF 6 109 false none 0 0 0,yF 4 109 t B m d f,yF 3 109 s A l c e] ?_)
 refine yZ (zC (yY (xq 4 [yB 15 (((l:Int):Int) == 0)] [] ?_)))
 refine xe (zA ?_)
 refine yQ ((((l:Int):Int) == 0)) (fun b0=>?_) fun b0=>?_
 ·have N0:=tV.1 b0
  have O0:x=0:=qO
  refine zB (xq 4 [] [yF 4 109 s A l c e,yF 3 109 t B m d f] ?_)
  refine yZ (zC (yY (xq 4 [yB 21 (((l:Int):Int) == 0)] [] ?_)))
  rw[b0]
  refine yZ (xa (yY (xq 7 [yB 23 t,eS1 25 B m d,yJ 27 f,yJ 28 (bits:Int)] [] ?_)))
  obtain⟨X,E0⟩:=yE (lD t (y) (f) bits false)
  refine xqc 132 [.bool t,.slice B m d, yI f, yI (bits:Int),.func (.func 133) #[] #[]] 29 (shNb X) _ (fun w R Q=>yM wC ((show Calls _ _ _ _ (wA w X) by rw[←E0];exact iU t _ _ _ _ f _ _ Q.1.1 Q.2 qO qO qO qO))) fun⟨P0,Q0,R0⟩=>?_
  refine xq 4 [yJ 7 X.err] [yF 6 109 X.s P0 Q0 R0 X.e] ?_
  refine yZ (zG (zH ?_))
  refine yR (.tuple #[yV X.s P0 Q0 R0 X.e, yI X.err]) fun w' R Q=>?_
  rw[show sumR s x e t y f bits=wL t y 1 f bits from vC O0,← kU _ _ _ H,E0]
  exact⟨(P0,Q0,R0),rfl,Q.2,R⟩
 have N0:=lG b0
 have O0:¬ x=0:=qO
 refine zJ (zA (zC (yY (xq 4 [yB 21 (((m:Int):Int) == 0)] [] ?_))))
 refine xe (zA ?_)
 refine yQ ((((m:Int):Int) == 0)) (fun e0=>?_) fun e0=>?_
 ·have S0:=tV.1 e0
  have g1:y=0:=qO
  refine yY (xq 7 [yB 23 s,eS1 25 A l c,yJ 27 e,yJ 28 (bits:Int)] [] ?_)
  obtain⟨Y,F0⟩:=yE (lD s (x) (e) bits false)
  refine xqc 132 [.bool s,.slice A l c, yI e, yI (bits:Int),.func (.func 133) #[] #[]] 29 (shNb Y) _ (fun w R Q=>yM wC ((show Calls _ _ _ _ (wA w Y) by rw[←F0];exact iU s _ _ _ _ e _ _ Q.1.1 Q.1.2 qO qO qO qO))) fun⟨T0,U0,V0⟩=>?_
  refine xq 4 [yJ 7 Y.err] [yF 6 109 Y.s T0 U0 V0 Y.e] ?_
  refine yZ (zG (zH ?_))
  refine yR (.tuple #[yV Y.s T0 U0 V0 Y.e, yI Y.err]) fun w' R Q=>?_
  rw[show sumR s x e t y f bits=wL s x 1 e bits by unfold sumR;rw[uO O0,vC g1],← kU _ _ _ H,F0]
  exact⟨(T0,U0,V0),rfl,Q.2,R⟩
 have S0:=lG e0
 have g1:¬ y=0:=qO
 refine zJ (zA ?_)
 refine Zb9 (fun ss ff=>∃ (j:Bool) (P1:Option Addr) (pl pc p:Nat) (i:Int) (o:Bool) (Q1:Option Addr) (ql qc q:Nat) (k:Int),ss=ofL [yJ 2 (bits:Int),(3,.p 3 0),(4,.p 4 0),(6,.p 6 0),yJ 7 0] [yF 6 109 false none 0 0 0,yF 3 109 j P1 pl pc i,yF 4 109 o Q1 ql qc k]∧ff=(fun w=>((Glob w∧zF w (.slice P1 pl pc) (p))∧zF w (.slice Q1 ql qc) (q)))∧(0<p)∧(0<q)∧(wl p≤100000)∧(wl q≤100000)∧(-1073741824≤i)∧(i≤1073741824)∧(-1073741824≤k)∧(k≤1073741824)∧(((blen q:Nat):Int)+k≤((blen p:Nat):Int)+i)∧(addR s x e t y f bits=addR j p i o q k bits)) ?_ ?_
 ·refine zC ?_
  refine yO 5 zP ?_
  refine xqg 1 [(32,.v (yV s A l c e))] ?_
  refine xqd 134 [yV s A l c e] 33 (fun _:Unit=>yI (((blen x:Nat):Int)+e)) _ (fun w R Q=>yN (ZbB _ _ _ _ _ _ _ Q.1.2 qO qO qO)) fun xx=>?_
  refine xqg 1 [(34,.v (yV t B m d f))] ?_
  refine xqd 134 [yV t B m d f] 35 (fun _:Unit=>yI (((blen y:Nat):Int)+f)) _ (fun w R Q=>yN (ZbB _ _ _ _ _ _ _ Q.1.2 qO qO qO)) fun xx=>?_
  refine xqg 1 [(36,.v (.bool (decide ((((blen x:Nat):Int)+e)<(((blen y:Nat):Int)+f)))))] ?_
  refine xz (xe (zA ?_))
  refine yQ ((decide ((((blen x:Nat):Int)+e)<(((blen y:Nat):Int)+f)))) (fun f0=>?_) fun f0=>?_
  ·have W0:=uA f0
   refine zB (xq 4 [] [yF 4 109 s A l c e,yF 3 109 t B m d f] ?_)
   refine xe ?_
   refine yP [yJ 2 (bits:Int),(3,.p 3 0),(4,.p 4 0),(6,.p 6 0),yJ 7 0] [yF 6 109 false none 0 0 0,yF 3 109 t B m d f,yF 4 109 s A l c e] (fun w=>((Glob w∧zF w (.slice B m d) (y))∧zF w (.slice A l c) (x))) (fun w Q=>⟨⟨Q.1.1.1.1,Q.1.1.2⟩,Q.1.1.1.2⟩) ?_
   exact jJ ⟨t,B,m,d,y,f,s,A,l,c,x,e,rfl,rfl,qO,qO,qO,qO,qO,qO,qO,qO,qO,(Znr _ _ _ _ _ _ _)⟩
  have W0:=uB f0
  refine zJ ?_
  refine yP [yJ 2 (bits:Int),(3,.p 3 0),(4,.p 4 0),(6,.p 6 0),yJ 7 0] [yF 6 109 false none 0 0 0,yF 3 109 s A l c e,yF 4 109 t B m d f] (fun w=>((Glob w∧zF w (.slice A l c) (x))∧zF w (.slice B m d) (y))) (fun w Q=>⟨⟨Q.1.1.1.1,Q.1.1.1.2⟩,Q.1.1.2⟩) ?_
  exact jJ ⟨s,A,l,c,x,e,t,B,m,d,y,f,rfl,rfl,qO,qO,qO,qO,qO,qO,qO,qO,qO,rfl⟩
 rintro ss ff ⟨j,P1,pl,pc,p,i,o,Q1,ql,qc,q,k,rfl,rfl,l0,h1,S1,T1,U1,V1,W1,X1,D1,G0⟩
 refine zC (zC ?_)
 have Y1:=fS p
 have Z1:=fS q
 have a2:=cS l0
 have b2:=cS h1
 obtain⟨z,hz⟩:=yE (min i (((blen p:Nat):Int)+i-(bits:Int)-2))
 refine yO 9 zP ?_
 refine xqg 3 [yJ 40 i,(41,.v (yV j P1 pl pc i))] ?_
 refine xqd 134 [yV j P1 pl pc i] 42 (fun _:Unit=>yI (((blen p:Nat):Int)+i)) _ (fun w R Q=>yN (ZbB _ _ _ _ _ _ _ Q.1.2 qO qO qO)) fun xx=>?_
 refine xqg 2 [(44,.v (yI (IntKind.i64.wrap ((((blen p:Nat):Int)+i)-(bits:Int)))))] ?_
 rw[yW (((blen p:Nat):Int)+i-(bits:Int)) (((blen p:Nat):Int)+i-(bits:Int)) qO]
 refine xqg 1 [(45,.v (yI (IntKind.i64.wrap ((((blen p:Nat):Int)+i-(bits:Int))-2))))] ?_
 rw[yW (((blen p:Nat):Int)+i-(bits:Int)-2) (((blen p:Nat):Int)+i-(bits:Int)-2) qO]
 refine xqg 1 [yJ 46 (if (((blen p:Nat):Int)+i-(bits:Int)-2)<i then (((blen p:Nat):Int)+i-(bits:Int)-2) else i)] ?_
 rw[(show (if ((blen p:Nat):Int)+i-(bits:Int)-2<i then ((blen p:Nat):Int)+i-(bits:Int)-2 else i)=z from ZgA.trans hz)]
 refine xqg 1 [yJ 8 z] ?_
 refine xz (yZ (yY (xq 1 [(47,.v (yV o Q1 ql qc k))] [] ?_)))
 refine xqc 134 [yV o Q1 ql qc k] 48 (fun _:Unit=>yI (((blen q:Nat):Int)+k)) _ (fun w R Q=>yN (ZbB _ _ _ _ _ _ _ Q.1.2 qO qO qO)) fun xx=>?_
 refine xq 2 [(50,.v (.bool (decide ((((blen q:Nat):Int)+k)≤z))))] [] ?_
 refine xe (zA ?_)
 refine yQ ((decide ((((blen q:Nat):Int)+k)≤z))) (fun g0=>?_) fun g0=>?_
 ·have X0:=uA g0
  refine zB (xq 2 [yB 52 o] [] ?_)
  refine yD (d:=53) (fun zb:Nat=>.slice (yL zb) 1 1) (fun zb zw=>Blk 141 zw zb #[yX 1]) (fun w R Q=>kC (t:=107) (e:=141) (n:=1) (sz:=1) (z:=yX 0) (parts:=#[(0,Operand.const (Value.int IntKind.u64 1))]) qK qK qK qK qK qK) fun h0=>?_
  refine xr 2 [yJ 2 (bits:Int),(3,.p 3 0),(4,.p 4 0),(6,.p 6 0),yJ 7 0,yB 52 o,eS1 53 (yL h0) 1 1,yJ 55 (IntKind.i64.wrap (z-1))] [yF 6 109 false none 0 0 0,yF 3 109 j P1 pl pc i,yF 4 109 o Q1 ql qc k] ?_
  rw[yW (z-1) (z-1) qO]
  refine xq 2 [] [yF 4 109 o (yL h0) 1 1 (z-1)] ?_
  refine yZ (zC ?_)
  obtain⟨g,Z⟩:=yE (min i (z-1))
  obtain⟨u1,Y0⟩:∃ u:Nat,i-g=u:=vG qO
  obtain⟨u2,Z0⟩:∃ u:Nat,(z-1)-g=u:=vG qO
  have hS:addR s x e t y f bits=addR j p i o 1 (z-1) bits:=G0.trans (ZlR _ _ _ _ H l0 h1 qO qO qO)
  rw[ZiL Z Y0 Z0] at hS
  have a1:u1≤100000000:=qO
  have b1:u2≤100000000:=qO
  have i1 : -4294967296≤g:=qO
  have j1:g≤4294967296:=qO
  obtain⟨a,ha⟩:=yE (p*2^u1)
  obtain⟨b,a0⟩:=yE (1*2^u2)
  have c1:wl a≤4000000:=by rw[←ha];exact ZbA qO a1
  have d1:wl b≤4000000:=by rw[←a0];exact ZbA (uD (bO.2 (by rw[zO];decide)) qD) b1
  have e1:0<a:=by rw[←ha];exact sL l0 (p2 u1)
  rw[ha,a0] at hS
  refine zB (xq 5 [yJ 61 (if (z-1)<i then (z-1) else i)] [] ?_)
  rw[(show (if (z-1)<i then (z-1) else i)=g from ZgA.trans Z)]
  refine xq 1 [yJ 9 g] [] ?_
  refine yZ (zC ?_)
  refine SXc.weak [yJ 2 (bits:Int),(3,.p 3 0),(4,.p 4 0),(6,.p 6 0),yJ 7 0,yJ 9 g] [yF 4 109 o (yL h0) 1 1 (z-1),yF 6 109 false none 0 0 0,yF 3 109 j P1 pl pc i] (zY.of qK) qK (fun _ h=>h) ?_
  refine yO 16 zP ?_
  refine xqg 6 [eS1 63 P1 pl pc,yJ 67 (IntKind.i64.wrap (i-g))] ?_
  rw[yW (i-g) ((u1:Int)) qO]
  refine xqd 101 [.slice P1 pl pc, yI (u1:Int)] 68 xH _ (fun w R Q=>(jL u1 Q.1.1.1.1.2 qO qO).mono (fun _ _ h=>xD (by rw[ha] at h;exact h))) fun⟨I,J,K⟩=>?_
  refine xqg 6 [eS1 70 (yL h0) 1 1,yJ 74 (IntKind.i64.wrap ((z-1)-g))] ?_
  rw[yW ((z-1)-g) ((u2:Int)) qO]
  refine xqd 101 [.slice (yL h0) 1 1, yI (u2:Int)] 75 xH _ (fun w R Q=>(jL u2 (gV Q.1.2) wl_1 qO).mono (fun _ _ h=>xD (by rw[a0] at h;exact h))) fun⟨L,M,N⟩=>?_
  refine xqg 2 [eS1 10 I J K,eS1 11 L M N] ?_
  refine xz (yZ (zC (zS (yY (xq 6 [yB 76 (j == o)] [] ?_)))))
  refine xe (zA ?_)
  refine yQ ((j == o)) (fun c0=>?_) fun c0=>?_
  ·have O:j=o:=eq_of_beq c0
   refine zC ?_
   refine yO 10 zP ?_
   refine xqg 4 [yB 83 j,eS1 84 I J K,eS1 85 L M N] ?_
   refine xqd 135 [.slice I J K,.slice L M N] 86 xH _ (fun w R Q=>yM xD (jP Q.1.2 Q.2 qO qO)) fun⟨k1,l1,m1⟩=>?_
   refine xqg 2 [yJ 87 g,yJ 88 (bits:Int)] ?_
   obtain⟨r,H0⟩:=yE (lD j (a+b) (g) bits false)
   refine xqd 132 [.bool j,.slice k1 l1 m1, yI g, yI (bits:Int),.func (.func 133) #[] #[]] 89 (shNb r) _ (fun w R Q=>yM wC ((show Calls _ _ _ _ (wA w r) by rw[←H0];exact iU j _ _ _ _ g _ _ Q.1.1.1.1.1.1.1.1 Q.2 (by have:=Zh4 c1 d1;omega) qO qO qO))) fun⟨m0,n0,o0⟩=>?_
   refine xqg 2 [(90,.v (yV r.s m0 n0 o0 r.e)),yJ 91 r.err] ?_
   refine xz (xq 2 [yJ 7 r.err] [yF 6 109 r.s m0 n0 o0 r.e] ?_)
   refine yZ (zG (xT (zH ?_)))
   refine yR (.tuple #[yV r.s m0 n0 o0 r.e, yI r.err]) fun w' R Q=>?_
   rw[show sumR s x e t y f bits=addR s x e t y f bits by unfold sumR;rw[uO qO,uO qO],hS]
   rw[Zhh e1 O,← kU _ _ _ H,H0]
   exact⟨(m0,n0,o0),rfl,Q.2,R⟩
  have O:¬ j=o:=fun e'=>by rw[e'] at c0;simp at c0
  refine yY (xq 2 [eS1 93 I J K,eS1 94 L M N] [] ?_)
  refine xqc 136 [.slice I J K,.slice L M N] 95 (fun _:Unit=>yI (cmpI (a:Int) (b:Int))) _ (fun w R Q=>yN (fR Q.1.2 Q.2 qO)) fun xx=>?_
  refine xq 2 [(92,.v (.bool (decide ((cmpI (a:Int) (b:Int))≥0))))] [] ?_
  refine xe (zA ?_)
  refine yQ ((decide ((cmpI (a:Int) (b:Int))≥0))) (fun i0=>?_) fun i0=>?_
  ·have j0:b≤a:=by have:=ZaN.1 (uA i0);omega
   refine zC ?_
   refine yO 10 zP ?_
   refine xqg 4 [yB 98 j,eS1 99 I J K,eS1 100 L M N] ?_
   refine xqd 137 [.slice I J K,.slice L M N] 101 xH _ (fun w R Q=>yM xD (ZaC Q.1.1.2 Q.1.2 qO j0)) fun⟨n1,o1,p1⟩=>?_
   refine xqg 2 [yJ 102 g,yJ 103 (bits:Int)] ?_
   obtain⟨C,I0⟩:=yE (lD j (a-b) (g) bits false)
   refine xqd 132 [.bool j,.slice n1 o1 p1, yI g, yI (bits:Int),.func (.func 133) #[] #[]] 104 (shNb C) _ (fun w R Q=>yM wC ((show Calls _ _ _ _ (wA w C) by rw[←I0];exact iU j _ _ _ _ g _ _ Q.1.1.1.1.1.1.1.1.1 Q.2 (uD (wR (Nat.sub_le _ _)) qO) qO qO qO))) fun⟨p0,q0,r0⟩=>?_
   refine xqg 2 [(105,.v (yV C.s p0 q0 r0 C.e)),yJ 106 C.err] ?_
   refine xz (xq 2 [yJ 7 C.err] [yF 6 109 C.s p0 q0 r0 C.e] ?_)
   refine yZ (zG (xT (zH ?_)))
   refine yR (.tuple #[yV C.s p0 q0 r0 C.e, yI C.err]) fun w' R Q=>?_
   rw[show sumR s x e t y f bits=addR s x e t y f bits by unfold sumR;rw[uO qO,uO qO],hS]
   rw[ZfR O j0,← kU _ _ _ H,I0]
   exact⟨(p0,q0,r0),rfl,Q.2,R⟩
  have f1:a<b:=by have:=mt ZaN.2 (uB i0);omega
  refine zJ (xS (zA (zC ?_)))
  refine yO 10 zP ?_
  refine xqg 4 [yB 108 o,eS1 109 L M N,eS1 110 I J K] ?_
  refine xqd 137 [.slice L M N,.slice I J K] 111 xH _ (fun w R Q=>yM xD (ZaC Q.1.2 Q.1.1.2 qO qO)) fun⟨q1,r1,s1⟩=>?_
  refine xqg 2 [yJ 112 g,yJ 113 (bits:Int)] ?_
  obtain⟨D,J0⟩:=yE (lD o (b-a) (g) bits false)
  refine xqd 132 [.bool o,.slice q1 r1 s1, yI g, yI (bits:Int),.func (.func 133) #[] #[]] 114 (shNb D) _ (fun w R Q=>yM wC ((show Calls _ _ _ _ (wA w D) by rw[←J0];exact iU o _ _ _ _ g _ _ Q.1.1.1.1.1.1.1.1.1 Q.2 (uD (wR (Nat.sub_le _ _)) qO) qO qO qO))) fun⟨s0,t0,u0⟩=>?_
  refine xqg 2 [(115,.v (yV D.s s0 t0 u0 D.e)),yJ 116 D.err] ?_
  refine xz (xq 2 [yJ 7 D.err] [yF 6 109 D.s s0 t0 u0 D.e] ?_)
  refine yZ (zG ?_)
  refine yR (.tuple #[yV D.s s0 t0 u0 D.e, yI D.err]) fun w' R Q=>?_
  rw[show sumR s x e t y f bits=addR s x e t y f bits by unfold sumR;rw[uO qO,uO qO],hS]
  rw[Zey O f1,← kU _ _ _ H,J0]
  exact⟨(s0,t0,u0),rfl,Q.2,R⟩
 have X0:=uB g0
 refine zJ (zA (zC ?_))
 obtain⟨g,Z⟩:=yE (min i k)
 obtain⟨u1,Y0⟩:∃ u:Nat,i-g=u:=vG qO
 obtain⟨u2,Z0⟩:∃ u:Nat,k-g=u:=vG qO
 have hS:=G0
 rw[ZiL Z Y0 Z0] at hS
 have a1:u1≤100000000:=qO
 have b1:u2≤100000000:=qO
 have i1 : -4294967296≤g:=qO
 have j1:g≤4294967296:=qO
 obtain⟨a,ha⟩:=yE (p*2^u1)
 obtain⟨b,a0⟩:=yE (q*2^u2)
 have c1:wl a≤4000000:=by rw[←ha];exact ZbA qO a1
 have d1:wl b≤4000000:=by rw[←a0];exact ZbA qO b1
 have e1:0<a:=by rw[←ha];exact sL l0 (p2 u1)
 rw[ha,a0] at hS
 refine zB (xq 5 [yJ 61 (if k<i then k else i)] [] ?_)
 rw[(show (if k<i then k else i)=g from ZgA.trans Z)]
 refine xq 1 [yJ 9 g] [] ?_
 refine yZ (zC ?_)
 refine SXc.weak [yJ 2 (bits:Int),(3,.p 3 0),(4,.p 4 0),(6,.p 6 0),yJ 7 0,yJ 9 g] [yF 6 109 false none 0 0 0,yF 3 109 j P1 pl pc i,yF 4 109 o Q1 ql qc k] (zY.of qK) qK (fun _ h=>h) ?_
 refine yO 16 zP ?_
 refine xqg 6 [eS1 63 P1 pl pc,yJ 67 (IntKind.i64.wrap (i-g))] ?_
 rw[yW (i-g) ((u1:Int)) qO]
 refine xqd 101 [.slice P1 pl pc, yI (u1:Int)] 68 xH _ (fun w R Q=>(jL u1 Q.1.1.1.2 qO qO).mono (fun _ _ h=>xD (by rw[ha] at h;exact h))) fun⟨P,S,T⟩=>?_
 refine xqg 6 [eS1 70 Q1 ql qc,yJ 74 (IntKind.i64.wrap (k-g))] ?_
 rw[yW (k-g) ((u2:Int)) qO]
 refine xqd 101 [.slice Q1 ql qc, yI (u2:Int)] 75 xH _ (fun w R Q=>(jL u2 Q.1.1.1.2 qO qO).mono (fun _ _ h=>xD (by rw[a0] at h;exact h))) fun⟨U,V,W⟩=>?_
 refine xqg 2 [eS1 10 P S T,eS1 11 U V W] ?_
 refine xz (yZ (zC (zS (yY (xq 6 [yB 76 (j == o)] [] ?_)))))
 refine xe (zA ?_)
 refine yQ ((j == o)) (fun d0=>?_) fun d0=>?_
 ·have O:j=o:=eq_of_beq d0
  refine zC ?_
  refine yO 10 zP ?_
  refine xqg 4 [yB 83 j,eS1 84 P S T,eS1 85 U V W] ?_
  refine xqd 135 [.slice P S T,.slice U V W] 86 xH _ (fun w R Q=>yM xD (jP Q.1.2 Q.2 qO qO)) fun⟨t1,v1,w1⟩=>?_
  refine xqg 2 [yJ 87 g,yJ 88 (bits:Int)] ?_
  obtain⟨E,K0⟩:=yE (lD j (a+b) (g) bits false)
  refine xqd 132 [.bool j,.slice t1 v1 w1, yI g, yI (bits:Int),.func (.func 133) #[] #[]] 89 (shNb E) _ (fun w R Q=>yM wC ((show Calls _ _ _ _ (wA w E) by rw[←K0];exact iU j _ _ _ _ g _ _ Q.1.1.1.1.1.1.1 Q.2 (by have:=Zh4 c1 d1;omega) qO qO qO))) fun⟨v0,w0,x0⟩=>?_
  refine xqg 2 [(90,.v (yV E.s v0 w0 x0 E.e)),yJ 91 E.err] ?_
  refine xz (xq 2 [yJ 7 E.err] [yF 6 109 E.s v0 w0 x0 E.e] ?_)
  refine yZ (zG (xT (zH ?_)))
  refine yR (.tuple #[yV E.s v0 w0 x0 E.e, yI E.err]) fun w' R Q=>?_
  rw[show sumR s x e t y f bits=addR s x e t y f bits by unfold sumR;rw[uO qO,uO qO],hS]
  rw[Zhh e1 O,← kU _ _ _ H,K0]
  exact⟨(v0,w0,x0),rfl,Q.2,R⟩
 have O:¬ j=o:=fun e'=>by rw[e'] at d0;simp at d0
 refine yY (xq 2 [eS1 93 P S T,eS1 94 U V W] [] ?_)
 refine xqc 136 [.slice P S T,.slice U V W] 95 (fun _:Unit=>yI (cmpI (a:Int) (b:Int))) _ (fun w R Q=>yN (fR Q.1.2 Q.2 qO)) fun xx=>?_
 refine xq 2 [(92,.v (.bool (decide ((cmpI (a:Int) (b:Int))≥0))))] [] ?_
 refine xe (zA ?_)
 refine yQ ((decide ((cmpI (a:Int) (b:Int))≥0))) (fun k0=>?_) fun k0=>?_
 ·have j0:b≤a:=by have:=ZaN.1 (uA k0);omega
  refine zC ?_
  refine yO 10 zP ?_
  refine xqg 4 [yB 98 j,eS1 99 P S T,eS1 100 U V W] ?_
  refine xqd 137 [.slice P S T,.slice U V W] 101 xH _ (fun w R Q=>yM xD (ZaC Q.1.1.2 Q.1.2 qO j0)) fun⟨x1,y1,z1⟩=>?_
  refine xqg 2 [yJ 102 g,yJ 103 (bits:Int)] ?_
  obtain⟨F,L0⟩:=yE (lD j (a-b) (g) bits false)
  refine xqd 132 [.bool j,.slice x1 y1 z1, yI g, yI (bits:Int),.func (.func 133) #[] #[]] 104 (shNb F) _ (fun w R Q=>yM wC ((show Calls _ _ _ _ (wA w F) by rw[←L0];exact iU j _ _ _ _ g _ _ Q.1.1.1.1.1.1.1.1 Q.2 (uD (wR (Nat.sub_le _ _)) qO) qO qO qO))) fun⟨y0,z0,A0⟩=>?_
  refine xqg 2 [(105,.v (yV F.s y0 z0 A0 F.e)),yJ 106 F.err] ?_
  refine xz (xq 2 [yJ 7 F.err] [yF 6 109 F.s y0 z0 A0 F.e] ?_)
  refine yZ (zG (xT (zH ?_)))
  refine yR (.tuple #[yV F.s y0 z0 A0 F.e, yI F.err]) fun w' R Q=>?_
  rw[show sumR s x e t y f bits=addR s x e t y f bits by unfold sumR;rw[uO qO,uO qO],hS]
  rw[ZfR O j0,← kU _ _ _ H,L0]
  exact⟨(y0,z0,A0),rfl,Q.2,R⟩
 have f1:a<b:=by have:=mt ZaN.2 (uB k0);omega
 refine zJ (xS (zA (zC ?_)))
 refine yO 10 zP ?_
 refine xqg 4 [yB 108 o,eS1 109 U V W,eS1 110 P S T] ?_
 refine xqd 137 [.slice U V W,.slice P S T] 111 xH _ (fun w R Q=>yM xD (ZaC Q.1.2 Q.1.1.2 qO qO)) fun⟨A1,B1,C1⟩=>?_
 refine xqg 2 [yJ 112 g,yJ 113 (bits:Int)] ?_
 obtain⟨G,M0⟩:=yE (lD o (b-a) (g) bits false)
 refine xqd 132 [.bool o,.slice A1 B1 C1, yI g, yI (bits:Int),.func (.func 133) #[] #[]] 114 (shNb G) _ (fun w R Q=>yM wC ((show Calls _ _ _ _ (wA w G) by rw[←M0];exact iU o _ _ _ _ g _ _ Q.1.1.1.1.1.1.1.1 Q.2 (uD (wR (Nat.sub_le _ _)) qO) qO qO qO))) fun⟨B0,C0,D0⟩=>?_
 refine xqg 2 [(115,.v (yV G.s B0 C0 D0 G.e)),yJ 116 G.err] ?_
 refine xz (xq 2 [yJ 7 G.err] [yF 6 109 G.s B0 C0 D0 G.e] ?_)
 refine yZ (zG ?_)
 refine yR (.tuple #[yV G.s B0 C0 D0 G.e, yI G.err]) fun w' R Q=>?_
 rw[show sumR s x e t y f bits=addR s x e t y f bits by unfold sumR;rw[uO qO,uO qO],hS]
 rw[Zey O f1,← kU _ _ _ H,M0]
 exact⟨(B0,C0,D0),rfl,Q.2,R⟩
section
variable {P:Program} {N:Nat} {S0:Nat→Prop} {w0:World} {ops:Array Oper} {Q:Exit→Act→World→Prop} {s:St} {Φ:World→Prop}
end
section
variable {P:Program} {o:Oper} {ρ:Operand→Value} {w:World} {t e:TypeId} {x:Operand}
end
/-! ### adding a number to a row from a place on -/
instance {b:Nat} {A A2:Option Addr}:Nonempty {q:ShN // ∀ a,q.1=some a→b<a.block∨q.1=A∨q.1=A2}:=⟨⟨(none,0,0),fun a h=>by cases h⟩⟩
section
variable {P:Program} {o:Oper} {ρ:Operand→Value} {w:World}
end
section
variable {P:Program} {N:Nat} {S0:Nat→Prop} {w0:World} {ops:Array Oper} {Q:Exit→Act→World→Prop} {s:St} {Φ:World→Prop}
end
section
open Go.RowKit Go.Sort
theorem TBuf.bytes {w:World}{A:qA}{cap:Nat}{l:List UInt8}(h:TBuf w A cap l)(c:l≠[]):∃ b,A=some ⟨b,0,none⟩∧∀ j (a:j<l.length),w.cell? ((⟨b,0,none⟩:Addr).add j)=some (.int .u8 (l[j].toNat:Int)):=by
 rcases h with ⟨_,h,_⟩|⟨b,rfl,d,_⟩
 ·simp[nats] at h;exact absurd h c
 refine⟨b,rfl,fun j a=>?_⟩
 have:=d.cell (i:=j) (by rw[ZbS];exact a)
 rw[Lib.add_plain,vW,this]
 simp[nats,a]
end
theorem Zd9 {x:Int}(h:0≤x):Lib.itoa x=Lib.decDigits x.natAbs:=by
 unfold Lib.itoa
 rw[uO qO]
 congr 1;omega
theorem ZcK {n:Nat}(h:10≤n):Lib.decDigits n=Lib.decDigits (n/10) ++ [UInt8.ofNat (48+n%10)]:=by
 rw[Lib.decDigits,dif_neg qO]
theorem fT {n:Nat}(h:n<10):Lib.decDigits n=[UInt8.ofNat (48+n)]:=Lib.decDigits_one h
theorem Zaf {n:Nat}(h:n<10):(UInt8.ofNat (48+n)).toNat=48+n:=by
 rw[UInt8.toNat_ofNat'];omega
theorem Zez {n:Nat}(h:n<10):zW (UInt8.ofNat (48+n))=true:=by
 unfold zW;rw[Zaf h];simp;omega
theorem kZ:∀ n,(Lib.decDigits n).all zW=true:=by
 intro n
 induction n using Nat.strongRecOn with
 | _ n ih =>
  rcases vL n 10 with h|h
  ·rw[fT h,rG,Zez h];rfl
  rw[ZcK h,qR,ih (n/10) qO,rG,Zez (uM n (by omega:0<10))];rfl
theorem fU:∀ n,zI (Lib.decDigits n)=n:=by
 intro n
 induction n using Nat.strongRecOn with
 | _ n ih =>
  rcases vL n 10 with h|h
  ·rw[fT h];simp only[zI,List.foldl_cons,List.foldl_nil];rw[Zaf h];omega
  rw[ZcK h,eO,ih (n/10) qO,Zaf (uM n (by omega:0<10))];omega
theorem aN:∀ n,0<n→(Lib.decDigits n).head? ≠ some 48:=by
 intro n
 induction n using Nat.strongRecOn with
 | _ n ih =>
  intro b
  rcases vL n 10 with h|h
  ·rw[fT h]
   intro e
   simp only[List.head?_cons,Option.some.injEq] at e
   have:=vI UInt8.toNat e
   rw[Zaf h] at this
   simp at this;omega
  have a:=ih (n/10) qO qO
  rw[ZcK h,List.head?_append]
  cases hc:(Lib.decDigits (n/10)).head? with
  | none=>exact absurd (oT.1 hc) (lT _)
  | some c=>rw[hc] at a;exact a
theorem eK {p:UInt8→Bool}{l:List UInt8}(h:l.all p=true):l.takeWhile p=l∧l.dropWhile p=[]:=by
 induction l with
 | nil=>exact⟨rfl,rfl⟩
 | cons x xs ih =>
  simp only[rG,tD] at h
  obtain⟨a,b⟩:=ih h.2
  rw[oN,List.dropWhile_cons,h.1]
  simp[a,b]
theorem ZlX {l:List UInt8}(h:l.all zW=true):xB l=(false,l):=by
 unfold xB
 rw[uO]
 intro e
 cases l with
 | nil=>cases e
 | cons x xs =>
  simp only[List.head?_cons,Option.some.injEq] at e
  subst e
  simp only[rG,tD] at h
  exact absurd h.1 qD
theorem Zny (n:Nat):wW (Lib.decDigits n)=(false,Lib.decDigits n,[],true):=by
 obtain⟨c,d⟩:=eK (kZ n)
 unfold wW
 rw[ZlX (kZ n)]
 simp only[]
 rw[c,d]
 rcases uJ n with a|a
 ·subst a;rw[fT qO];rfl
 have b:Lib.decDigits n≠[48]:=fun e=>aN n a (by rw[e];rfl)
 rw[uO b,uO (fun e=>e.elim (lT n) (aN n a)),vC rfl]
theorem Znz {n:Nat}(h:0<n):wW ([45] ++ Lib.decDigits n)=(true,Lib.decDigits n,[],true):=by
 obtain⟨b,c⟩:=eK (kZ n)
 unfold wW
 have e:xB ([45] ++ Lib.decDigits n)=(true,Lib.decDigits n):=rfl
 rw[e]
 simp only[]
 rw[b,c]
 have a:Lib.decDigits n≠[48]:=fun e=>aN n h (by rw[e];rfl)
 rw[uO a,uO (fun e=>e.elim (lT n) (aN n h)),vC rfl]
theorem ZcL {z:Int}(h:z<0):Lib.itoa z=[45] ++ Lib.decDigits z.natAbs:=by
 unfold Lib.itoa
 rw[vC h]
 rfl
theorem ZlY (z:Int):wW (Lib.itoa z)=(decide (z<0),Lib.decDigits z.natAbs,[],true):=by
 by_cases h:z<0
 ·rw[ZcL h,Znz qO,vM h]
 rw[Zd9 qO,Zny,uV h]
theorem ZnA (z:Int):xU (Lib.itoa z)=some (z:Rat):=by
 unfold xU
 rw[ZlY]
 simp only[]
 rw[vC trivial,fU]
 congr 2
 unfold sg
 split
 ·rename_i h;have:=uA h;omega
 rename_i h;have:¬ z<0:=fun k=>h (vM k);omega
def xE (q:Rat):List UInt8:=if q.den=1 then Lib.itoa q.num else Lib.itoa q.num ++ [47] ++ Lib.itoa (q.den:Int)
theorem ZiP {x y:Int}(c:0<y):(Rat.divInt x y).num=x.tdiv (Int.gcd x y:Int)∧((Rat.divInt x y).den:Int)=y.tdiv (Int.gcd x y:Int):=by
 have a:(Int.gcd x y:Int)∣x:=Int.gcd_dvd_left _ _
 have b:(Int.gcd x y:Int)∣y:=Int.gcd_dvd_right _ _
 rw[Rat.num_divInt,Rat.den_divInt,uO qO,pO c,Int.one_mul,Int.gcd_comm y x,Int.tdiv_eq_ediv_of_dvd a,Int.tdiv_eq_ediv_of_dvd b]
 refine⟨rfl,?_⟩
 rw[tN]
 congr 1
 omega
theorem ZdF {x y:Int}(a:0<y)(h:((Int.gcd x y:Nat):Int)=1):(Rat.divInt x y).num=x∧((Rat.divInt x y).den:Int)=y:=by
 have:=ZiP (x:=x) a
 rwa [h,Int.tdiv_one,Int.tdiv_one] at this
theorem ZfT {c:UInt8}(h:zW c=true):UInt8.ofNat (48+(c.toNat-48))=c:=by
 have:=dK h
 apply UInt8.toNat.inj
 rw[UInt8.toNat_ofNat']
 have:=c.toNat_lt
 omega
theorem ZiQ:∀ (k:Nat) (l:List UInt8),l.length=k→l.all zW=true→l≠[]→l.head? ≠ some 48→Lib.decDigits (zI l)=l:=by
 intro k
 induction k with
 | zero=>intro l d _ g;exact absurd (vZ.1 d) g
 | succ k ih =>
  intro l d f g b
  obtain⟨l',c,rfl⟩:∃ l' c,l=l' ++ [c]:=by
   rcases List.eq_nil_or_concat l with h|⟨l',c,h⟩
   ·exact absurd h g
   exact⟨l',c,by simpa using h⟩
  rw[qR,tD] at f
  have i:zW c=true:=by simpa using f.2
  have m:=dK i
  rw[eO]
  by_cases a:l'=[]
  ·subst a
   have e:zI []=0:=rfl
   rw[e,tT,vW,fT qO,ZfT i];rfl
  have j:l'.head? ≠ some 48:=by
   rw[List.head?_append] at b
   cases hx:l'.head? with
   | none=>exact absurd (oT.1 hx) a
   | some x=>rw[hx] at b;exact b
  have n:=ih l' (by simp at d;exact d) f.1 a j
  have o:=(Zcy f.1 a j).1
  rw[ZcK qO,show (10*zI l'+(c.toNat-48))/10=zI l' by omega,show (10*zI l'+(c.toNat-48))%10=c.toNat-48 by omega,n,ZfT i]
theorem Zj0 (n:Nat):(Lib.decDigits n).head? ≠ some 45:=by
 intro e
 cases h:Lib.decDigits n with
 | nil=>exact lT n h
 | cons x xs =>
  rw[h] at e
  simp only[List.head?_cons,Option.some.injEq] at e
  subst e
  have:=kZ n
  rw[h] at this
  simp only[rG,tD] at this
  exact absurd this.1 qD
theorem aO {p:UInt8→Bool}{l r:List UInt8}{c:UInt8}(h:l.all p=true)(a:p c=false):(l ++ c :: r).takeWhile p=l∧(l ++ c :: r).dropWhile p=c :: r:=by
 induction l with
 | nil=>simp[a]
 | cons x xs ih =>
  simp only[rG,tD] at h
  obtain⟨b,d⟩:=ih h.2
  rw[nA,oN,List.dropWhile_cons,h.1]
  simp[b,d]
theorem Zag (z:Int)(r:List UInt8):xB (Lib.itoa z ++ r)=(decide (z<0),Lib.decDigits z.natAbs ++ r):=by
 by_cases h:z<0
 ·rw[ZcL h,vM h]
  unfold xB
  rw[vC qS]
  rfl
 rw[Zd9 qO,uV h]
 unfold xB
 rw[uO]
 intro e
 rw[List.head?_append] at e
 cases hx:(Lib.decDigits z.natAbs).head? with
 | none=>exact absurd (oT.1 hx) (lT _)
 | some c =>
  rw[hx] at e
  exact Zj0 _ (hx.trans e)
theorem ZfU (z:Int):sg (decide (z<0)) z.natAbs=z:=by
 unfold sg
 split
 ·rename_i h;have:=uA h;omega
 rename_i h;have:¬ z<0:=fun k=>h (vM k);omega
theorem ZfV {q:Rat}(h:q.den=1):((q.num:Int):Rat)=q:=by
 apply Rat.ext<;>simp[h]
theorem Zr1 {q:Rat}(h:q.den≠1):q.num≠0:=by
 intro e
 have:=q.reduced
 rw[e] at this
 simp[Nat.Coprime] at this
 exact h this
theorem gO (n:Nat):Lib.itoa (n:Int)=Lib.decDigits n:=by
 rw[Zd9 qO,tO]
theorem ZlZ {q:Rat}(h:q.den≠1):wW (xE q)=(decide (q.num<0),Lib.decDigits q.num.natAbs,Lib.decDigits q.den,true):=by
 have l:=Zr1 h
 have m:=q.den_nz
 unfold xE
 rw[uO h,gO,vU]
 unfold wW
 rw[Zag]
 simp only[]
 obtain⟨g,i⟩:=aO (p:=zW) (r:=Lib.decDigits q.den) (c:=47) (kZ q.num.natAbs) qD
 have e:Lib.decDigits q.num.natAbs ++ ([47] ++ Lib.decDigits q.den)=Lib.decDigits q.num.natAbs ++ 47 :: Lib.decDigits q.den:=rfl
 rw[e,g,i]
 have f:=aN q.num.natAbs qO
 rw[uO (fun e=>f (by rw[e];rfl)),uO (fun e=>e.elim (lT _) f),uO qS,uO qS]
 simp only[List.tail_cons]
 obtain⟨j,k⟩:=eK (kZ q.den)
 rw[j,k]
 have a:=aN q.den qO
 have b:Lib.decDigits q.den≠[49]:=fun e=>by
  have:=fU q.den
  rw[e] at this
  exact h (by rw[←this];rfl)
 have d:=lT q.den
 simp[a,b,d]
theorem Zhk (q:Rat):xU (xE q)=some q:=by
 by_cases h:q.den=1
 ·unfold xE
  rw[vC h,ZnA,ZfV h]
 unfold xU
 rw[ZlZ h]
 simp only[]
 rw[uO (lT _),fU,fU,vC q.reduced,ZfU,Rat.mkRat_self]
theorem Zhl {neg:Bool}{a:Nat}(h:a=0→neg=false):(sg neg a<0↔neg=true)∧(sg neg a).natAbs=a:=by
 cases neg with
 | false=>simp[sg]
 | true =>
  have:a≠0:=fun e=>by cases h e
  simp[sg];omega
theorem ZaP {neg:Bool}{a:Nat}(h:a=0→neg=false):Lib.itoa (sg neg a)=(if neg then [45] else []) ++ Lib.decDigits a:=by
 obtain⟨c,b⟩:=Zhl h
 cases neg with
 | false=>rw[Zd9 (by simp[sg]),b];rfl
 | true=>rw[ZcL (c.2 rfl),b];rfl
theorem ZeA {l r:List UInt8}{neg:Bool}(h:xB l=(neg,r)):l=(if neg then [45] else []) ++ r:=by
 unfold xB at h
 split at h
 ·rename_i hh
  injection h with h1 h2
  subst h1 h2
  cases l with
  | nil=>cases hh
  | cons x xs=>simp at hh;subst hh;rfl
 injection h with h1 h2
 subst h1 h2
 rfl
theorem dN {l:List UInt8}{q:Rat}(h:xU l=some q):xE q=l:=by
 unfold xU at h
 cases hs:wW l with
 | mk neg r =>
  obtain⟨num,den,ok⟩:=r
  rw[hs] at h
  cases ok with
  | false=>cases h
  | true =>
   simp only[] at h
   have k:=cK hs
   obtain⟨A,m⟩:=ZfF hs
   cases hu:xB l with
   | mk neg' t =>
    have j:=ZeA hu
    have a:t.takeWhile zW ++ t.dropWhile zW=t:=pH
    unfold wW at hs
    rw[hu] at hs
    simp only[] at hs
    split at hs
    ·-- zero
     rename_i f
     injection hs with e1 hs;injection hs with e2 hs;injection hs with e3 e4
     subst e1 e2 e3
     simp at e4
     rw[vC rfl,f] at h
     have B:zI [48]=0:=rfl
     rw[B] at h
     injection h with h
     rw[e4.1] at h j
     rw[←h,j,← a,f,e4.2]
     simp only[sg]
     unfold xE
     rw[vC qS]
     have:Lib.itoa ((0:Nat):Int)=[48]:=by rw[gO,fT qO];rfl
     simpa using this
    split at hs
    ·injection hs with _ hs;injection hs with _ hs;injection hs with _ hs;cases hs
    rename_i z
    have n:t.takeWhile zW≠[]:=fun e=>z (Or.inl e)
    have o:(t.takeWhile zW).head? ≠ some 48:=fun e=>z (Or.inr e)
    have g:=ZiQ _ _ rfl (jO (p:=zW) t) n o
    split at hs
    ·rename_i s
     injection hs with e1 hs;injection hs with e2 hs;injection hs with e3 _
     subst e1 e2 e3
     rw[vC rfl] at h
     injection h with h
     rw[←h]
     unfold xE
     rw[vC qS]
     have i:(((sg neg' (zI (t.takeWhile zW)):Int)):Rat).num=sg neg' (zI (t.takeWhile zW)):=rfl
     rw[i,ZaP (fun e=>(m e).1),g,j]
     rw[s,rJ] at a
     rw[a]
    split at hs
    ·injection hs with _ hs;injection hs with _ hs;injection hs with _ hs;cases hs
    rename_i s b
    injection hs with e1 hs;injection hs with e2 hs;injection hs with e3 e4
    subst e1 e2
    rw[e3] at e4
    simp at e4
    obtain⟨⟨⟨u,v⟩,C⟩,E⟩:=e4
    rw[uO v] at h
    split at h
    ·rename_i D
     injection h with h
     have F:=A v
     have w:q.num=sg neg' (zI (t.takeWhile zW))∧q.den=zI den:=by
      have:=ZdF (x:=sg neg' (zI (t.takeWhile zW))) (y:=(zI den:Int)) qO (by
       unfold Int.gcd
       rw[(Zhl (fun e=>(m e).1)).2,tO,D];rfl)
      rw[Rat.divInt_ofNat,h] at this
      exact⟨this.1,by have:=this.2;omega⟩
     unfold xE
     rw[uO (by rw[w.2];omega),w.1,w.2,ZaP (fun e=>(m e).1),g,gO,ZiQ _ _ rfl k.2.1 v C,j]
     have d:t.dropWhile zW=47 :: den:=by
      cases hx:t.dropWhile zW with
      | nil=>exact absurd hx s
      | cons c r =>
       rw[hx] at b u e3
       simp at b u e3
       subst b
       have:=pH (p:=zW) (l:=r)
       rw[e3,u,rJ] at this
       rw[this]
     rw[d] at a
     rw[vU,vU]
     congr 1
    cases h
theorem ZcM {l:List UInt8}{q:Rat}:xU l=some q↔xE q=l :=
 ⟨dN,fun h=>by rw[←h];exact Zhk q⟩
def fvB (s:List UInt8) (e:Int):Bool :=
 if s=[48] then decide (e=0)
 else decide ((xB s).2≠[]∧(xB s).2.head? ≠ some 48∧okE e∧(xB s).2.all zW=true∧zI (xB s).2%2=1)
def flM (s:List UInt8):Int:=sg (xB s).1 (zI (xB s).2)
theorem Zhm:Lib.itoa 0=[48]:=by
 rw[show (0:Int)=((0:Nat):Int) from rfl,gO,fT qO];rfl
theorem Zph:flM [48]=0:=qD
theorem Zr2 {neg:Bool}{a:Nat}(h:a%2=1):sg neg a%2=1:=by unfold sg;split<;>omega
theorem ZqL {s:List UInt8}{e:Int}(h:fvB s e=true):s=Lib.itoa (flM s)∧((flM s=0∧e=0)∨(flM s%2=1∧okE e)):=by
 unfold fvB at h
 by_cases a:s=[48]
 ·rw[vC a] at h
  subst a
  rw[Zph]
  exact⟨Zhm.symm,Or.inl ⟨rfl,uA h⟩⟩
 rw[uO a] at h
 obtain⟨b,c,d,f,g⟩:=uA h
 unfold flM
 refine⟨?_,Or.inr ⟨Zr2 g,d⟩⟩
 rw[ZaP (fun h=>qO),ZiQ _ _ rfl f b c]
 exact ZeA rfl
theorem ZeB (z:Int):xB (Lib.itoa z)=(decide (z<0),Lib.decDigits z.natAbs):=by
 have:=Zag z []
 rwa [rJ,rJ] at this
theorem Zpi {l:List UInt8}{c:UInt8}(h:(l ++ [c]).all zW=true):zI (l ++ [c])%2=c.toNat % 2:=by
 rw[eO]
 have a:zW c=true:=by rw[qR] at h;simp at h;exact h.2
 have:=dK a
 omega
noncomputable def valF (l:List UInt8):Rat:=(xU l).getD 0
theorem ZnB {l:List UInt8}(b:l.all zW=true)(f:l.length≤570):wl (zI l)≤30:=by
 rw[kN]
 have c:=kD l b
 obtain⟨k,d⟩:∃ k,k=30:=⟨_,rfl⟩
 have a:10^l.length≤10^(19*k):=uW qO qO
 rw[←d]
 rw[rQ] at a
 have e:(10^19)^k≤W64^k:=sX (by rw[zO];decide) k
 exact uS c (uD a e)
theorem ZnC {l:List UInt8}(h:xU l=none):valF l=0:=by unfold valF;rw[h];rfl
theorem dO {l:List UInt8}{q:Rat}(h:xU l=some q):valF l=q:=by unfold valF;rw[h];rfl
theorem gP (l:List UInt8):bytes ⟨l.toArray⟩=l:=by simp[bytes]
section
variable {s t:ByteArray} {p q r:Rat} {w:World}
end
end Go.Proofs.YtenchljfmfgeoaaGreatDoor
