/-
 My texts.
-/
import Derived.Test.YtmpffakfhcpjoaaGreatDoorF15
set_option maxRecDepth 100000
set_option maxHeartbeats 8000000
namespace Go.Proofs.YtmpffakfhcpjoaaGreatDoor
open Go.RowKit Tryz
section
variable {N:Nat} {S0:Nat→Prop} {w:World} {Φ:World→Prop} {P:Program}
theorem Za3 (S0:Nat→Prop){fn:Func}{f:FuncId}{c:Code}{args:List Value}{R:Ending→World→Prop}(j:P.funcs[f]? = some fn)(l:fn.body=some c)(m:Nat.ble args.length fn.ntmps=true)(Q:Box (fun _=>False) w Φ)(h:SXc P fn.ntmps S0 w (bodyPost P fn R) c (ofL (Zdc 0 args) []) Φ):Calls P f args.toArray w R:=by
 refine calls_of_wp j l (h (fun _=>0) _ w ⟨?_,rfl,fun i x n=>?_,⟨fun b t p e=>(by cases e),fun b c e=>(by cases e),fun b e=>(by cases e),Fr.refl _ _,fun i b off e=>?_,fun b t p e=>(by cases e)⟩,?_⟩)
 ·have:=tT m
  simp;omega
 ·obtain⟨_,v,hv,rfl⟩:=aD args 0 i x n
  have d:i<args.length:=by
   rcases vO i args.length with a|a
   ·exact a
   rw[vU qO] at hv;cases hv
  simp only[AV.conc]
  rw[Array.getElem?_append_left (by simpa using d)]
  simpa using hv
 ·obtain⟨_,v,hv,e'⟩:=aD args 0 i _ e
  cases e'
 intro w' g
 exact Q w' (g.mono (fun i _ a=>by obtain⟨b,e,_⟩:=a;cases e))
end
section
variable {P:Program} {o:Oper} {ρ:Operand→Value} {w:World} {x y:Operand} {t k:TypeId}
theorem ZsC {a:Nat}(b:o.op=Op.binOp .and t x y k:=by kernel_rfl)(c:ρ x=.int .u64 (a:Int):=by kernel_rfl)(d:ρ y=.int .u64 1:=by kernel_rfl)(ha:a<W64:=by assumption):(execOp ρ o).run P w=.ok (.value (.int .u64 ((a%2:Nat):Int))) w:=by
 have h:bits .and .u64 (a:Int) 1=((a%2:Nat):Int):=by
  have:=bits_and_u64_nat a 1 (by rw[←zN];exact ha) qD
  rw[Nat.and_one_is_mod] at this
  exact this
 rw[←h]
 simp only[execOp,b,c,d,eqGuard,binOp]
 rfl
end
theorem Zfu {xs:qN}{k t:Nat}(d:Dig W64 xs)(e:xs.length=k+1)(f:Trim xs)(b:xs[k]?.getD 0=t):blen (val W64 xs)=64*k+blen t:=by
 have g:0<t:=rC (by rw[←b];exact f k e)
 have c:=zV (B:=W64) k (show k<xs.length by omega)
 rw[uB qO,b] at c
 have a:=wF (d.take k)
 rw[uN,uY qO,bI] at a
 rw[c,bI]
 exact ZjO a g
theorem Zfv {t:Nat}(h:t<W64):Lib.bitLen t=blen t:=by
 rcases uJ t with rfl|a
 ·rfl
 obtain⟨b,_,c,d⟩:=dS a h
 have:=Ze4 (k:=Lib.bitLen t-1) c (by rw[nN b];exact d)
 omega
theorem ZoR (t:Nat)(w:World)(h:t<W64):Ζ 123 #[.int .u64 (t:Int)] w (RetV w (.int .i64 ((blen t:Nat):Int))):=by
 have a:=h
 rw[zN] at a
 refine (Tryz.bits_Len64 (t:Int) w qO qO).mono ?_
 rintro e w' ⟨rfl,rfl⟩
 exact⟨by rw[rT,Zfv h],Fr.refl _ _⟩
theorem Znl (t:Nat)(w:World)(h:t<W64):Ζ 149 #[.int .u64 (t:Int)] w (RetV w (.int .i64 ((64-blen t:Nat):Int))):=by
 refine (Zal t w h).mono ?_
 rintro e w' ⟨rfl,rfl⟩
 have:blen t≤64:=xH.2 (by rw[zN] at h;exact h)
 exact⟨by rw[Zfv h];congr 2;omega,Fr.refl _ _⟩
theorem ZqM (x:Nat)(w:World)(a:Glob w)(b:0<x)(h:x<W64):Ζ 155 #[.int .u64 (x:Int)] w (RetV w (.int .i64 ((tzn x:Nat):Int))):=by
 obtain⟨g,c⟩:=kM b
 have d:tzn x<64:=by
  refine qY fun f=>?_
  have:=vC (n:=2) qD f
  have i:1*2^tzn x≤oddM x*2^tzn x:=uE _ qO
  rw[zN] at h
  omega
 refine (Zc9 x (tzn x) (oddM x/2) w a (by rw[show 2*(oddM x/2)+1=oddM x by omega,uG];exact c) d h).mono ?_
 rintro e w' ⟨rfl,rfl⟩
 exact⟨rfl,Fr.refl _ _⟩
def ZerR (xs:List Nat) (k:Nat):Prop:=val W64 (xs.take k)=0
theorem ZerR.start (xs:qN):ZerR xs 0:=by unfold ZerR;simp
theorem ZerR.lt {xs:qN}{k:Nat}(h:ZerR xs k)(b:0<val W64 xs):k<xs.length:=by
 rcases vO k xs.length with a|a
 ·exact a
 unfold ZerR at h;rw[uB a] at h;omega
theorem ZerR.step {xs:qN}{k:Nat}(h:ZerR xs k)(a:k<xs.length)(b:xs[k]?.getD 0=0):ZerR xs (k+1):=by
 unfold ZerR at *
 rw[zV k a,h,b];simp
theorem ZsD {x r:Nat}(a:0<x)(b:x<W64):tzn (x+W64*r)=tzn x:=by
 obtain⟨g,c⟩:=kM a
 have h:tzn x<64:=by
  refine qY fun d=>?_
  have:=vC (n:=2) qD d
  have i:1*2^tzn x≤oddM x*2^tzn x:=uE _ qO
  rw[zN] at b
  omega
 have e:x+W64*r=(oddM x+2^(64-tzn x)*r)*2^tzn x:=by
  rw[uW,← c,Nat.mul_right_comm,← uU,nN qO,zN]
 have f:2^(64-tzn x)=2*2^(63-tzn x):=by rw[show 64-tzn x=(63-tzn x)+1 by omega,uO,uG]
 rw[e]
 exact ZbM (by rw[f,uH];omega) _
theorem ZerR.done {xs:qN}{k x:Nat}(h:ZerR xs k)(c:Dig W64 xs)(d:k<xs.length)(a:xs[k]?.getD 0=x)(e:x≠0):tzn (val W64 xs)=64*k+tzn x:=by
 unfold ZerR at h
 have b:=xX (B:=W64) (xs:=xs) k
 rw[h,uY qO,xY k d,a,vZ,bI,uG] at b
 rw[b,Zbr qO,ZsD qO (a ▸ c.getD zK k),vW]
theorem ZerR.bound {xs:qN}{k x:Nat}(b:Dig W64 xs)(c:xs[k]?.getD 0=x)(e:x≠0):tzn x<64:=by
 have a:x<W64:=c ▸ b.getD zK k
 obtain⟨f,g⟩:=kM (show 0<x by omega)
 refine qY fun d=>?_
 have:=vC (n:=2) qD d
 have h:1*2^tzn x≤oddM x*2^tzn x:=uE _ qO
 rw[zN] at a
 omega
theorem ZsE {xs:qN}{i x:Nat}(b:Dig W64 xs)(c:i/64<xs.length)(d:xs[i/64]?.getD 0=x):val W64 xs/2^i%2=x/2^(i%64)%2:=by
 have a:=Zht xs (i/64) (i%64) b qO
 rw[show 64*(i/64)+i%64=i by omega] at a
 rw[←a,xY _ c,d]
 have g:i%64<64:=uP _ qD
 generalize i%64=t at *
 generalize val W64 (xs.drop (i/64+1))=r
 have e:W64*r=2^t*(2^(64-t)*r):=by rw[←uH,← uU,show t+(64-t)=64 by omega,zN]
 have f:2^(64-t)=2*2^(63-t):=by rw[show 64-t=(63-t)+1 by omega,uO,uG]
 rw[e,Nat.add_mul_div_left _ _ (p2 t),f,uH,qP]
theorem ZqN {xs:qN}{i:Nat}(a:Dig W64 xs)(b:¬ i/64<xs.length):val W64 xs/2^i%2=0:=by
 rw[ZfG a qO]
theorem ZtY (m:Nat):(((m%2:Nat):Int) == 1)=decide (m%2=1):=by
 rcases Nat.mod_two_eq_zero_or_one m with h|h<;>rw[h]<;>rfl
def DwR (xs:List Nat) (u k:Nat) (qs:List Nat) (r:Nat):Prop:=bO xs u k qs r∧qs.take k=xs.take k
theorem DwR.start {xs:qN}{u:Nat}(a:Dig W64 xs)(b:0<u):DwR xs u xs.length xs 0 :=
 ⟨⟨rfl,a,b,by rw[vF (uF _)];simp⟩,rfl⟩
theorem DwR.at {xs a:qN}{u k r:Nat}(h:DwR xs u (k+1) a r):a[k]?.getD 0=xs[k]?.getD 0:=by
 have:=vP (fun l=>l[k]?.getD 0) h.2
 simp only[tU (show k<k+1 by omega)] at this
 exact this
theorem DwR.step {xs a:qN}{u k r x:Nat}(h:DwR xs u (k+1) a r)(c:k<xs.length)(d:a[k]?.getD 0=x)(b:x<W64):DwR xs u k (a.set k (divQ r x u)) (divR r x u):=by
 refine⟨h.1.step c (h.at.symm.trans d) b,?_⟩
 have:=vP (List.take k) h.2
 rw[List.take_take,List.take_take,uY qO] at this
 rw[rR (uF k)];exact this
theorem Zit (hi lo y:Nat)(w:World)(b:hi<y)(c:y<W64)(a:lo<W64):Ζ 128 #[.int .u64 (hi:Int),.int .u64 (lo:Int),.int .u64 (y:Int)] w (RetV w (.tuple #[.int .u64 ((divQ hi lo y:Nat):Int),.int .u64 ((divR hi lo y:Nat):Int)])):=by
 refine (Zb3 hi lo y w b c a).mono ?_
 rintro e w' ⟨rfl,n,rfl⟩
 exact⟨rfl,(Fr.refl _ _).drewN n⟩
def SpR (zs0 ys:List Nat) (q o k:Nat) (zs:List Nat) (c b:Nat):Prop :=
 zs.length=zs0.length∧Dig W64 zs∧c<W64∧b≤1∧zs.take o=zs0.take o∧zs.drop (o+k)=zs0.drop (o+k) ∧
  val W64 (zs.take (o+k))+W64^o*(q*val W64 (ys.take k))=val W64 (zs0.take (o+k))+W64^(o+k)*(c+b)
theorem SpR.start {a:qN}(ys:qN)(q o:Nat)(h:Dig W64 a):SpR a ys q o 0 a 0 0:=⟨rfl,h,zK,qO,rfl,rfl,qS⟩
theorem Zac {zs a:qN}{k:Nat}(h:zs.drop k=a.drop k):zs[k]?.getD 0=a[k]?.getD 0:=by
 have:=vP (fun l=>l[0]?.getD 0) h
 simpa [vR] using this
theorem ZjV {x q c:Nat}(a:x<W64)(b:q<W64)(d:c<W64):wW x q+xN (xF x q) c 0<W64:=by
 have e:=cL x q
 have f:=fZ (xF x q) c 0
 have g:=Zc6 a b
 refine aW _ (vA (m:=x*q+c) ?_ qO)
 rw[uL];omega
theorem SpR.step {a ys zs:qN}{q o k c b x z:Nat}(h:SpR a ys q o k zs c b)(p:o+k<a.length)(j:ys[k]?.getD 0=x)(l:zs[o+k]?.getD 0=z)(r:Dig W64 ys)(s:q<W64) :
 SpR a ys q o (k+1) (zs.set (o+k) (lW z (xJ (xF x q) c 0) b)) (wW x q+xN (xF x q) c 0) (lX z (xJ (xF x q) c 0) b):=by
 obtain⟨u,m,v,A,B,n,C⟩:=h
 have f:x<W64:=j ▸ r.getD zK k
 have g:z<W64:=l ▸ m.getD zK _
 have D:a[o+k]?.getD 0=z:=(Zac n).symm.trans l
 have F:=cL x q
 have G:=fZ (xF x q) c 0
 have H:=ZbA g (cK (xF x q) c 0) A
 refine⟨by simpa using u,m.set _ (Zaj _ _ _),ZjV f s v,Zc5 _ _ _,?_,?_,?_⟩
 ·rw[rR qO];exact B
 ·have e:=vP (List.drop 1) n
  rw[tA,tA] at e
  rw[tN qO,show o+(k+1)=o+k+1 by omega];exact e
 rw[show o+(k+1)=(o+k)+1 by omega,xL _ _ _ _ qO,zV (o+k) p,lO k,D,j,uO]
 have i:lW z (xJ (xF x q) c 0) b+x*q+c+b=z+W64*(wW x q+xN (xF x q) c 0+lX z (xJ (xF x q) c 0) b):=by
  rw[uL,uL];omega
 have d:=vP (W64^(o+k) * ·) i
 simp only[uL] at d
 have E:W64^o*(q*(val W64 (ys.take k)+W64^k*x))=W64^o*(q*val W64 (ys.take k))+W64^(o+k)*(x*q):=by
  rw[uL q,uL (W64^o),uU,tL q (W64^k) x,uH (W64^o),uG q x]
 rw[E,uH (W64^(o+k)) W64]
 simp only[uL]
 rw[uL] at C
 omega
def Zew (zs0 ys:List Nat) (q o:Nat) (zs:List Nat) (b:Nat):Prop :=
 zs.length=zs0.length∧Dig W64 zs∧b≤1∧zs.take o=zs0.take o∧zs.drop (o+ys.length+1)=zs0.drop (o+ys.length+1) ∧
  val W64 (zs.take (o+ys.length+1))+W64^o*(q*val W64 ys)=val W64 (zs0.take (o+ys.length+1))+W64^(o+ys.length+1)*b
theorem SpR.done {a ys zs:qN}{q o c b z:Nat}(h:SpR a ys q o ys.length zs c b)(m:o+ys.length<a.length)(g:zs[o+ys.length]?.getD 0=z):Zew a ys q o (zs.set (o+ys.length) (lW z c b)) (lX z c b):=by
 obtain⟨n,i,p,r,s,j,l⟩:=h
 have f:z<W64:=g ▸ i.getD zK _
 have u:a[o+ys.length]?.getD 0=z:=(Zac j).symm.trans g
 have v:=ZbA f p r
 refine⟨by simpa using n,i.set _ (Zaj _ _ _),Zc5 _ _ _,?_,?_,?_⟩
 ·rw[rR qO];exact s
 ·have e:=vP (List.drop 1) j
  rw[tA,tA] at e
  rw[tN qO];exact e
 rw[uB (uF ys.length)] at l
 rw[xL _ _ _ _ qO,zV _ m,u,uO]
 have d:=vP (W64^(o+ys.length) * ·) v
 simp only[uL] at d
 rw[uH (W64^(o+ys.length)) W64]
 rw[uL] at l
 omega
def AbR (zs0 ys:List Nat) (o k:Nat) (zs:List Nat) (c:Nat):Prop :=
 zs.length=zs0.length∧Dig W64 zs∧c≤1∧zs.take o=zs0.take o∧zs.drop (o+k)=zs0.drop (o+k) ∧
  val W64 (zs.take (o+k))+W64^(o+k)*c=val W64 (zs0.take (o+k))+W64^o*val W64 (ys.take k)
theorem AbR.start {a:qN}(ys:qN)(o:Nat)(h:Dig W64 a):AbR a ys o 0 a 0:=⟨rfl,h,qO,rfl,rfl,qS⟩
theorem AbR.step {a ys zs:qN}{o k c x z:Nat}(h:AbR a ys o k zs c)(j:o+k<a.length)(d:ys[k]?.getD 0=x)(f:zs[o+k]?.getD 0=z)(l:Dig W64 ys):AbR a ys o (k+1) (zs.set (o+k) (xJ z x c)) (xN z x c):=by
 obtain⟨m,g,n,p,i,r⟩:=h
 have q:a[o+k]?.getD 0=z:=(Zac i).symm.trans f
 refine⟨by simpa using m,g.set _ (cK _ _ _),Zc4 (f ▸ g.getD zK _) (d ▸ l.getD zK k) n,?_,?_,?_⟩
 ·rw[rR qO];exact p
 ·have e:=vP (List.drop 1) i
  rw[tA,tA] at e
  rw[tN qO,show o+(k+1)=o+k+1 by omega];exact e
 rw[show o+(k+1)=(o+k)+1 by omega,xL _ _ _ _ qO,zV (o+k) j,lO k,q,d,uO]
 have b:=vP (W64^(o+k) * ·) (fZ z x c)
 simp only[uL] at b
 rw[uL (W64^o),← uH (W64^o) (W64^k),← uU,uH (W64^(o+k)) W64]
 omega
def Zex (zs0 ys:List Nat) (o:Nat) (zs:List Nat) (c:Nat):Prop :=
 zs.length=zs0.length∧Dig W64 zs∧c≤1∧zs.take o=zs0.take o∧zs.drop (o+ys.length+1)=zs0.drop (o+ys.length+1) ∧
  val W64 (zs.take (o+ys.length+1))+W64^(o+ys.length+1)*c=val W64 (zs0.take (o+ys.length+1))+W64^o*val W64 ys
theorem AbR.done {a ys zs:qN}{o c z:Nat}(h:AbR a ys o ys.length zs c)(i:o+ys.length<a.length)(d:zs[o+ys.length]?.getD 0=z):Zex a ys o (zs.set (o+ys.length) (xJ z 0 c)) (xN z 0 c):=by
 obtain⟨j,f,l,m,g,n⟩:=h
 have p:a[o+ys.length]?.getD 0=z:=(Zac g).symm.trans d
 refine⟨by simpa using j,f.set _ (cK _ _ _),Zc4 (d ▸ f.getD zK _) zK l,?_,?_,?_⟩
 ·rw[rR qO];exact m
 ·have e:=vP (List.drop 1) g
  rw[tA,tA] at e
  rw[tN qO];exact e
 rw[uB (uF ys.length)] at n
 rw[xL _ _ _ _ qO,zV _ i,p,uO]
 have b:=vP (W64^(o+ys.length) * ·) (fZ z 0 c)
 simp only[uL] at b
 rw[uH (W64^(o+ys.length)) W64]
 omega
theorem Zld (A:qA)(xs:qN)(c:Nat)(w:World)(l:zI .u64 w A xs)(p:xs.length≤4294967296)(g:Dig W64 xs)(m:Trim xs) :
 Ζ 90 #[.slice A xs.length c] w (RetV w (.int .i64 ((blen (val W64 xs):Nat):Int))):=by
 refine zU (Φ:=fun w=>zI .u64 w A xs) func90 rfl qK (fun w' n=>l.ext n) ?_
 refine yY (xq 1 [yJ 2 0] [] ?_)
 refine yZ (zC (yY (xq 3 [yB 5 ((((xs.length:Nat):Int):Int) == 0)] [] ?_)))
 refine xe (zA ?_)
 refine yQ (((((xs.length:Nat):Int):Int) == 0)) (fun d=>?_) fun d=>?_
 ·have f:=sZ.1 d
  refine yY (xq 1 [yJ 2 0] [] ?_)
  refine yZ (zH (zL ?_))
  refine yR (yI 0) fun w' R Q=>?_
  exact⟨by obtain rfl:xs=[]:=tI.1 qO;rfl,R⟩
 have f:=lQ d
 refine zJ (zA (yY (xq 3 [yJ 8 (IntKind.i64.wrap (((xs.length:Nat):Int)-1))] [] ?_)))
 rw[yW (((xs.length:Nat):Int)-1) (((xs.length-1:Nat):Int)) qO]
 refine xq 1 [yJ 9 (IntKind.i64.wrap (64*((xs.length-1:Nat):Int)))] [] ?_
 rw[yW (64*((xs.length-1:Nat):Int)) (((64*(xs.length-1):Nat):Int)) qO]
 refine xq 4 [eS1 10 A xs.length c,yJ 13 (IntKind.i64.wrap (((xs.length:Nat):Int)-1))] [] ?_
 rw[yW (((xs.length:Nat):Int)-1) (((xs.length-1:Nat):Int)) qO]
 refine xqk 14 (atA A (xs.length-1)) (fun w R Q=>wT (t:=97) (e:=84) (x:=.tmp 10) (ix:=.tmp 13) (len:=xs.length) (cap:=c) (i:=xs.length-1) ((Q).ne (j:=xs.length-1) qO) qO) ?_
 obtain⟨a,b⟩:=yE (xs[xs.length-1]?.getD 0)
 refine xqk 15 (yX a) (fun w R Q=>by rw[←b];exact lL (t:=84) (x:=.tmp 14) (Q) (j:=xs.length-1) qO) ?_
 refine xqc 123 [yX a] 16 (fun _:Unit=>yI (blen a:Nat)) _ (fun w R Q=>yN (ZoR a _ (by rw[←b];exact g.getD zK _))) fun q=>?_
 refine xq 1 [(17,.v (yI (IntKind.i64.wrap (((64*(xs.length-1):Nat):Int)+((blen a:Nat):Int)))))] [] ?_
 rw[show IntKind.i64.wrap (((64*(xs.length-1):Nat):Int)+((blen a:Nat):Int))=((blen (val W64 xs):Nat):Int) by rw[Zfu (k:=xs.length-1) g qO m b,IntKind.wrap_i64];have:=xH.2 (show a<2^64 by have h:a<W64:=(by rw[←b];exact g.getD zK _);rw[zN] at h;exact h);omega]
 refine xq 1 [yJ 2 (blen (val W64 xs):Nat)] [] ?_
 refine yZ (zH ?_)
 refine yR (yI (blen (val W64 xs):Nat)) fun w' R Q=>?_
 exact⟨rfl,R⟩
theorem Znm (A:qA)(xs:qN)(c:Nat)(w:World)(u:zI .u64 w A xs)(B:xs.length≤4294967296)(m:Dig W64 xs)(v:Glob w)(z:0<val W64 xs) :
 Ζ 127 #[.slice A xs.length c] w (RetV w (.int .i64 ((tzn (val W64 xs):Nat):Int))):=by
 refine zU (Φ:=fun w=>(zI .u64 w A xs∧Glob w)) func127 rfl qK (fun w' p=>⟨u.ext p,v.ext p⟩) ?_
 refine yY (xq 1 [yJ 2 0] [] ?_)
 refine yZ (yY (xq 1 [yJ 3 0] [] ?_))
 refine yZ (zC (zQ ?_))
 refine xO (fun q r s=>∃ (k:Nat),r=ofL [eS1 0 A xs.length c,yJ 2 0,yJ 3 k] []∧s=(fun w=>(zI .u64 w A (xs)∧Glob w))∧(ZerR xs k)∧q=(xs.length-k)) ((xs.length-0)) ⟨0,rfl,rfl,ZerR.start xs,rfl⟩ (fun w Q=>⟨Q.1,Q.2⟩) ?_
 rintro q r s ⟨k,rfl,rfl,n,rfl⟩
 refine zC (zC ?_)
 have h:=n.lt z
 refine zB (xq 2 [eS1 4 A xs.length c,yJ 5 k] [] ?_)
 refine xqk 6 (atA A k) (fun w R Q=>wT (t:=97) (e:=84) (x:=.tmp 4) (ix:=.tmp 5) (len:=xs.length) (cap:=c) (i:=k) ((Q.1).ne (j:=k) qO) qO) ?_
 obtain⟨b,a⟩:=yE (xs[k]?.getD 0)
 refine xqk 7 (yX b) (fun w R Q=>by rw[←a];exact lL (t:=84) (x:=.tmp 6) (Q.1) (j:=k) qO) ?_
 refine xq 1 [yB 8 (((b:Int):Int) == 0)] [] ?_
 refine xe (zA ?_)
 refine yQ ((((b:Int):Int) == 0)) (fun d=>?_) fun d=>?_
 ·have g:=sZ.1 d
  refine zJ (zA (zQ (zB (xq 2 [yJ 10 (IntKind.i64.wrap ((k:Int)+1))] [] ?_))))
  rw[yW ((k:Int)+1) (((k+1:Nat):Int)) qO]
  refine xq 1 [yJ 3 (k+1:Nat)] [] ?_
  refine xe (xR ?_)
  exact xK ((xs.length-(k+1))) qO ⟨(k+1),rfl,rfl,(n.step h (by rw[a];omega)),rfl⟩ (fun w Q=>⟨Q.1,Q.2⟩)
 have g:=lQ d
 refine xM (zE (zE (xW (zA (yY (xq 2 [yJ 12 (IntKind.i64.wrap (64*(k:Int)))] [] ?_))))))
 rw[yW (64*(k:Int)) (((64*k:Nat):Int)) qO]
 refine xq 2 [eS1 13 A xs.length c,yJ 14 k] [] ?_
 refine xqk 15 (atA A k) (fun w R Q=>wT (t:=97) (e:=84) (x:=.tmp 13) (ix:=.tmp 14) (len:=xs.length) (cap:=c) (i:=k) ((Q.1).ne (j:=k) qO) qO) ?_
 obtain⟨l,f⟩:=yE (xs[k]?.getD 0)
 refine xqk 16 (yX l) (fun w R Q=>by rw[←f];exact lL (t:=84) (x:=.tmp 15) (Q.1) (j:=k) qO) ?_
 obtain rfl:b=l:=by rw[←a,f]
 refine xqc 155 [yX b] 17 (fun _:Unit=>yI (tzn b:Nat)) _ (fun w R Q=>yN (ZqM b _ Q.2 qO (by rw[←a];exact m.getD zK _))) fun C=>?_
 refine xq 1 [yJ 18 (IntKind.i64.wrap (((64*k:Nat):Int)+((tzn b:Nat):Int)))] [] ?_
 rw[show IntKind.i64.wrap (((64*k:Nat):Int)+((tzn b:Nat):Int))=((tzn (val W64 xs):Nat):Int) by rw[n.done m h a qO,IntKind.wrap_i64];have:=ZerR.bound m a qO;omega]
 refine xq 1 [yJ 2 (tzn (val W64 xs):Nat)] [] ?_
 refine yZ (zH ?_)
 refine yR (yI (tzn (val W64 xs):Nat)) fun w' R Q=>?_
 exact⟨rfl,R⟩
theorem ZqO (A:qA)(xs:qN)(c:Nat)(w:World)(m:zI .u64 w A xs)(l:Dig W64 xs)(i:Nat)(hi:i≤274877906944) :
 Ζ 126 #[.slice A xs.length c,.int .i64 ((i:Nat):Int)] w (RetV w (.bool (decide (val W64 xs/2^i%2=1)))):=by
 refine zU (Φ:=fun w=>zI .u64 w A xs) func126 rfl qK (fun w' p=>m.ext p) ?_
 refine yY (xq 1 [yB 4 false] [] ?_)
 refine yZ (yY (xq 2 [(6,Γ (IntKind.i64.wrap (((i:Int)).tdiv 64)))] [] ?_))
 rw[show IntKind.i64.wrap ((((i:Int)).tdiv 64))=((i/64:Nat):Int) from tdq (i) 64 qO]
 refine xq 4 [yB 10 (decide (((i/64:Nat):Int)<((xs.length:Nat):Int)))] [] ?_
 rcases bl2 ((decide (((i/64:Nat):Int)<((xs.length:Nat):Int)))) with b|b
 ·rw[b]
  have g:=uC b
  have h:i/64<xs.length:=qO
  refine xq 3 [eS1 11 A xs.length c,(13,Γ (IntKind.i64.wrap (((i:Int)).tdiv 64)))] [] ?_
  rw[show IntKind.i64.wrap ((((i:Int)).tdiv 64))=((i/64:Nat):Int) from tdq (i) 64 qO]
  refine xqk 14 (atA A (i/64)) (fun w R Q=>wT (t:=97) (e:=84) (x:=.tmp 11) (ix:=.tmp 13) (len:=xs.length) (cap:=c) (i:=i/64) ((Q).ne (j:=i/64) qO) qO) ?_
  obtain⟨d,f⟩:=yE (xs[i/64]?.getD 0)
  refine xqk 15 (yX d) (fun w R Q=>by rw[←f];exact lL (t:=84) (x:=.tmp 14) (Q) (j:=i/64) qO) ?_
  refine xq 2 [yJ 17 (((i:Int)).tmod 64)] [] ?_
  rw[show ((i:Int)).tmod 64=((i%64:Nat):Int) from tdr (i) 64]
  refine xqk 18 (yX (d/2^(i%64):Nat)) (fun w R Q=>ZjT (t:=84) (x:=.tmp 15) (y:=.tmp 17) (k:=3) (ky:=.i64) (a:=d) (n:=(i%64)) qO) ?_
  refine xqk 19 (yX ((d/2^(i%64))%2:Nat)) (fun w R Q=>ZsC (t:=84) (x:=.tmp 18) (y:=(Operand.const (Value.int IntKind.u64 1))) (k:=84) (a:=(d/2^(i%64))) (ha:=vA (vJ _ _) (by rw[←f];exact l.getD zK _))) ?_
  refine xq 1 [(20,.v (.bool (((((d/2^(i%64))%2:Nat):Int):Int) == 1)))] [] ?_
  rw[show ((((d/2^(i%64))%2:Nat):Int) == 1)=decide (val W64 xs/2^i%2=1) from (ZtY _).trans (by rw[ZsE l h f])]
  refine xq 2 [yB 4 (decide (val W64 xs/2^i%2=1))] [] ?_
  refine yZ (zH ?_)
  refine yR (.bool (decide (val W64 xs/2^i%2=1))) fun w' R Q=>?_
  exact⟨rfl,R⟩
 rw[b]
 have g:=uD b
 have h:¬ i/64<xs.length:=qO
 refine xq 12 [yB 4 false] [] ?_
 refine yZ (zH ?_)
 refine yR (.bool false) fun w' R Q=>?_
 exact⟨by rw[ZqN l h];rfl,R⟩
theorem ZsF {xs ys:qN}{j x y:Nat}(b:j<xs.length)(c:j<ys.length)(h:xs.drop (j+1)=ys.drop (j+1))(ex:xs[j]?.getD 0=x)(a:ys[j]?.getD 0=y)(e:x=y):xs.drop j=ys.drop j:=by
 subst e
 rw[tW b,tW c,h]
 rw[uR b] at ex
 rw[uR c] at a
 simp only[qW] at ex a
 rw[ex,a]
theorem ZjW (A p:qA)(xs ys:qN)(c c2:Nat)(w:World)(S:zI .u64 w A xs)(T:zI .u64 w p ys)(V:xs.length≤4294967296)(G:Dig W64 xs)(H:Dig W64 ys)(I:Trim xs)(J:Trim ys) :
 Ζ 96 #[.slice A xs.length c,.slice p ys.length c2] w (RetV w (.int .i64 (cmpI ((val W64 xs:Nat):Int) ((val W64 ys:Nat):Int)))):=by
 refine zU (Φ:=fun w=>(zI .u64 w A xs∧zI .u64 w p ys)) func96 rfl qK (fun w' K=>⟨S.ext K,T.ext K⟩) ?_
 refine yY (xq 1 [yJ 4 0] [] ?_)
 refine yZ (zC (yY (xq 5 [yB 10 ((((xs.length:Nat):Int):Int) != ((ys.length:Nat):Int))] [] ?_)))
 refine xe (zA ?_)
 refine yQ (((((xs.length:Nat):Int):Int) != ((ys.length:Nat):Int))) (fun g=>?_) fun g=>?_
 ·have s:=Zes g
  refine zC (yY (xq 5 [yB 15 (decide (((xs.length:Nat):Int)<((ys.length:Nat):Int)))] [] ?_))
  refine xe (zA ?_)
  refine yQ ((decide (((xs.length:Nat):Int)<((ys.length:Nat):Int)))) (fun h=>?_) fun h=>?_
  ·have u:=uC h
   refine yY (xq 1 [yJ 4 (-1)] [] ?_)
   refine yZ (zH (zL (zL ?_)))
   refine yR (yI (-1)) fun w' R Q=>?_
   exact⟨by rw[←Zhp G H I J qO,iJ qO],R⟩
  have u:=uD h
  refine zJ (zA (yY (xq 1 [yJ 4 1] [] ?_)))
  refine yZ (zH (zL ?_))
  refine yR (yI 1) fun w' R Q=>?_
  exact⟨by rw[←Zhp G H I J qO,gY qO],R⟩
 have s:=Zet g
 refine zJ (zA (zC (yY (xq 3 [yJ 18 (IntKind.i64.wrap (((xs.length:Nat):Int)-1))] [] ?_))))
 rw[yW (((xs.length:Nat):Int)-1) (((xs.length:Nat):Int)-1) qO]
 refine xq 1 [yJ 5 (((xs.length:Nat):Int)-1)] [] ?_
 refine yZ (zQ ?_)
 refine xO (fun L M O=>∃ (k:Nat),M=ofL [eS1 0 A xs.length c,eS1 1 p ys.length c2,yJ 4 0,yJ 5 ((k:Int)-1)] []∧O=(fun w=>(zI .u64 w A (xs)∧zI .u64 w p (ys)))∧(xs.drop k=ys.drop k)∧(k≤xs.length)∧L=(1+k)) ((1+xs.length)) ⟨xs.length,rfl,rfl,(by rw[vF (uF _),vF qO]),uF _,rfl⟩ (fun w Q=>⟨Q.1,Q.2⟩) ?_
 rintro L M O ⟨k,rfl,rfl,D,W,rfl⟩
 refine zC (yY (xq 2 [(20,.v (.bool (decide (((k:Int)-1)≥0))))] [] ?_))
 refine xe (zA ?_)
 refine yQ ((decide (((k:Int)-1)≥0))) (fun l=>?_) fun l=>?_
 ·have z:=uC l
  obtain⟨j,rfl⟩:∃ j,k=j+1:=⟨k-1,qO⟩
  rw[show ((((j+1):Nat):Int)-1)=(j:Int) by omega]
  refine zJ (zA (zC (zQ (zC ?_))))
  refine yO 9 zM ?_
  refine xqf 2 [eS1 23 A xs.length c,yJ 24 j] [] ?_
  refine xqj 25 (atA A j) (fun w Q=>wT (t:=97) (e:=84) (x:=.tmp 23) (ix:=.tmp 24) (len:=xs.length) (cap:=c) (i:=j) ((Q.1).ne (j:=j) qO) qO) ?_
  obtain⟨d,a⟩:=yE (xs[j]?.getD 0)
  refine xqj 26 (yX d) (fun w Q=>by rw[←a];exact lL (t:=84) (x:=.tmp 25) (Q.1) (j:=j) qO) ?_
  refine xqf 2 [eS1 27 p ys.length c2,yJ 28 j] [] ?_
  refine xqj 29 (atA p j) (fun w Q=>wT (t:=97) (e:=84) (x:=.tmp 27) (ix:=.tmp 28) (len:=ys.length) (cap:=c2) (i:=j) ((Q.2).ne (j:=j) qO) qO) ?_
  obtain⟨f,b⟩:=yE (ys[j]?.getD 0)
  refine xqj 30 (yX f) (fun w Q=>by rw[←b];exact lL (t:=84) (x:=.tmp 29) (Q.2) (j:=j) qO) ?_
  refine xqf 1 [yB 31 (((d:Int):Int) != (f:Int))] [] ?_
  refine xz (xe (zA ?_))
  refine yQ ((((d:Int):Int) != (f:Int))) (fun m=>?_) fun m=>?_
  ·have B:=Zes m
   refine zC (zC ?_)
   refine yO 9 zM ?_
   refine xqf 2 [eS1 32 A xs.length c,yJ 33 j] [] ?_
   refine xqj 34 (atA A j) (fun w Q=>wT (t:=97) (e:=84) (x:=.tmp 32) (ix:=.tmp 33) (len:=xs.length) (cap:=c) (i:=j) ((Q.1).ne (j:=j) qO) qO) ?_
   obtain⟨E,q⟩:=yE (xs[j]?.getD 0)
   refine xqj 35 (yX E) (fun w Q=>by rw[←q];exact lL (t:=84) (x:=.tmp 34) (Q.1) (j:=j) qO) ?_
   obtain rfl:d=E:=by rw[←a,q]
   refine xqf 2 [eS1 36 p ys.length c2,yJ 37 j] [] ?_
   refine xqj 38 (atA p j) (fun w Q=>wT (t:=97) (e:=84) (x:=.tmp 36) (ix:=.tmp 37) (len:=ys.length) (cap:=c2) (i:=j) ((Q.2).ne (j:=j) qO) qO) ?_
   obtain⟨F,r⟩:=yE (ys[j]?.getD 0)
   refine xqj 39 (yX F) (fun w Q=>by rw[←r];exact lL (t:=84) (x:=.tmp 38) (Q.2) (j:=j) qO) ?_
   obtain rfl:f=F:=by rw[←b,r]
   refine xqf 1 [yB 40 (decide ((d:Int)<(f:Int)))] [] ?_
   refine xz (xe (zA ?_))
   refine yQ ((decide ((d:Int)<(f:Int)))) (fun n=>?_) fun n=>?_
   ·have C:=uC n
    refine yY (xq 1 [yJ 4 (-1)] [] ?_)
    refine yZ (zH (zL (wY (zL (zL (wY (zL ?_)))))))
    refine yR (yI (-1)) fun w' R Q=>?_
    exact⟨by rw[←Zd3 G H qO (k:=j) qO D a b qO,iJ qO],R⟩
   have C:=uD n
   refine zJ (zA (yY (xq 1 [yJ 4 1] [] ?_)))
   refine yZ (zH (wY (zL (zL (wY (zL ?_))))))
   refine yR (yI 1) fun w' R Q=>?_
   exact⟨by rw[←Zd3 G H qO (k:=j) qO D a b qO,gY qO],R⟩
  have B:=Zet m
  have U:xs.drop j=ys.drop j:=ZsF qO qO D a b qO
  refine zJ (xR (zA (zB (xq 2 [yJ 22 (IntKind.i64.wrap ((j:Int)-1))] [] ?_))))
  rw[yW ((j:Int)-1) ((j:Int)-1) qO]
  refine xq 1 [yJ 5 ((j:Int)-1)] [] ?_
  refine xe ?_
  exact xK ((1+j)) qO ⟨j,rfl,rfl,U,qO,rfl⟩ (fun w Q=>⟨Q.1,Q.2⟩)
 have z:=uD l
 obtain rfl:k=0:=qO
 refine xM (zE (zE (xW (zA (yY (xq 1 [yJ 4 0] [] ?_))))))
 refine yZ (zH ?_)
 refine yR (yI 0) fun w' R Q=>?_
 exact⟨by rw[sI,sI] at D;rw[D,ZbY],R⟩
def ZtZ (b:Nat) (xs:List Nat) (u:Nat) (w:World) (e:Ending) (w':World):Prop:=∃ qs,e=.returned (.int .u64 ((val W64 xs%u:Nat):Int))∧(qs.length=xs.length∧Dig W64 qs∧val W64 qs=val W64 xs/u)∧Fr (fun i=>i=b) w w'∧Own .u64 84 w' b qs
theorem Zcf (b c:Nat)(xs:qN)(u:Nat)(w:World)(m:Own .u64 84 w b xs)(D:xs.length≤4294967296)(z:Dig W64 xs)(A:0<u)(n:u<W64) :
 Ζ 99 #[.slice (some ⟨b,0,none⟩) xs.length c,.int .u64 ((u:Nat):Int)] w (ZtZ b xs u w):=by
 refine Za3 (fun i=>i=b) (Φ:=fun w=>Own .u64 84 w b xs) func99 rfl qK (fun w' B=>m.ext B) ?_
 refine yY (xq 1 [yU 4 0] [] ?_)
 refine yZ (yY (xq 1 [yU 5 0] [] ?_))
 refine yZ (zC (yY (xq 3 [yJ 9 (IntKind.i64.wrap (((xs.length:Nat):Int)-1))] [] ?_)))
 rw[yW (((xs.length:Nat):Int)-1) (((xs.length:Nat):Int)-1) qO]
 refine xq 1 [yJ 6 (((xs.length:Nat):Int)-1)] [] ?_
 refine yZ (zQ ?_)
 refine xO (fun p q s=>∃ (k:Nat) (r:Nat) (h:List Nat),q=ofL [eS1 0 (yL b) xs.length c,yU 1 u,yU 4 0,yU 5 r,yJ 6 ((k:Int)-1)] []∧s=(fun w=>Own .u64 84 w b (h))∧(DwR xs u k h r)∧(k≤xs.length)∧p=(1+k)) ((1+xs.length)) ⟨xs.length,0,xs,rfl,rfl,DwR.start z A,uF _,rfl⟩ (fun w Q=>Q) ?_
 rintro p q s ⟨k,r,h,rfl,rfl,g,E,rfl⟩
 refine zC (yY (xq 2 [(11,.v (.bool (decide (((k:Int)-1)≥0))))] [] ?_))
 refine xe (zA ?_)
 refine yQ ((decide (((k:Int)-1)≥0))) (fun f=>?_) fun f=>?_
 ·have l:=uC f
  obtain⟨j,rfl⟩:∃ j,k=j+1:=⟨k-1,qO⟩
  rw[show ((((j+1):Nat):Int)-1)=(j:Int) by omega]
  have C:=g.1.1
  refine zJ (zA (zC (zQ (zB (xq 5 [eS1 15 (yL b) xs.length c,yJ 16 j,yU 17 r,eS1 18 (yL b) xs.length c,yJ 19 j] [] ?_)))))
  refine xqk 20 (.pointer (some ⟨b,j,none⟩)) (fun w R Q=>kV (t:=97) (e:=84) (x:=.tmp 18) (ix:=.tmp 19) (len:=xs.length) (cap:=c) (i:=j) qO) ?_
  obtain⟨a,d⟩:=yE (h[j]?.getD 0)
  refine xqk 21 (yX a) (fun w R Q=>by rw[←d];exact fO (t:=84) (x:=.tmp 20) (Q) (j:=j) qO) ?_
  refine xq 1 [yU 22 u] [] ?_
  refine xqc 128 [yX r, yX a, yX u] 23 (fun _:Unit=>.tuple #[yX (divQ r a u:Nat), yX (divR r a u:Nat)]) _ (fun w R Q=>yN (Zit r a u _ g.1.2.2.1 n (by rw[←d];exact g.1.2.1.getD zK _))) fun F=>?_
  refine xq 3 [yU 24 (divQ r a u:Nat),yU 25 (divR r a u:Nat)] [] ?_
  refine xqk 26 (.pointer (some ⟨b,j,none⟩)) (fun w R Q=>kV (t:=97) (e:=84) (x:=.tmp 15) (ix:=.tmp 16) (len:=xs.length) (cap:=c) (i:=j) qO) ?_
  refine iS (t:=84) (x:=.tmp 26) (y:=.tmp 24) b (j) (divQ r a u) (fun w=>(Own .u64 84 w b ((h).set (j) (divQ r a u))∧True)) (fun w Q=>Q.1) qO (Or.inr rfl) (fun w w' Q G m=>⟨m,trivial⟩) ?_
  refine xq 1 [yU 5 (divR r a u:Nat)] [] ?_
  refine xe (xR (zA (zB (xq 2 [yJ 13 (IntKind.i64.wrap ((j:Int)-1))] [] ?_))))
  rw[yW ((j:Int)-1) ((j:Int)-1) qO]
  refine xq 1 [yJ 6 ((j:Int)-1)] [] ?_
  refine xe ?_
  exact xK ((1+j)) qO ⟨j,(divR r a u),((h).set (j) (divQ r a u)),rfl,rfl,(g.step qO d (by rw[←d];exact g.1.2.1.getD zK _)),qO,rfl⟩ (fun w Q=>Q.1)
 have l:=uD f
 obtain rfl:k=0:=qO
 refine xM (zE (zE (xW (zA (yY (xq 2 [yU 4 r] [] ?_))))))
 refine yZ (zH ?_)
 refine yR (yX r) fun w' R Q=>?_
 exact⟨h,by rw[g.1.done.2],⟨g.1.1,g.1.2.1,g.1.done.1⟩,R,Q⟩
def Zl4 (b:Nat) (w:World) (p:List Nat→Nat→Prop) (e:Ending) (w':World):Prop:=∃ x:List Nat × Nat,e=.returned (.bool (((x.2:Nat):Int) == 1))∧p x.1 x.2∧Fr (fun i=>i=b) w w'∧Own .u64 84 w' b x.1
theorem ZjX (b c o:Nat)(m ys:qN)(A:qA)(c2:Nat)(w:World)(C:Own .u64 84 w b m)(S:zI .u64 w A ys)(J:∀ a,A=some a→a.block≠b)(U:o+ys.length<m.length)(V:m.length≤4294967296)(T:Dig W64 m)(D:Dig W64 ys)(q:Nat)(E:q<W64) :
 Ζ 177 #[.slice (some ⟨b,o,none⟩) (ys.length+1) c,.slice A ys.length c2,.int .u64 ((q:Nat):Int)] w (Zl4 b w (Zew m ys q o)):=by
 refine Za3 (fun i=>i=b) (Φ:=fun w=>(Own .u64 84 w b m∧zI .u64 w A ys)) func177 rfl qK (fun w' K=>⟨C.ext K,S.ext K⟩) ?_
 refine yY (xq 1 [yB 6 false] [] ?_)
 refine yZ (yY (xq 2 [yU 7 0,yU 8 0] [] ?_))
 refine yZ (zC (yY (xq 3 [eS1 14 A ys.length c2,yJ 15 ys.length,yJ 16 0] [] ?_)))
 refine yZ (zQ ?_)
 refine xO (fun L M O=>∃ (f g k:Nat) (r:List Nat),M=ofL [eS1 0 (some ⟨b,o,none⟩) (ys.length+1) c,eS1 1 A ys.length c2,yU 2 q,yB 6 false,yU 7 f,yU 8 g,eS1 14 A ys.length c2,yJ 15 ys.length,yJ 16 k] []∧O=(fun w=>(Own .u64 84 w b (r)∧zI .u64 w A (ys)))∧(SpR m ys q o k r f g)∧(k≤ys.length)∧L=(ys.length-k)) ((ys.length-0)) ⟨0,0,0,m,rfl,rfl,SpR.start ys q o T,qO,rfl⟩ (fun w Q=>⟨Q.1,Q.2⟩) ?_
 rintro L M O ⟨f,g,k,r,rfl,rfl,z,W,rfl⟩
 refine yY (xq 1 [yB 17 (decide ((k:Int)<((ys.length:Nat):Int)))] [] ?_)
 refine yZ (zC ?_)
 refine yQ ((decide ((k:Int)<((ys.length:Nat):Int)))) (fun p=>?_) fun p=>?_
 ·have B:=uC p
  have F:=z.1
  have G:=z.2.2.2.1
  refine zJ (zA (zC (zQ (yY (xq 1 [yJ 18 k] [] ?_)))))
  refine xqk 19 (atA A k) (fun w R Q=>wT (t:=97) (e:=84) (x:=.tmp 14) (ix:=.tmp 16) (len:=ys.length) (cap:=c2) (i:=k) ((Q.2).ne (j:=k) qO) qO) ?_
  obtain⟨d,n⟩:=yE (ys[k]?.getD 0)
  refine xqk 20 (yX d) (fun w R Q=>by rw[←n];exact lL (t:=84) (x:=.tmp 19) (Q.2) (j:=k) qO) ?_
  refine xq 2 [yJ 9 k,yU 10 d] [] ?_
  refine yZ (yY (xq 2 [yU 22 d,yU 23 q] [] ?_))
  refine xqc 117 [yX d, yX q] 24 (fun _:Unit=>.tuple #[yX (wW d q:Nat), yX (xF d q:Nat)]) _ (fun w R Q=>yN (Zeu d q _ (by rw[←n];exact D.getD zK _) E)) fun X=>?_
  refine xq 5 [yU 11 (wW d q:Nat),yU 12 (xF d q:Nat)] [] ?_
  refine yZ (yY (xq 2 [yU 28 (xF d q:Nat),yU 29 f] [] ?_))
  refine xqk 30 (.tuple #[yX (xJ (xF d q) f 0:Nat), yX (xN (xF d q) f 0:Nat)]) (fun w R Q=>eY (args:=[Operand.tmp 28,Operand.tmp 29,Operand.const (Value.int IntKind.u64 0)]) (ts:=#[84,84,84]) (fQ (xF d q) f 0 qO w)) ?_
  refine xq 5 [yU 12 (xJ (xF d q) f 0:Nat),yU 13 (xN (xF d q) f 0:Nat)] [] ?_
  refine yZ (yY (xq 3 [(35,.v (yX (IntKind.u64.wrap (((wW d q:Nat):Int)+((xN (xF d q) f 0:Nat):Int)))))] [] ?_))
  rw[ZgN (a:=wW d q) (b:=xN (xF d q) f 0) (ZjV (by rw[←n];exact D.getD zK _) E z.2.2.1)]
  refine xq 1 [yU 7 (wW d q+xN (xF d q) f 0:Nat)] [] ?_
  refine yZ (zB (xq 4 [eS1 37 (some ⟨b,o,none⟩) (ys.length+1) c,yJ 38 k,eS1 39 (some ⟨b,o,none⟩) (ys.length+1) c,yJ 40 k] [] ?_))
  refine xqk 41 (.pointer (some ⟨b,o+k,none⟩)) (fun w R Q=>iL (t:=97) (e:=84) (x:=.tmp 39) (ix:=.tmp 40) (len:=(ys.length+1)) (cap:=c) (i:=k) qO) ?_
  obtain⟨h,s⟩:=yE (r[o+k]?.getD 0)
  refine xqk 42 (yX h) (fun w R Q=>by rw[←s];exact fO (t:=84) (x:=.tmp 41) (Q.1.1) (j:=o+k) qO) ?_
  refine xq 2 [yU 43 (xJ (xF d q) f 0:Nat),yU 44 g] [] ?_
  refine xqk 45 (.tuple #[yX (lW h (xJ (xF d q) f 0) g:Nat), yX (lX h (xJ (xF d q) f 0) g:Nat)]) (fun w R Q=>eY (args:=[Operand.tmp 42,Operand.tmp 43,Operand.tmp 44]) (ts:=#[84,84,84]) (fR h (xJ (xF d q) f 0) g qO w)) ?_
  refine xq 3 [yU 46 (lW h (xJ (xF d q) f 0) g:Nat),yU 47 (lX h (xJ (xF d q) f 0) g:Nat)] [] ?_
  refine xqk 48 (.pointer (some ⟨b,o+k,none⟩)) (fun w R Q=>iL (t:=97) (e:=84) (x:=.tmp 37) (ix:=.tmp 38) (len:=(ys.length+1)) (cap:=c) (i:=k) qO) ?_
  refine iS (t:=84) (x:=.tmp 48) (y:=.tmp 46) b (o+k) (lW h (xJ (xF d q) f 0) g) (fun w=>((Own .u64 84 w b ((r).set (o+k) (lW h (xJ (xF d q) f 0) g))∧zI .u64 w A (ys))∧True)) (fun w Q=>Q.1.1) qO (Or.inr rfl) (fun w w' Q H C=>⟨⟨C,((Q.1.2).fr H (fun a I _=>J a I))⟩,trivial⟩) ?_
  refine xr 1 [eS1 0 (some ⟨b,o,none⟩) (ys.length+1) c,eS1 1 A ys.length c2,yU 2 q,yB 6 false,yU 7 (wW d q+xN (xF d q) f 0:Nat),yU 8 (lX h (xJ (xF d q) f 0) g:Nat),eS1 14 A ys.length c2,yJ 15 ys.length,yJ 16 k] [] ?_
  refine xe (xR (zA (zB (xq 1 [yJ 49 (IntKind.i64.wrap ((k:Int)+1))] [] ?_))))
  rw[yW ((k:Int)+1) (((k+1:Nat):Int)) qO]
  refine xq 1 [yJ 16 (k+1:Nat)] [] ?_
  refine xe ?_
  exact xK ((ys.length-(k+1))) qO ⟨(wW d q+xN (xF d q) f 0),(lX h (xJ (xF d q) f 0) g),(k+1),((r).set (o+k) (lW h (xJ (xF d q) f 0) g)),rfl,rfl,(z.step qO n s D E),qO,rfl⟩ (fun w Q=>⟨Q.1.1,Q.1.2⟩)
 have B:=uD p
 have F:=z.1
 have G:=z.2.2.2.1
 obtain rfl:k=ys.length:=qO
 refine xM (zE (zE (xW (zA (yY (xq 6 [eS1 51 (some ⟨b,o,none⟩) (ys.length+1) c,yJ 53 ys.length,eS1 54 (some ⟨b,o,none⟩) (ys.length+1) c,yJ 56 ys.length] [] ?_))))))
 refine xqk 57 (.pointer (some ⟨b,o+ys.length,none⟩)) (fun w R Q=>iL (t:=97) (e:=84) (x:=.tmp 54) (ix:=.tmp 56) (len:=(ys.length+1)) (cap:=c) (i:=ys.length) qO) ?_
 obtain⟨l,u⟩:=yE (r[o+ys.length]?.getD 0)
 refine xqk 58 (yX l) (fun w R Q=>by rw[←u];exact fO (t:=84) (x:=.tmp 57) (Q.1) (j:=o+ys.length) qO) ?_
 refine xq 2 [yU 59 f,yU 60 g] [] ?_
 refine xqk 61 (.tuple #[yX (lW l f g:Nat), yX (lX l f g:Nat)]) (fun w R Q=>eY (args:=[Operand.tmp 58,Operand.tmp 59,Operand.tmp 60]) (ts:=#[84,84,84]) (fR l f g qO w)) ?_
 refine xq 3 [yU 62 (lW l f g:Nat),yU 63 (lX l f g:Nat)] [] ?_
 refine xqk 64 (.pointer (some ⟨b,o+ys.length,none⟩)) (fun w R Q=>iL (t:=97) (e:=84) (x:=.tmp 51) (ix:=.tmp 53) (len:=(ys.length+1)) (cap:=c) (i:=ys.length) qO) ?_
 refine iS (t:=84) (x:=.tmp 64) (y:=.tmp 62) b (o+ys.length) (lW l f g) (fun w=>(Own .u64 84 w b ((r).set (o+ys.length) (lW l f g))∧zI .u64 w A (ys))) (fun w Q=>Q.1) qO (Or.inr rfl) (fun w w' Q H C=>⟨C,((Q.2).fr H (fun a I _=>J a I))⟩) ?_
 refine xq 1 [yU 8 (lX l f g:Nat)] [] ?_
 refine yZ (yY (xq 3 [yB 6 ((((lX l f g:Nat):Int):Int) == 1)] [] ?_))
 refine yZ (zH ?_)
 refine yR (.bool ((((lX l f g:Nat):Int):Int) == 1)) fun w' R Q=>?_
 exact⟨(_,_),rfl,z.done qO u,R,Q.1⟩
theorem ZjY (b c o:Nat)(l ys:qN)(A:qA)(c2:Nat)(w:World)(v:Own .u64 84 w b l)(J:zI .u64 w A ys)(E:∀ a,A=some a→a.block≠b)(M:o+ys.length<l.length)(O:l.length≤4294967296)(K:Dig W64 l)(L:Dig W64 ys) :
 Ζ 178 #[.slice (some ⟨b,o,none⟩) (ys.length+1) c,.slice A ys.length c2] w (Zl4 b w (Zex l ys o)):=by
 refine Za3 (fun i=>i=b) (Φ:=fun w=>(Own .u64 84 w b l∧zI .u64 w A ys)) func178 rfl qK (fun w' F=>⟨v.ext F,J.ext F⟩) ?_
 refine yY (xq 1 [yB 4 false] [] ?_)
 refine yZ (yY (xq 1 [yU 5 0] [] ?_))
 refine yZ (zC (yY (xq 3 [eS1 8 A ys.length c2,yJ 9 ys.length,yJ 10 0] [] ?_)))
 refine yZ (zQ ?_)
 refine xO (fun G H I=>∃ (f k:Nat) (n:List Nat),H=ofL [eS1 0 (some ⟨b,o,none⟩) (ys.length+1) c,eS1 1 A ys.length c2,yB 4 false,yU 5 f,eS1 8 A ys.length c2,yJ 9 ys.length,yJ 10 k] []∧I=(fun w=>(Own .u64 84 w b (n)∧zI .u64 w A (ys)))∧(AbR l ys o k n f)∧(k≤ys.length)∧G=(ys.length-k)) ((ys.length-0)) ⟨0,0,l,rfl,rfl,AbR.start ys o K,qO,rfl⟩ (fun w Q=>⟨Q.1,Q.2⟩) ?_
 rintro G H I ⟨f,k,n,rfl,rfl,u,S,rfl⟩
 refine yY (xq 1 [yB 11 (decide ((k:Int)<((ys.length:Nat):Int)))] [] ?_)
 refine yZ (zC ?_)
 refine yQ ((decide ((k:Int)<((ys.length:Nat):Int)))) (fun m=>?_) fun m=>?_
 ·have s:=uC m
  have z:=u.1
  have B:=u.2.2.1
  refine zJ (zA (zC (zQ (yY (xq 1 [yJ 12 k] [] ?_)))))
  refine xqk 13 (atA A k) (fun w R Q=>wT (t:=97) (e:=84) (x:=.tmp 8) (ix:=.tmp 10) (len:=ys.length) (cap:=c2) (i:=k) ((Q.2).ne (j:=k) qO) qO) ?_
  obtain⟨d,p⟩:=yE (ys[k]?.getD 0)
  refine xqk 14 (yX d) (fun w R Q=>by rw[←p];exact lL (t:=84) (x:=.tmp 13) (Q.2) (j:=k) qO) ?_
  refine xq 2 [yJ 6 k,yU 7 d] [] ?_
  refine yZ (zB (xq 4 [eS1 16 (some ⟨b,o,none⟩) (ys.length+1) c,yJ 17 k,eS1 18 (some ⟨b,o,none⟩) (ys.length+1) c,yJ 19 k] [] ?_))
  refine xqk 20 (.pointer (some ⟨b,o+k,none⟩)) (fun w R Q=>iL (t:=97) (e:=84) (x:=.tmp 18) (ix:=.tmp 19) (len:=(ys.length+1)) (cap:=c) (i:=k) qO) ?_
  obtain⟨g,q⟩:=yE (n[o+k]?.getD 0)
  refine xqk 21 (yX g) (fun w R Q=>by rw[←q];exact fO (t:=84) (x:=.tmp 20) (Q.1) (j:=o+k) qO) ?_
  refine xq 2 [yU 22 d,yU 23 f] [] ?_
  refine xqk 24 (.tuple #[yX (xJ g d f:Nat), yX (xN g d f:Nat)]) (fun w R Q=>eY (args:=[Operand.tmp 21,Operand.tmp 22,Operand.tmp 23]) (ts:=#[84,84,84]) (fQ g d f qO w)) ?_
  refine xq 3 [yU 25 (xJ g d f:Nat),yU 26 (xN g d f:Nat)] [] ?_
  refine xqk 27 (.pointer (some ⟨b,o+k,none⟩)) (fun w R Q=>iL (t:=97) (e:=84) (x:=.tmp 16) (ix:=.tmp 17) (len:=(ys.length+1)) (cap:=c) (i:=k) qO) ?_
  refine iS (t:=84) (x:=.tmp 27) (y:=.tmp 25) b (o+k) (xJ g d f) (fun w=>(Own .u64 84 w b ((n).set (o+k) (xJ g d f))∧zI .u64 w A (ys))) (fun w Q=>Q.1) qO (Or.inr rfl) (fun w w' Q C v=>⟨v,((Q.2).fr C (fun a D _=>E a D))⟩) ?_
  refine xq 1 [yU 5 (xN g d f:Nat)] [] ?_
  refine xe (xR (zA (zB (xq 1 [yJ 28 (IntKind.i64.wrap ((k:Int)+1))] [] ?_))))
  rw[yW ((k:Int)+1) (((k+1:Nat):Int)) qO]
  refine xq 1 [yJ 10 (k+1:Nat)] [] ?_
  refine xe ?_
  exact xK ((ys.length-(k+1))) qO ⟨(xN g d f),(k+1),((n).set (o+k) (xJ g d f)),rfl,rfl,(u.step qO p q L),qO,rfl⟩ (fun w Q=>⟨Q.1,Q.2⟩)
 have s:=uD m
 have z:=u.1
 have B:=u.2.2.1
 obtain rfl:k=ys.length:=qO
 refine xM (zE (zE (xW (zA (yY (xq 6 [eS1 30 (some ⟨b,o,none⟩) (ys.length+1) c,yJ 32 ys.length,eS1 33 (some ⟨b,o,none⟩) (ys.length+1) c,yJ 35 ys.length] [] ?_))))))
 refine xqk 36 (.pointer (some ⟨b,o+ys.length,none⟩)) (fun w R Q=>iL (t:=97) (e:=84) (x:=.tmp 33) (ix:=.tmp 35) (len:=(ys.length+1)) (cap:=c) (i:=ys.length) qO) ?_
 obtain⟨h,r⟩:=yE (n[o+ys.length]?.getD 0)
 refine xqk 37 (yX h) (fun w R Q=>by rw[←r];exact fO (t:=84) (x:=.tmp 36) (Q.1) (j:=o+ys.length) qO) ?_
 refine xq 1 [yU 38 f] [] ?_
 refine xqk 39 (.tuple #[yX (xJ h 0 f:Nat), yX (xN h 0 f:Nat)]) (fun w R Q=>eY (args:=[Operand.tmp 37,Operand.const (Value.int IntKind.u64 0),Operand.tmp 38]) (ts:=#[84,84,84]) (fQ h 0 f qO w)) ?_
 refine xq 3 [yU 40 (xJ h 0 f:Nat),yU 41 (xN h 0 f:Nat)] [] ?_
 refine xqk 42 (.pointer (some ⟨b,o+ys.length,none⟩)) (fun w R Q=>iL (t:=97) (e:=84) (x:=.tmp 30) (ix:=.tmp 32) (len:=(ys.length+1)) (cap:=c) (i:=ys.length) qO) ?_
 refine iS (t:=84) (x:=.tmp 42) (y:=.tmp 40) b (o+ys.length) (xJ h 0 f) (fun w=>(Own .u64 84 w b ((n).set (o+ys.length) (xJ h 0 f))∧zI .u64 w A (ys))) (fun w Q=>Q.1) qO (Or.inr rfl) (fun w w' Q C v=>⟨v,((Q.2).fr C (fun a D _=>E a D))⟩) ?_
 refine xq 1 [yU 5 (xN h 0 f:Nat)] [] ?_
 refine yZ (yY (xq 3 [yB 4 ((((xN h 0 f:Nat):Int):Int) == 1)] [] ?_))
 refine yZ (zH ?_)
 refine yR (.bool ((((xN h 0 f:Nat):Int):Int) == 1)) fun w' R Q=>?_
 exact⟨(_,_),rfl,u.done qO r,R,Q.1⟩
noncomputable def win (o n:Nat) (zs:List Nat):Nat:=val W64 ((zs.drop o).take (n+1))
theorem Zas {o n:Nat}{zs:qN}(h:o≤zs.length):val W64 (zs.take (o+n+1))=val W64 (zs.take o)+W64^o*win o n zs:=by
 unfold win
 rw[show o+n+1=o+(n+1) by omega,List.take_add,kO,uN,uY h]
theorem ZoS {o n:Nat}{zs:qN}(a:Dig W64 zs):win o n zs<W64^(n+1):=by
 have:=wF ((a.drop o).take (n+1))
 refine uT this (vC zK (by rw[uN];exact Nat.min_le_left _ _))
def WinR (o n:Nat) (zs0 zs:List Nat):Prop:=zs.length=zs0.length∧Dig W64 zs∧zs.take o=zs0.take o∧zs.drop (o+n+1)=zs0.drop (o+n+1)
theorem WinR.start {o n:Nat}{zs0:qN}(h:Dig W64 zs0):WinR o n zs0 zs0:=⟨rfl,h,rfl,rfl⟩
theorem ZgO {o a b c d x:Nat}(h:x+W64^o*a+W64^o*b=x+W64^o*c+W64^o*d):a+b=c+d:=by
 have e:W64^o*(a+b)=W64^o*(c+d):=by rw[uL,uL];omega
 exact Nat.eq_of_mul_eq_mul_left (uZ zK) e
theorem Zew.win {a c ys zs:qN}{q o b:Nat}(h:Zew c ys q o zs b)(p:o≤a.length)(k:WinR o ys.length a c):WinR o ys.length a zs∧b≤1∧win o ys.length zs+q*val W64 ys=win o ys.length c+W64^(ys.length+1)*b:=by
 obtain⟨f,g,i,d,j,e⟩:=h
 obtain⟨l,r,m,n⟩:=k
 refine⟨⟨f.trans l,g,d.trans m,j.trans n⟩,i,?_⟩
 rw[Zas qO,Zas qO,d,show o+ys.length+1=o+(ys.length+1) by omega,uU,uH (W64^o)] at e
 exact ZgO e
theorem Zex.win {a b ys zs:qN}{o c:Nat}(h:Zex b ys o zs c)(p:o≤a.length)(k:WinR o ys.length a b):WinR o ys.length a zs∧c≤1∧win o ys.length zs+W64^(ys.length+1)*c=win o ys.length b+val W64 ys:=by
 obtain⟨f,g,i,d,j,e⟩:=h
 obtain⟨l,q,m,n⟩:=k
 refine⟨⟨f.trans l,g,d.trans m,j.trans n⟩,i,?_⟩
 rw[Zas qO,Zas qO,d,show o+ys.length+1=o+(ys.length+1) by omega,uU,uH (W64^o)] at e
 exact ZgO e
theorem ZsG {o n:Nat}{zs:qN}{u0 u1 u2:Nat}(e:2≤n)(f:o+n<zs.length)(c:zs[o+n]?.getD 0=u0)(a:zs[o+(n-1)]?.getD 0=u1)(b:zs[o+(n-2)]?.getD 0=u2)(d:Dig W64 zs) :
 ∃ l,l<W64^(n-2)∧win o n zs=l+W64^(n-2)*(u2+W64*(u1+W64*u0)):=by
 obtain⟨m,rfl⟩:∃ m,n=m+2:=⟨n-2,qO⟩
 refine⟨val W64 ((zs.drop o).take m),?_,?_⟩
 ·have:=wF ((d.drop o).take m)
  rw[uN,tB,uY qO] at this
  exact this
 unfold win
 simp only[show m+2-1=m+1 by omega,show m+2-2=m by omega] at a b ⊢
 have g:∀ j,(zs.drop o)[j]?.getD 0=zs[o+j]?.getD 0:=fun j=>by rw[vR]
 rw[lO (m+2),lO (m+1),lO m,g,g,g,c,a,b]
 simp only[uO,uL,uH,sG]
theorem ZsH {n:Nat}{ys:qN}{t v2:Nat}(c:2≤n)(d:ys.length=n)(a:ys[n-1]?.getD 0=t)(b:ys[n-2]?.getD 0=v2):∃ l,val W64 ys=l+W64^(n-2)*(v2+W64*t):=by
 obtain⟨m,rfl⟩:∃ m,n=m+2:=⟨n-2,qO⟩
 refine⟨val W64 (ys.take m),?_⟩
 simp only[show m+2-1=m+1 by omega,show m+2-2=m by omega] at a b ⊢
 have:=lO (B:=W64) (xs:=ys) (m+1)
 rw[uB qO,lO m,a,b,uO] at this
 rw[this]
 simp only[uL,uH,sG]
theorem ZqP {B l U V a u0 u1 u2 v2 t:Nat}(f:l<B)(g:U=l+B*(u2+W64*(u1+W64*u0)))(b:V=a+B*(v2+W64*t))(h:u2<W64)(c:0<t):U/V≤divQ u0 u1 t:=by
 unfold divQ
 rw[qU c]
 have i:=pI U V
 generalize U/V=q at *
 have j:q*(B*(W64*t))≤q*V:=uK _ (by rw[b,uL];omega)
 have d:B*(q*(W64*t))<B*(u2+W64*(u1+W64*u0)+1):=by
  rw[tL,uL B (_+_) 1];omega
 have k:=sR d
 have e:W64*(q*t)<W64*(u1+W64*u0+1):=by
  rw[tL,uL W64 (_+_) 1];omega
 have m:=sR e
 rw[uG u0];omega
theorem ZgP {B l U V b u0 u1 u2 v2 t g r:Nat}(j:l<B)(k:U=l+B*(u2+W64*(u1+W64*u0)))(c:V=b+B*(v2+W64*t))(d:r+g*t=u0*W64+u1)(h:r*W64+u2<g*v2)(a:0<V):U/V+1≤g:=by
 rw[Nat.add_one_le_iff,vN a]
 have f:u2+W64*(u1+W64*u0)+1≤g*(v2+W64*t):=by
  have e:W64*(r+g*t)=W64*(u1+W64*u0):=by rw[d,vW,uG u0]
  rw[uL g,tL g]
  rw[uL W64 r] at e
  rw[uG r] at h
  omega
 have i:B*(u2+W64*(u1+W64*u0)+1)≤g*V:=by
  refine uA (uK B f) ?_
  rw[tL,c]
  exact uK _ qO
 rw[uL B (_+_) 1] at i
 omega
theorem ZoT {U V:Nat}(h:U<W64*V):U/V≤W64-1:=by
 have a:0<V:=rC (fun e=>by subst e;omega)
 have:=(vN a).2 h
 omega
theorem Zl5 {hi lo r u g v:Nat}(h:lo+W64*hi=g*v)(b:¬ hi<r)(c:hi=r→¬ lo≤u)(d:u<W64):r*W64+u<g*v:=by
 rw[←h,uG r]
 rcases pF hi r with a|a|a
 ·exact absurd a b
 ·have:=c a;subst a;omega
 have:=uK W64 a
 rw[Nat.mul_succ] at this
 omega
def CorR (U V P:Nat) (g b wn:Nat):Prop:=b≤1∧wn<P∧U/V≤g∧wn+g*V=U+P*b
theorem CorR.pos {U V P g b a:Nat}(h:CorR U V P g b a)(c:b=1)(d:0<V):U/V+1≤g:=by
 obtain⟨_,e,_,f⟩:=h
 subst c
 rw[Nat.add_one_le_iff,vN d]
 omega
theorem CorR.step {U V P g b d wn' c:Nat}(h:CorR U V P g b d)(e:b=1)(i:0<V)(l:c≤1)(j:wn'<P)(f:wn'+P*c=d+V):CorR U V P (g-1) (1-c) wn':=by
 have m:=h.pos e i
 obtain⟨n,o,p,a⟩:=h
 subst e
 unfold CorR
 generalize U/V=q at *
 refine⟨qO,j,qO,?_⟩
 obtain⟨k,rfl⟩:∃ k,g=k+1:=⟨g-1,qO⟩
 rw[tK]
 rw[uW] at a
 rcases (by omega:c=0∨c=1) with rfl|rfl
 ·simp at f a ⊢;omega
 simp at f a ⊢;omega
theorem CorR.done {U V P g a:Nat}(h:CorR U V P g 0 a)(b:0<V):g=U/V∧a=U%V:=by
 obtain⟨d,f,i,c⟩:=h
 rw[tX,tP] at c
 have j:g≤U/V:=by rw[qU b];omega
 have e:g=U/V:=qO
 refine⟨e,?_⟩
 have:=vX U V
 rw[←e,uG] at this
 omega
theorem ZuY:(18446744073709551615:Int)=((W64-1:Nat):Int):=by rw[zN];rfl
theorem ZrS {a b:Nat}(h:¬ a+b<W64)(ha:a<W64)(c:b<W64):IntKind.u64.wrap ((a:Int)+(b:Int))=((a+b-W64:Nat):Int):=by
 rw[IntKind.wrap_u64]
 rw[zN] at *
 omega
theorem ZsI {c:Nat}(h:c≤1):(!(((c:Nat):Int) == 1))=(((1-c:Nat):Int) == 1):=by
 rcases (by omega:c=0∨c=1) with rfl|rfl<;>rfl
def Zt0 (b o:Nat) (zs0 ys:List Nat) (w:World) (e:Ending) (w':World):Prop:=∃ zs,e=.returned (.int .u64 ((win o ys.length zs0/val W64 ys:Nat):Int))∧(WinR o ys.length zs0 zs∧win o ys.length zs=win o ys.length zs0%val W64 ys)∧Fr (fun i=>i=b) w w'∧Own .u64 84 w' b zs
theorem ZgQ (b c o:Nat)(g ys:qN)(A:qA)(c2:Nat)(w:World)(hO:Own .u64 84 w b g)(hY:zI .u64 w A ys)(hA:∀ a,A=some a→a.block≠b)(ho:o+ys.length<g.length)(hl:g.length≤4294967296)(N:Dig W64 g)(Y:Dig W64 ys)(r0:2≤ys.length)(C:0<val W64 ys)(s0:win o ys.length g<W64*val W64 ys) :
 Ζ 150 #[.slice (some ⟨b,o,none⟩) (ys.length+1) c,.slice A ys.length c2] w (Zt0 b o g ys w):=by
 obtain⟨u2,D⟩:=yE (g[o+(ys.length-2)]?.getD 0)
 refine Za3 (fun i=>i=b) (Φ:=fun w=>(Own .u64 84 w b g∧zI .u64 w A ys)) func150 rfl qK (fun w' hf=>⟨hO.ext hf,hY.ext hf⟩) ?_
 refine yY (xq 1 [yU 4 0] [] ?_)
 refine yZ (yY (xq 3 [yJ 5 ys.length] [] ?_))
 refine yZ (yY (xq 3 [eS1 14 A ys.length c2,yJ 16 (IntKind.i64.wrap (((ys.length:Nat):Int)-1))] [] ?_))
 rw[yW (((ys.length:Nat):Int)-1) (((ys.length-1:Nat):Int)) qO]
 refine xqk 17 (atA A (ys.length-1)) (fun w R Q=>wT (t:=97) (e:=84) (x:=.tmp 14) (ix:=.tmp 16) (len:=ys.length) (cap:=c2) (i:=ys.length-1) ((Q.2).ne (j:=ys.length-1) qO) qO) ?_
 obtain⟨x10,q⟩:=yE (ys[ys.length-1]?.getD 0)
 refine xqk 18 (yX x10) (fun w R Q=>by rw[←q];exact lL (t:=84) (x:=.tmp 17) (Q.2) (j:=ys.length-1) qO) ?_
 refine xq 1 [yU 6 x10] [] ?_
 refine yZ (yY (xq 1 [yU 7 18446744073709551615] [] ?_))
 rw[ZuY]
 refine xe (zA ?_)
 refine ZcS (fun O P=>∃ (f:Nat),O=ofL [eS1 0 (some ⟨b,o,none⟩) (ys.length+1) c,eS1 1 A ys.length c2,yU 7 f] []∧P=(fun w=>(Own .u64 84 w b (g)∧zI .u64 w A (ys)))∧(win o ys.length g/val W64 ys≤f)∧(f<W64)) ?_ ?_
 ·refine yY (xq 2 [eS1 19 (some ⟨b,o,none⟩) (ys.length+1) c,yJ 20 ys.length] [] ?_)
  refine xqk 21 (.pointer (some ⟨b,o+ys.length,none⟩)) (fun w R Q=>iL (t:=97) (e:=84) (x:=.tmp 19) (ix:=.tmp 20) (len:=(ys.length+1)) (cap:=c) (i:=ys.length) qO) ?_
  obtain⟨k,E⟩:=yE (g[o+ys.length]?.getD 0)
  refine xqk 22 (yX k) (fun w R Q=>by rw[←E];exact fO (t:=84) (x:=.tmp 21) (Q.1) (j:=o+ys.length) qO) ?_
  refine xq 2 [yB 24 (decide ((k:Int)<(x10:Int)))] [] ?_
  refine xe (zA ?_)
  refine yQ ((decide ((k:Int)<(x10:Int)))) (fun F=>?_) fun F=>?_
  ·have Z:=uC F
   refine yY (xq 1 [yU 8 0] [] ?_)
   refine yZ (zC ?_)
   refine iK 16 [0,0,3,7,0,0,32,112,240,0,1023,2047,4095,4095,8191,32767] qK qK zM ?_
   refine xqf 2 [eS1 26 (some ⟨b,o,none⟩) (ys.length+1) c,yJ 27 ys.length] [] ?_
   refine xqj 28 (.pointer (some ⟨b,o+ys.length,none⟩)) (fun w Q=>iL (t:=97) (e:=84) (x:=.tmp 26) (ix:=.tmp 27) (len:=(ys.length+1)) (cap:=c) (i:=ys.length) qO) ?_
   obtain⟨k0,S⟩:=yE (g[o+ys.length]?.getD 0)
   refine xqj 29 (yX k0) (fun w Q=>by rw[←S];exact fO (t:=84) (x:=.tmp 28) (Q.1) (j:=o+ys.length) qO) ?_
   obtain rfl:k=k0:=by rw[←E,S]
   refine xqf 3 [eS1 30 (some ⟨b,o,none⟩) (ys.length+1) c,yJ 32 (IntKind.i64.wrap (((ys.length:Nat):Int)-1))] [] ?_
   rw[yW (((ys.length:Nat):Int)-1) (((ys.length-1:Nat):Int)) qO]
   refine xqj 33 (.pointer (some ⟨b,o+(ys.length-1),none⟩)) (fun w Q=>iL (t:=97) (e:=84) (x:=.tmp 30) (ix:=.tmp 32) (len:=(ys.length+1)) (cap:=c) (i:=ys.length-1) qO) ?_
   obtain⟨l,z⟩:=yE (g[o+(ys.length-1)]?.getD 0)
   refine xqj 34 (yX l) (fun w Q=>by rw[←z];exact fO (t:=84) (x:=.tmp 33) (Q.1) (j:=o+(ys.length-1)) qO) ?_
   refine xqf 1 [yU 35 x10] [] ?_
   refine xqd 128 [yX k, yX l, yX x10] 36 (fun _:Unit=>.tuple #[yX (divQ k l x10:Nat), yX (divR k l x10:Nat)]) _ (fun w R Q=>yN (Zit k l x10 _ qO (by rw[←q];exact Y.getD zK _) (by rw[←z];exact N.getD zK _))) fun xx=>?_
   refine xqf 5 [yU 7 (divQ k l x10:Nat),yU 8 (divR k l x10:Nat)] [] ?_
   refine xz (yZ (zQ ?_))
   obtain⟨lw,a0,hU⟩:=ZsG (o:=o) (n:=ys.length) qO qO E z D N
   obtain⟨y2,b0⟩:=yE (ys[ys.length-2]?.getD 0)
   obtain⟨vl,hV⟩:=ZsH (ys:=ys) r0 rfl q b0
   refine yC [eS1 0 (some ⟨b,o,none⟩) (ys.length+1) c,eS1 1 A ys.length c2,yU 4 0,yJ 5 ys.length,yU 6 x10,yU 7 ((divQ k l x10):Nat),yU 8 ((divR k l x10):Nat)] [] (fun w=>(Own .u64 84 w b (g)∧zI .u64 w A (ys))) (fun w Q=>⟨Q.1.1,Q.1.2⟩) ?_
   have l0:0<x10:=qO
   refine ZlP (fun nn O P=>∃ (f h:Nat),O=ofL [eS1 0 (some ⟨b,o,none⟩) (ys.length+1) c,eS1 1 A ys.length c2,yU 4 0,yJ 5 ys.length,yU 6 x10,yU 7 f,yU 8 h] []∧P=(fun w=>(Own .u64 84 w b (g)∧zI .u64 w A (ys)))∧(win o ys.length g/val W64 ys≤f)∧(f<W64)∧(h+f*x10=k*W64+l)∧(h<W64)∧nn=(1+f)) ((1+(divQ k l x10))) ⟨(divQ k l x10),(divR k l x10),rfl,rfl,(ZqP a0 hU hV (by rw[←D];exact N.getD zK _) l0),(Zhq qO (by rw[←z];exact N.getD zK _)),(by rw[vW];exact Zc8 _ _ _),(rY (ZcC _ _ l0) (by rw[←q];exact Y.getD zK _)),rfl⟩ ?_
   rintro nn O P ⟨f,h,rfl,rfl,hq,v,hr,t0,rfl⟩
   refine zQ (yY (xq 4 [yU 40 f,eS1 41 A ys.length c2,yJ 43 (IntKind.i64.wrap (((ys.length:Nat):Int)-2))] [] ?_))
   rw[yW (((ys.length:Nat):Int)-2) (((ys.length-2:Nat):Int)) qO]
   refine xqk 44 (atA A (ys.length-2)) (fun w R Q=>wT (t:=97) (e:=84) (x:=.tmp 41) (ix:=.tmp 43) (len:=ys.length) (cap:=c2) (i:=ys.length-2) ((Q.2).ne (j:=ys.length-2) qO) qO) ?_
   obtain⟨m0,T⟩:=yE (ys[ys.length-2]?.getD 0)
   refine xqk 45 (yX m0) (fun w R Q=>by rw[←T];exact lL (t:=84) (x:=.tmp 44) (Q.2) (j:=ys.length-2) qO) ?_
   obtain rfl:y2=m0:=by rw[←b0,T]
   refine xqc 117 [yX f, yX y2] 46 (fun _:Unit=>.tuple #[yX (wW f y2:Nat), yX (xF f y2:Nat)]) _ (fun w R Q=>yN (Zeu f y2 _ v (by rw[←b0];exact Y.getD zK _))) fun xx=>?_
   refine xq 5 [yU 9 (wW f y2:Nat),yU 10 (xF f y2:Nat)] [] ?_
   refine yZ (zC (yY (xq 4 [yB 52 (decide (((wW f y2:Nat):Int)<(h:Int)))] [] ?_)))
   rcases bl2 ((decide (((wW f y2:Nat):Int)<(h:Int)))) with s|s
   ·rw[s]
    have c0:=uC s
    refine xq 13 [yB 65 true] [] ?_
    refine yZ (xa (xM (zE ?_)))
    refine ZcO qK ?_
    refine zE (xW ?_)
    exact jB ⟨f,rfl,rfl,hq,v⟩ (fun w Q=>⟨Q.1.1,Q.1.2⟩)
   rw[s]
   have c0:=uD s
   refine xq 4 [yB 56 ((((wW f y2:Nat):Int):Int) == (h:Int))] [] ?_
   rcases bl2 (((((wW f y2:Nat):Int):Int) == (h:Int))) with u|u
   ·rw[u]
    have G:=sZ.1 u
    refine xq 4 [yU 57 (xF f y2:Nat),eS1 58 (some ⟨b,o,none⟩) (ys.length+1) c,yJ 60 (IntKind.i64.wrap (((ys.length:Nat):Int)-2))] [] ?_
    rw[yW (((ys.length:Nat):Int)-2) (((ys.length-2:Nat):Int)) qO]
    refine xqk 61 (.pointer (some ⟨b,o+(ys.length-2),none⟩)) (fun w R Q=>iL (t:=97) (e:=84) (x:=.tmp 58) (ix:=.tmp 60) (len:=(ys.length+1)) (cap:=c) (i:=ys.length-2) qO) ?_
    obtain⟨n0,U⟩:=yE (g[o+(ys.length-2)]?.getD 0)
    refine xqk 62 (yX n0) (fun w R Q=>by rw[←U];exact fO (t:=84) (x:=.tmp 61) (Q.1.1) (j:=o+(ys.length-2)) qO) ?_
    obtain rfl:u2=n0:=by rw[←D,U]
    refine xq 3 [yB 65 (decide (((xF f y2:Nat):Int)≤(u2:Int)))] [] ?_
    refine xe (zA ?_)
    refine yQ ((decide (((xF f y2:Nat):Int)≤(u2:Int)))) (fun H=>?_) fun H=>?_
    ·have d0:=uC H
     refine xM (zE ?_)
     refine ZcO qK ?_
     refine zE (xW ?_)
     exact jB ⟨f,rfl,rfl,hq,v⟩ (fun w Q=>⟨Q.1.1,Q.1.2⟩)
    have d0:=uD H
    refine zJ (zA (zC ?_))
    have e0:h*W64+u2<f*y2:=Zl5 (cL f y2) qO (fun _=>qO) (by rw[←D];exact N.getD zK _)
    have r:=ZgP a0 hU hV hr e0 C
    have o0:1≤f:=uA (Nat.le_add_left 1 _) r
    by_cases y:h+x10<W64
    ·refine zB (xq 2 [yU 67 (IntKind.u64.wrap ((f:Int)-1))] [] ?_)
     rw[show IntKind.u64.wrap (((f:Int)-1))=((f-1:Nat):Int) by rw[IntKind.wrap_u64];have:=zN;omega]
     refine xq 1 [yU 7 (f-1:Nat)] [] ?_
     refine yZ (yY (xq 3 [yU 70 (IntKind.u64.wrap ((h:Int)+(x10:Int)))] [] ?_))
     rw[ZgN (a:=h) (b:=x10) y]
     refine xq 1 [yU 8 (h+x10:Nat)] [] ?_
     refine yZ (yY (xq 3 [yB 73 (decide (((h+x10:Nat):Int)<(x10:Int)))] [] ?_))
     refine xe (zA ?_)
     refine yQ ((decide (((h+x10:Nat):Int)<(x10:Int)))) (fun I=>?_) fun I=>?_
     ·have f0:=uC I
      exfalso;omega
     have f0:=uD I
     refine zJ (xR ?_)
     exact xK ((1+(f-1))) qO ⟨(f-1),(h+x10),rfl,rfl,(oU r),qO,(by obtain⟨m,rfl⟩:∃ m,f=m+1:=⟨f-1,qO⟩;rw[tK];rw[uW] at hr;omega),y,rfl⟩ (fun w Q=>⟨Q.1.1,Q.1.2⟩)
    refine zB (xq 2 [yU 67 (IntKind.u64.wrap ((f:Int)-1))] [] ?_)
    rw[show IntKind.u64.wrap (((f:Int)-1))=((f-1:Nat):Int) by rw[IntKind.wrap_u64];have:=zN;omega]
    refine xq 1 [yU 7 (f-1:Nat)] [] ?_
    refine yZ (yY (xq 3 [yU 70 (IntKind.u64.wrap ((h:Int)+(x10:Int)))] [] ?_))
    rw[ZrS (a:=h) (b:=x10) y qO (by rw[←q];exact Y.getD zK _)]
    refine xq 1 [yU 8 (h+x10-W64:Nat)] [] ?_
    refine yZ (yY (xq 3 [yB 73 (decide (((h+x10-W64:Nat):Int)<(x10:Int)))] [] ?_))
    refine xe (zA ?_)
    refine yQ ((decide (((h+x10-W64:Nat):Int)<(x10:Int)))) (fun J=>?_) fun J=>?_
    ·have g0:=uC J
     refine xM ?_
     refine ZcO qK ?_
     refine zE (xW ?_)
     exact jB ⟨(f-1),rfl,rfl,(oU r),qO⟩ (fun w Q=>⟨Q.1.1,Q.1.2⟩)
    have g0:=uD J
    exfalso;omega
   rw[u]
   have G:=lQ u
   refine xq 9 [yB 65 false] [] ?_
   refine yZ (xb (zJ (zA (zC ?_))))
   have e0:h*W64+u2<f*y2:=Zl5 (cL f y2) qO (fun e=>absurd (show (wW f y2:Int)=h by rw[e]) G) (by rw[←D];exact N.getD zK _)
   have r:=ZgP a0 hU hV hr e0 C
   have o0:1≤f:=uA (Nat.le_add_left 1 _) r
   by_cases y:h+x10<W64
   ·refine zB (xq 2 [yU 67 (IntKind.u64.wrap ((f:Int)-1))] [] ?_)
    rw[show IntKind.u64.wrap (((f:Int)-1))=((f-1:Nat):Int) by rw[IntKind.wrap_u64];have:=zN;omega]
    refine xq 1 [yU 7 (f-1:Nat)] [] ?_
    refine yZ (yY (xq 3 [yU 70 (IntKind.u64.wrap ((h:Int)+(x10:Int)))] [] ?_))
    rw[ZgN (a:=h) (b:=x10) y]
    refine xq 1 [yU 8 (h+x10:Nat)] [] ?_
    refine yZ (yY (xq 3 [yB 73 (decide (((h+x10:Nat):Int)<(x10:Int)))] [] ?_))
    refine xe (zA ?_)
    refine yQ ((decide (((h+x10:Nat):Int)<(x10:Int)))) (fun K=>?_) fun K=>?_
    ·have h0:=uC K
     exfalso;omega
    have h0:=uD K
    refine zJ (xR ?_)
    exact xK ((1+(f-1))) qO ⟨(f-1),(h+x10),rfl,rfl,(oU r),qO,(by obtain⟨m,rfl⟩:∃ m,f=m+1:=⟨f-1,qO⟩;rw[tK];rw[uW] at hr;omega),y,rfl⟩ (fun w Q=>⟨Q.1.1,Q.1.2⟩)
   refine zB (xq 2 [yU 67 (IntKind.u64.wrap ((f:Int)-1))] [] ?_)
   rw[show IntKind.u64.wrap (((f:Int)-1))=((f-1:Nat):Int) by rw[IntKind.wrap_u64];have:=zN;omega]
   refine xq 1 [yU 7 (f-1:Nat)] [] ?_
   refine yZ (yY (xq 3 [yU 70 (IntKind.u64.wrap ((h:Int)+(x10:Int)))] [] ?_))
   rw[ZrS (a:=h) (b:=x10) y qO (by rw[←q];exact Y.getD zK _)]
   refine xq 1 [yU 8 (h+x10-W64:Nat)] [] ?_
   refine yZ (yY (xq 3 [yB 73 (decide (((h+x10-W64:Nat):Int)<(x10:Int)))] [] ?_))
   refine xe (zA ?_)
   refine yQ ((decide (((h+x10-W64:Nat):Int)<(x10:Int)))) (fun L=>?_) fun L=>?_
   ·have i0:=uC L
    refine xM ?_
    refine ZcO qK ?_
    refine zE (xW ?_)
    exact jB ⟨(f-1),rfl,rfl,(oU r),qO⟩ (fun w Q=>⟨Q.1.1,Q.1.2⟩)
   have i0:=uD L
   exfalso;omega
  have Z:=uD F
  refine zJ ?_
  exact jB ⟨(W64-1),rfl,rfl,ZoT s0,(by have:=zK;omega)⟩ (fun w Q=>⟨Q.1,Q.2⟩)
 rintro O P ⟨f,rfl,rfl,hq,v⟩
 refine zC (yY (xq 3 [eS1 74 (some ⟨b,o,none⟩) (ys.length+1) c,eS1 75 A ys.length c2,yU 76 f] [] ?_))
 refine Zdk (xs:=g) (α:=List Nat × Nat) 177 [.slice (some ⟨b,o,none⟩) (ys.length+1) c,.slice A ys.length c2, yX f] (d:=77) (fun x=>.bool (((x.2:Nat):Int) == 1)) (fun x=>Zew g ys f o x.1 x.2) (fun x=>x.1) b (fun x w=>(Own .u64 84 w b (x.1)∧zI .u64 w A (ys))) (fun w Q=>Q.1) qO (Or.inr rfl) (fun w R Q=>ZjX b _ o _ ys A _ _ Q.1 Q.2 hA qO hl N Y _ v) (fun x w w' hp Q hF hO=>⟨hO,((Q.2).fr hF (fun a ha _=>hA a ha))⟩) fun x V=>?_
 obtain⟨p0,W⟩:=x
 dsimp only at V
 have p:=V.win qO (WinR.start N)
 refine xr 1 [eS1 0 (some ⟨b,o,none⟩) (ys.length+1) c,eS1 1 A ys.length c2,yU 7 f,yB 11 ((W:Int) == 1)] [] ?_
 refine yZ (zQ ?_)
 refine xO (fun nn O P=>∃ (f bb:Nat) (zs:List Nat),O=ofL [eS1 0 (some ⟨b,o,none⟩) (ys.length+1) c,eS1 1 A ys.length c2,yU 7 f,yB 11 ((bb:Int) == 1)] []∧P=(fun w=>(Own .u64 84 w b (zs)∧zI .u64 w A (ys)))∧(WinR o ys.length g zs)∧(CorR (win o ys.length g) (val W64 ys) (W64^(ys.length+1)) f bb (win o ys.length zs))∧(f<W64)∧nn=(1+f)) ((1+f)) ⟨f,W,p0,rfl,rfl,p.1,⟨p.2.1,ZoS p.1.2.1,hq,p.2.2⟩,v,rfl⟩ (fun w Q=>⟨Q.1,Q.2⟩) ?_
 rintro nn O P ⟨f,bb,zs,rfl,rfl,HW,HC,v,rfl⟩
 refine zC (yY (xq 1 [yB 78 ((bb:Int) == 1)] [] ?_))
 refine xe (zA ?_)
 refine yQ (((bb:Int) == 1)) (fun M=>?_) fun M=>?_
 ·have j0:=sZ.1 M
  refine zJ (zA (zC (zQ ?_)))
  have r:=HC.pos qO C
  have o0:1≤f:=uA (Nat.le_add_left 1 _) r
  refine zB (xq 2 [eS1 81 (some ⟨b,o,none⟩) (ys.length+1) c,eS1 82 A ys.length c2] [] ?_)
  refine Zdk (xs:=zs) (α:=List Nat × Nat) 178 [.slice (some ⟨b,o,none⟩) (ys.length+1) c,.slice A ys.length c2] (d:=83) (fun x=>.bool (((x.2:Nat):Int) == 1)) (fun x=>Zex zs ys o x.1 x.2) (fun x=>x.1) b (fun x w=>(Own .u64 84 w b (x.1)∧zI .u64 w A (ys))) (fun w Q=>Q.1) (by have:=HW.1;omega) (Or.inr rfl) (fun w R Q=>ZjY b _ o _ ys A _ _ Q.1 Q.2 hA (by rw[HW.1];omega) (by rw[HW.1];exact hl) HW.2.1 Y) (fun x w w' hp Q hF hO=>⟨hO,((Q.2).fr hF (fun a ha _=>hA a ha))⟩) fun x X=>?_
  obtain⟨q0,B⟩:=x
  dsimp only at X
  have p:=X.win qO HW
  refine xr 1 [eS1 0 (some ⟨b,o,none⟩) (ys.length+1) c,eS1 1 A ys.length c2,yU 7 f,yB 11 ((bb:Int) == 1),yB 84 (!((B:Int) == 1))] [] ?_
  rw[ZsI (c:=B) p.2.1]
  refine xq 1 [yB 11 (((1-B:Nat):Int) == 1)] [] ?_
  refine xe (xR (zA (zB (xq 2 [yU 80 (IntKind.u64.wrap ((f:Int)-1))] [] ?_))))
  rw[show IntKind.u64.wrap (((f:Int)-1))=((f-1:Nat):Int) by rw[IntKind.wrap_u64];have:=zN;omega]
  refine xq 1 [yU 7 (f-1:Nat)] [] ?_
  refine xe ?_
  exact xK ((1+(f-1))) qO ⟨(f-1),(1-B),q0,rfl,rfl,p.1,(HC.step qO C p.2.1 (ZoS p.1.2.1) p.2.2),qO,rfl⟩ (fun w Q=>⟨Q.1,Q.2⟩)
 have j0:=lQ M
 obtain rfl:bb=0:=by have:=HC.1;omega
 refine xM (zE (zE (xW (zA (yY (xq 2 [yU 4 f] [] ?_))))))
 refine yZ (zH ?_)
 refine yR (yX f) fun w' R Q=>?_
 obtain⟨e1,e2⟩:=HC.done C
 exact⟨zs,by rw[e1],⟨HW,e2⟩,R,Q.1⟩
theorem ZsJ (w:World)(a:qA)(n c:Nat):(binOp .eql 97 (.slice a n c) Ξ).run prog w=.ok (.bool a.isNone) w :=
 Lib.run_eql_slice_nil w 97 84 a n c 0 0 underlying97
theorem Znn (A:qA)(xs:qN)(n c:Nat)(w:World)(p:xs.length=n)(q:zI .u64 w A xs)(C:n≤4294967296) :
 Ζ 98 #[.slice A n c] w (Zjh w xs):=by
 have r:=zh q
 have s:=zh p
 clear q p
 have t:=ZsJ
 cases A with
 | none =>
  have x:Hid (xs=[]):=by
   rcases xs with _|⟨y,D⟩
   ·rfl
   obtain⟨b,z,h,_⟩:=r.out qS;cases h
  go_enter func98,ntmps98
  go_wp2
  go_ret
  rw[x.out]
  exact⟨none,0,rfl,Buf.nil,Fr.refl _ _,fun b d=>by obtain⟨a,ha,_⟩:=d;cases ha⟩
 | some ad =>
  go_enter func98,ntmps98
  go_wp2_with (
   at_builtin
   refine lF rfl _ _ _ rfl _ .u64 8 underlying97 dR (some ⟨w.heap.size,0,none⟩) (some ad) 0 n 0 c rfl rfl [] xs rfl s.out ?_ (r.out.alloc _) (by simp only[maxLen];omega) qO ?_
   ·exact Or.inr ⟨_,rfl,Own.new w _ _ [] [],⟨#[],heap_alloc_new w _,rfl⟩,uF _,by simp only[maxLen];omega⟩
   intro B e E f g j
   have k:=zh f
   have l:=zh g
   have o:=zh j
   clear f g j)
  go_ret
  refine⟨B,e,?_,by simpa using k.out,?_,?_⟩
  ·rw[s.out];simp
  ·refine ((Fr.refl (fun _=>False) w).alloc _).next l.out fun i hi d=>?_
   obtain⟨a,ha,d⟩:=d
   injection ha with ha
   subst ha
   simp at d;omega
  intro b d
  rcases o.out b d with ⟨a,ha,h⟩|h
  ·injection ha with ha;subst ha;simp at h;omega
  simp at h;omega
theorem ZgR (A:qA)(xs:qN)(c:Nat)(w:World)(f:zI .u64 w A xs)(g:xs.length≤4294967296)(d:0<xs.length) :
 Ζ 98 #[.slice A xs.length c] w (fun i w'=>∃ b c,i=.returned (.slice (some ⟨b,0,none⟩) xs.length c)∧w.heap.size≤b∧xs.length≤c∧Ext w w'∧Own .u64 84 w' b xs):=by
 refine (Znn A xs xs.length c w rfl f g).mono ?_
 rintro e w' ⟨p,a,rfl,j,Q,k⟩
 rcases j with ⟨_,h,_⟩|⟨b,rfl,l,_,o,_⟩
 ·rw[h] at d;simp at d
 exact⟨b,a,rfl,k b ⟨_,rfl,rfl⟩,o,Q,l⟩
def OvR (N V n L k:Nat) (zs qs:List Nat):Prop:=zs.length=n∧Dig W64 zs∧qs.length=L∧Dig W64 qs∧val W64 zs+V*(W64^k*val W64 (qs.drop k))=N∧val W64 zs<V*W64^k
theorem OvR.start {N V n L:Nat}{zs:qN}(c:zs.length=n)(d:Dig W64 zs)(b:val W64 zs=N)(a:N<V*W64^L):OvR N V n L L zs (List.replicate L 0) :=
 ⟨c,d,qS,Dig.replicate zK _,by rw[vF qS];simpa using b,by rw[b];exact a⟩
theorem ZqQ {o n:Nat}{zs:qN}(c:o+n+1≤zs.length)(h:val W64 zs<W64^(o+n+1)):val W64 zs=val W64 (zs.take o)+W64^o*win o n zs∧val W64 (zs.drop (o+n+1))=0:=by
 have a:=xX (B:=W64) (xs:=zs) (o+n+1)
 rw[uY c] at a
 have b:val W64 (zs.drop (o+n+1))=0:=by
  refine Nat.eq_zero_of_not_pos fun d=>?_
  have:=uK (W64^(o+n+1)) d
  omega
 rw[b,tX,tP,Zas qO] at a
 exact⟨a,b⟩
theorem OvR.ready {N V n L j m:Nat}{zs a:qN}(h:OvR N V n L (j+1) zs a)(b:V<W64^m)(i:j+m+1≤n):val W64 zs=val W64 (zs.take j)+W64^j*win j m zs∧val W64 (zs.drop (j+m+1))=0∧win j m zs<W64*V:=by
 obtain⟨k,l,o,p,q,c⟩:=h
 have d:val W64 zs<W64^(j+m+1):=by
  refine uT c ?_
  rw[show j+m+1=m+(j+1) by omega,uU W64 m]
  exact uE _ (pA b)
 obtain⟨f,g⟩:=ZqQ qO d
 refine⟨f,g,?_⟩
 have:W64^j*win j m zs<W64^j*(W64*V):=by
  have e:V*W64^(j+1)=W64^j*(W64*V):=by rw[uO,uG V,uH]
  omega
 exact sR this
theorem OvR.step {N V n L j m:Nat}{zs b a:qN}(h:OvR N V n L (j+1) zs b)(f:V<W64^m)(c:0<V)(g:j+m+1≤n)(i:j<L)(k:WinR j m zs a)(l:win j m a=win j m zs%V) :
 OvR N V n L j a (b.set j (win j m zs/V)):=by
 obtain⟨H,o,p⟩:=h.ready f g
 obtain⟨q,r,s,t,x,I⟩:=h
 obtain⟨y,z,A,C⟩:=k
 have D:win j m zs/V<W64:=by rw[vN c];exact p
 have d:=xX (B:=W64) (xs:=a) (j+m+1)
 rw[C,o,tX,tP,Zas qO,A,l] at d
 have e:=vX (win j m zs) V
 have J:W64^j*win j m zs=V*(W64^j*(win j m zs/V))+W64^j*(win j m zs%V):=by
  conv=>lhs;rw[←e]
  rw[uL,tL]
 refine⟨y.trans q,z,by simpa using s,t.set j D,?_,?_⟩
 ·have E:(b.set j (win j m zs/V))[j]?.getD 0=win j m zs/V:=by rw[sJ qO];rfl
  rw[xY j (by simp;omega),E,tN qO,d]
  rw[uO] at x
  have K:V*(W64^j*(win j m zs/V+W64*val W64 (b.drop (j+1))))=V*(W64^j*(win j m zs/V))+V*(W64^j*W64*val W64 (b.drop (j+1))):=by
   rw[uL (W64^j),uL V,uH (W64^j)]
  omega
 rw[d]
 have F:=wF (r.take j)
 rw[uN,uY qO] at F
 have G:=uK (W64^j) (uP (win j m zs) c)
 rw[Nat.mul_succ] at G
 rw[uG V]
 omega
theorem OvR.done {N V n L:Nat}{zs b:qN}(h:OvR N V n L 0 zs b)(d:0<V):val W64 b=N/V∧val W64 zs=N%V:=by
 obtain⟨e,f,g,i,c,a⟩:=h
 rw[tH,sH] at a
 rw[tH,qH,sI] at c
 rw[←c]
 rw[Nat.add_mul_div_left _ _ d,tV a,qP,vL a]
 exact⟨qO,rfl⟩
theorem Zt1 {ys:qN}{k t:Nat}(d:Dig W64 ys)(e:ys.length=k+1)(f:Trim ys)(a:ys[k]?.getD 0=t):wl (val W64 ys*2^(64-blen t))=ys.length:=by
 have g:0<t:=rC (by rw[←a];exact f k e)
 have i:=Zfu d e f a
 have b:t<2^64:=by have:=a ▸ d.getD zK k;rw[zN] at this;exact this
 have j:=xH.2 b
 have c:0<val W64 ys:=by have:=zV (B:=W64) k (show k<ys.length by omega);rw[uB qO,a] at this;have:=uK (W64^k) g;have:=uZ (n:=k) zK;omega
 have l:blen (val W64 ys*2^(64-blen t))=64*(k+1):=by rw[dE c,i];omega
 have o:wl (val W64 ys*2^(64-blen t))≤k+1:=kK.2 (by rw[bI];exact xH.1 qO)
 have p:¬ wl (val W64 ys*2^(64-blen t))≤k:=fun h=>by
  have:=kK.1 h
  rw[bI] at this
  have:=xH.2 this
  omega
 omega
theorem ZuZ {xs ys:qN}{s:Nat}(a:Dig W64 xs)(b:Trim ys)(g:0<ys.length)(h:ys.length≤xs.length):val W64 xs*2^s<val W64 ys*2^s*W64^(xs.length-ys.length+1):=by
 obtain⟨k,c⟩:∃ k,ys.length=k+1:=⟨ys.length-1,qO⟩
 have d:=wF a
 have e:=Zd0 (B:=W64) b c
 have f:W64^xs.length≤val W64 ys*W64^(xs.length-ys.length+1):=by
  rw[show xs.length=k+(xs.length-ys.length+1) by omega,uU]
  rw[show k+(xs.length-ys.length+1)-ys.length+1=xs.length-ys.length+1 by omega]
  exact uE _ e
 rw[Nat.mul_right_comm]
 exact (pT (p2 s)).2 (uT d f)
theorem ZqR {ws:qN}{n:Nat}(b:Dig W64 ws)(c:ws.length≤n):let a:=ws.take n ++ (List.replicate n 0).drop ws.length;a.length=n∧Dig W64 a∧val W64 a=val W64 ws:=by
 intro a
 have e:a=ws ++ List.replicate (n-ws.length) 0:=by show ws.take n ++ (List.replicate n 0).drop ws.length=_;rw[uB c,List.drop_replicate]
 rw[e]
 exact⟨by simp;omega,b.append (Dig.replicate zK _),by rw[kO,kX];simp⟩
theorem Zt2 {xs:qN}{s:Nat}(a:Dig W64 xs)(b:s≤64):wl (val W64 xs*2^s)≤xs.length+1:=kK.2 (by
 have c:=wF a
 rw[uO]
 have d:2^s≤W64:=by rw[zN];exact vC (n:=2) qD b
 exact uT ((pT (p2 s)).2 c) (uK _ d))
theorem Zt3 {x y s:Nat}:x*2^s%(y*2^s)/2^s=x%y:=by rw[rH,oI _ (p2 s)]
theorem Zt4 {x y s:Nat}:x*2^s/(y*2^s)=x/y:=qR _ _ (p2 s)
theorem Zcg {b n c v:Nat}{xs:qN}{w:World}(a:Own .u64 84 w b xs)(f:Dig W64 xs)(g:xs.length=n)(h:val W64 xs=v)(i:n≤1099511627776)(d:n≤c):Ζ 97 #[.slice (some ⟨b,0,none⟩) n c] w (lH w v):=by
 subst g h
 refine (Zev _ xs _ w a.shows0 i d).mono ?_
 rintro e w' ⟨rfl,Q⟩
 exact⟨_,rfl,(zF.of_own a f d).ext Q,Q⟩
theorem ZsK {ys:qN}{y:Nat}(h:ys.length=1)(e:ys[0]?.getD 0=y):val W64 ys=y:=by
 obtain⟨z,rfl⟩:=nV.1 h
 simp at e
 simp[e]
theorem Blk.own1 {w:World}{b r:Nat}(h:Blk 84 w b #[.int .u64 ((r:Nat):Int)]):Own .u64 84 w b [r]:=⟨[],qS,h⟩
section
variable {u v:Value} {m n:Nat} {w:World}
theorem iE (f:zF w u m)(g:zF w v n)(a:wl m≤4294967296)(b:wl n≤4294967296):Ζ 124 #[u,v] w (lH w (m+n)):=by
 obtain⟨A,h,c,rfl,s,i,d,j,rfl⟩:=f
 obtain⟨k,l,o,rfl,p,q,e,r,rfl⟩:=g
 rw[←xT d j] at a
 rw[←xT e r] at b
 exact ZoP A k h l c o w i q a b d e
theorem Zbh (g:zF w u m)(h:zF w v n)(d:wl m≤4294967296)(a:n≤m):Ζ 154 #[u,v] w (lH w (m-n)):=by
 obtain⟨A,i,c,rfl,t,j,e,k,rfl⟩:=g
 obtain⟨l,o,p,rfl,q,r,f,s,rfl⟩:=h
 have b:=lC a
 rw[←xT e k] at d b
 rw[←xT f s] at b
 exact Znj A l i o c p w j r d qO e f b a
theorem Zdo (f:zF w u m)(g:zF w v n)(a:wl m≤4294967296)(b:wl n≤4294967296):Ζ 95 #[u,v] w (lH w (m*n)):=by
 obtain⟨A,h,c,rfl,s,i,d,j,rfl⟩:=f
 obtain⟨k,l,o,rfl,p,q,e,r,rfl⟩:=g
 rw[←xT d j] at a
 rw[←xT e r] at b
 exact Znk A k h l c o w i q a b d e
theorem jZ (k:Nat)(b:zF w u m)(d:wl m≤4294967296)(f:k≤274877906944):Ζ 70 #[u,.int .i64 ((k:Nat):Int)] w (lH w (m*2^k)):=by
 have a:=b
 obtain⟨A,g,c,rfl,j,h,e,i,rfl⟩:=b
 rw[←xT e i] at d
 exact ZsB A g c k w a h d e f
theorem gX (k:Nat)(b:zF w u m)(d:wl m≤4294967296)(f:k≤274877906944):Ζ 91 #[u,.int .i64 ((k:Nat):Int)] w (lH w (m/2^k)):=by
 have a:=b
 obtain⟨A,g,c,rfl,j,h,e,i,rfl⟩:=b
 rw[←xT e i] at d
 exact ZoQ A g c k w a h d e f
theorem jG (e:zF w u m)(a:wl m≤4294967296):Ζ 90 #[u] w (RetV w (.int .i64 ((blen m:Nat):Int))):=by
 obtain⟨A,f,c,rfl,h,g,b,d,rfl⟩:=e
 rw[←xT b d] at a
 exact Zld A f c w g a b d
theorem Zbi (d:Glob w)(e:zF w u m)(a:wl m≤4294967296)(f:0<m):Ζ 127 #[u] w (RetV w (.int .i64 ((tzn m:Nat):Int))):=by
 obtain⟨A,g,c,rfl,j,h,b,i,rfl⟩:=e
 rw[←xT b i] at a
 exact Znm A g c w h a b d f
theorem Zat (i:Nat)(a:zF w u m)(hi:i≤274877906944):Ζ 126 #[u,.int .i64 ((i:Nat):Int)] w (RetV w (.bool (decide (m/2^i%2=1)))):=by
 obtain⟨A,b,c,rfl,f,d,e,g,rfl⟩:=a
 exact ZqO A b c w d e i hi
theorem eZ (e:zF w u m)(f:zF w v n)(a:wl m≤4294967296):Ζ 96 #[u,v] w (RetV w (.int .i64 (cmpI ((m:Nat):Int) ((n:Nat):Int)))):=by
 obtain⟨A,g,c,rfl,r,h,b,d,rfl⟩:=e
 obtain⟨i,j,k,rfl,l,o,p,q,rfl⟩:=f
 rw[←xT b d] at a
 exact ZjW A i g j c k w h o a b p d q
end
theorem ZoU (A f:qA)(xs ys:qN)(c c2:Nat)(w:World)(hX:zI .u64 w A xs)(hY:zI .u64 w f ys)(hl:xs.length≤4294967295)(D0:ys.length≤4294967296)(hx:Dig W64 xs)(hy:Dig W64 ys)(hN:zF w (.slice A xs.length c) (val W64 xs))(hM:zF w (.slice f ys.length c2) (val W64 ys))(tx:Trim xs)(ty:Trim ys)(e0:0<val W64 ys) :
 Ζ 114 #[.slice A xs.length c,.slice f ys.length c2] w (ZcE w (val W64 xs/val W64 ys) (val W64 xs%val W64 ys)):=by
 have hw:wl (val W64 xs)≤4294967296:=by rw[←xT hx tx];omega
 have E0:wl (val W64 ys)≤4294967296:=by rw[←xT hy ty];exact D0
 refine zU (Φ:=fun w=>(((zF w (.slice A xs.length c) (val W64 xs)∧zI .u64 w A xs)∧zF w (.slice f ys.length c2) (val W64 ys))∧zI .u64 w f ys)) func114 rfl qK (fun w' hf=>⟨⟨⟨hN.ext hf,hX.ext hf⟩,hM.ext hf⟩,hY.ext hf⟩) ?_
 refine yY (xq 2 [eS1 4 none 0 0,eS1 5 none 0 0] [] ?_)
 refine yZ (zC (yY (xq 2 [eS1 13 A xs.length c,eS1 14 f ys.length c2] [] ?_)))
 refine xqc 96 [.slice A xs.length c,.slice f ys.length c2] 15 (fun _:Unit=>yI (cmpI ((val W64 xs:Nat):Int) ((val W64 ys:Nat):Int))) _ (fun w R Q=>yN (eZ Q.1.1.1 Q.1.2 hw)) fun xx=>?_
 refine xq 1 [(16,.v (.bool (decide ((cmpI ((val W64 xs:Nat):Int) ((val W64 ys:Nat):Int))<0))))] [] ?_
 refine xe (zA ?_)
 refine yQ ((decide ((cmpI ((val W64 xs:Nat):Int) ((val W64 ys:Nat):Int))<0))) (fun F=>?_) fun F=>?_
 ·have N:=eB.1 (uC F)
  refine yY (xq 3 [eS1 4 none 0 0,eS1 5 A xs.length c] [] ?_)
  refine yZ (zH (zL ?_))
  refine yR (.tuple #[Ξ,.slice A xs.length c]) fun w' R Q=>?_
  exact⟨_,_,rfl,by rw[tV N];exact zF.zero _,by rw[vL N];exact Q.1.1.1.1,R⟩
 have F0:val W64 ys≤val W64 xs:=Nat.le_of_not_lt (fun h'=>uD F (eB.2 h'))
 have M0:ys.length≤xs.length:=by have:=lC F0;rwa [←xT hy ty,← xT hx tx] at this
 have N0:0<ys.length:=rQ.2 (fun e=>by rw[e] at e0;simp at e0)
 refine zJ (zA (zC (yY (xq 3 [yB 20 ((((ys.length:Nat):Int):Int) == 1)] [] ?_))))
 refine xe (zA ?_)
 refine yQ (((((ys.length:Nat):Int):Int) == 1)) (fun G=>?_) fun G=>?_
 ·have U:=sZ.1 G
  refine yY (xq 1 [eS1 21 A xs.length c] [] ?_)
  refine Zqt 98 [.slice A xs.length c] (d:=22) (k:=.u64) (e:=84) xs (fun w R Q=>ZgR A xs c w Q.1.1.1.2 qO qO) fun q cc f0 K0 _=>?_
  refine xr 1 [eS1 0 A xs.length c,eS1 1 f ys.length c2,eS1 4 none 0 0,eS1 5 none 0 0,eS1 6 (yL q) xs.length cc] [] ?_
  refine yZ (yY (xq 2 [eS1 23 (yL q) xs.length cc,eS1 24 f ys.length c2] [] ?_))
  refine xqk 25 (atA f 0) (fun w R Q=>wT (t:=97) (e:=84) (x:=.tmp 24) (ix:=(Operand.const (Value.int IntKind.i64 0))) (len:=ys.length) (cap:=c2) (i:=0) (((Q.1).self.1.2).ne (j:=0) qO) qO) ?_
  obtain⟨r,C⟩:=yE (ys[0]?.getD 0)
  refine xqk 26 (yX r) (fun w R Q=>by rw[←C];exact lL (t:=84) (x:=.tmp 25) ((Q.1).self.1.2) (j:=0) qO) ?_
  have g0:=ZsK qO C
  refine Zdk (xs:=xs) (α:=List Nat) 99 [.slice (yL q) xs.length cc, yX r] (d:=27) (fun x=>yX (val W64 xs%r:Nat)) (fun x=>x.length=xs.length∧Dig W64 x∧val W64 x=val W64 xs/r) (fun x=>x) q (fun x w=>(Box (fun j=>q≤j) w (fun w=>((((zF w (.slice A xs.length c) (val W64 xs)∧zI .u64 w A (xs))∧zF w (.slice f ys.length c2) (val W64 ys))∧zI .u64 w f (ys))∧True))∧Own .u64 84 w q (x))) (fun w Q=>Q.2) qO (Or.inl f0) (fun w R Q=>Zcf q _ _ _ _ Q.2 qO hx qO (by rw[←C];exact hy.getD zK _)) (fun x w w' hp Q L V=>⟨((Q.1).fr (L.mono (fun _ _ e=>by rw[e];exact uF _))),V⟩) fun x H=>?_
  obtain⟨L0,rfl⟩:∃ y,y=x:=⟨_,rfl⟩
  refine xr 1 [eS1 0 A xs.length c,eS1 1 f ys.length c2,eS1 4 none 0 0,eS1 5 none 0 0,eS1 6 (yL q) xs.length cc,yU 7 (val W64 xs%r:Nat)] [] ?_
  refine yZ (yY (xq 1 [eS1 28 (yL q) xs.length cc] [] ?_))
  refine xqc 97 [.slice (yL q) xs.length cc] 29 xI _ (fun w R Q=>yM xG (Zcg Q.2 H.2.1 H.1 H.2.2 qO qO)) fun⟨W,X,Y⟩=>?_
  refine xq 1 [yU 30 (val W64 xs%r:Nat)] [] ?_
  refine yD (d:=31) (fun zb:Nat=>Υ zb 1) (fun zb zw=>Blk 84 zw zb #[yX (val W64 xs%r:Nat)]) (fun w R Q=>kJ (t:=97) (e:=84) (n:=1) (sz:=1) (z:=yX 0) (parts:=#[(0,Operand.tmp 30)]) qK qK qK qK qK qK) fun h0=>?_
  refine xr 0 [eS1 0 A xs.length c,eS1 1 f ys.length c2,eS1 4 none 0 0,eS1 5 none 0 0,eS1 29 W X Y,eS1 31 (yL h0) 1 1] [] ?_
  refine xqc 97 [Υ h0 1] 32 xI _ (fun w R Q=>yM xG (Zcg (Q.2).own1 (Dig.nil.cons (rY (uP _ qO) (by rw[←C];exact hy.getD zK _))) (show [val W64 xs%r].length=1 from rfl) (show val W64 [val W64 xs%r]=val W64 xs%r by simp) qO qO)) fun⟨i0,j0,k0⟩=>?_
  refine xq 2 [eS1 4 W X Y,eS1 5 i0 j0 k0] [] ?_
  refine yZ (zH (zL ?_))
  refine yR (.tuple #[.slice W X Y,.slice i0 j0 k0]) fun w' R Q=>?_
  exact⟨_,_,rfl,by rw[g0];exact Q.1.1.2,by rw[g0];exact Q.2,R⟩
 have U:=lQ G
 refine zJ (zA (yY (xq 4 [eS1 33 f ys.length c2,yJ 36 (IntKind.i64.wrap (((ys.length:Nat):Int)-1))] [] ?_)))
 rw[yW (((ys.length:Nat):Int)-1) (((ys.length-1:Nat):Int)) qO]
 refine xqk 37 (atA f (ys.length-1)) (fun w R Q=>wT (t:=97) (e:=84) (x:=.tmp 33) (ix:=.tmp 36) (len:=ys.length) (cap:=c2) (i:=ys.length-1) ((Q.1.2).ne (j:=ys.length-1) qO) qO) ?_
 obtain⟨l0,I⟩:=yE (ys[ys.length-1]?.getD 0)
 refine xqk 38 (yX l0) (fun w R Q=>by rw[←I];exact lL (t:=84) (x:=.tmp 37) (Q.1.2) (j:=ys.length-1) qO) ?_
 obtain⟨t,rfl⟩:∃ t,t=l0:=⟨_,rfl⟩
 refine xqc 149 [yX t] 39 (fun _:Unit=>yI (64-blen t:Nat)) _ (fun w R Q=>yN (Znl t _ (by rw[←I];exact hy.getD zK _))) fun xx=>?_
 refine xq 1 [yJ 8 (64-blen t:Nat)] [] ?_
 refine yZ (yY (xq 2 [eS1 40 f ys.length c2,yJ 41 (64-blen t:Nat)] [] ?_))
 refine xqc 70 [.slice f ys.length c2, yI (64-blen t:Nat)] 42 xI _ (fun w R Q=>yM xG (jZ (64-blen t) Q.1.1.1.2 E0 qO)) fun⟨g,m0,o⟩=>?_
 refine xq 1 [eS1 9 g m0 o] [] ?_
 refine yZ (zC ?_)
 refine SXc.know (p:=m0=(wds (val W64 ys*2^(64-blen t))).length∧(wds (val W64 ys*2^(64-blen t))).length≤o) (fun w _ Q=>(Q.2).lens) fun M=>?_
 obtain⟨dd,B⟩:∃ dd,dd=wds (val W64 ys*2^(64-blen t)):=⟨_,rfl⟩
 rw[←B] at M
 obtain⟨rfl,O0⟩:=M
 have Z:Dig W64 dd:=by rw[B];exact (dK _).1
 have n0:Trim dd:=by rw[B];exact ZfP _
 have a0:val W64 dd=val W64 ys*2^(64-blen t):=by rw[B];exact (dK _).2
 have b0:dd.length=ys.length:=by rw[B,ZlQ];exact Zt1 (k:=ys.length-1) hy qO ty I
 have J:0<val W64 dd:=aS n0 zK (fun e=>by rw[e] at b0;simp at b0;omega)
 have o0:=wF Z
 refine zB (xq 3 [yJ 45 (IntKind.i64.wrap (((xs.length:Nat):Int)+1))] [] ?_)
 rw[yW (((xs.length:Nat):Int)+1) (((xs.length+1:Nat):Int)) qO]
 refine Zdl (d:=46) (t:=97) (e:=84) (k:=.u64) (kl:=.i64) (kc:=.i64) (l:=.tmp 45) (c:=.tmp 45) (xs.length+1) 8 qO qD fun b O p0=>?_
 have hA:∀ a,g=some a→a.block≠b:=fun a ha=>Nat.ne_of_lt (p0 a.block (fun w Q=>(Q.2).shows.lt (by rw[←B,b0];omega) ha))
 refine xr 1 [eS1 0 A xs.length c,eS1 1 f ys.length c2,eS1 4 none 0 0,eS1 5 none 0 0,yJ 8 (64-blen t:Nat),eS1 9 g dd.length o,eS1 10 (yL b) (xs.length+1) (xs.length+1)] [] ?_
 refine yZ (yY (xq 3 [eS1 47 (yL b) (xs.length+1) (xs.length+1),eS1 48 A xs.length c,yJ 49 (64-blen t:Nat)] [] ?_))
 refine xqc 70 [.slice A xs.length c, yI (64-blen t:Nat)] 50 xI _ (fun w R Q=>yM xG (jZ (64-blen t) (Q.1).self.1.1.1.1.1.1 hw qO)) fun⟨G0,q0,r0⟩=>?_
 refine SXi.know (p:=q0=(wds (val W64 xs*2^(64-blen t))).length∧(wds (val W64 xs*2^(64-blen t))).length≤r0) (fun w _ Q=>(Q.2).lens) fun M=>?_
 have P:=Zt2 (s:=64-blen t) hx qO
 rw[←ZlQ] at P
 obtain⟨s0,t0,c0⟩:=ZqR (n:=xs.length+1) (dK (val W64 xs*2^(64-blen t))).1 P
 rw[(dK _).2] at c0
 obtain⟨zz,u0⟩:=yE ((wds (val W64 xs*2^(64-blen t))).take (xs.length+1) ++ (List.replicate (xs.length+1) 0).drop (wds (val W64 xs*2^(64-blen t))).length)
 rw[u0] at s0 t0 c0
 refine Zsp (d:=51) (dx:=Operand.tmp 47) (sx:=Operand.tmp 50) (dT:=97) (sT:=97) (e:=84) (k:=.u64) (sp:=G0) (mid:=List.replicate (xs.length+1) 0) (ys:=wds (val W64 xs*2^(64-blen t))) (n:=xs.length+1) (m:=q0) (dc:=xs.length+1) (sc:=r0) b (fun w=>((Box (fun j=>b≤j) w (fun w=>((((((zF w (.slice A xs.length c) (val W64 xs)∧zI .u64 w A (xs))∧zF w (.slice f ys.length c2) (val W64 ys))∧zI .u64 w f (ys))∧True)∧True)∧zF w (.slice g dd.length o) (val W64 ys*2^(64-blen t))))∧Own .u64 84 w b (zz))∧True)) qS M.1.symm qS (fun w Q=>Q.1.2) (fun w Q=>(Q.2).shows) (Or.inl O) (fun w w' Q L V=>⟨⟨((Q.1.1).fr (L.mono (fun _ _ e=>by rw[e];exact uF _))),(by rw[←u0];rwa [tZ] at V)⟩,trivial⟩) ?_
 refine xr 0 [eS1 0 A xs.length c,eS1 1 f ys.length c2,eS1 4 none 0 0,eS1 5 none 0 0,yJ 8 (64-blen t:Nat),eS1 9 g dd.length o,eS1 10 (yL b) (xs.length+1) (xs.length+1)] [] ?_
 refine yZ (yY (xq 5 [yJ 56 (IntKind.i64.wrap (((xs.length:Nat):Int)-((ys.length:Nat):Int)))] [] ?_))
 rw[yW (((xs.length:Nat):Int)-((ys.length:Nat):Int)) (((xs.length-(ys.length):Nat):Int)) qO]
 refine xq 1 [(57,.v (yI (IntKind.i64.wrap (((xs.length-(ys.length):Nat):Int)+1))))] [] ?_
 rw[show IntKind.i64.wrap ((((xs.length-(ys.length):Nat):Int)+1))=((xs.length-(ys.length)+1:Nat):Int) by rw[IntKind.wrap_i64];omega]
 refine Zdl (d:=58) (t:=97) (e:=84) (k:=.u64) (kl:=.i64) (kc:=.i64) (l:=.tmp 57) (c:=.tmp 57) (xs.length-(ys.length)+1) 8 qO qD fun r22 v0 w0=>?_
 have P0:b<r22:=w0 b (fun w Q=>(Q.1.2).lt)
 refine xr 1 [eS1 1 f ys.length c2,eS1 4 none 0 0,eS1 5 none 0 0,yJ 8 (64-blen t:Nat),eS1 9 g dd.length o,eS1 10 (yL b) (xs.length+1) (xs.length+1),eS1 11 (yL r22) (xs.length-(ys.length)+1) (xs.length-(ys.length)+1)] [] ?_
 refine yZ (zC (yY (xq 3 [(61,.v (yI (IntKind.i64.wrap (((xs.length-(ys.length)+1:Nat):Int)-1))))] [] ?_)))
 rw[yW (((xs.length-ys.length+1:Nat):Int)-1) (((xs.length-ys.length+1:Nat):Int)-1) qO]
 refine xq 1 [yJ 12 (((xs.length-ys.length+1:Nat):Int)-1)] [] ?_
 refine yZ (zQ ?_)
 refine xO (fun nn ss ff=>∃ (k:Nat) (E qs:List Nat),ss=ofL [eS1 1 f ys.length c2,eS1 4 none 0 0,eS1 5 none 0 0,yJ 8 (64-blen t:Nat),eS1 9 g dd.length o,eS1 10 (yL b) (xs.length+1) (xs.length+1),eS1 11 (yL r22) (xs.length-(ys.length)+1) (xs.length-(ys.length)+1),yJ 12 ((k:Int)-1)] []∧ff=(fun w=>((Box (fun j=>b≤j) w (fun w=>((((((zF w (.slice A xs.length c) (val W64 xs)∧zI .u64 w A (xs))∧zF w (.slice f ys.length c2) (val W64 ys))∧zI .u64 w f (ys))∧True)∧True)∧zF w (.slice g dd.length o) (val W64 ys*2^(64-blen t))))∧Own .u64 84 w b (E))∧Own .u64 84 w r22 (qs)))∧(OvR (val W64 xs*2^(64-blen t)) (val W64 dd) (xs.length+1) (xs.length-ys.length+1) k E qs)∧(k≤xs.length-ys.length+1)∧nn=(1+k)) ((1+(xs.length-ys.length+1))) ⟨(xs.length-ys.length+1),zz,(List.replicate (xs.length-(ys.length)+1) 0),rfl,rfl,(OvR.start s0 t0 c0 (by rw[a0];exact ZuZ hx ty qO qO)),uF _,rfl⟩ (fun w Q=>⟨⟨(Q.1).self.1.1,(Q.1).self.1.2⟩,Q.2⟩) ?_
 rintro nn ss ff ⟨k,E,qs,rfl,rfl,D,hk,rfl⟩
 refine zC (yY (xq 2 [(63,.v (.bool (decide (((k:Int)-1)≥0))))] [] ?_))
 refine xe (zA ?_)
 refine yQ ((decide (((k:Int)-1)≥0))) (fun K=>?_) fun K=>?_
 ·have d0:=uC K
  obtain⟨j,rfl⟩:∃ j,k=j+1:=⟨k-1,qO⟩
  rw[show ((((j+1):Nat):Int)-1)=(j:Int) by omega]
  refine zJ (zA (zC (zQ (zB (xq 8 [eS1 66 (yL r22) (xs.length-(ys.length)+1) (xs.length-(ys.length)+1),yJ 67 j,eS1 68 (yL b) (xs.length+1) (xs.length+1),yJ 69 j,yJ 73 (IntKind.i64.wrap ((j:Int)+((ys.length:Nat):Int)))] [] ?_)))))
  rw[yW ((j:Int)+((ys.length:Nat):Int)) (((j+(ys.length):Nat):Int)) qO]
  refine xq 1 [(74,.v (yI (IntKind.i64.wrap (((j+(ys.length):Nat):Int)+1))))] [] ?_
  rw[show IntKind.i64.wrap ((((j+(ys.length):Nat):Int)+1))=((j+(ys.length)+1:Nat):Int) by rw[IntKind.wrap_i64];omega]
  refine xqk 75 (.slice (some ⟨b,j,none⟩) (dd.length+1) (xs.length+1-j)) (fun w R Q=>Zqu (t:=97) (e:=84) (x:=.tmp 68) (len:=(xs.length+1)) (cap:=(xs.length+1)) (l:=j) (h:=j+(ys.length)+1) (n:=dd.length+1) (m:=xs.length+1-j) (lo:=.tmp 69) (hi:=.tmp 74) qO qO qO qO qO) ?_
  refine xq 1 [eS1 76 g dd.length o] [] ?_
  refine Zdk (xs:=E) (α:=List Nat) 150 [.slice (some ⟨b,j,none⟩) (dd.length+1) (xs.length+1-j),.slice g dd.length o] (d:=77) (fun x=>yX (win j dd.length E/val W64 dd:Nat)) (fun x=>WinR j dd.length E x∧win j dd.length x=win j dd.length E%val W64 dd) (fun x=>x) b (fun x w=>((Box (fun j=>b≤j) w (fun w=>((((((zF w (.slice A xs.length c) (val W64 xs)∧zI .u64 w A (xs))∧zF w (.slice f ys.length c2) (val W64 ys))∧zI .u64 w f (ys))∧True)∧True)∧zF w (.slice g dd.length o) (val W64 ys*2^(64-blen t))))∧Own .u64 84 w b (x))∧Own .u64 84 w r22 (qs))) (fun w Q=>Q.1.2) (by have:=D.1;omega) (Or.inl O) (fun w R Q=>ZgQ b _ j E dd _ _ _ Q.1.2 (by rw[B];exact ((Q.1.1).self.2).shows) hA (by rw[D.1];omega) (by rw[D.1];omega) D.2.1 Z qO J (D.ready o0 qO).2.2) (fun x w w' hp Q L V=>⟨⟨((Q.1.1).fr (L.mono (fun _ _ e=>by rw[e];exact uF _))),V⟩,((Q.2).fr L (show ¬ (r22=b) by omega))⟩) fun x S=>?_
  obtain⟨T,rfl⟩:∃ y,y=x:=⟨_,rfl⟩
  have HS:=D.step o0 J qO qO S.1 S.2
  have Q0:=D.2.2.1
  refine xr 0 [eS1 1 f ys.length c2,eS1 4 none 0 0,eS1 5 none 0 0,yJ 8 (64-blen t:Nat),eS1 9 g dd.length o,eS1 10 (yL b) (xs.length+1) (xs.length+1),eS1 11 (yL r22) (xs.length-(ys.length)+1) (xs.length-(ys.length)+1),yJ 12 j,eS1 66 (yL r22) (xs.length-(ys.length)+1) (xs.length-(ys.length)+1),yJ 67 j,yU 77 (win j dd.length E/val W64 dd:Nat)] [] ?_
  refine xqk 78 (.pointer (some ⟨r22,j,none⟩)) (fun w R Q=>kV (t:=97) (e:=84) (x:=.tmp 66) (ix:=.tmp 67) (len:=(xs.length-(ys.length)+1)) (cap:=(xs.length-(ys.length)+1)) (i:=j) qO) ?_
  refine iS (t:=84) (x:=.tmp 78) (y:=.tmp 77) r22 (j) (win j dd.length E/val W64 dd) (fun w=>((Box (fun j=>b≤j) w (fun w=>((((((zF w (.slice A xs.length c) (val W64 xs)∧zI .u64 w A (xs))∧zF w (.slice f ys.length c2) (val W64 ys))∧zI .u64 w f (ys))∧True)∧True)∧zF w (.slice g dd.length o) (val W64 ys*2^(64-blen t))))∧Own .u64 84 w b (T))∧Own .u64 84 w r22 ((qs).set (j) (win j dd.length E/val W64 dd)))) (fun w Q=>Q.2) qO (Or.inl v0) (fun w w' Q L V=>⟨⟨((Q.1.1).fr (L.mono (fun _ _ e=>by rw[e];omega))),((Q.1.2).fr L (show ¬ (b=r22) by omega))⟩,V⟩) ?_
  refine xe (xR (zA (zB (xq 2 [yJ 65 (IntKind.i64.wrap ((j:Int)-1))] [] ?_))))
  rw[yW ((j:Int)-1) ((j:Int)-1) qO]
  refine xq 1 [yJ 12 ((j:Int)-1)] [] ?_
  refine xe ?_
  exact xK ((1+j)) qO ⟨j,T,((qs).set (j) (win j dd.length E/val W64 dd)),rfl,rfl,HS,qO,rfl⟩ (fun w Q=>⟨⟨Q.1.1,Q.1.2⟩,Q.2⟩)
 have d0:=uD K
 obtain rfl:k=0:=qO
 refine xM (zE (zE (xW (zA (yY (xq 1 [eS1 79 (yL r22) (xs.length-(ys.length)+1) (xs.length-(ys.length)+1)] [] ?_))))))
 refine xqc 97 [Υ r22 (xs.length-(ys.length)+1)] 80 xI _ (fun w R Q=>yM xG (Zcg Q.2 D.2.2.2.1 D.2.2.1 ((D.done J).1.trans (by rw[a0,Zt4])) qO qO)) fun⟨x0,y0,z0⟩=>?_
 refine xq 1 [eS1 81 (yL b) (xs.length+1) (xs.length+1)] [] ?_
 refine xqc 97 [Υ b (xs.length+1)] 82 xI _ (fun w R Q=>yM xG (Zcg Q.1.1.2 D.2.1 D.1 (D.done J).2 qO qO)) fun⟨H0,I0,J0⟩=>?_
 refine xq 1 [yJ 83 (64-blen t:Nat)] [] ?_
 refine xqc 91 [.slice H0 I0 J0, yI (64-blen t:Nat)] 84 xI _ (fun w R Q=>(gX (64-blen t) Q.2 (uA (lC (pA (uP _ J))) (by rw[←xT Z n0];omega)) qO).mono (fun _ _ h=>xG (by rw[show (val W64 xs*2^(64-blen t)%val W64 dd)/2^(64-blen t)=val W64 xs%val W64 ys by rw[a0,Zt3]] at h;exact h))) fun⟨A0,B0,C0⟩=>?_
 refine xq 2 [eS1 4 x0 y0 z0,eS1 5 A0 B0 C0] [] ?_
 refine yZ (zH ?_)
 refine yR (.tuple #[.slice x0 y0 z0,.slice A0 B0 C0]) fun w' R Q=>?_
 exact⟨_,_,rfl,Q.1.1.2,Q.2,R⟩
def shNb (r:FR) (x:ShN):Value:=.tuple #[yV r.s x.1 x.2.1 x.2.2 r.e,.int .i64 r.err]
def wE (w:World) (r:FR) (e:Ending) (w':World):Prop:=∃ x:ShN,e=.returned (shNb r x)∧zF w' (xI x) r.m∧Ext w w'
theorem wG {w w':World}{e:Ending}{r:FR}(h:wE w r e w'):lD (shNb r) (fun x w=>zF w (xI x) r.m) w e w':=by
 obtain⟨x,rfl,a,Q⟩:=h
 exact⟨x,rfl,Q,boxn Q (fun S b c d=>a.nrb c d)⟩
theorem Zno (s:Bool)(e:Int):xU s 0 e=⟨false,0,0,0⟩:=rfl
theorem ZqS {n:Nat}(s:Bool){e:Int}(a:0<n)(b:¬ e+tzn n < -1048576)(c:¬ e+tzn n>1048576):xU s n e=⟨s,oddM n,e+tzn n,0⟩:=by
 unfold xU
 rw[uI qO,uM ⟨qO,qO⟩]
theorem Ziu {n:Nat}(s:Bool){e:Int}(a:0<n)(h:e+tzn n < -1048576∨e+tzn n>1048576):xU s n e=⟨false,0,0,2⟩:=by
 unfold xU
 rw[uI qO,uI (by rintro⟨b,c⟩;omega)];rfl
theorem dA (n:Nat):blen n≤64*wl n:=by
 rw[xH,qI]
 have:=ZeW n
 rwa [zN] at this
theorem Zt5 {n:Nat}(h:wl n≤4294967296):tzn n≤274877906944:=by
 rcases uJ n with rfl|a
 ·rw[tzn,dif_pos (Or.inl rfl)];omega
 obtain⟨c,b⟩:=kM a
 have d:blen n=blen (oddM n)+tzn n:=by
  have:=dE (show 0<oddM n by omega) (tzn n)
  rwa [←b] at this
 have:=dA n
 omega
theorem ZgS {n:Nat}(h:wl n≤4294967296):blen n≤274877906944:=by have:=dA n;omega
theorem Zdp {s:Bool}{n bits:Nat}{e:Int}{m:Bool}(h:blen n≤bits):lJ s n e bits m=xU s n e:=by unfold lJ;rw[uM h]
theorem fV {s:Bool}{n bits j:Nat}{e:Int}{m:Bool}(h:blen n=bits+(j+1))(a:n/2^j%2=1)(b:tzn n<j∨n/2^(j+1)%2=1∨m=true)(c:0<n) :
 lJ s n e bits m=xU s (n/2^(j+1)+1) (e+((j+1:Nat):Int)):=by
 unfold lJ gB
 rw[uI qO,h,show bits+(j+1)-bits-1=j by omega,show bits+(j+1)-bits=j+1 by omega,uM ⟨a,by rw[←ZoF c];exact b⟩]
theorem cC {s:Bool}{n bits j:Nat}{e:Int}{m:Bool}(h:blen n=bits+(j+1))(a:0<n)(b:¬ (n/2^j%2=1∧(tzn n<j∨n/2^(j+1)%2=1∨m=true))) :
 lJ s n e bits m=xU s (n/2^(j+1)) (e+((j+1:Nat):Int)):=by
 unfold lJ gB
 rw[uI qO,h,show bits+(j+1)-bits-1=j by omega,show bits+(j+1)-bits=j+1 by omega,uI (by rw[←ZoF a];exact b)]
theorem Zt6:Trim [1]:=by
 intro k a
 have:k=0:=by simp at a;omega
 subst this
 simp
theorem wl_1:wl 1≤4294967296:=uA (aU.2 (by rw[zN];decide)) qD
theorem fP {w:World}{b:Nat}(h:Blk 84 w b #[.int .u64 1]):zF w (.slice (some ⟨b,0,none⟩) 1 1) 1 :=
 ⟨_,[1],1,rfl,uF _,(Blk.own1 (r:=1) h).shows0,Dig.nil.cons (by rw[zN];decide),Zt6,rfl⟩
def Zdq (w:World) (Q:Nat) (v:Value):Prop:=Q<w.heap.size∧w.cell? ⟨Q,0,none⟩=some v
theorem Zdq.ext {w w':World}{Q:Nat}{v:Value}(h:Zdq w Q v)(a:Ext w w'):Zdq w' Q v:=⟨uT h.1 a.size,(a.cell (p:=⟨Q,0,none⟩) h.1 (fun f=>f)).trans h.2⟩
theorem ZoV (Q:Nat)(A:qA)(l c:Nat)(w:World)(h:Zdq w Q (.slice A l c)):Ζ 115 #[.pointer (some ⟨Q,0,none⟩)] w (RetV w (.bool (decide (0<l)))):=by
 have a:=h.2
 go_enter func115,ntmps115
 go_wp2
 go_ret
 exact⟨vP Ending.returned (vP Value.bool (oD.2 qO)),Fr.refl _ _⟩
theorem ZoW (w:World):Ζ 122 #[] w (RetV w (.bool false)):=by
 go_enter func122,ntmps122
 go_wp2
 go_ret
 exact⟨rfl,Fr.refl _ _⟩
theorem kN (s:Bool)(A:qA)(l c n:Nat)(e:Int)(w:World)(t:Glob w)(q:zF w (.slice A l c) n)(o:wl n≤4294967296)(u : -1152921504606846976≤e)(x:e≤1152921504606846976) :
 Ζ 125 #[.bool s,.slice A l c,.int .i64 e] w (wE w (xU s n e)):=by
 refine zU (Φ:=fun w=>(Glob w∧zF w (.slice A l c) (n))) func125 rfl qK (fun w' r=>⟨t.ext r,q.ext r⟩) ?_
 refine zC ?_
 have y:=q.len0
 have z:=Zt5 o
 have B:=@lR n
 refine zB (xq 2 [Δ 6,yJ 7 0] [yF 6 99 false none 0 0 0] ?_)
 refine yZ (zC (yY (xq 3 [yB 11 (((l:Int):Int) == 0)] [] ?_)))
 refine xe (zA ?_)
 refine yQ ((((l:Int):Int) == 0)) (fun b=>?_) fun b=>?_
 ·have f:=sZ.1 b
  have m:n=0:=qO
  refine yY (xq 3 [yJ 7 0] [] ?_)
  refine yZ (zH (zL ?_))
  refine yR (.tuple #[yV false none 0 0 0, yI 0]) fun w' R Q=>?_
  rw[m,Zno]
  exact⟨(none,0,0),rfl,zF.zero _,R⟩
 have f:=lQ b
 have m:0<n:=qO
 refine zJ (zA (yY (xq 1 [eS1 13 A l c] [] ?_)))
 refine xqc 127 [.slice A l c] 14 (fun _:Unit=>yI (tzn n:Nat)) _ (fun w R Q=>yN (Zbi Q.1 Q.2 o m)) fun C=>?_
 refine xq 1 [yJ 8 (tzn n:Nat)] [] ?_
 refine yZ (yY (xq 3 [yJ 17 (IntKind.i64.wrap (e+((tzn n:Nat):Int)))] [] ?_))
 rw[yW (e+((tzn n:Nat):Int)) (e+((tzn n:Nat):Int)) qO]
 refine xq 1 [yJ 2 (e+((tzn n:Nat):Int))] [] ?_
 refine yZ (zC (yY (xq 3 [(20,.v (.bool (decide ((e+((tzn n:Nat):Int))<(-1048576)))))] [] ?_)))
 rcases bl2 ((decide ((e+((tzn n:Nat):Int))<(-1048576)))) with a|a
 ·rw[a]
  have g:=uC a
  refine xq 3 [yB 23 true] [] ?_
  refine yZ (xa (yY (xq 3 [yJ 7 2] [] ?_)))
  refine yZ (zH (zL ?_))
  refine yR (.tuple #[yV false none 0 0 0, yI 2]) fun w' R Q=>?_
  rw[Ziu s m qO]
  exact⟨(none,0,0),rfl,zF.zero _,R⟩
 rw[a]
 have g:=uD a
 refine xq 3 [(23,.v (.bool (decide ((e+((tzn n:Nat):Int))>1048576))))] [] ?_
 refine xe (zA ?_)
 refine yQ ((decide ((e+((tzn n:Nat):Int))>1048576))) (fun d=>?_) fun d=>?_
 ·have h:=uC d
  refine yY (xq 3 [yJ 7 2] [] ?_)
  refine yZ (zH (zL ?_))
  refine yR (.tuple #[yV false none 0 0 0, yI 2]) fun w' R Q=>?_
  rw[Ziu s m qO]
  exact⟨(none,0,0),rfl,zF.zero _,R⟩
 have h:=uD d
 refine zJ (zA (yY (xq 3 [yB 25 s,eS1 26 A l c,yJ 27 (tzn n:Nat)] [] ?_)))
 refine xqc 91 [.slice A l c, yI (tzn n:Nat)] 28 xI _ (fun w R Q=>yM xG (gX (tzn n) Q.1.2 o qO)) fun⟨i,j,k⟩=>?_
 refine xq 4 [yJ 7 0] [yF 6 99 s i j k (e+((tzn n:Nat):Int))] ?_
 refine yZ (zH ?_)
 refine yR (.tuple #[yV s i j k (e+((tzn n:Nat):Int)), yI 0]) fun w' R Q=>?_
 rw[ZqS s m qO qO]
 exact⟨(i,j,k),rfl,Q.2,R⟩
theorem gR (s:Bool)(A:qA)(l c n:Nat)(e:Int)(bits:Nat)(w:World)(hg:Glob w)(hN:zF w (.slice A l c) n)(E:wl n≤4294967296)(y0 : -576460752303423488≤e)(z0:e≤576460752303423488)(hb:bits≤4294967296) :
 Ζ 93 #[.bool s,.slice A l c,.int .i64 e,.int .i64 ((bits:Nat):Int),.func (.func 122) #[] #[]] w (wE w (lJ s n e bits false)):=by
 refine zU (Φ:=fun w=>(Glob w∧zF w (.slice A l c) (n))) func93 rfl qK (fun w' hf=>⟨hg.ext hf,hN.ext hf⟩) ?_
 refine zC ?_
 have A0:=ZgS E
 by_cases F:blen n≤bits
 ·obtain⟨k,hk⟩:∃ k,bits=blen n+k:=⟨bits-blen n,qO⟩
  refine zB (xq 2 [Δ 10,yJ 11 0] [yF 10 99 false none 0 0 0] ?_)
  refine yZ (yY (xq 1 [eS1 14 A l c] [] ?_))
  refine xqc 90 [.slice A l c] 15 (fun _:Unit=>yI (blen n:Nat)) _ (fun w R Q=>yN (jG Q.2 E)) fun xx=>?_
  refine xq 2 [yJ 17 (IntKind.i64.wrap (((blen n:Nat):Int)-(bits:Int)))] [] ?_
  rw[show IntKind.i64.wrap (((blen n:Nat):Int)-(bits:Int)) = -(k:Int) by rw[IntKind.wrap_i64];omega]
  refine xq 1 [yJ 12 (-(k:Int))] [] ?_
  refine yZ (zC (yY (xq 2 [(19,.v (.bool (decide ((-(k:Int))≤0))))] [] ?_)))
  rw[show decide (-(k:Int)≤0)=true from vQ qO]
  refine yZ (xa (yY (xq 3 [yB 20 s,eS1 21 A l c,yJ 22 e] [] ?_)))
  obtain⟨g,G⟩:=yE (xU s (n) (e))
  refine xqc 125 [.bool s,.slice A l c, yI e] 23 (shNb g) _ (fun w R Q=>yM wG ((show Calls _ _ _ _ (wE w g) by rw[←G];exact kN s _ _ _ _ _ _ Q.1.1 Q.1.2 E qO qO))) fun⟨L,M,N⟩=>?_
  refine xq 4 [yJ 11 g.err] [yF 10 99 g.s L M N g.e] ?_
  refine yZ (zH (zL ?_))
  refine yR (.tuple #[yV g.s L M N g.e, yI g.err]) fun w' R Q=>?_
  rw[Zdp F,G]
  exact⟨(L,M,N),rfl,Q.2,R⟩
 obtain⟨j,hj⟩:∃ j,blen n=bits+(j+1):=⟨blen n-bits-1,qO⟩
 have O:0<n:=rC (fun e=>by rw[e,iT] at F;omega)
 have B:wl (n/2^(j+1))≤4294967296:=uA (lC (vJ _ _)) E
 have P:wl (n/2^(j+1)+1)≤4294967296:=uA (lC (oL O (nO qO))) E
 obtain⟨b1,S⟩:=yE (decide (n/2^j%2=1))
 obtain⟨b2,T⟩:=yE (decide (n/2^(j+1)/2^0%2=1))
 obtain⟨b3,U⟩:=yE false
 refine zB (xq 2 [Δ 10,yJ 11 0] [yF 10 99 false none 0 0 0] ?_)
 refine yZ (yY (xq 1 [eS1 14 A l c] [] ?_))
 refine xqc 90 [.slice A l c] 15 (fun _:Unit=>yI (blen n:Nat)) _ (fun w R Q=>yN (jG Q.2 E)) fun xx=>?_
 refine xq 2 [yJ 17 (IntKind.i64.wrap (((blen n:Nat):Int)-(bits:Int)))] [] ?_
 rw[yW (((blen n:Nat):Int)-(bits:Int)) (((j+1:Nat):Int)) qO]
 refine xq 1 [yJ 12 (j+1:Nat)] [] ?_
 refine yZ (zC (yY (xq 2 [yB 19 (decide (((j+1:Nat):Int)≤0))] [] ?_)))
 rw[show decide (((j+1:Nat):Int)≤0)=false from uV qO]
 refine yZ (xb (zJ (zA (yY (xq 2 [eS1 26 A l c,yJ 27 (j+1:Nat)] [] ?_)))))
 refine xqc 91 [.slice A l c, yI (j+1:Nat)] 28 xI _ (fun w R Q=>yM xG (gX (j+1) Q.1.2 E qO)) fun⟨a,b,f⟩=>?_
 refine xq 1 [eS1 13 a b f] [] ?_
 refine yZ (zC (yY (xq 3 [eS1 29 A l c,yJ 31 (IntKind.i64.wrap (((j+1:Nat):Int)-1))] [] ?_)))
 rw[yW (((j+1:Nat):Int)-1) ((j:Int)) qO]
 refine xqc 126 [.slice A l c, yI j] 32 (fun _:Unit=>.bool b1) _ (fun w R Q=>yN ((show Calls _ _ _ _ (RetV w (.bool b1)) by rw[←S];exact Zat (j) Q.1.1.2 qO))) fun xx=>?_
 refine xq 1 [yB 33 b1] [] ?_
 rcases bl2 (b1) with i|i
 ·rw[i]
  have k1:=uC (S.trans i)
  refine xq 1 [eS1 34 A l c] [] ?_
  refine xqc 127 [.slice A l c] 35 (fun _:Unit=>yI (tzn n:Nat)) _ (fun w R Q=>yN (Zbi Q.1.1.1.1 Q.1.1.1.2 E O)) fun xx=>?_
  refine xq 2 [yJ 37 (IntKind.i64.wrap (((j+1:Nat):Int)-1))] [] ?_
  rw[yW (((j+1:Nat):Int)-1) ((j:Int)) qO]
  refine xq 2 [yB 39 (decide (((tzn n:Nat):Int)<(j:Int)))] [] ?_
  rcases bl2 ((decide (((tzn n:Nat):Int)<(j:Int)))) with m|m
  ·rw[m]
   have V:=uC m
   have k4:tzn n<j:=qO
   refine xr 8 [yB 0 s,yJ 2 e,Δ 10,yJ 11 0,yJ 12 (j+1:Nat),eS1 13 a b f,yB 47 true] [yF 10 99 false none 0 0 0] ?_
   refine yZ (xa (zB (xq 1 [eS1 48 a b f] [] ?_)))
   refine yD (d:=49) (fun C:Nat=>Υ C 1) (fun C zw=>Blk 84 zw C #[yX 1]) (fun w R Q=>kJ (t:=97) (e:=84) (n:=1) (sz:=1) (z:=yX 0) (parts:=#[(0,Operand.const (Value.int IntKind.u64 1))]) qK qK qK qK qK qK) fun v0=>?_
   refine xr 0 [yB 0 s,yJ 2 e,Δ 10,yJ 11 0,yJ 12 (j+1:Nat),eS1 13 a b f,eS1 48 a b f,eS1 49 (yL v0) 1 1] [yF 10 99 false none 0 0 0] ?_
   refine xqc 124 [.slice a b f,Υ v0 1] 50 xI _ (fun w R Q=>yM xG (iE Q.1.1.1.2 (fP Q.2) B wl_1)) fun⟨W,X,Y⟩=>?_
   refine xq 1 [eS1 13 W X Y] [] ?_
   refine yZ (yY (xq 5 [yB 51 s,eS1 52 W X Y,yJ 55 (IntKind.i64.wrap (e+((j+1:Nat):Int)))] [] ?_))
   rw[yW (e+((j+1:Nat):Int)) (e+((j+1:Nat):Int)) qO]
   obtain⟨o,H⟩:=yE (xU s (n/2^(j+1)+1) ((e+((j+1:Nat):Int))))
   refine xqc 125 [.bool s,.slice W X Y, yI (e+((j+1:Nat):Int))] 56 (shNb o) _ (fun w R Q=>yM wG ((show Calls _ _ _ _ (wE w o) by rw[←H];exact kN s _ _ _ _ _ _ Q.1.1.1.1.1.1.1 Q.2 P qO qO))) fun⟨Z,a0,b0⟩=>?_
   refine xq 4 [yJ 11 o.err] [yF 10 99 o.s Z a0 b0 o.e] ?_
   refine yZ (zH ?_)
   refine yR (.tuple #[yV o.s Z a0 b0 o.e, yI o.err]) fun w' R Q=>?_
   rw[fV hj k1 (Or.inl k4) O,H]
   exact⟨(Z,a0,b0),rfl,Q.2,R⟩
  rw[m]
  have V:=uD m
  have k4:¬ tzn n<j:=qO
  refine xr 1 [yB 0 s,yJ 2 e,(4,.v (.func (.func 122) #[] #[])),Δ 10,yJ 11 0,yJ 12 (j+1:Nat),eS1 13 a b f,yB 33 true,yB 39 false,eS1 40 a b f] [yF 10 99 false none 0 0 0] ?_
  refine xqc 126 [.slice a b f, yI 0] 41 (fun _:Unit=>.bool b2) _ (fun w R Q=>yN ((show Calls _ _ _ _ (RetV w (.bool b2)) by rw[←T];exact Zat (0) Q.1.1.2 qO))) fun xx=>?_
  refine xq 2 [yB 43 b2] [] ?_
  rcases bl2 (b2) with q|q
  ·rw[q]
   have k2:=uC (T.trans q)
   rw[tH,rS] at k2
   refine xq 4 [yB 47 true] [] ?_
   refine yZ (xa (zB (xq 1 [eS1 48 a b f] [] ?_)))
   refine yD (d:=49) (fun C:Nat=>Υ C 1) (fun C zw=>Blk 84 zw C #[yX 1]) (fun w R Q=>kJ (t:=97) (e:=84) (n:=1) (sz:=1) (z:=yX 0) (parts:=#[(0,Operand.const (Value.int IntKind.u64 1))]) qK qK qK qK qK qK) fun w0=>?_
   refine xr 0 [yB 0 s,yJ 2 e,Δ 10,yJ 11 0,yJ 12 (j+1:Nat),eS1 13 a b f,eS1 48 a b f,eS1 49 (yL w0) 1 1] [yF 10 99 false none 0 0 0] ?_
   refine xqc 124 [.slice a b f,Υ w0 1] 50 xI _ (fun w R Q=>yM xG (iE Q.1.1.1.1.2 (fP Q.2) B wl_1)) fun⟨c0,d0,e0⟩=>?_
   refine xq 1 [eS1 13 c0 d0 e0] [] ?_
   refine yZ (yY (xq 5 [yB 51 s,eS1 52 c0 d0 e0,yJ 55 (IntKind.i64.wrap (e+((j+1:Nat):Int)))] [] ?_))
   rw[yW (e+((j+1:Nat):Int)) (e+((j+1:Nat):Int)) qO]
   obtain⟨r,I⟩:=yE (xU s (n/2^(j+1)+1) ((e+((j+1:Nat):Int))))
   refine xqc 125 [.bool s,.slice c0 d0 e0, yI (e+((j+1:Nat):Int))] 56 (shNb r) _ (fun w R Q=>yM wG ((show Calls _ _ _ _ (wE w r) by rw[←I];exact kN s _ _ _ _ _ _ Q.1.1.1.1.1.1.1.1 Q.2 P qO qO))) fun⟨f0,g0,i0⟩=>?_
   refine xq 4 [yJ 11 r.err] [yF 10 99 r.s f0 g0 i0 r.e] ?_
   refine yZ (zH ?_)
   refine yR (.tuple #[yV r.s f0 g0 i0 r.e, yI r.err]) fun w' R Q=>?_
   rw[fV hj k1 (Or.inr (Or.inl k2)) O,I]
   exact⟨(f0,g0,i0),rfl,Q.2,R⟩
  rw[q]
  have k2:=uD (T.trans q)
  rw[tH,rS] at k2
  refine xq 1 [(44,.v (.func (.func 122) #[] #[]))] [] ?_
  refine xqc 122 [] 45 (fun _:Unit=>.bool b3) _ (fun w R Q=>yN ((show Calls _ _ _ _ (RetV w (.bool b3)) by rw[←U];exact ZoW _))) fun xx=>?_
  refine xq 2 [yB 47 b3] [] ?_
  refine xe (zA ?_)
  refine yQ (b3) (fun D=>?_) fun D=>?_
  ·have k3:=U.trans D
   refine zB (xq 1 [eS1 48 a b f] [] ?_)
   refine yD (d:=49) (fun C:Nat=>Υ C 1) (fun C zw=>Blk 84 zw C #[yX 1]) (fun w R Q=>kJ (t:=97) (e:=84) (n:=1) (sz:=1) (z:=yX 0) (parts:=#[(0,Operand.const (Value.int IntKind.u64 1))]) qK qK qK qK qK qK) fun x0=>?_
   refine xr 0 [yB 0 s,yJ 2 e,Δ 10,yJ 11 0,yJ 12 (j+1:Nat),eS1 13 a b f,eS1 48 a b f,eS1 49 (yL x0) 1 1] [yF 10 99 false none 0 0 0] ?_
   refine xqc 124 [.slice a b f,Υ x0 1] 50 xI _ (fun w R Q=>yM xG (iE Q.1.1.1.1.1.2 (fP Q.2) B wl_1)) fun⟨j0,k0,l0⟩=>?_
   refine xq 1 [eS1 13 j0 k0 l0] [] ?_
   refine yZ (yY (xq 5 [yB 51 s,eS1 52 j0 k0 l0,yJ 55 (IntKind.i64.wrap (e+((j+1:Nat):Int)))] [] ?_))
   rw[yW (e+((j+1:Nat):Int)) (e+((j+1:Nat):Int)) qO]
   obtain⟨u,J⟩:=yE (xU s (n/2^(j+1)+1) ((e+((j+1:Nat):Int))))
   refine xqc 125 [.bool s,.slice j0 k0 l0, yI (e+((j+1:Nat):Int))] 56 (shNb u) _ (fun w R Q=>yM wG ((show Calls _ _ _ _ (wE w u) by rw[←J];exact kN s _ _ _ _ _ _ Q.1.1.1.1.1.1.1.1.1 Q.2 P qO qO))) fun⟨m0,n0,o0⟩=>?_
   refine xq 4 [yJ 11 u.err] [yF 10 99 u.s m0 n0 o0 u.e] ?_
   refine yZ (zH ?_)
   refine yR (.tuple #[yV u.s m0 n0 o0 u.e, yI u.err]) fun w' R Q=>?_
   rw[fV hj k1 (Or.inr (Or.inr k3)) O,J]
   exact⟨(m0,n0,o0),rfl,Q.2,R⟩
  have k3:=U.trans D
  refine zJ (zA (yY (xq 5 [yB 51 s,eS1 52 a b f,yJ 55 (IntKind.i64.wrap (e+((j+1:Nat):Int)))] [] ?_)))
  rw[yW (e+((j+1:Nat):Int)) (e+((j+1:Nat):Int)) qO]
  obtain⟨x,hr25⟩:=yE (xU s (n/2^(j+1)) ((e+((j+1:Nat):Int))))
  refine xqc 125 [.bool s,.slice a b f, yI (e+((j+1:Nat):Int))] 56 (shNb x) _ (fun w R Q=>yM wG ((show Calls _ _ _ _ (wE w x) by rw[←hr25];exact kN s _ _ _ _ _ _ Q.1.1.1.1.1.1.1 Q.1.1.1.1.2 B qO qO))) fun⟨p0,q0,r0⟩=>?_
  refine xq 4 [yJ 11 x.err] [yF 10 99 x.s p0 q0 r0 x.e] ?_
  refine yZ (zH ?_)
  refine yR (.tuple #[yV x.s p0 q0 r0 x.e, yI x.err]) fun w' R Q=>?_
  rw[cC hj O (fun h=>by rcases h.2 with h|h|h;exact k4 h;exact k2 h;rw[k3] at h;cases h),hr25]
  exact⟨(p0,q0,r0),rfl,Q.2,R⟩
 rw[i]
 have k1:=uD (S.trans i)
 refine xq 14 [yB 47 false] [] ?_
 refine yZ (xb (zJ (zA (yY (xq 5 [yB 51 s,eS1 52 a b f,yJ 55 (IntKind.i64.wrap (e+((j+1:Nat):Int)))] [] ?_)))))
 rw[yW (e+((j+1:Nat):Int)) (e+((j+1:Nat):Int)) qO]
 obtain⟨y,K⟩:=yE (xU s (n/2^(j+1)) ((e+((j+1:Nat):Int))))
 refine xqc 125 [.bool s,.slice a b f, yI (e+((j+1:Nat):Int))] 56 (shNb y) _ (fun w R Q=>yM wG ((show Calls _ _ _ _ (wE w y) by rw[←K];exact kN s _ _ _ _ _ _ Q.1.1.1.1 Q.1.2 B qO qO))) fun⟨s0,t0,u0⟩=>?_
 refine xq 4 [yJ 11 y.err] [yF 10 99 y.s s0 t0 u0 y.e] ?_
 refine yZ (zH ?_)
 refine yR (.tuple #[yV y.s s0 t0 u0 y.e, yI y.err]) fun w' R Q=>?_
 rw[cC hj O (fun h=>k1 h.1),K]
 exact⟨(s0,t0,u0),rfl,Q.2,R⟩
theorem Znp (s:Bool)(A:qA)(l c n:Nat)(e:Int)(bits:Nat)(Q:Nat)(A2:qA)(l2 c2:Nat)(w:World)(hg:Glob w)(hN:zF w (.slice A l c) n)(E:wl n≤4294967296)(z0 : -576460752303423488≤e)(A0:e≤576460752303423488)(hb:bits≤4294967296)(hQ:Zdq w Q (.slice A2 l2 c2)) :
 Ζ 93 #[.bool s,.slice A l c,.int .i64 e,.int .i64 ((bits:Nat):Int),.func (.func 115) #[] #[.pointer (some ⟨Q,0,none⟩)]] w (wE w (lJ s n e bits (decide (0<l2)))):=by
 refine zU (Φ:=fun w=>((Glob w∧zF w (.slice A l c) (n))∧Zdq w Q (.slice A2 l2 c2))) func93 rfl qK (fun w' hf=>⟨⟨hg.ext hf,hN.ext hf⟩,hQ.ext hf⟩) ?_
 refine zC ?_
 have B0:=ZgS E
 by_cases F:blen n≤bits
 ·obtain⟨k,hk⟩:∃ k,bits=blen n+k:=⟨bits-blen n,qO⟩
  refine zB (xq 2 [Δ 10,yJ 11 0] [yF 10 99 false none 0 0 0] ?_)
  refine yZ (yY (xq 1 [eS1 14 A l c] [] ?_))
  refine xqc 90 [.slice A l c] 15 (fun _:Unit=>yI (blen n:Nat)) _ (fun w S R=>(jG R.1.2 E).mono (fun _ _ h=>zO h rfl)) fun xx=>?_
  refine xq 2 [yJ 17 (IntKind.i64.wrap (((blen n:Nat):Int)-(bits:Int)))] [] ?_
  rw[show IntKind.i64.wrap (((blen n:Nat):Int)-(bits:Int)) = -(k:Int) by rw[IntKind.wrap_i64];omega]
  refine xq 1 [yJ 12 (-(k:Int))] [] ?_
  refine yZ (zC (yY (xq 2 [(19,.v (.bool (decide ((-(k:Int))≤0))))] [] ?_)))
  rw[show decide (-(k:Int)≤0)=true from vQ qO]
  refine yZ (xa (yY (xq 3 [yB 20 s,eS1 21 A l c,yJ 22 e] [] ?_)))
  obtain⟨g,G⟩:=yE (xU s (n) (e))
  refine xqc 125 [.bool s,.slice A l c, yI e] 23 (shNb g) _ (fun w S R=>((show Calls _ _ _ _ (wE w g) by rw[←G];exact kN s _ _ _ _ _ _ R.1.1.1 R.1.1.2 E qO qO)).mono (fun _ _=>wG)) fun⟨L,M,N⟩=>?_
  refine xq 4 [yJ 11 g.err] [yF 10 99 g.s L M N g.e] ?_
  refine yZ (zH (zL ?_))
  refine yR (.tuple #[yV g.s L M N g.e, yI g.err]) fun w' S R=>?_
  rw[Zdp F,G]
  exact⟨(L,M,N),rfl,R.2,S⟩
 obtain⟨j,hj⟩:∃ j,blen n=bits+(j+1):=⟨blen n-bits-1,qO⟩
 have O:0<n:=rC (fun e=>by rw[e,iT] at F;omega)
 have B:wl (n/2^(j+1))≤4294967296:=uA (lC (vJ _ _)) E
 have P:wl (n/2^(j+1)+1)≤4294967296:=uA (lC (oL O (nO qO))) E
 obtain⟨b1,T⟩:=yE (decide (n/2^j%2=1))
 obtain⟨b2,U⟩:=yE (decide (n/2^(j+1)/2^0%2=1))
 obtain⟨b3,V⟩:=yE (decide (0<l2))
 refine zB (xq 2 [Δ 10,yJ 11 0] [yF 10 99 false none 0 0 0] ?_)
 refine yZ (yY (xq 1 [eS1 14 A l c] [] ?_))
 refine xqc 90 [.slice A l c] 15 (fun _:Unit=>yI (blen n:Nat)) _ (fun w S R=>(jG R.1.2 E).mono (fun _ _ h=>zO h rfl)) fun xx=>?_
 refine xq 2 [yJ 17 (IntKind.i64.wrap (((blen n:Nat):Int)-(bits:Int)))] [] ?_
 rw[yW (((blen n:Nat):Int)-(bits:Int)) (((j+1:Nat):Int)) qO]
 refine xq 1 [yJ 12 (j+1:Nat)] [] ?_
 refine yZ (zC (yY (xq 2 [yB 19 (decide (((j+1:Nat):Int)≤0))] [] ?_)))
 rw[show decide (((j+1:Nat):Int)≤0)=false from uV qO]
 refine yZ (xb (zJ (zA (yY (xq 2 [eS1 26 A l c,yJ 27 (j+1:Nat)] [] ?_)))))
 refine xqc 91 [.slice A l c, yI (j+1:Nat)] 28 xI _ (fun w S R=>(gX (j+1) R.1.1.2 E qO).mono (fun _ _=>xG)) fun⟨a,b,f⟩=>?_
 refine xq 1 [eS1 13 a b f] [] ?_
 refine yZ (zC (yY (xq 3 [eS1 29 A l c,yJ 31 (IntKind.i64.wrap (((j+1:Nat):Int)-1))] [] ?_)))
 rw[yW (((j+1:Nat):Int)-1) ((j:Int)) qO]
 refine xqc 126 [.slice A l c, yI j] 32 (fun _:Unit=>.bool b1) _ (fun w S R=>((show Calls _ _ _ _ (RetV w (.bool b1)) by rw[←T];exact Zat (j) R.1.1.1.2 qO)).mono (fun _ _ h=>zO h rfl)) fun xx=>?_
 refine xq 1 [yB 33 b1] [] ?_
 rcases bl2 (b1) with i|i
 ·rw[i]
  have k1:=uC (T.trans i)
  refine xq 1 [eS1 34 A l c] [] ?_
  refine xqc 127 [.slice A l c] 35 (fun _:Unit=>yI (tzn n:Nat)) _ (fun w S R=>(Zbi R.1.1.1.1.1 R.1.1.1.1.2 E O).mono (fun _ _ h=>zO h rfl)) fun xx=>?_
  refine xq 2 [yJ 37 (IntKind.i64.wrap (((j+1:Nat):Int)-1))] [] ?_
  rw[yW (((j+1:Nat):Int)-1) ((j:Int)) qO]
  refine xq 2 [yB 39 (decide (((tzn n:Nat):Int)<(j:Int)))] [] ?_
  rcases bl2 ((decide (((tzn n:Nat):Int)<(j:Int)))) with m|m
  ·rw[m]
   have W:=uC m
   have k4:tzn n<j:=qO
   refine xr 8 [yB 0 s,yJ 2 e,Δ 10,yJ 11 0,yJ 12 (j+1:Nat),eS1 13 a b f,yB 47 true] [yF 10 99 false none 0 0 0] ?_
   refine yZ (xa (zB (xq 1 [eS1 48 a b f] [] ?_)))
   refine yD (d:=49) (fun C:Nat=>Υ C 1) (fun C zw=>Blk 84 zw C #[yX 1]) (fun w S R=>kJ (t:=97) (e:=84) (n:=1) (sz:=1) (z:=yX 0) (parts:=#[(0,Operand.const (Value.int IntKind.u64 1))]) qK qK qK qK qK qK) fun w0=>?_
   refine xr 0 [yB 0 s,yJ 2 e,Δ 10,yJ 11 0,yJ 12 (j+1:Nat),eS1 13 a b f,eS1 48 a b f,eS1 49 (yL w0) 1 1] [yF 10 99 false none 0 0 0] ?_
   refine xqc 124 [.slice a b f,Υ w0 1] 50 xI _ (fun w S R=>(iE R.1.1.1.2 (fP R.2) B wl_1).mono (fun _ _=>xG)) fun⟨X,Y,Z⟩=>?_
   refine xq 1 [eS1 13 X Y Z] [] ?_
   refine yZ (yY (xq 5 [yB 51 s,eS1 52 X Y Z,yJ 55 (IntKind.i64.wrap (e+((j+1:Nat):Int)))] [] ?_))
   rw[yW (e+((j+1:Nat):Int)) (e+((j+1:Nat):Int)) qO]
   obtain⟨o,H⟩:=yE (xU s (n/2^(j+1)+1) ((e+((j+1:Nat):Int))))
   refine xqc 125 [.bool s,.slice X Y Z, yI (e+((j+1:Nat):Int))] 56 (shNb o) _ (fun w S R=>((show Calls _ _ _ _ (wE w o) by rw[←H];exact kN s _ _ _ _ _ _ R.1.1.1.1.1.1.1.1 R.2 P qO qO)).mono (fun _ _=>wG)) fun⟨a0,b0,c0⟩=>?_
   refine xq 4 [yJ 11 o.err] [yF 10 99 o.s a0 b0 c0 o.e] ?_
   refine yZ (zH ?_)
   refine yR (.tuple #[yV o.s a0 b0 c0 o.e, yI o.err]) fun w' S R=>?_
   rw[fV hj k1 (Or.inl k4) O,H]
   exact⟨(a0,b0,c0),rfl,R.2,S⟩
  rw[m]
  have W:=uD m
  have k4:¬ tzn n<j:=qO
  refine xr 1 [yB 0 s,yJ 2 e,(4,.v (.func (.func 115) #[] #[.pointer (yL Q)])),Δ 10,yJ 11 0,yJ 12 (j+1:Nat),eS1 13 a b f,yB 33 true,yB 39 false,eS1 40 a b f] [yF 10 99 false none 0 0 0] ?_
  refine xqc 126 [.slice a b f, yI 0] 41 (fun _:Unit=>.bool b2) _ (fun w S R=>((show Calls _ _ _ _ (RetV w (.bool b2)) by rw[←U];exact Zat (0) R.1.1.2 qO)).mono (fun _ _ h=>zO h rfl)) fun xx=>?_
  refine xq 2 [yB 43 b2] [] ?_
  rcases bl2 (b2) with q|q
  ·rw[q]
   have k2:=uC (U.trans q)
   rw[tH,rS] at k2
   refine xq 4 [yB 47 true] [] ?_
   refine yZ (xa (zB (xq 1 [eS1 48 a b f] [] ?_)))
   refine yD (d:=49) (fun C:Nat=>Υ C 1) (fun C zw=>Blk 84 zw C #[yX 1]) (fun w S R=>kJ (t:=97) (e:=84) (n:=1) (sz:=1) (z:=yX 0) (parts:=#[(0,Operand.const (Value.int IntKind.u64 1))]) qK qK qK qK qK qK) fun x0=>?_
   refine xr 0 [yB 0 s,yJ 2 e,Δ 10,yJ 11 0,yJ 12 (j+1:Nat),eS1 13 a b f,eS1 48 a b f,eS1 49 (yL x0) 1 1] [yF 10 99 false none 0 0 0] ?_
   refine xqc 124 [.slice a b f,Υ x0 1] 50 xI _ (fun w S R=>(iE R.1.1.1.1.2 (fP R.2) B wl_1).mono (fun _ _=>xG)) fun⟨d0,e0,f0⟩=>?_
   refine xq 1 [eS1 13 d0 e0 f0] [] ?_
   refine yZ (yY (xq 5 [yB 51 s,eS1 52 d0 e0 f0,yJ 55 (IntKind.i64.wrap (e+((j+1:Nat):Int)))] [] ?_))
   rw[yW (e+((j+1:Nat):Int)) (e+((j+1:Nat):Int)) qO]
   obtain⟨r,I⟩:=yE (xU s (n/2^(j+1)+1) ((e+((j+1:Nat):Int))))
   refine xqc 125 [.bool s,.slice d0 e0 f0, yI (e+((j+1:Nat):Int))] 56 (shNb r) _ (fun w S R=>((show Calls _ _ _ _ (wE w r) by rw[←I];exact kN s _ _ _ _ _ _ R.1.1.1.1.1.1.1.1.1 R.2 P qO qO)).mono (fun _ _=>wG)) fun⟨g0,i0,j0⟩=>?_
   refine xq 4 [yJ 11 r.err] [yF 10 99 r.s g0 i0 j0 r.e] ?_
   refine yZ (zH ?_)
   refine yR (.tuple #[yV r.s g0 i0 j0 r.e, yI r.err]) fun w' S R=>?_
   rw[fV hj k1 (Or.inr (Or.inl k2)) O,I]
   exact⟨(g0,i0,j0),rfl,R.2,S⟩
  rw[q]
  have k2:=uD (U.trans q)
  rw[tH,rS] at k2
  refine xq 1 [(44,.v (.func (.func 115) #[] #[.pointer (yL Q)]))] [] ?_
  refine xqc 115 [.pointer (yL Q)] 45 (fun _:Unit=>.bool b3) _ (fun w S R=>((show Calls _ _ _ _ (RetV w (.bool b3)) by rw[←V];exact ZoV Q A2 l2 c2 _ R.1.1.1.1.1.2)).mono (fun _ _ h=>zO h rfl)) fun xx=>?_
  refine xq 2 [yB 47 b3] [] ?_
  refine xe (zA ?_)
  refine yQ (b3) (fun D=>?_) fun D=>?_
  ·have k3:=V.trans D
   refine zB (xq 1 [eS1 48 a b f] [] ?_)
   refine yD (d:=49) (fun C:Nat=>Υ C 1) (fun C zw=>Blk 84 zw C #[yX 1]) (fun w S R=>kJ (t:=97) (e:=84) (n:=1) (sz:=1) (z:=yX 0) (parts:=#[(0,Operand.const (Value.int IntKind.u64 1))]) qK qK qK qK qK qK) fun y0=>?_
   refine xr 0 [yB 0 s,yJ 2 e,Δ 10,yJ 11 0,yJ 12 (j+1:Nat),eS1 13 a b f,eS1 48 a b f,eS1 49 (yL y0) 1 1] [yF 10 99 false none 0 0 0] ?_
   refine xqc 124 [.slice a b f,Υ y0 1] 50 xI _ (fun w S R=>(iE R.1.1.1.1.1.2 (fP R.2) B wl_1).mono (fun _ _=>xG)) fun⟨k0,l0,m0⟩=>?_
   refine xq 1 [eS1 13 k0 l0 m0] [] ?_
   refine yZ (yY (xq 5 [yB 51 s,eS1 52 k0 l0 m0,yJ 55 (IntKind.i64.wrap (e+((j+1:Nat):Int)))] [] ?_))
   rw[yW (e+((j+1:Nat):Int)) (e+((j+1:Nat):Int)) qO]
   obtain⟨u,J⟩:=yE (xU s (n/2^(j+1)+1) ((e+((j+1:Nat):Int))))
   refine xqc 125 [.bool s,.slice k0 l0 m0, yI (e+((j+1:Nat):Int))] 56 (shNb u) _ (fun w S R=>((show Calls _ _ _ _ (wE w u) by rw[←J];exact kN s _ _ _ _ _ _ R.1.1.1.1.1.1.1.1.1.1 R.2 P qO qO)).mono (fun _ _=>wG)) fun⟨n0,o0,p0⟩=>?_
   refine xq 4 [yJ 11 u.err] [yF 10 99 u.s n0 o0 p0 u.e] ?_
   refine yZ (zH ?_)
   refine yR (.tuple #[yV u.s n0 o0 p0 u.e, yI u.err]) fun w' S R=>?_
   rw[fV hj k1 (Or.inr (Or.inr k3)) O,J]
   exact⟨(n0,o0,p0),rfl,R.2,S⟩
  have k3:=V.trans D
  refine zJ (zA (yY (xq 5 [yB 51 s,eS1 52 a b f,yJ 55 (IntKind.i64.wrap (e+((j+1:Nat):Int)))] [] ?_)))
  rw[yW (e+((j+1:Nat):Int)) (e+((j+1:Nat):Int)) qO]
  obtain⟨x,hr25⟩:=yE (xU s (n/2^(j+1)) ((e+((j+1:Nat):Int))))
  refine xqc 125 [.bool s,.slice a b f, yI (e+((j+1:Nat):Int))] 56 (shNb x) _ (fun w S R=>((show Calls _ _ _ _ (wE w x) by rw[←hr25];exact kN s _ _ _ _ _ _ R.1.1.1.1.1.1.1.1 R.1.1.1.1.2 B qO qO)).mono (fun _ _=>wG)) fun⟨q0,r0,s0⟩=>?_
  refine xq 4 [yJ 11 x.err] [yF 10 99 x.s q0 r0 s0 x.e] ?_
  refine yZ (zH ?_)
  refine yR (.tuple #[yV x.s q0 r0 s0 x.e, yI x.err]) fun w' S R=>?_
  rw[cC hj O (fun h=>by rcases h.2 with h|h|h;exact k4 h;exact k2 h;rw[k3] at h;cases h),hr25]
  exact⟨(q0,r0,s0),rfl,R.2,S⟩
 rw[i]
 have k1:=uD (T.trans i)
 refine xq 14 [yB 47 false] [] ?_
 refine yZ (xb (zJ (zA (yY (xq 5 [yB 51 s,eS1 52 a b f,yJ 55 (IntKind.i64.wrap (e+((j+1:Nat):Int)))] [] ?_)))))
 rw[yW (e+((j+1:Nat):Int)) (e+((j+1:Nat):Int)) qO]
 obtain⟨y,K⟩:=yE (xU s (n/2^(j+1)) ((e+((j+1:Nat):Int))))
 refine xqc 125 [.bool s,.slice a b f, yI (e+((j+1:Nat):Int))] 56 (shNb y) _ (fun w S R=>((show Calls _ _ _ _ (wE w y) by rw[←K];exact kN s _ _ _ _ _ _ R.1.1.1.1.1 R.1.2 B qO qO)).mono (fun _ _=>wG)) fun⟨t0,u0,v0⟩=>?_
 refine xq 4 [yJ 11 y.err] [yF 10 99 y.s t0 u0 v0 y.e] ?_
 refine yZ (zH ?_)
 refine yR (.tuple #[yV y.s t0 u0 v0 y.e, yI y.err]) fun w' S R=>?_
 rw[cC hj O (fun h=>k1 h.1),K]
 exact⟨(t0,u0,v0),rfl,R.2,S⟩
theorem Ziv {u v:Value}{m n:Nat}{w:World}(d:zF w u m)(e:zF w v n)(f:wl m≤4294967295)(g:wl n≤4294967296)(l:0<n):Ζ 114 #[u,v] w (ZcE w (m/n) (m%n)):=by
 have a:=d
 have b:=e
 obtain⟨A,o,c,rfl,y,p,h,i,rfl⟩:=d
 obtain⟨q,r,s,rfl,t,x,j,k,rfl⟩:=e
 rw[←xT h i] at f
 rw[←xT j k] at g
 exact ZoU A q o r c s w p x f g h j a b i k l
theorem ZqT {s:Bool}{A:qA}{l c:Nat}{e:Int}:ZlN #[.bool s,.slice A l c,.int .i64 e]:=by
 intro i k;rcases i with _|_|_|i<;>simp
theorem Blk.cell3n {t:TypeId}{w:World}{g:Nat}{x y z:Value}(h:Blk t w g #[x,y,z]):w.cell? ⟨g,0,none⟩=some x∧w.cell? ⟨g,1,none⟩=some y∧w.cell? ⟨g,2,none⟩=some z∧w.frozen? ⟨g,0,none⟩=false∧w.frozen? ⟨g,1,none⟩=false∧w.frozen? ⟨g,2,none⟩=false :=
 ⟨h.cell 0,h.cell 1,h.cell 2,h.frozen 0,h.frozen 1,h.frozen 2⟩
theorem Zt7 {fn:Func}{t t2:Tmp}{a:Array Value}{w g b:World}{r:Nat}{x:FR}{A u:qA}{l c y c0:Nat}{s0:Bool}{z:Int}(d:fn.results=#[.cell t 99,.tmp t2])(B:a[t]? = some (.pointer (some ⟨r,0,none⟩)))(h:a[t2]? = some (.int .i64 x.err))(j:w.heap.size≤r)(C:Ext w g)(D:Blk 99 g r #[.bool s0,.slice u y c0,.int .i64 z])(q:Ext g b)(E:zF b (.slice A l c) x.m) :
 bodyPost prog fn (wE w x) .ret ⟨a,[]⟩ (((b.setCell ⟨r,0,none⟩ (.bool x.s)).setCell ⟨r,1,none⟩ (.slice A l c)).setCell ⟨r,2,none⟩ (.int .i64 x.e)):=by
 have f:=D.ext q
 have k:Blk 99 (((b.setCell ⟨r,0,none⟩ (.bool x.s)).setCell ⟨r,1,none⟩ (.slice A l c)).setCell ⟨r,2,none⟩ (.int .i64 x.e)) r #[.bool x.s,.slice A l c,.int .i64 x.e]:=((f.set_ 0 _).set_ 1 _).set_ 2 _
 obtain⟨F,G,H,_⟩:=k.cell3n
 have I:Fr (fun i=>i=r) b (((b.setCell ⟨r,0,none⟩ (.bool x.s)).setCell ⟨r,1,none⟩ (.slice A l c)).setCell ⟨r,2,none⟩ (.int .i64 x.e)):=(((show Fr (fun i=>i=r) b b from Fr.refl _ _).setCell (p:=⟨r,0,none⟩) (Or.inl rfl) _).setCell (p:=⟨r,1,none⟩) (Or.inl rfl) _).setCell (p:=⟨r,2,none⟩) (Or.inl rfl) _
 have n:=E.other f ZqT I
 have o:Ext w (((b.setCell ⟨r,0,none⟩ (.bool x.s)).setCell ⟨r,1,none⟩ (.slice A l c)).setCell ⟨r,2,none⟩ (.int .i64 x.e)):=(((C.trans q).setCell (p:=⟨r,0,none⟩) (Or.inr j) _).setCell (p:=⟨r,1,none⟩) (Or.inr j) _).setCell (p:=⟨r,2,none⟩) (Or.inr j) _
 generalize ((b.setCell ⟨r,0,none⟩ (.bool x.s)).setCell ⟨r,1,none⟩ (.slice A l c)).setCell ⟨r,2,none⟩ (.int .i64 x.e)=W at *
 exact bodyPost_ret (v:=shNb x (A,l,c)) (by simp[results,d,B,h,go_sem,F,G,H,shNb]) rfl ⟨(A,l,c),rfl,n,o⟩
theorem ZbO {a b:Nat}(h:a<64*b):wl (2^a)≤b:=kK.2 (by rw[show W64=2^64 by rw[zN],← qI];exact Nat.pow_lt_pow_right qD h)
theorem Zey (s:Bool)(A:qA)(l c n:Nat)(B:qA)(m d k:Nat)(e:Int)(bits:Nat)(w:World)(hg:Glob w)(hN:zF w (.slice A l c) n)(hK:zF w (.slice B m d) k)(h0:wl n≤1000000)(i0:wl k≤1000000)(D:0<k)(j0 : -288230376151711744≤e)(k0:e≤288230376151711744)(P:0<bits)(hb:bits≤1000000) :
 Ζ 82 #[.bool s,.slice A l c,.slice B m d,.int .i64 e,.int .i64 ((bits:Nat):Int)] w (wE w (wX s n k e bits)):=by
 have l0:=dA n
 have m0:=dA k
 obtain⟨a1,E⟩:∃ a,a=(rk0 n k bits-1).toNat:=⟨_,rfl⟩
 obtain⟨a2,j⟩:∃ a,a=(-(rk0 n k bits-1)).toNat:=⟨_,rfl⟩
 obtain⟨b,Q⟩:∃ x:Int,x=(bits:Int)+1+(blen k:Nat)-(blen n:Nat):=⟨_,rfl⟩
 have f:rk0 n k bits-1 = -b:=by unfold rk0;omega
 rw[f] at E j
 rw[Int.neg_neg] at j
 have n0 : -100000000≤b:=qO
 have o0:b≤100000000:=qO
 have F:fa n (rk0 n k bits-1)=n*2^a2:=by unfold fa;rw[f,Int.neg_neg,← j]
 have G:fb k (rk0 n k bits-1)=k*2^a1:=by unfold fb;rw[f,← E]
 have p0:wl (n*2^a2)≤4000000:=by
  refine uA (ZaW _ _) ?_
  have:wl (2^a2)≤2000001:=ZbO qO
  omega
 have q0:wl (k*2^a1)≤4000000:=by
  refine uA (ZaW _ _) ?_
  have:wl (2^a1)≤2000001:=ZbO qO
  omega
 have r0:(if (0:Int)>b then (0:Int) else b)=(a2:Int):=by split<;>omega
 have s0:(if (0:Int) > -b then (0:Int) else -b)=(a1:Int):=by split<;>omega
 have HG:=zh hg
 have HN:=zh hN
 have HK:=zh hK
 clear hg hN hK
 obtain⟨x,R⟩:=yE (wX s n k e bits)
 rw[R]
 have HX:=zh R
 clear R
 go_enter func82,ntmps82
 go_wp2_with fail
 refine (jG (HK.out.ext ((Fr.refl _ _).alloc _)) qO).mono ?_
 rintro H w1 ⟨rfl,o⟩
 have I:Hid (Ext w w1):=((Fr.refl _ _).alloc _).trans o
 have S:Hid (Blk 99 w1 w.heap.size #[.bool false,Ξ,.int .i64 0]):=(show Blk 99 (w.alloc (.cells #[.bool false,Ξ,.int .i64 0] 99)) w.heap.size #[.bool false,Ξ,.int .i64 0] from heap_alloc_new w _).ext o
 clear o
 go_wp2_with fail
 refine (jG (HN.out.ext I.out) qO).mono ?_
 rintro H w2 ⟨rfl,p⟩
 have J:=zh (I.out.trans p)
 have T:=zh (S.out.ext p)
 clear p
 go_wp2_with fail
 rw[show max ((bits:Int)+1+(blen k:Nat)-(blen n:Nat)) 0=(a2:Int) by omega]
 refine (jZ a2 (HN.out.ext J.out) qO qO).mono ?_
 rintro H w3 ⟨v3,rfl,q,r⟩
 obtain⟨A3,l3,c3,rfl⟩:=q.slice
 have K:=zh (J.out.trans r)
 have U:=zh (T.out.ext r)
 have V:=zh q
 clear q r
 go_wp2_with fail
 rw[show max (-((bits:Int)+1+(blen k:Nat)-(blen n:Nat))) 0=(a1:Int) by omega]
 refine (jZ a1 (HK.out.ext K.out) qO qO).mono ?_
 rintro H w4 ⟨v4,rfl,t,g⟩
 obtain⟨A4,l4,c4,rfl⟩:=t.slice
 have W:=zh (K.out.trans g)
 have X:=zh (U.out.ext g)
 have L:=zh (V.out.ext g)
 have Y:=zh t
 clear t g
 go_wp2_with fail
 refine (Ziv L.out Y.out qO qO (sK D (p2 a1))).mono ?_
 rintro H Z ⟨v5,v6,rfl,u,v,y⟩
 obtain⟨A5,l5,c5,rfl⟩:=u.slice
 obtain⟨A6,O,c6,rfl⟩:=v.slice
 have M:=zh (W.out.trans y)
 have a0:=zh (X.out.ext y)
 have b0:=zh u
 have c0:=zh v
 clear u v y
 go_wp2_with fail
 have i:Zdq (Z.alloc (.cells #[.slice A6 O c6] 97)) Z.heap.size (.slice A6 O c6):=⟨qS,by rw[Lib.cell_of_heap (heap_alloc_new Z _)];rfl⟩
 have d0:wl (n*2^a2/(k*2^a1))≤4294967296:=uA (lC (vJ _ _)) qO
 refine (Znp s A5 l5 c5 _ _ bits _ A6 O c6 _ (HG.out.ext (M.out.alloc _)) (b0.out.ext ((Fr.refl _ _).alloc _)) d0 qO qO qO i).mono ?_
 rintro H w6 ⟨⟨A7,l7,c7⟩,rfl,z,C⟩
 have hr:lJ s (n*2^a2/(k*2^a1)) (e-((bits:Int)+1+(blen k:Nat)-(blen n:Nat))) bits (decide (0<O))=x:=by
  rw[←HX.out,← Q]
  rcases uJ n with rfl|hn
  ·rw[sD,Nat.zero_div,Zft,jJ]
  have h:=Zlc s (n:=n) (d:=k) e (bits:=bits) hn D P
  have hq:fq n k (rk0 n k bits-1)=n*2^a2/(k*2^a1):=by unfold fq;rw[F,G]
  rw[hq,F,G,f] at h
  rw[←h,show e + -b=e-b by omega]
  congr 1
  have e0:=c0.out.len0
  exact oD.2 (by rw[e0];have:=@lR (n*2^a2%(k*2^a1));omega)
 rw[hr] at z
 rw[hr]
 clear hr
 have f0:=zh z
 have g0:Hid (Ext w w6):=(M.out.alloc _).trans C
 have N:=zh ((a0.out.ext ((Fr.refl _ _).alloc _)).ext C)
 obtain⟨z0,z1,z2,z3,z4,z5⟩:=N.out.cell3n
 clear z C i
 simp only[shNb]
 go_wp2
 exact Zt7 rfl rfl rfl (uF _) g0.out N.out (Fr.refl _ _) f0.out
theorem ZhO {a b:Int}:(if b<a then b else a)=min a b:=qO
def Zch (s:Bool) (m n:Nat) (e:Int) (bits:Nat):FR:=if n=0 then ⟨false,0,0,5⟩ else wX s m n e bits
def sumR (sx:Bool) (xm:Nat) (xe:Int) (sy:Bool) (ym:Nat) (ye:Int) (bits:Nat):FR :=
 if xm=0 then wX sy ym 1 ye bits else if ym=0 then wX sx xm 1 xe bits else addR sx xm xe sy ym ye bits
theorem Zci {n a:Nat}(c:wl n≤1000000)(ha:a≤100000000):wl (n*2^a)≤4000000:=by
 have:=ZaW n (2^a)
 have:wl (2^a)≤2000001:=ZbO qO
 omega
section
variable {s t:Bool} {a b bits:Nat} {low:Int}
theorem Ziw (ha:0<a)(h:s=t):wX (decide (sg s a+sg t b<0)) (sg s a+sg t b).natAbs 1 low bits=wX s (a+b) 1 low bits:=by
 subst h
 have c:decide (sg s a+sg s b<0)=s:=by cases s<;>simp[sg]<;>omega
 have d:(sg s a+sg s b).natAbs=a+b:=by cases s<;>simp[sg]<;>omega
 rw[c,d]
theorem ZgT (h:¬ s=t)(f:b≤a):wX (decide (sg s a+sg t b<0)) (sg s a+sg t b).natAbs 1 low bits=wX s (a-b) 1 low bits:=by
 have c:(sg s a+sg t b).natAbs=a-b:=by cases s<;>cases t<;>simp[sg] at h ⊢<;>omega
 rw[c]
 by_cases e:a-b=0
 ·rw[e,jJ,jJ]
 have d:decide (sg s a+sg t b<0)=s:=by cases s<;>cases t<;>simp[sg] at h ⊢<;>omega
 rw[d]
theorem Zfw (h:¬ s=t)(e:a<b):wX (decide (sg s a+sg t b<0)) (sg s a+sg t b).natAbs 1 low bits=wX t (b-a) 1 low bits:=by
 have c:(sg s a+sg t b).natAbs=b-a:=by cases s<;>cases t<;>simp[sg] at h ⊢<;>omega
 rw[c]
 have d:decide (sg s a+sg t b<0)=t:=by cases s<;>cases t<;>simp[sg] at h ⊢<;>omega
 rw[d]
end
theorem ZjZ {sx:Bool}{c:Nat}{xe:Int}{d:Bool}{ym:Nat}{e:Int}{bits u1 u2:Nat}{low:Int}(f:min xe e=low)(g:xe-low=u1)(h:e-low=u2) :
 addR sx c xe d ym e bits=wX (decide (sg sx (c*2^u1)+sg d (ym*2^u2)<0)) (sg sx (c*2^u1)+sg d (ym*2^u2)).natAbs 1 low bits:=by
 unfold addR
 rw[f,g,h]
 rfl
theorem Zbs {a b:Nat}:cmpI a b≥0↔b≤a:=by
 have:=@eB a b
 omega
theorem Zcj (s:Bool)(A:qA)(l c x:Nat)(e:Int)(w:World)(f:zF w (.slice A l c) x)(d:wl x≤4294967296)(g : -1152921504606846976≤e)(h:e≤1152921504606846976) :
 Ζ 153 #[yV s A l c e] w (RetV w (.int .i64 (((blen x:Nat):Int)+e))):=by
 refine zU (Φ:=fun w=>zF w (.slice A l c) (x)) func153 rfl qK (fun w' i=>f.ext i) ?_
 refine zC ?_
 have j:=ZgS d
 refine zB (xq 2 [Δ 1,yJ 2 0] [yF 1 99 s A l c e] ?_)
 refine yZ (zC ?_)
 refine yO 7 zM ?_
 refine xqg 2 [eS1 4 A l c] ?_
 refine xqd 90 [.slice A l c] 5 (fun _:Unit=>yI (blen x:Nat)) _ (fun w R Q=>yN (jG Q d)) fun k=>?_
 refine xqg 3 [yJ 8 (IntKind.i64.wrap (((blen x:Nat):Int)+e))] ?_
 rw[yW (((blen x:Nat):Int)+e) (((blen x:Nat):Int)+e) qO]
 refine xqg 1 [yJ 2 (((blen x:Nat):Int)+e)] ?_
 refine xz (yZ (zH ?_))
 refine yR (yI (((blen x:Nat):Int)+e)) fun w' R Q=>?_
 exact⟨rfl,R⟩
theorem ZoX (s:Bool)(A:qA)(l c x:Nat)(e:Int)(t:Bool)(B:qA)(m d y:Nat)(f:Int)(bits:Nat)(C:0<bits)(W:bits≤4096)(w:World)(J:Glob w)(H:zF w (.slice A l c) x)(K:wl x≤100000)(L : -1073741824≤e)(M:e≤1073741824)(I:zF w (.slice B m d) y)(N:wl y≤100000)(O : -1073741824≤f)(P:f≤1073741824) :
 Ζ 89 #[yV s A l c e, yV t B m d f,.int .i64 ((bits:Nat):Int)] w (wE w (wX (s != t) (x*y) 1 (e+f) bits)):=by
 refine zU (Φ:=fun w=>((Glob w∧zF w (.slice A l c) (x))∧zF w (.slice B m d) (y))) func89 rfl qK (fun w' D=>⟨⟨J.ext D,H.ext D⟩,I.ext D⟩) ?_
 refine zC ?_
 have S:=H.len0
 have T:=I.len0
 have U:=@lR x
 have V:=@lR y
 refine zB (xq 4 [Δ 3,Δ 4,Δ 6,yJ 7 0] [yF 6 99 false none 0 0 0,yF 4 99 t B m d f,yF 3 99 s A l c e] ?_)
 refine yZ (zC (yY (xq 5 [yB 12 (((l:Int):Int) == 0)] [] ?_)))
 rcases bl2 ((((l:Int):Int) == 0)) with h|h
 ·rw[h]
  have q:=sZ.1 h
  have u:x=0:=qO
  refine xq 5 [yB 17 true] [] ?_
  refine yZ (xa (yY (xq 3 [yJ 7 0] [] ?_)))
  refine yZ (zH (zL ?_))
  refine yR (.tuple #[yV false none 0 0 0, yI 0]) fun w' R Q=>?_
  rw[u,sD,jJ]
  exact⟨(none,0,0),rfl,zF.zero _,R⟩
 rw[h]
 have q:=lQ h
 have u:¬ x=0:=qO
 refine xq 5 [yB 17 (((m:Int):Int) == 0)] [] ?_
 refine xe (zA ?_)
 refine yQ ((((m:Int):Int) == 0)) (fun i=>?_) fun i=>?_
 ·have r:=sZ.1 i
  have z:y=0:=qO
  refine yY (xq 3 [yJ 7 0] [] ?_)
  refine yZ (zH (zL ?_))
  refine yR (.tuple #[yV false none 0 0 0, yI 0]) fun w' R Q=>?_
  rw[z,tX,jJ]
  exact⟨(none,0,0),rfl,zF.zero _,R⟩
 have r:=lQ i
 have z:¬ y=0:=qO
 refine zJ (zA (zC ?_))
 refine yO 19 zM ?_
 refine xqg 9 [yB 23 (s != t),eS1 25 A l c,eS1 27 B m d] ?_
 refine xqd 95 [.slice A l c,.slice B m d] 28 xI _ (fun w R Q=>yM xG (Zdo Q.1.2 Q.2 qO qO)) fun⟨E,F,G⟩=>?_
 refine xqg 5 [yJ 33 (IntKind.i64.wrap (e+f))] ?_
 rw[yW (e+f) (e+f) qO]
 refine xqg 1 [yJ 34 bits] ?_
 obtain⟨g,o⟩:=yE (lJ ((s != t)) (x*y) ((e+f)) bits false)
 refine xqd 93 [.bool (s != t),.slice E F G, yI (e+f), yI bits,.func (.func 122) #[] #[]] 35 (shNb g) _ (fun w R Q=>yM wG ((show Calls _ _ _ _ (wE w g) by rw[←o];exact gR ((s != t)) _ _ _ _ ((e+f)) _ _ Q.1.1.1 Q.2 (by have:=ZaW x y;omega) qO qO qO))) fun⟨j,k,n⟩=>?_
 refine xqg 2 [(36,.v (yV g.s j k n g.e)),yJ 37 g.err] ?_
 refine xz (xq 2 [yJ 7 g.err] [yF 6 99 g.s j k n g.e] ?_)
 refine yZ (zH ?_)
 refine yR (.tuple #[yV g.s j k n g.e, yI g.err]) fun w' R Q=>?_
 rw[←jF _ _ _ C,o]
 exact⟨(j,k,n),rfl,Q.2,R⟩
theorem ZoY (s:Bool)(A:qA)(l c x:Nat)(e:Int)(t:Bool)(B:qA)(m d y:Nat)(f:Int)(bits:Nat)(r:0<bits)(N:bits≤4096)(w:World)(C:Glob w)(v:zF w (.slice A l c) x)(D:wl x≤100000)(E : -1073741824≤e)(F:e≤1073741824)(z:zF w (.slice B m d) y)(G:wl y≤100000)(H : -1073741824≤f)(I:f≤1073741824) :
 Ζ 65 #[yV s A l c e, yV t B m d f,.int .i64 ((bits:Nat):Int)] w (wE w (Zch (s != t) x y (e-f) bits)):=by
 refine zU (Φ:=fun w=>((Glob w∧zF w (.slice A l c) (x))∧zF w (.slice B m d) (y))) func65 rfl qK (fun w' u=>⟨⟨C.ext u,v.ext u⟩,z.ext u⟩) ?_
 refine zC ?_
 have J:=v.len0
 have K:=z.len0
 have L:=@lR x
 have M:=@lR y
 refine zB (xq 4 [Δ 3,Δ 4,Δ 6,yJ 7 0] [yF 6 99 false none 0 0 0,yF 4 99 t B m d f,yF 3 99 s A l c e] ?_)
 refine yZ (zC (yY (xq 4 [yB 11 (((m:Int):Int) == 0)] [] ?_)))
 refine xe (zA ?_)
 refine yQ ((((m:Int):Int) == 0)) (fun h=>?_) fun h=>?_
 ·have j:=sZ.1 h
  have k:y=0:=qO
  refine yY (xq 3 [yJ 7 5] [] ?_)
  refine yZ (zH (zL ?_))
  refine yR (.tuple #[yV false none 0 0 0, yI 5]) fun w' R Q=>?_
  rw[show Zch (s != t) x y (e-f) bits=⟨false,0,0,5⟩ from uM k]
  exact⟨(none,0,0),rfl,zF.zero _,R⟩
 have j:=lQ h
 have k:¬ y=0:=qO
 refine zJ (zA (yY (xq 14 [yB 17 (s != t),eS1 19 A l c,eS1 21 B m d,yJ 26 (IntKind.i64.wrap (e-f))] [] ?_)))
 rw[yW (e-f) (e-f) qO]
 refine xq 1 [yJ 27 bits] [] ?_
 obtain⟨g,i⟩:=yE (wX (s != t) x y ((e-f)) bits)
 refine xqc 82 [.bool (s != t),.slice A l c,.slice B m d, yI (e-f), yI bits] 28 (shNb g) _ (fun w R Q=>yM wG ((show Calls _ _ _ _ (wE w g) by rw[←i];exact Zey (s != t) _ _ _ x _ _ _ y _ bits _ Q.1.1 Q.1.2 Q.2 qO qO qO qO qO r qO))) fun⟨n,o,q⟩=>?_
 refine xq 4 [yJ 7 g.err] [yF 6 99 g.s n o q g.e] ?_
 refine yZ (zH ?_)
 refine yR (.tuple #[yV g.s n o q g.e, yI g.err]) fun w' R Q=>?_
 rw[show Zch (s != t) x y (e-f) bits=wX (s != t) x y (e-f) bits from uI k,i]
 exact⟨(n,o,q),rfl,Q.2,R⟩
theorem Zix (s:Bool)(A:qA)(l c x:Nat)(e:Int)(t:Bool)(B:qA)(m d y:Nat)(f:Int)(bits:Nat)(H:0<bits)(hb:bits≤4096)(w:World)(hg:Glob w)(hX:zF w (.slice A l c) x)(E1:wl x≤100000)(F1 : -1073741824≤e)(G1:e≤1073741824)(hY:zF w (.slice B m d) y)(H1:wl y≤100000)(I1 : -1073741824≤f)(J1:f≤1073741824) :
 Ζ 120 #[yV s A l c e, yV t B m d f,.int .i64 ((bits:Nat):Int)] w (wE w (sumR s x e t y f bits)):=by
 refine zU (Φ:=fun w=>((Glob w∧zF w (.slice A l c) (x))∧zF w (.slice B m d) (y))) func120 rfl qK (fun w' hf=>⟨⟨hg.ext hf,hX.ext hf⟩,hY.ext hf⟩) ?_
 refine zC ?_
 have K1:=hX.len0
 have L1:=hY.len0
 have M1:=@lR x
 have N1:=@lR y
 have O1:=dA x
 have R1:=dA y
 refine zB (xq 4 [Δ 3,Δ 4,Δ 6,yJ 7 0] [yF 6 99 false none 0 0 0,yF 4 99 t B m d f,yF 3 99 s A l c e] ?_)
 refine yZ (zC (yY (xq 4 [yB 15 (((l:Int):Int) == 0)] [] ?_)))
 refine xe (zA ?_)
 refine yQ ((((l:Int):Int) == 0)) (fun b0=>?_) fun b0=>?_
 ·have N0:=sZ.1 b0
  have O0:x=0:=qO
  refine zB (xq 4 [] [yF 4 99 s A l c e,yF 3 99 t B m d f] ?_)
  refine yZ (zC (yY (xq 4 [yB 21 (((l:Int):Int) == 0)] [] ?_)))
  rw[b0]
  refine yZ (xa (yY (xq 7 [yB 23 t,eS1 25 B m d,yJ 27 f,yJ 28 bits] [] ?_)))
  obtain⟨X,E0⟩:=yE (lJ t (y) (f) bits false)
  refine xqc 93 [.bool t,.slice B m d, yI f, yI bits,.func (.func 122) #[] #[]] 29 (shNb X) _ (fun w R Q=>yM wG ((show Calls _ _ _ _ (wE w X) by rw[←E0];exact gR t _ _ _ _ f _ _ Q.1.1 Q.2 qO qO qO qO))) fun⟨P0,Q0,R0⟩=>?_
  refine xq 4 [yJ 7 X.err] [yF 6 99 X.s P0 Q0 R0 X.e] ?_
  refine yZ (zH (zL ?_))
  refine yR (.tuple #[yV X.s P0 Q0 R0 X.e, yI X.err]) fun w' R Q=>?_
  rw[show sumR s x e t y f bits=wX t y 1 f bits from uM O0,← jF _ _ _ H,E0]
  exact⟨(P0,Q0,R0),rfl,Q.2,R⟩
 have N0:=lQ b0
 have O0:¬ x=0:=qO
 refine zJ (zA (zC (yY (xq 4 [yB 21 (((m:Int):Int) == 0)] [] ?_))))
 refine xe (zA ?_)
 refine yQ ((((m:Int):Int) == 0)) (fun e0=>?_) fun e0=>?_
 ·have S0:=sZ.1 e0
  have g1:y=0:=qO
  refine yY (xq 7 [yB 23 s,eS1 25 A l c,yJ 27 e,yJ 28 bits] [] ?_)
  obtain⟨Y,F0⟩:=yE (lJ s (x) (e) bits false)
  refine xqc 93 [.bool s,.slice A l c, yI e, yI bits,.func (.func 122) #[] #[]] 29 (shNb Y) _ (fun w R Q=>yM wG ((show Calls _ _ _ _ (wE w Y) by rw[←F0];exact gR s _ _ _ _ e _ _ Q.1.1 Q.1.2 qO qO qO qO))) fun⟨T0,U0,V0⟩=>?_
  refine xq 4 [yJ 7 Y.err] [yF 6 99 Y.s T0 U0 V0 Y.e] ?_
  refine yZ (zH (zL ?_))
  refine yR (.tuple #[yV Y.s T0 U0 V0 Y.e, yI Y.err]) fun w' R Q=>?_
  rw[show sumR s x e t y f bits=wX s x 1 e bits by unfold sumR;rw[uI O0,uM g1],← jF _ _ _ H,F0]
  exact⟨(T0,U0,V0),rfl,Q.2,R⟩
 have S0:=lQ e0
 have g1:¬ y=0:=qO
 refine zJ (zA ?_)
 refine ZcS (fun ss ff=>∃ (j:Bool) (P1:Option Addr) (pl pc p:Nat) (i:Int) (o:Bool) (Q1:Option Addr) (ql qc q:Nat) (k:Int),ss=ofL [yJ 2 bits,Δ 3,Δ 4,Δ 6,yJ 7 0] [yF 6 99 false none 0 0 0,yF 3 99 j P1 pl pc i,yF 4 99 o Q1 ql qc k]∧ff=(fun w=>((Glob w∧zF w (.slice P1 pl pc) (p))∧zF w (.slice Q1 ql qc) (q)))∧(0<p)∧(0<q)∧(wl p≤100000)∧(wl q≤100000)∧(-1073741824≤i)∧(i≤1073741824)∧(-1073741824≤k)∧(k≤1073741824)∧(((blen q:Nat):Int)+k≤((blen p:Nat):Int)+i)∧(addR s x e t y f bits=addR j p i o q k bits)) ?_ ?_
 ·refine zC ?_
  refine yO 5 zM ?_
  refine xqg 1 [(32,.v (yV s A l c e))] ?_
  refine xqd 153 [yV s A l c e] 33 (fun _:Unit=>yI (((blen x:Nat):Int)+e)) _ (fun w R Q=>yN (Zcj _ _ _ _ _ _ _ Q.1.2 qO qO qO)) fun xx=>?_
  refine xqg 1 [(34,.v (yV t B m d f))] ?_
  refine xqd 153 [yV t B m d f] 35 (fun _:Unit=>yI (((blen y:Nat):Int)+f)) _ (fun w R Q=>yN (Zcj _ _ _ _ _ _ _ Q.1.2 qO qO qO)) fun xx=>?_
  refine xqg 1 [(36,.v (.bool (decide ((((blen x:Nat):Int)+e)<(((blen y:Nat):Int)+f)))))] ?_
  refine xz (xe (zA ?_))
  refine yQ ((decide ((((blen x:Nat):Int)+e)<(((blen y:Nat):Int)+f)))) (fun f0=>?_) fun f0=>?_
  ·have W0:=uC f0
   refine zB (xq 4 [] [yF 4 99 s A l c e,yF 3 99 t B m d f] ?_)
   refine xe ?_
   exact jB ⟨t,B,m,d,y,f,s,A,l,c,x,e,rfl,rfl,qO,qO,qO,qO,qO,qO,qO,qO,qO,(ZoI _ _ _ _ _ _ _)⟩ (fun w Q=>⟨⟨Q.1.1.1.1,Q.1.1.2⟩,Q.1.1.1.2⟩)
  have W0:=uD f0
  refine zJ ?_
  exact jB ⟨s,A,l,c,x,e,t,B,m,d,y,f,rfl,rfl,qO,qO,qO,qO,qO,qO,qO,qO,qO,rfl⟩ (fun w Q=>⟨⟨Q.1.1.1.1,Q.1.1.1.2⟩,Q.1.1.2⟩)
 rintro ss ff ⟨j,P1,pl,pc,p,i,o,Q1,ql,qc,q,k,rfl,rfl,l0,h1,S1,T1,U1,V1,W1,X1,D1,G0⟩
 refine zC (zC ?_)
 have Y1:=dA p
 have Z1:=dA q
 have a2:=gK l0
 have b2:=gK h1
 obtain⟨z,hz⟩:=yE (min i (((blen p:Nat):Int)+i-(bits:Int)-2))
 refine yO 9 zM ?_
 refine xqg 3 [yJ 40 i,(41,.v (yV j P1 pl pc i))] ?_
 refine xqd 153 [yV j P1 pl pc i] 42 (fun _:Unit=>yI (((blen p:Nat):Int)+i)) _ (fun w R Q=>yN (Zcj _ _ _ _ _ _ _ Q.1.2 qO qO qO)) fun xx=>?_
 refine xqg 2 [(44,.v (yI (IntKind.i64.wrap ((((blen p:Nat):Int)+i)-(bits:Int)))))] ?_
 rw[yW (((blen p:Nat):Int)+i-(bits:Int)) (((blen p:Nat):Int)+i-(bits:Int)) qO]
 refine xqg 1 [(45,.v (yI (IntKind.i64.wrap ((((blen p:Nat):Int)+i-(bits:Int))-2))))] ?_
 rw[yW (((blen p:Nat):Int)+i-(bits:Int)-2) (((blen p:Nat):Int)+i-(bits:Int)-2) qO]
 refine xqg 1 [yJ 46 (if (((blen p:Nat):Int)+i-(bits:Int)-2)<i then (((blen p:Nat):Int)+i-(bits:Int)-2) else i)] ?_
 rw[(show (if ((blen p:Nat):Int)+i-(bits:Int)-2<i then ((blen p:Nat):Int)+i-(bits:Int)-2 else i)=z from ZhO.trans hz)]
 refine xqg 1 [yJ 8 z] ?_
 refine xz (yZ (yY (xq 1 [(47,.v (yV o Q1 ql qc k))] [] ?_)))
 refine xqc 153 [yV o Q1 ql qc k] 48 (fun _:Unit=>yI (((blen q:Nat):Int)+k)) _ (fun w R Q=>yN (Zcj _ _ _ _ _ _ _ Q.1.2 qO qO qO)) fun xx=>?_
 refine xq 2 [(50,.v (.bool (decide ((((blen q:Nat):Int)+k)≤z))))] [] ?_
 refine xe (zA ?_)
 refine yQ ((decide ((((blen q:Nat):Int)+k)≤z))) (fun g0=>?_) fun g0=>?_
 ·have X0:=uC g0
  refine zB (xq 2 [yB 52 o] [] ?_)
  refine yD (d:=53) (fun zb:Nat=>Υ zb 1) (fun zb zw=>Blk 84 zw zb #[yX 1]) (fun w R Q=>kJ (t:=97) (e:=84) (n:=1) (sz:=1) (z:=yX 0) (parts:=#[(0,Operand.const (Value.int IntKind.u64 1))]) qK qK qK qK qK qK) fun h0=>?_
  refine xr 2 [yJ 2 bits,Δ 3,Δ 4,Δ 6,yJ 7 0,yB 52 o,eS1 53 (yL h0) 1 1,yJ 55 (IntKind.i64.wrap (z-1))] [yF 6 99 false none 0 0 0,yF 3 99 j P1 pl pc i,yF 4 99 o Q1 ql qc k] ?_
  rw[yW (z-1) (z-1) qO]
  refine xq 2 [] [yF 4 99 o (yL h0) 1 1 (z-1)] ?_
  refine yZ (zC ?_)
  obtain⟨g,Z⟩:=yE (min i (z-1))
  obtain⟨u1,Y0⟩:∃ u:Nat,i-g=u:=uS qO
  obtain⟨u2,Z0⟩:∃ u:Nat,(z-1)-g=u:=uS qO
  have hS:addR s x e t y f bits=addR j p i o 1 (z-1) bits:=G0.trans (Znh _ _ _ _ H l0 h1 qO qO qO)
  rw[ZjZ Z Y0 Z0] at hS
  have a1:u1≤100000000:=qO
  have b1:u2≤100000000:=qO
  have i1 : -4294967296≤g:=qO
  have j1:g≤4294967296:=qO
  obtain⟨a,ha⟩:=yE (p*2^u1)
  obtain⟨b,a0⟩:=yE (1*2^u2)
  have c1:wl a≤4000000:=by rw[←ha];exact Zci qO a1
  have d1:wl b≤4000000:=by rw[←a0];exact Zci (uA (aU.2 (by rw[zN];decide)) qD) b1
  have e1:0<a:=by rw[←ha];exact sK l0 (p2 u1)
  rw[ha,a0] at hS
  refine zB (xq 5 [yJ 61 (if (z-1)<i then (z-1) else i)] [] ?_)
  rw[(show (if (z-1)<i then (z-1) else i)=g from ZhO.trans Z)]
  refine xq 1 [yJ 9 g] [] ?_
  refine yZ (zC ?_)
  refine SXc.weak [yJ 2 bits,Δ 3,Δ 4,Δ 6,yJ 7 0,yJ 9 g] [yF 4 99 o (yL h0) 1 1 (z-1),yF 6 99 false none 0 0 0,yF 3 99 j P1 pl pc i] (iN.of qK) qK (fun _ h=>h) ?_
  refine yO 16 zM ?_
  refine xqg 6 [eS1 63 P1 pl pc,yJ 67 (IntKind.i64.wrap (i-g))] ?_
  rw[yW (i-g) ((u1:Int)) qO]
  refine xqd 70 [.slice P1 pl pc, yI u1] 68 xI _ (fun w R Q=>(jZ u1 Q.1.1.1.1.2 qO qO).mono (fun _ _ h=>xG (by rw[ha] at h;exact h))) fun⟨I,J,K⟩=>?_
  refine xqg 6 [eS1 70 (yL h0) 1 1,yJ 74 (IntKind.i64.wrap ((z-1)-g))] ?_
  rw[yW ((z-1)-g) ((u2:Int)) qO]
  refine xqd 70 [Υ h0 1, yI u2] 75 xI _ (fun w R Q=>(jZ u2 (fP Q.1.2) wl_1 qO).mono (fun _ _ h=>xG (by rw[a0] at h;exact h))) fun⟨L,M,N⟩=>?_
  refine xqg 2 [eS1 10 I J K,eS1 11 L M N] ?_
  refine xz (yZ (zC (zQ (yY (xq 6 [yB 76 (j == o)] [] ?_)))))
  refine xe (zA ?_)
  refine yQ ((j == o)) (fun c0=>?_) fun c0=>?_
  ·have O:j=o:=eq_of_beq c0
   refine zC ?_
   refine yO 10 zM ?_
   refine xqg 4 [yB 83 j,eS1 84 I J K,eS1 85 L M N] ?_
   refine xqd 124 [.slice I J K,.slice L M N] 86 xI _ (fun w R Q=>yM xG (iE Q.1.2 Q.2 qO qO)) fun⟨k1,l1,m1⟩=>?_
   refine xqg 2 [yJ 87 g,yJ 88 bits] ?_
   obtain⟨r,H0⟩:=yE (lJ j (a+b) (g) bits false)
   refine xqd 93 [.bool j,.slice k1 l1 m1, yI g, yI bits,.func (.func 122) #[] #[]] 89 (shNb r) _ (fun w R Q=>yM wG ((show Calls _ _ _ _ (wE w r) by rw[←H0];exact gR j _ _ _ _ g _ _ Q.1.1.1.1.1.1.1.1 Q.2 (by have:=Zjg c1 d1;omega) qO qO qO))) fun⟨m0,n0,o0⟩=>?_
   refine xqg 2 [(90,.v (yV r.s m0 n0 o0 r.e)),yJ 91 r.err] ?_
   refine xz (xq 2 [yJ 7 r.err] [yF 6 99 r.s m0 n0 o0 r.e] ?_)
   refine yZ (zH (wY (zL ?_)))
   refine yR (.tuple #[yV r.s m0 n0 o0 r.e, yI r.err]) fun w' R Q=>?_
   rw[show sumR s x e t y f bits=addR s x e t y f bits by unfold sumR;rw[uI qO,uI qO],hS]
   rw[Ziw e1 O,← jF _ _ _ H,H0]
   exact⟨(m0,n0,o0),rfl,Q.2,R⟩
  have O:¬ j=o:=fun e'=>by rw[e'] at c0;simp at c0
  refine yY (xq 2 [eS1 93 I J K,eS1 94 L M N] [] ?_)
  refine xqc 96 [.slice I J K,.slice L M N] 95 (fun _:Unit=>yI (cmpI (a:Int) (b:Int))) _ (fun w R Q=>yN (eZ Q.1.2 Q.2 qO)) fun xx=>?_
  refine xq 2 [(92,.v (.bool (decide ((cmpI (a:Int) (b:Int))≥0))))] [] ?_
  refine xe (zA ?_)
  refine yQ ((decide ((cmpI (a:Int) (b:Int))≥0))) (fun i0=>?_) fun i0=>?_
  ·have j0:b≤a:=by have:=Zbs.1 (uC i0);omega
   refine zC ?_
   refine yO 10 zM ?_
   refine xqg 4 [yB 98 j,eS1 99 I J K,eS1 100 L M N] ?_
   refine xqd 154 [.slice I J K,.slice L M N] 101 xI _ (fun w R Q=>yM xG (Zbh Q.1.1.2 Q.1.2 qO j0)) fun⟨n1,o1,p1⟩=>?_
   refine xqg 2 [yJ 102 g,yJ 103 bits] ?_
   obtain⟨C,I0⟩:=yE (lJ j (a-b) (g) bits false)
   refine xqd 93 [.bool j,.slice n1 o1 p1, yI g, yI bits,.func (.func 122) #[] #[]] 104 (shNb C) _ (fun w R Q=>yM wG ((show Calls _ _ _ _ (wE w C) by rw[←I0];exact gR j _ _ _ _ g _ _ Q.1.1.1.1.1.1.1.1.1 Q.2 (uA (lC (Nat.sub_le _ _)) qO) qO qO qO))) fun⟨p0,q0,r0⟩=>?_
   refine xqg 2 [(105,.v (yV C.s p0 q0 r0 C.e)),yJ 106 C.err] ?_
   refine xz (xq 2 [yJ 7 C.err] [yF 6 99 C.s p0 q0 r0 C.e] ?_)
   refine yZ (zH (wY (zL ?_)))
   refine yR (.tuple #[yV C.s p0 q0 r0 C.e, yI C.err]) fun w' R Q=>?_
   rw[show sumR s x e t y f bits=addR s x e t y f bits by unfold sumR;rw[uI qO,uI qO],hS]
   rw[ZgT O j0,← jF _ _ _ H,I0]
   exact⟨(p0,q0,r0),rfl,Q.2,R⟩
  have f1:a<b:=by have:=mt Zbs.2 (uD i0);omega
  refine zJ (xR (zA (zC ?_)))
  refine yO 10 zM ?_
  refine xqg 4 [yB 108 o,eS1 109 L M N,eS1 110 I J K] ?_
  refine xqd 154 [.slice L M N,.slice I J K] 111 xI _ (fun w R Q=>yM xG (Zbh Q.1.2 Q.1.1.2 qO qO)) fun⟨q1,r1,s1⟩=>?_
  refine xqg 2 [yJ 112 g,yJ 113 bits] ?_
  obtain⟨D,J0⟩:=yE (lJ o (b-a) (g) bits false)
  refine xqd 93 [.bool o,.slice q1 r1 s1, yI g, yI bits,.func (.func 122) #[] #[]] 114 (shNb D) _ (fun w R Q=>yM wG ((show Calls _ _ _ _ (wE w D) by rw[←J0];exact gR o _ _ _ _ g _ _ Q.1.1.1.1.1.1.1.1.1 Q.2 (uA (lC (Nat.sub_le _ _)) qO) qO qO qO))) fun⟨s0,t0,u0⟩=>?_
  refine xqg 2 [(115,.v (yV D.s s0 t0 u0 D.e)),yJ 116 D.err] ?_
  refine xz (xq 2 [yJ 7 D.err] [yF 6 99 D.s s0 t0 u0 D.e] ?_)
  refine yZ (zH ?_)
  refine yR (.tuple #[yV D.s s0 t0 u0 D.e, yI D.err]) fun w' R Q=>?_
  rw[show sumR s x e t y f bits=addR s x e t y f bits by unfold sumR;rw[uI qO,uI qO],hS]
  rw[Zfw O f1,← jF _ _ _ H,J0]
  exact⟨(s0,t0,u0),rfl,Q.2,R⟩
 have X0:=uD g0
 refine zJ (zA (zC ?_))
 obtain⟨g,Z⟩:=yE (min i k)
 obtain⟨u1,Y0⟩:∃ u:Nat,i-g=u:=uS qO
 obtain⟨u2,Z0⟩:∃ u:Nat,k-g=u:=uS qO
 have hS:=G0
 rw[ZjZ Z Y0 Z0] at hS
 have a1:u1≤100000000:=qO
 have b1:u2≤100000000:=qO
 have i1 : -4294967296≤g:=qO
 have j1:g≤4294967296:=qO
 obtain⟨a,ha⟩:=yE (p*2^u1)
 obtain⟨b,a0⟩:=yE (q*2^u2)
 have c1:wl a≤4000000:=by rw[←ha];exact Zci qO a1
 have d1:wl b≤4000000:=by rw[←a0];exact Zci qO b1
 have e1:0<a:=by rw[←ha];exact sK l0 (p2 u1)
 rw[ha,a0] at hS
 refine zB (xq 5 [yJ 61 (if k<i then k else i)] [] ?_)
 rw[(show (if k<i then k else i)=g from ZhO.trans Z)]
 refine xq 1 [yJ 9 g] [] ?_
 refine yZ (zC ?_)
 refine SXc.weak [yJ 2 bits,Δ 3,Δ 4,Δ 6,yJ 7 0,yJ 9 g] [yF 6 99 false none 0 0 0,yF 3 99 j P1 pl pc i,yF 4 99 o Q1 ql qc k] (iN.of qK) qK (fun _ h=>h) ?_
 refine yO 16 zM ?_
 refine xqg 6 [eS1 63 P1 pl pc,yJ 67 (IntKind.i64.wrap (i-g))] ?_
 rw[yW (i-g) ((u1:Int)) qO]
 refine xqd 70 [.slice P1 pl pc, yI u1] 68 xI _ (fun w R Q=>(jZ u1 Q.1.1.1.2 qO qO).mono (fun _ _ h=>xG (by rw[ha] at h;exact h))) fun⟨P,S,T⟩=>?_
 refine xqg 6 [eS1 70 Q1 ql qc,yJ 74 (IntKind.i64.wrap (k-g))] ?_
 rw[yW (k-g) ((u2:Int)) qO]
 refine xqd 70 [.slice Q1 ql qc, yI u2] 75 xI _ (fun w R Q=>(jZ u2 Q.1.1.1.2 qO qO).mono (fun _ _ h=>xG (by rw[a0] at h;exact h))) fun⟨U,V,W⟩=>?_
 refine xqg 2 [eS1 10 P S T,eS1 11 U V W] ?_
 refine xz (yZ (zC (zQ (yY (xq 6 [yB 76 (j == o)] [] ?_)))))
 refine xe (zA ?_)
 refine yQ ((j == o)) (fun d0=>?_) fun d0=>?_
 ·have O:j=o:=eq_of_beq d0
  refine zC ?_
  refine yO 10 zM ?_
  refine xqg 4 [yB 83 j,eS1 84 P S T,eS1 85 U V W] ?_
  refine xqd 124 [.slice P S T,.slice U V W] 86 xI _ (fun w R Q=>yM xG (iE Q.1.2 Q.2 qO qO)) fun⟨t1,v1,w1⟩=>?_
  refine xqg 2 [yJ 87 g,yJ 88 bits] ?_
  obtain⟨E,K0⟩:=yE (lJ j (a+b) (g) bits false)
  refine xqd 93 [.bool j,.slice t1 v1 w1, yI g, yI bits,.func (.func 122) #[] #[]] 89 (shNb E) _ (fun w R Q=>yM wG ((show Calls _ _ _ _ (wE w E) by rw[←K0];exact gR j _ _ _ _ g _ _ Q.1.1.1.1.1.1.1 Q.2 (by have:=Zjg c1 d1;omega) qO qO qO))) fun⟨v0,w0,x0⟩=>?_
  refine xqg 2 [(90,.v (yV E.s v0 w0 x0 E.e)),yJ 91 E.err] ?_
  refine xz (xq 2 [yJ 7 E.err] [yF 6 99 E.s v0 w0 x0 E.e] ?_)
  refine yZ (zH (wY (zL ?_)))
  refine yR (.tuple #[yV E.s v0 w0 x0 E.e, yI E.err]) fun w' R Q=>?_
  rw[show sumR s x e t y f bits=addR s x e t y f bits by unfold sumR;rw[uI qO,uI qO],hS]
  rw[Ziw e1 O,← jF _ _ _ H,K0]
  exact⟨(v0,w0,x0),rfl,Q.2,R⟩
 have O:¬ j=o:=fun e'=>by rw[e'] at d0;simp at d0
 refine yY (xq 2 [eS1 93 P S T,eS1 94 U V W] [] ?_)
 refine xqc 96 [.slice P S T,.slice U V W] 95 (fun _:Unit=>yI (cmpI (a:Int) (b:Int))) _ (fun w R Q=>yN (eZ Q.1.2 Q.2 qO)) fun xx=>?_
 refine xq 2 [(92,.v (.bool (decide ((cmpI (a:Int) (b:Int))≥0))))] [] ?_
 refine xe (zA ?_)
 refine yQ ((decide ((cmpI (a:Int) (b:Int))≥0))) (fun k0=>?_) fun k0=>?_
 ·have j0:b≤a:=by have:=Zbs.1 (uC k0);omega
  refine zC ?_
  refine yO 10 zM ?_
  refine xqg 4 [yB 98 j,eS1 99 P S T,eS1 100 U V W] ?_
  refine xqd 154 [.slice P S T,.slice U V W] 101 xI _ (fun w R Q=>yM xG (Zbh Q.1.1.2 Q.1.2 qO j0)) fun⟨x1,y1,z1⟩=>?_
  refine xqg 2 [yJ 102 g,yJ 103 bits] ?_
  obtain⟨F,L0⟩:=yE (lJ j (a-b) (g) bits false)
  refine xqd 93 [.bool j,.slice x1 y1 z1, yI g, yI bits,.func (.func 122) #[] #[]] 104 (shNb F) _ (fun w R Q=>yM wG ((show Calls _ _ _ _ (wE w F) by rw[←L0];exact gR j _ _ _ _ g _ _ Q.1.1.1.1.1.1.1.1 Q.2 (uA (lC (Nat.sub_le _ _)) qO) qO qO qO))) fun⟨y0,z0,A0⟩=>?_
  refine xqg 2 [(105,.v (yV F.s y0 z0 A0 F.e)),yJ 106 F.err] ?_
  refine xz (xq 2 [yJ 7 F.err] [yF 6 99 F.s y0 z0 A0 F.e] ?_)
  refine yZ (zH (wY (zL ?_)))
  refine yR (.tuple #[yV F.s y0 z0 A0 F.e, yI F.err]) fun w' R Q=>?_
  rw[show sumR s x e t y f bits=addR s x e t y f bits by unfold sumR;rw[uI qO,uI qO],hS]
  rw[ZgT O j0,← jF _ _ _ H,L0]
  exact⟨(y0,z0,A0),rfl,Q.2,R⟩
 have f1:a<b:=by have:=mt Zbs.2 (uD k0);omega
 refine zJ (xR (zA (zC ?_)))
 refine yO 10 zM ?_
 refine xqg 4 [yB 108 o,eS1 109 U V W,eS1 110 P S T] ?_
 refine xqd 154 [.slice U V W,.slice P S T] 111 xI _ (fun w R Q=>yM xG (Zbh Q.1.2 Q.1.1.2 qO qO)) fun⟨A1,B1,C1⟩=>?_
 refine xqg 2 [yJ 112 g,yJ 113 bits] ?_
 obtain⟨G,M0⟩:=yE (lJ o (b-a) (g) bits false)
 refine xqd 93 [.bool o,.slice A1 B1 C1, yI g, yI bits,.func (.func 122) #[] #[]] 114 (shNb G) _ (fun w R Q=>yM wG ((show Calls _ _ _ _ (wE w G) by rw[←M0];exact gR o _ _ _ _ g _ _ Q.1.1.1.1.1.1.1.1 Q.2 (uA (lC (Nat.sub_le _ _)) qO) qO qO qO))) fun⟨B0,C0,D0⟩=>?_
 refine xqg 2 [(115,.v (yV G.s B0 C0 D0 G.e)),yJ 116 G.err] ?_
 refine xz (xq 2 [yJ 7 G.err] [yF 6 99 G.s B0 C0 D0 G.e] ?_)
 refine yZ (zH ?_)
 refine yR (.tuple #[yV G.s B0 C0 D0 G.e, yI G.err]) fun w' R Q=>?_
 rw[show sumR s x e t y f bits=addR s x e t y f bits by unfold sumR;rw[uI qO,uI qO],hS]
 rw[Zfw O f1,← jF _ _ _ H,M0]
 exact⟨(B0,C0,D0),rfl,Q.2,R⟩
theorem ZcX {x:Int}(h:0≤x):Lib.itoa x=Lib.decDigits x.natAbs:=by
 unfold Lib.itoa
 rw[uI qO]
 congr 1;omega
theorem Zdr {n:Nat}(h:10≤n):Lib.decDigits n=Lib.decDigits (n/10) ++ [UInt8.ofNat (48+n%10)]:=by
 rw[Lib.decDigits,dif_neg qO]
theorem dB {n:Nat}(h:n<10):Lib.decDigits n=[UInt8.ofNat (48+n)]:=Lib.decDigits_one h
theorem ZaP {n:Nat}(h:n<10):(UInt8.ofNat (48+n)).toNat=48+n:=by
 rw[UInt8.toNat_ofNat'];omega
theorem Zfx {n:Nat}(h:n<10):zX (UInt8.ofNat (48+n))=true:=by
 unfold zX;rw[ZaP h];simp;omega
theorem jO:∀ n,(Lib.decDigits n).all zX=true:=by
 intro n
 induction n using Nat.strongRecOn with
 | _ n ih =>
  rcases vO n 10 with h|h
  ·rw[dB h,rW,Zfx h];rfl
  rw[Zdr h,pH,ih (n/10) qO,rW,Zfx (uP n (by omega:0<10))];rfl
theorem gC:∀ n,zG (Lib.decDigits n)=n:=by
 intro n
 induction n using Nat.strongRecOn with
 | _ n ih =>
  rcases vO n 10 with h|h
  ·rw[dB h];simp only[zG,List.foldl_cons,List.foldl_nil];rw[ZaP h];omega
  rw[Zdr h,dZ,ih (n/10) qO,ZaP (uP n (by omega:0<10))];omega
theorem aE:∀ n,0<n→(Lib.decDigits n).head? ≠ some 48:=by
 intro n
 induction n using Nat.strongRecOn with
 | _ n ih =>
  intro b
  rcases vO n 10 with h|h
  ·rw[dB h]
   intro e
   simp only[List.head?_cons,Option.some.injEq] at e
   have:=vP UInt8.toNat e
   rw[ZaP h] at this
   simp at this;omega
  have a:=ih (n/10) qO qO
  rw[Zdr h,List.head?_append]
  cases hc:(Lib.decDigits (n/10)).head? with
  | none=>exact absurd (nY.1 hc) (lP _)
  | some c=>rw[hc] at a;exact a
theorem dV {p:UInt8→Bool}{l:List UInt8}(h:l.all p=true):l.takeWhile p=l∧l.dropWhile p=[]:=by
 induction l with
 | nil=>exact⟨rfl,rfl⟩
 | cons x xs ih =>
  simp only[rW,sA] at h
  obtain⟨a,b⟩:=ih h.2
  rw[nF,List.dropWhile_cons,h.1]
  simp[a,b]
theorem Znq {l:List UInt8}(h:l.all zX=true):zZ l=(false,l):=by
 unfold zZ
 rw[uI]
 intro e
 cases l with
 | nil=>cases e
 | cons x xs =>
  simp only[List.head?_cons,Option.some.injEq] at e
  subst e
  simp only[rW,sA] at h
  exact absurd h.1 qD
theorem ZoZ (n:Nat):lE (Lib.decDigits n)=(false,Lib.decDigits n,[],true):=by
 obtain⟨c,d⟩:=dV (jO n)
 unfold lE
 rw[Znq (jO n)]
 simp only[]
 rw[c,d]
 rcases uJ n with a|a
 ·subst a;rw[dB qO];rfl
 have b:Lib.decDigits n≠[48]:=fun e=>aE n a (by rw[e];rfl)
 rw[uI b,uI (fun e=>e.elim (lP n) (aE n a)),uM rfl]
theorem Zo0 {n:Nat}(h:0<n):lE ([45] ++ Lib.decDigits n)=(true,Lib.decDigits n,[],true):=by
 obtain⟨b,c⟩:=dV (jO n)
 unfold lE
 have e:zZ ([45] ++ Lib.decDigits n)=(true,Lib.decDigits n):=rfl
 rw[e]
 simp only[]
 rw[b,c]
 have a:Lib.decDigits n≠[48]:=fun e=>aE n h (by rw[e];rfl)
 rw[uI a,uI (fun e=>e.elim (lP n) (aE n h)),uM rfl]
theorem ZbP {z:Int}(h:z<0):Lib.itoa z=[45] ++ Lib.decDigits z.natAbs:=by
 unfold Lib.itoa
 rw[uM h]
 rfl
theorem Znr (z:Int):lE (Lib.itoa z)=(decide (z<0),Lib.decDigits z.natAbs,[],true):=by
 by_cases h:z<0
 ·rw[ZbP h,Zo0 qO,vQ h]
 rw[ZcX qO,ZoZ,uV h]
theorem Zo1 (z:Int):wA (Lib.itoa z)=some (z:Rat):=by
 unfold wA
 rw[Znr]
 simp only[]
 rw[uM trivial,gC]
 congr 2
 unfold sg
 split
 ·rename_i h;have:=uC h;omega
 rename_i h;have:¬ z<0:=fun k=>h (vQ k);omega
def xC (q:Rat):List UInt8:=if q.den=1 then Lib.itoa q.num else Lib.itoa q.num ++ [47] ++ Lib.itoa (q.den:Int)
theorem Zj0 {x y:Int}(c:0<y):(Rat.divInt x y).num=x.tdiv (Int.gcd x y:Int)∧((Rat.divInt x y).den:Int)=y.tdiv (Int.gcd x y:Int):=by
 have a:(Int.gcd x y:Int)∣x:=Int.gcd_dvd_left _ _
 have b:(Int.gcd x y:Int)∣y:=Int.gcd_dvd_right _ _
 rw[Rat.num_divInt,Rat.den_divInt,uI qO,oH c,Int.one_mul,Int.gcd_comm y x,Int.tdiv_eq_ediv_of_dvd a,Int.tdiv_eq_ediv_of_dvd b]
 refine⟨rfl,?_⟩
 rw[tR]
 congr 1
 omega
theorem Zez {x y:Int}(a:0<y)(h:((Int.gcd x y:Nat):Int)=1):(Rat.divInt x y).num=x∧((Rat.divInt x y).den:Int)=y:=by
 have:=Zj0 (x:=x) a
 rwa [h,Int.tdiv_one,Int.tdiv_one] at this
theorem ZgU {c:UInt8}(h:zX c=true):UInt8.ofNat (48+(c.toNat-48))=c:=by
 have:=cZ h
 apply UInt8.toNat.inj
 rw[UInt8.toNat_ofNat']
 have:=c.toNat_lt
 omega
theorem Zj1:∀ (k:Nat) (l:List UInt8),l.length=k→l.all zX=true→l≠[]→l.head? ≠ some 48→Lib.decDigits (zG l)=l:=by
 intro k
 induction k with
 | zero=>intro l d _ g;exact absurd (tI.1 d) g
 | succ k ih =>
  intro l d f g b
  obtain⟨l',c,rfl⟩:∃ l' c,l=l' ++ [c]:=by
   rcases List.eq_nil_or_concat l with h|⟨l',c,h⟩
   ·exact absurd h g
   exact⟨l',c,by simpa using h⟩
  rw[pH,sA] at f
  have i:zX c=true:=by simpa using f.2
  have m:=cZ i
  rw[dZ]
  by_cases a:l'=[]
  ·subst a
   have e:zG []=0:=rfl
   rw[e,tX,vZ,dB qO,ZgU i];rfl
  have j:l'.head? ≠ some 48:=by
   rw[List.head?_append] at b
   cases hx:l'.head? with
   | none=>exact absurd (nY.1 hx) a
   | some x=>rw[hx] at b;exact b
  have n:=ih l' (by simp at d;exact d) f.1 a j
  have o:=(Zdh f.1 a j).1
  rw[Zdr qO,show (10*zG l'+(c.toNat-48))/10=zG l' by omega,show (10*zG l'+(c.toNat-48))%10=c.toNat-48 by omega,n,ZgU i]
theorem Zle (n:Nat):(Lib.decDigits n).head? ≠ some 45:=by
 intro e
 cases h:Lib.decDigits n with
 | nil=>exact lP n h
 | cons x xs =>
  rw[h] at e
  simp only[List.head?_cons,Option.some.injEq] at e
  subst e
  have:=jO n
  rw[h] at this
  simp only[rW,sA] at this
  exact absurd this.1 qD
theorem Zau {p:UInt8→Bool}{l r:List UInt8}{c:UInt8}(h:l.all p=true)(a:p c=false):(l ++ c :: r).takeWhile p=l∧(l ++ c :: r).dropWhile p=c :: r:=by
 induction l with
 | nil=>simp[a]
 | cons x xs ih =>
  simp only[rW,sA] at h
  obtain⟨b,d⟩:=ih h.2
  rw[mG,nF,List.dropWhile_cons,h.1]
  simp[b,d]
theorem ZaQ (z:Int)(r:List UInt8):zZ (Lib.itoa z ++ r)=(decide (z<0),Lib.decDigits z.natAbs ++ r):=by
 by_cases h:z<0
 ·rw[ZbP h,vQ h]
  unfold zZ
  rw[uM qS]
  rfl
 rw[ZcX qO,uV h]
 unfold zZ
 rw[uI]
 intro e
 rw[List.head?_append] at e
 cases hx:(Lib.decDigits z.natAbs).head? with
 | none=>exact absurd (nY.1 hx) (lP _)
 | some c =>
  rw[hx] at e
  exact Zle _ (hx.trans e)
theorem ZbQ (z:Int):sg (decide (z<0)) z.natAbs=z:=by
 unfold sg
 split
 ·rename_i h;have:=uC h;omega
 rename_i h;have:¬ z<0:=fun k=>h (vQ k);omega
theorem ZgV {q:Rat}(h:q.den=1):((q.num:Int):Rat)=q:=by
 apply Rat.ext<;>simp[h]
theorem Zt8 {q:Rat}(h:q.den≠1):q.num≠0:=by
 intro e
 have:=q.reduced
 rw[e] at this
 simp[Nat.Coprime] at this
 exact h this
theorem gL (n:Nat):Lib.itoa (n:Int)=Lib.decDigits n:=by
 rw[ZcX qO,sO]
theorem Zns {q:Rat}(h:q.den≠1):lE (xC q)=(decide (q.num<0),Lib.decDigits q.num.natAbs,Lib.decDigits q.den,true):=by
 have l:=Zt8 h
 have m:=q.den_nz
 unfold xC
 rw[uI h,gL,tD]
 unfold lE
 rw[ZaQ]
 simp only[]
 obtain⟨g,i⟩:=Zau (p:=zX) (r:=Lib.decDigits q.den) (c:=47) (jO q.num.natAbs) qD
 have e:Lib.decDigits q.num.natAbs ++ ([47] ++ Lib.decDigits q.den)=Lib.decDigits q.num.natAbs ++ 47 :: Lib.decDigits q.den:=rfl
 rw[e,g,i]
 have f:=aE q.num.natAbs qO
 rw[uI (fun e=>f (by rw[e];rfl)),uI (fun e=>e.elim (lP _) f),uI qS,uI qS]
 simp only[List.tail_cons]
 obtain⟨j,k⟩:=dV (jO q.den)
 rw[j,k]
 have a:=aE q.den qO
 have b:Lib.decDigits q.den≠[49]:=fun e=>by
  have:=gC q.den
  rw[e] at this
  exact h (by rw[←this];rfl)
 have d:=lP q.den
 simp[a,b,d]
theorem ZeA (q:Rat):wA (xC q)=some q:=by
 by_cases h:q.den=1
 ·unfold xC
  rw[uM h,Zo1,ZgV h]
 unfold wA
 rw[Zns h]
 simp only[]
 rw[uI (lP _),gC,gC,uM q.reduced,ZbQ,Rat.mkRat_self]
theorem Ziy {neg:Bool}{a:Nat}(h:a=0→neg=false):(sg neg a<0↔neg=true)∧(sg neg a).natAbs=a:=by
 cases neg with
 | false=>simp[sg]
 | true =>
  have:a≠0:=fun e=>by cases h e
  simp[sg];omega
theorem Zbt {neg:Bool}{a:Nat}(h:a=0→neg=false):Lib.itoa (sg neg a)=(if neg then [45] else []) ++ Lib.decDigits a:=by
 obtain⟨c,b⟩:=Ziy h
 cases neg with
 | false=>rw[ZcX (by simp[sg]),b];rfl
 | true=>rw[ZbP (c.2 rfl),b];rfl
theorem Zfy {l r:List UInt8}{neg:Bool}(h:zZ l=(neg,r)):l=(if neg then [45] else []) ++ r:=by
 unfold zZ at h
 split at h
 ·rename_i hh
  injection h with h1 h2
  subst h1 h2
  cases l with
  | nil=>cases hh
  | cons x xs=>simp at hh;subst hh;rfl
 injection h with h1 h2
 subst h1 h2
 rfl
theorem bH {l:List UInt8}{q:Rat}(h:wA l=some q):xC q=l:=by
 unfold wA at h
 cases hs:lE l with
 | mk neg r =>
  obtain⟨num,den,ok⟩:=r
  rw[hs] at h
  cases ok with
  | false=>cases h
  | true =>
   simp only[] at h
   have k:=aB hs
   obtain⟨A,m⟩:=ZgF hs
   cases hu:zZ l with
   | mk neg' t =>
    have j:=Zfy hu
    have a:t.takeWhile zX ++ t.dropWhile zX=t:=pW
    unfold lE at hs
    rw[hu] at hs
    simp only[] at hs
    split at hs
    ·-- zero
     rename_i f
     injection hs with e1 hs;injection hs with e2 hs;injection hs with e3 e4
     subst e1 e2 e3
     simp at e4
     rw[uM rfl,f] at h
     have B:zG [48]=0:=rfl
     rw[B] at h
     injection h with h
     rw[e4.1] at h j
     rw[←h,j,← a,f,e4.2]
     simp only[sg]
     unfold xC
     rw[uM qS]
     have:Lib.itoa ((0:Nat):Int)=[48]:=by rw[gL,dB qO];rfl
     simpa using this
    split at hs
    ·injection hs with _ hs;injection hs with _ hs;injection hs with _ hs;cases hs
    rename_i z
    have n:t.takeWhile zX≠[]:=fun e=>z (Or.inl e)
    have o:(t.takeWhile zX).head? ≠ some 48:=fun e=>z (Or.inr e)
    have g:=Zj1 _ _ rfl (iD (p:=zX) t) n o
    split at hs
    ·rename_i s
     injection hs with e1 hs;injection hs with e2 hs;injection hs with e3 _
     subst e1 e2 e3
     rw[uM rfl] at h
     injection h with h
     rw[←h]
     unfold xC
     rw[uM qS]
     have i:(((sg neg' (zG (t.takeWhile zX)):Int)):Rat).num=sg neg' (zG (t.takeWhile zX)):=rfl
     rw[i,Zbt (fun e=>(m e).1),g,j]
     rw[s,qJ] at a
     rw[a]
    split at hs
    ·injection hs with _ hs;injection hs with _ hs;injection hs with _ hs;cases hs
    rename_i s b
    injection hs with e1 hs;injection hs with e2 hs;injection hs with e3 e4
    subst e1 e2
    rw[e3] at e4
    simp at e4
    obtain⟨⟨⟨u,v⟩,C⟩,E⟩:=e4
    rw[uI v] at h
    split at h
    ·rename_i D
     injection h with h
     have F:=A v
     have w:q.num=sg neg' (zG (t.takeWhile zX))∧q.den=zG den:=by
      have:=Zez (x:=sg neg' (zG (t.takeWhile zX))) (y:=(zG den:Int)) qO (by
       unfold Int.gcd
       rw[(Ziy (fun e=>(m e).1)).2,sO,D];rfl)
      rw[Rat.divInt_ofNat,h] at this
      exact⟨this.1,by have:=this.2;omega⟩
     unfold xC
     rw[uI (by rw[w.2];omega),w.1,w.2,Zbt (fun e=>(m e).1),g,gL,Zj1 _ _ rfl k.2.1 v C,j]
     have d:t.dropWhile zX=47 :: den:=by
      cases hx:t.dropWhile zX with
      | nil=>exact absurd hx s
      | cons c r =>
       rw[hx] at b u e3
       simp at b u e3
       subst b
       have:=pW (p:=zX) (l:=r)
       rw[e3,u,qJ] at this
       rw[this]
     rw[d] at a
     rw[tD,tD]
     congr 1
    cases h
theorem ZbR {l:List UInt8}{q:Rat}:wA l=some q↔xC q=l :=
 ⟨bH,fun h=>by rw[←h];exact ZeA q⟩
def fvB (s:List UInt8) (e:Int):Bool :=
 if s=[48] then decide (e=0)
 else decide ((zZ s).2≠[]∧(zZ s).2.head? ≠ some 48∧okE e∧(zZ s).2.all zX=true∧zG (zZ s).2%2=1)
def flM (s:List UInt8):Int:=sg (zZ s).1 (zG (zZ s).2)
theorem Zck:Lib.itoa 0=[48]:=by
 rw[show (0:Int)=((0:Nat):Int) from rfl,gL,dB qO];rfl
theorem Zj2:flM [48]=0:=qD
theorem Zo2 {neg:Bool}{a:Nat}(h:a%2=1):sg neg a%2=1:=by unfold sg;split<;>omega
theorem Zl6 {s:List UInt8}{e:Int}(h:fvB s e=true):s=Lib.itoa (flM s)∧((flM s=0∧e=0)∨(flM s%2=1∧okE e)):=by
 unfold fvB at h
 by_cases a:s=[48]
 ·rw[uM a] at h
  subst a
  rw[Zj2]
  exact⟨Zck.symm,Or.inl ⟨rfl,uC h⟩⟩
 rw[uI a] at h
 obtain⟨b,c,d,f,g⟩:=uC h
 unfold flM
 refine⟨?_,Or.inr ⟨Zo2 g,d⟩⟩
 rw[Zbt (fun h=>qO),Zj1 _ _ rfl f b c]
 exact Zfy rfl
theorem bW (z:Int):zZ (Lib.itoa z)=(decide (z<0),Lib.decDigits z.natAbs):=by
 have:=ZaQ z []
 rwa [qJ,qJ] at this
theorem ZfS (z:Int):flM (Lib.itoa z)=z:=by
 unfold flM;rw[bW,gC];exact ZbQ z
theorem ZhP (z e:Int):fvB (Lib.itoa z) e=decide ((z=0∧e=0)∨(z%2=1∧okE e)):=by
 unfold fvB
 by_cases a:z=0
 ·subst a
  rw[Zck,uM rfl]
  by_cases b:e=0
  ·subst b;rfl
  rw[uV b]
  symm
  exact uV (fun h=>by rcases h with h|h<;>omega)
 have c:¬ Lib.itoa z=[48]:=fun h=>a (by rw[←ZfS z,h,Zj2])
 rw[uI c,bW]
 refine oD.2 ⟨fun⟨_,_,d,_,f⟩=>Or.inr ⟨?_,d⟩,fun h=>?_⟩
 ·rw[gC] at f;omega
 rcases h with ⟨h,_⟩|⟨i,g⟩
 ·exact absurd h a
 exact⟨lP _,aE _ qO,g,jO _,by rw[gC];omega⟩
theorem ZqU {l:List UInt8}{c:UInt8}(h:(l ++ [c]).all zX=true):zG (l ++ [c])%2=c.toNat % 2:=by
 rw[dZ]
 have a:zX c=true:=by rw[pH] at h;simp at h;exact h.2
 have:=cZ a
 omega
noncomputable def valF (l:List UInt8):Rat:=(wA l).getD 0
theorem fit {x:Int}{k:Nat}(h:wl x.natAbs≤k)(a:k≤1048576):Fits x:=uA h a
theorem Zo3 {l:List UInt8}(b:l.all zX=true)(f:l.length≤570):wl (zG l)≤30:=by
 rw[kK]
 have c:=kT l b
 obtain⟨k,d⟩:∃ k,k=30:=⟨_,rfl⟩
 have a:10^l.length≤10^(19*k):=vC qO qO
 rw[←d]
 rw[qI] at a
 have e:(10^19)^k≤W64^k:=rG (by rw[zN];decide) k
 exact uT c (uA a e)
theorem ZgW:∀ (k u:Nat),1≤k→u<10^k→Lib.nDigits u≤k
 | 0,_,h,_=>qO
 | k+1,u,_,h=>by
  by_cases a:u<10
  ·rw[Lib.nDigits_small a];omega
  rw[Lib.nDigits_big a]
  have b:1≤k:=by
   rcases uJ k with e|e
   ·subst e;simp at h;omega
   exact e
  have c:u/10<10^k:=by
   rw[uO] at h
   exact sW (by rw[uG];exact h)
  have:=ZgW k (u/10) b c
  omega
theorem Zl7 {z:Int}{k:Nat}(a:1≤k)(h:z.natAbs<10^k):(Lib.itoa z).length≤k+1:=by
 have b:=ZgW k z.natAbs a h
 have e:0≤z→z.toNat=z.natAbs:=fun h=>qO
 unfold Lib.itoa
 split
 ·simp only[sS,Lib.decDigits_length]
  omega
 rename_i c
 rw[Lib.decDigits_length]
 first
  | omega
  | (rw[e qO];omega)
theorem Zo4 {l:List UInt8}(h:wA l=none):valF l=0:=by unfold valF;rw[h];rfl
theorem dF {l:List UInt8}{q:Rat}(h:wA l=some q):valF l=q:=by unfold valF;rw[h];rfl
theorem fG (l:List UInt8):bytes ⟨l.toArray⟩=l:=by simp[bytes]
theorem Znu {w w':World}{e:Ending}{l:List UInt8}(h:ZfT w l e w'):lD (fun x:Int×Int×Bool=>.tuple #[.agg #[.int .i64 x.1,.int .i64 x.2.1],.bool x.2.2]) (fun x _=>Zbu l x.1 x.2.1 x.2.2) w e w':=by
 obtain⟨a,b,c,rfl,d,Q⟩:=h
 exact⟨(a,b,c),rfl,Q,BoxN.pure d⟩
abbrev ShSp:=Bool×ByteArray×ByteArray×Bool
theorem Znv {w w':World}{e:Ending}{s:ByteArray}(h:ZfN s w e w'):lD (fun x:ShSp=>.tuple #[.agg #[.bool x.1,.string x.2.1,.string x.2.2.1],.bool x.2.2.2]) (fun x _=>lE (bytes s)=(x.1,bytes x.2.1,bytes x.2.2.1,x.2.2.2)) w e w':=by
 obtain⟨neg,t,d,a,rfl,b,Q⟩:=h
 exact⟨(neg,t,d,a),rfl,Q,BoxN.pure b⟩
theorem Zl8 {x:ByteArray}(h:bytes x=[]):(x.toList == (⟨#[]⟩:ByteArray).toList)=true:=by
 rw[Lib.toList_data,Lib.toList_data,show x.data.toList=[] from h];rfl
theorem Zl9 {x:ByteArray}(h:¬ bytes x=[]):(x.toList == (⟨#[]⟩:ByteArray).toList)=false:=by
 rw[Lib.toList_data,Lib.toList_data]
 exact qG.2 h
theorem Zo6 {l:List UInt8}{neg:Bool}{t d:List UInt8}(h:lE l=(neg,t,d,false)):wA l=none:=by unfold wA;rw[h]
theorem Zo7 {l:List UInt8}{neg:Bool}{t d:List UInt8}(h:lE l=(neg,t,d,true))(a:d=[]):(wA l).isSome=true:=by unfold wA;rw[h];simp[a]
theorem Zo8 {l:List UInt8}{neg:Bool}{t d:List UInt8}(h:lE l=(neg,t,d,true))(b:¬ d=[]):(wA l).isSome=decide (((Int.gcd (zG t:Int) (zG d:Int):Nat):Int)=1):=by
 unfold wA
 rw[h]
 have e:Int.gcd (zG t:Int) (zG d:Int)=Nat.gcd (zG t) (zG d):=rfl
 rw[e]
 simp only[uI b]
 by_cases a:Nat.gcd (zG t) (zG d)=1
 ·rw[uM a,a];rfl
 rw[uI a];simp;omega
theorem Znw {l:List UInt8}{a b:Int}(h:Zbu l a b true):(wA l).isSome=true:=by
 rcases h with ⟨_,q,h,_⟩|⟨h,_⟩
 ·rw[h];rfl
 cases h
theorem aO (s:ByteArray)(w:World)(H:Glob w)(I:(bytes s).length≤570) :
 Ζ 51 #[.string s] w (RetV w (.bool (wA (bytes s)).isSome)):=by
 have h:s.size≤1099511627776:=by rw[zR] at I;omega
 refine zU (Φ:=fun w=>Glob w) func51 rfl qK (fun w' J=>H.ext J) ?_
 refine yY (xq 1 [yB 2 false] [] ?_)
 refine yZ (zC (yY (xq 1 [yT 8 s] [] ?_)))
 refine xqc 74 [.string s] 9 (fun x:Int×Int×Bool=>.tuple #[.agg #[yI x.1, yI x.2.1],.bool x.2.2]) _ (fun w R Q=>yM Znu (ZiY s _ h)) fun⟨L,M,k⟩=>?_
 rcases k with _|_
 ·refine xq 6 [yB 4 false] [] ?_
  refine yZ (yY (xq 1 [yB 12 false] [] ?_))
  refine yZ (xb (zJ (zA (yY (xq 1 [yT 14 s] [] ?_)))))
  refine xqc 75 [.string s] 15 (fun x:ShSp=>.tuple #[.agg #[.bool x.1,.string x.2.1,.string x.2.2.1],.bool x.2.2.2]) _ (fun w R Q=>yM Znv (Zim s _ h)) fun⟨c,b,a,l⟩=>?_
  rcases l with _|_
  ·refine xq 6 [Δ 5,yB 6 false] [(5,133,[.v (.bool c),.v (.string b),.v (.string a)])] ?_
   refine yZ (zC (zC ?_))
   refine SXc.know (p:=lE (bytes s)=(c,bytes b,bytes a,false)) (fun w _ Q=>Q.2) fun i=>?_
   refine zB (xq 7 [yB 24 true] [] ?_)
   refine yZ (xa (yY (xq 2 [yB 2 false] [] ?_)))
   refine yZ (zH (zL ?_))
   refine yR (.bool false) fun w' R Q=>?_
   exact⟨by rw[Zo6 i];rfl,R⟩
  refine xq 6 [Δ 5,yB 6 true] [(5,133,[.v (.bool c),.v (.string b),.v (.string a)])] ?_
  refine yZ (zC (zC ?_))
  refine SXc.know (p:=lE (bytes s)=(c,bytes b,bytes a,true)) (fun w _ Q=>Q.2) fun i=>?_
  by_cases j:bytes a=[]
  ·refine zB (xq 6 [yB 20 false,yB 23 ((a:ByteArray).toList == (⟨#[]⟩:ByteArray).toList)] [] ?_)
   rw[Zl8 j]
   refine xq 1 [yB 24 true] [] ?_
   refine yZ (xa (yY (xq 2 [yB 2 true] [] ?_)))
   refine yZ (zH (zL ?_))
   refine yR (.bool true) fun w' R Q=>?_
   exact⟨by rw[Zo7 i j],R⟩
  refine zB (xq 6 [yB 20 false,yB 23 ((a:ByteArray).toList == (⟨#[]⟩:ByteArray).toList)] [] ?_)
  rw[Zl9 j]
  refine xq 1 [yB 24 false] [] ?_
  refine yZ (xb (zJ (zA (zC ?_))))
  obtain⟨d,e,K⟩:=aB i
  have f:Zdg b.size:=by unfold Zdg;rw[←zR];omega
  have g:Zdg a.size:=by unfold Zdg;rw[←zR];omega
  have m:wl ((zG (bytes b):Nat):Int).natAbs≤79:=by rw[sO];exact uA (Zo3 d qO) qD
  have n:wl ((zG (bytes a):Nat):Int).natAbs≤79:=by rw[sO];exact uA (Zo3 e qO) qD
  have o:Fits ((zG (bytes b):Nat):Int):=by unfold Fits;omega
  have q:Fits ((zG (bytes a):Nat):Int):=by unfold Fits;omega
  refine yO 9 zM ?_
  refine xqg 2 [yT 27 b] ?_
  refine xqd 76 [.string b] 28 wC _ (fun w R Q=>yM ZfO (Zej b _ d f)) fun⟨r,t,u,y⟩=>?_
  refine xqg 2 [yT 30 a] ?_
  refine xqd 76 [.string a] 31 wC _ (fun w R Q=>yM ZfO (Zej a _ e g)) fun⟨z,A,B,C⟩=>?_
  refine xqd 77 [vI2 r t u y,vI2 z A B C] 32 wC _ (fun w R Q=>yM ZfO (Zsd _ _ ((zG (bytes b):Int)) ((zG (bytes a):Int)) _ Q.1.1.1.1 Q.1.2 Q.2 o q (Zi4.words m n))) fun⟨D,E,F,G⟩=>?_
  refine xqd 78 [vI2 D E F G] 33 (fun _:Unit=>.bool (decide ((((Int.gcd ((zG (bytes b):Int)) ((zG (bytes a):Int)):Nat):Int))=1))) _ (fun w R Q=>yN (Zog _ (((Int.gcd ((zG (bytes b):Int)) ((zG (bytes a):Int)):Nat):Int)) _ Q.2)) fun N=>?_
  refine xqg 1 [(2,.v (.bool (decide ((((Int.gcd ((zG (bytes b):Int)) ((zG (bytes a):Int)):Nat):Int))=1))))] ?_
  refine xz (yZ (zH ?_))
  refine zD (v:=.bool (decide ((((Int.gcd ((zG (bytes b):Int)) ((zG (bytes a):Int)):Nat):Int))=1))) qK fun w' R Q=>?_
  exact⟨by rw[Zo8 i j],R⟩
 refine xq 6 [yB 4 true] [] ?_
 refine yZ (yY (xq 1 [yB 12 true] [] ?_))
 refine yZ (xa (yY (xq 1 [yB 2 true] [] ?_)))
 refine yZ (zH (zL ?_))
 refine yR (.bool true) fun w' R Q=>?_
 exact⟨by rw[Znw Q.2],R⟩
theorem Zav {n:Nat}(h:n<10):Lib.itoa (n:Int)=[UInt8.ofNat (48+n)]:=by
 unfold Lib.itoa
 rw[uI qO,rT,Lib.decDigits,dif_pos h]
theorem aF {q:Rat}{n:Nat}(h:n<10)(d:q.num=(n:Int))(e:q.den=1):xC q=[UInt8.ofNat (48+n)]:=by
 unfold xC;rw[uM e,d,Zav h]
theorem ZhQ {q:Rat}{n d:Nat}(h:n<10)(e:d<10)(f:q.num=(n:Int))(g:q.den=d)(i:d≠1):xC q=[UInt8.ofNat (48+n),47,UInt8.ofNat (48+d)]:=by
 unfold xC;rw[g,uI i,f,Zav h,Zav e];rfl
theorem t1:xC (mkRat 1 1)=[49]:=aF (n:=1) qD qD qD
theorem t3:xC (mkRat 3 1)=[51]:=aF (n:=3) qD qD qD
theorem t13:xC (mkRat 1 3)=[49,47,51]:=ZhQ (n:=1) (d:=3) qD qD qD qD qD
theorem t12:xC (mkRat 1 2)=[49,47,50]:=ZhQ (n:=1) (d:=2) qD qD qD qD qD
theorem t56:xC (mkRat 5 6)=[53,47,54]:=ZhQ (n:=5) (d:=6) qD qD qD qD qD
section
variable {w w':World} {e:Ending} {s:ByteArray}
theorem Znx (h:ZjH s w e w'):lD (fun x:ByteArray×Bool=>.tuple #[.string x.1,.bool x.2]) (fun x _=>zZ (bytes s)=(x.2,bytes x.1)) w e w':=by
 obtain⟨r,neg,rfl,h,rfl⟩:=h
 exact⟨(r,neg),rfl,Fr.refl _ _,BoxN.pure h⟩
end
theorem ZhR {a b:ByteArray}(h:bytes a=bytes b):a=b:=by
 cases a with|mk a=>cases b with|mk b=>simp only[bytes] at h;rw[Array.toList_inj.1 h]
def e4:Nat:=400
theorem Zma {s:ByteArray}(h:bytes s=[48]):(s.toList == (⟨#[48]⟩:ByteArray).toList)=true:=by
 rw[Lib.toList_data,Lib.toList_data,show s.data.toList=[48] from h];rfl
theorem Zmb {s:ByteArray}(h:¬ bytes s=[48]):(s.toList == (⟨#[48]⟩:ByteArray).toList)=false:=by
 rw[Lib.toList_data,Lib.toList_data];exact qG.2 h
theorem zt:xC 0=[48]:=aF (n:=0) qD qD qD
theorem bX {P:Program}{o:Oper}{ρ:Operand→Value}{w:World}{t:TypeId}{x i:Operand}{b:ByteArray}{k:Nat}{c:UInt8}(a:o.op=Op.index t x i)(d:P.underlying t=some .string)(e:ρ x=.string b)(hi:ρ i=.int .i64 (k:Int))(f:b[k]? = some c):(execOp ρ o).run P w=.ok (.value (.int .u8 (c.toNat:Int))) w:=by
 simp[execOp,a,Instr.index,asIntOf,underlying,d,e,hi,f,Result.andThen]
end Go.Proofs.YtmpffakfhcpjoaaGreatDoor
