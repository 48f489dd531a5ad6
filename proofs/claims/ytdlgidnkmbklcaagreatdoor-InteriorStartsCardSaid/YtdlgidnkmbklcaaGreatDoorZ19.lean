/-
 My texts.
-/
import Derived.Test.YtdlgidnkmbklcaaGreatDoorZ15
set_option maxRecDepth 100000
set_option maxHeartbeats 8000000
namespace Go.Proofs.YtdlgidnkmbklcaaGreatDoor
open Go.RowKit Tryz
section
variable {N:Nat} {S0:Nat→Prop} {w:World} {Φ:World→Prop} {P:Program}
theorem fY (S0:Nat→Prop){fn:Func}{f:FuncId}{c:Code}{args:List Value}{R:Ending→World→Prop}(j:P.funcs[f]? = some fn)(l:fn.body=some c)(m:Nat.ble args.length fn.ntmps=true)(Q:Box (fun _=>False) w Φ)(h:SXc P fn.ntmps S0 w (bodyPost P fn R) c (ofL (Zcz 0 args) []) Φ):Calls P f args.toArray w R:=by
 refine calls_of_wp j l (h (fun _=>0) _ w ⟨?_,rfl,fun i x n=>?_,⟨fun b t p e=>(by cases e),fun b c e=>(by cases e),fun b e=>(by cases e),Fr.refl _ _,fun i b off e=>?_,fun b t p e=>(by cases e)⟩,?_⟩)
 ·have:=vS m
  simp;omega
 ·obtain⟨_,v,hv,rfl⟩:=bN args 0 i x n
  have d:i<args.length:=by
   rcases vM i args.length with a|a
   ·exact a
   rw[vL qO] at hv;cases hv
  simp only[AV.conc]
  rw[Array.getElem?_append_left (by simpa using d)]
  simpa using hv
 ·obtain⟨_,v,hv,e'⟩:=bN args 0 i _ e
  cases e'
 intro w' g
 exact Q w' (g.mono (fun i _ a=>by obtain⟨b,e,_⟩:=a;cases e))
end
section
variable {P:Program} {o:Oper} {ρ:Operand→Value} {w:World} {x y:Operand} {t k:TypeId}
theorem ZqF {a:Nat}(b:o.op=Op.binOp .and t x y k:=by kernel_rfl)(c:ρ x=.int .u64 (a:Int):=by kernel_rfl)(d:ρ y=.int .u64 1:=by kernel_rfl)(ha:a<W64:=by assumption):(execOp ρ o).run P w=.ok (.value (.int .u64 ((a%2:Nat):Int))) w:=by
 have h:bits .and .u64 (a:Int) 1=((a%2:Nat):Int):=by
  have:=bits_and_u64_nat a 1 (by rw[←zR];exact ha) qD
  rw[oP] at this
  exact this
 rw[←h]
 simp only[execOp,b,c,d,eqGuard,binOp]
 rfl
end
theorem ZeM {xs:qN}{k t:Nat}(d:Dig W64 xs)(e:xs.length=k+1)(f:Trim xs)(b:xs[k]?.getD 0=t):blen (val W64 xs)=64*k+blen t:=by
 have g:0<t:=qJ (by rw[←b];exact f k e)
 have c:=zU (B:=W64) k (show k<xs.length by omega)
 rw[uA qO,b] at c
 have a:=xZ (d.take k)
 rw[uM,uU qO,cF] at a
 rw[c,cF]
 exact Zi7 a g
theorem ZeN {t:Nat}(h:t<W64):Lib.bitLen t=blen t:=by
 rcases uJ t with rfl|a
 ·rfl
 obtain⟨b,_,c,d⟩:=eM a h
 have:=ZgS c (by rw[pM b];exact d)
 omega
theorem Znp (t:Nat)(w:World)(h:t<W64):yA 163 #[.int .u64 (t:Int)] w (RetV w (.int .i64 ((blen t:Nat):Int))):=by
 have a:=h
 rw[zR] at a
 refine (Tryz.bits_Len64 (t:Int) w qO qO).mono ?_
 rintro e w' ⟨rfl,rfl⟩
 exact⟨by rw[qT,ZeN h],Fr.refl _ _⟩
theorem Zl3 (t:Nat)(w:World)(h:t<W64):yA 164 #[.int .u64 (t:Int)] w (RetV w (.int .i64 ((64-blen t:Nat):Int))):=by
 refine (aY t w h).mono ?_
 rintro e w' ⟨rfl,rfl⟩
 have:blen t≤64:=kI.2 (by rw[zR] at h;exact h)
 exact⟨by rw[ZeN h];congr 2;omega,Fr.refl _ _⟩
theorem Zo6 (x:Nat)(w:World)(a:Glob w)(b:0<x)(h:x<W64):yA 202 #[.int .u64 (x:Int)] w (RetV w (.int .i64 ((tzn x:Nat):Int))):=by
 obtain⟨g,c⟩:=jY b
 have d:tzn x<64:=by
  refine oD fun f=>?_
  have:=vE (n:=2) qD f
  have i:1*2^tzn x≤oddM x*2^tzn x:=uE _ qO
  rw[zR] at h
  omega
 refine (Zcw x (tzn x) (oddM x/2) w a (by rw[show 2*(oddM x/2)+1=oddM x by omega,uG];exact c) d h).mono ?_
 rintro e w' ⟨rfl,rfl⟩
 exact⟨rfl,Fr.refl _ _⟩
def ZerR (xs:List Nat) (k:Nat):Prop:=val W64 (xs.take k)=0
theorem ZerR.start (xs:qN):ZerR xs 0:=by unfold ZerR;simp
theorem ZerR.lt {xs:qN}{k:Nat}(h:ZerR xs k)(b:0<val W64 xs):k<xs.length:=by
 rcases vM k xs.length with a|a
 ·exact a
 unfold ZerR at h;rw[uA a] at h;omega
theorem ZerR.step {xs:qN}{k:Nat}(h:ZerR xs k)(a:k<xs.length)(b:xs[k]?.getD 0=0):ZerR xs (k+1):=by
 unfold ZerR at *
 rw[zU k a,h,b];simp
theorem ZqG {x r:Nat}(a:0<x)(b:x<W64):tzn (x+W64*r)=tzn x:=by
 obtain⟨g,c⟩:=jY a
 have h:tzn x<64:=by
  refine oD fun d=>?_
  have:=vE (n:=2) qD d
  have i:1*2^tzn x≤oddM x*2^tzn x:=uE _ qO
  rw[zR] at b
  omega
 have e:x+W64*r=(oddM x+2^(64-tzn x)*r)*2^tzn x:=by
  rw[vC,← c,Nat.mul_right_comm,← uW,pM qO,zR]
 have f:2^(64-tzn x)=2*2^(63-tzn x):=by rw[show 64-tzn x=(63-tzn x)+1 by omega,uP,uG]
 rw[e]
 exact ZdM (by rw[f,uH];omega) _
theorem ZerR.done {xs:qN}{k x:Nat}(h:ZerR xs k)(c:Dig W64 xs)(d:k<xs.length)(a:xs[k]?.getD 0=x)(e:x≠0):tzn (val W64 xs)=64*k+tzn x:=by
 unfold ZerR at h
 have b:=xS (B:=W64) (xs:=xs) k
 rw[h,uU qO,xT k d,a,tA,cF,uG] at b
 rw[b,Zeh qO,ZqG qO (a ▸ c.getD zP k),vO]
theorem ZerR.bound {xs:qN}{k x:Nat}(b:Dig W64 xs)(c:xs[k]?.getD 0=x)(e:x≠0):tzn x<64:=by
 have a:x<W64:=c ▸ b.getD zP k
 obtain⟨f,g⟩:=jY (show 0<x by omega)
 refine oD fun d=>?_
 have:=vE (n:=2) qD d
 have h:1*2^tzn x≤oddM x*2^tzn x:=uE _ qO
 rw[zR] at a
 omega
theorem ZqH {xs:qN}{i x:Nat}(b:Dig W64 xs)(c:i/64<xs.length)(d:xs[i/64]?.getD 0=x):val W64 xs/2^i%2=x/2^(i%64)%2:=by
 have a:=ZgB xs (i/64) (i%64) b qO
 rw[show 64*(i/64)+i%64=i by omega] at a
 rw[←a,xT _ c,d]
 have g:i%64<64:=uO _ qD
 generalize i%64=t at *
 generalize val W64 (xs.drop (i/64+1))=r
 have e:W64*r=2^t*(2^(64-t)*r):=by rw[←uH,← uW,show t+(64-t)=64 by omega,zR]
 have f:2^(64-t)=2*2^(63-t):=by rw[show 64-t=(63-t)+1 by omega,uP,uG]
 rw[e,Nat.add_mul_div_left _ _ (p2 t),f,uH,rD]
theorem Zo7 {xs:qN}{i:Nat}(a:Dig W64 xs)(b:¬ i/64<xs.length):val W64 xs/2^i%2=0:=by
 rw[Ze3 a qO]
theorem ZrT (m:Nat):(((m%2:Nat):Int) == 1)=decide (m%2=1):=by
 rcases Nat.mod_two_eq_zero_or_one m with h|h<;>rw[h]<;>rfl
def DwR (xs:List Nat) (u k:Nat) (qs:List Nat) (r:Nat):Prop:=cW xs u k qs r∧qs.take k=xs.take k
theorem DwR.start {xs:qN}{u:Nat}(a:Dig W64 xs)(b:0<u):DwR xs u xs.length xs 0 :=
 ⟨⟨rfl,a,b,by rw[vA (uF _)];simp⟩,rfl⟩
theorem DwR.at {xs a:qN}{u k r:Nat}(h:DwR xs u (k+1) a r):a[k]?.getD 0=xs[k]?.getD 0:=by
 have:=uX (fun l=>l[k]?.getD 0) h.2
 simp only[tP (show k<k+1 by omega)] at this
 exact this
theorem DwR.step {xs a:qN}{u k r x:Nat}(h:DwR xs u (k+1) a r)(c:k<xs.length)(d:a[k]?.getD 0=x)(b:x<W64):DwR xs u k (a.set k (divQ r x u)) (divR r x u):=by
 refine⟨h.1.step c (h.at.symm.trans d) b,?_⟩
 have:=uX (List.take k) h.2
 rw[List.take_take,List.take_take,uU qO] at this
 rw[rP (uF k)];exact this
theorem Zhs (hi lo y:Nat)(w:World)(b:hi<y)(c:y<W64)(a:lo<W64):yA 182 #[.int .u64 (hi:Int),.int .u64 (lo:Int),.int .u64 (y:Int)] w (RetV w (.tuple #[.int .u64 ((divQ hi lo y:Nat):Int),.int .u64 ((divR hi lo y:Nat):Int)])):=by
 refine (Zbo hi lo y w b c a).mono ?_
 rintro e w' ⟨rfl,n,rfl⟩
 exact⟨rfl,(Fr.refl _ _).drewN n⟩
def SpR (zs0 ys:List Nat) (q o k:Nat) (zs:List Nat) (c b:Nat):Prop :=
 zs.length=zs0.length∧Dig W64 zs∧c<W64∧b≤1∧zs.take o=zs0.take o∧zs.drop (o+k)=zs0.drop (o+k) ∧
  val W64 (zs.take (o+k))+W64^o*(q*val W64 (ys.take k))=val W64 (zs0.take (o+k))+W64^(o+k)*(c+b)
theorem SpR.start {a:qN}(ys:qN)(q o:Nat)(h:Dig W64 a):SpR a ys q o 0 a 0 0:=⟨rfl,h,zP,qO,rfl,rfl,qS⟩
theorem aP {zs a:qN}{k:Nat}(h:zs.drop k=a.drop k):zs[k]?.getD 0=a[k]?.getD 0:=by
 have:=uX (fun l=>l[0]?.getD 0) h
 simpa [vJ] using this
theorem Zi9 {x q c:Nat}(a:x<W64)(b:q<W64)(d:c<W64):wQ x q+xU (xH x q) c 0<W64:=by
 have e:=dG x q
 have f:=fG (xH x q) c 0
 have g:=Zct a b
 refine aI _ (vN (m:=x*q+c) ?_ qO)
 rw[uK];omega
theorem SpR.step {a ys zs:qN}{q o k c b x z:Nat}(h:SpR a ys q o k zs c b)(p:o+k<a.length)(j:ys[k]?.getD 0=x)(l:zs[o+k]?.getD 0=z)(r:Dig W64 ys)(s:q<W64) :
 SpR a ys q o (k+1) (zs.set (o+k) (kL z (xO (xH x q) c 0) b)) (wQ x q+xU (xH x q) c 0) (kM z (xO (xH x q) c 0) b):=by
 obtain⟨u,m,v,A,B,n,C⟩:=h
 have f:x<W64:=j ▸ r.getD zP k
 have g:z<W64:=l ▸ m.getD zP _
 have D:a[o+k]?.getD 0=z:=(aP n).symm.trans l
 have F:=dG x q
 have G:=fG (xH x q) c 0
 have H:=Za0 g (dF (xH x q) c 0) A
 refine⟨by simpa using u,m.set _ (aW _ _ _),Zi9 f s v,Zcs _ _ _,?_,?_,?_⟩
 ·rw[rP qO];exact B
 ·have e:=uX (List.drop 1) n
  rw[vV,vV] at e
  rw[tJ qO,show o+(k+1)=o+k+1 by omega];exact e
 rw[show o+(k+1)=(o+k)+1 by omega,xN _ _ _ _ qO,zU (o+k) p,lN k,D,j,uP]
 have i:kL z (xO (xH x q) c 0) b+x*q+c+b=z+W64*(wQ x q+xU (xH x q) c 0+kM z (xO (xH x q) c 0) b):=by
  rw[uK,uK];omega
 have d:=uX (W64^(o+k) * ·) i
 simp only[uK] at d
 have E:W64^o*(q*(val W64 (ys.take k)+W64^k*x))=W64^o*(q*val W64 (ys.take k))+W64^(o+k)*(x*q):=by
  rw[uK q,uK (W64^o),uW,tL q (W64^k) x,uH (W64^o),uG q x]
 rw[E,uH (W64^(o+k)) W64]
 simp only[uK]
 rw[uK] at C
 omega
def ZdN (zs0 ys:List Nat) (q o:Nat) (zs:List Nat) (b:Nat):Prop :=
 zs.length=zs0.length∧Dig W64 zs∧b≤1∧zs.take o=zs0.take o∧zs.drop (o+ys.length+1)=zs0.drop (o+ys.length+1) ∧
  val W64 (zs.take (o+ys.length+1))+W64^o*(q*val W64 ys)=val W64 (zs0.take (o+ys.length+1))+W64^(o+ys.length+1)*b
theorem SpR.done {a ys zs:qN}{q o c b z:Nat}(h:SpR a ys q o ys.length zs c b)(m:o+ys.length<a.length)(g:zs[o+ys.length]?.getD 0=z):ZdN a ys q o (zs.set (o+ys.length) (kL z c b)) (kM z c b):=by
 obtain⟨n,i,p,r,s,j,l⟩:=h
 have f:z<W64:=g ▸ i.getD zP _
 have u:a[o+ys.length]?.getD 0=z:=(aP j).symm.trans g
 have v:=Za0 f p r
 refine⟨by simpa using n,i.set _ (aW _ _ _),Zcs _ _ _,?_,?_,?_⟩
 ·rw[rP qO];exact s
 ·have e:=uX (List.drop 1) j
  rw[vV,vV] at e
  rw[tJ qO];exact e
 rw[uA (uF ys.length)] at l
 rw[xN _ _ _ _ qO,zU _ m,u,uP]
 have d:=uX (W64^(o+ys.length) * ·) v
 simp only[uK] at d
 rw[uH (W64^(o+ys.length)) W64]
 rw[uK] at l
 omega
def AbR (zs0 ys:List Nat) (o k:Nat) (zs:List Nat) (c:Nat):Prop :=
 zs.length=zs0.length∧Dig W64 zs∧c≤1∧zs.take o=zs0.take o∧zs.drop (o+k)=zs0.drop (o+k) ∧
  val W64 (zs.take (o+k))+W64^(o+k)*c=val W64 (zs0.take (o+k))+W64^o*val W64 (ys.take k)
theorem AbR.start {a:qN}(ys:qN)(o:Nat)(h:Dig W64 a):AbR a ys o 0 a 0:=⟨rfl,h,qO,rfl,rfl,qS⟩
theorem AbR.step {a ys zs:qN}{o k c x z:Nat}(h:AbR a ys o k zs c)(j:o+k<a.length)(d:ys[k]?.getD 0=x)(f:zs[o+k]?.getD 0=z)(l:Dig W64 ys):AbR a ys o (k+1) (zs.set (o+k) (xO z x c)) (xU z x c):=by
 obtain⟨m,g,n,p,i,r⟩:=h
 have q:a[o+k]?.getD 0=z:=(aP i).symm.trans f
 refine⟨by simpa using m,g.set _ (dF _ _ _),Zcr (f ▸ g.getD zP _) (d ▸ l.getD zP k) n,?_,?_,?_⟩
 ·rw[rP qO];exact p
 ·have e:=uX (List.drop 1) i
  rw[vV,vV] at e
  rw[tJ qO,show o+(k+1)=o+k+1 by omega];exact e
 rw[show o+(k+1)=(o+k)+1 by omega,xN _ _ _ _ qO,zU (o+k) j,lN k,q,d,uP]
 have b:=uX (W64^(o+k) * ·) (fG z x c)
 simp only[uK] at b
 rw[uK (W64^o),← uH (W64^o) (W64^k),← uW,uH (W64^(o+k)) W64]
 omega
def ZdO (zs0 ys:List Nat) (o:Nat) (zs:List Nat) (c:Nat):Prop :=
 zs.length=zs0.length∧Dig W64 zs∧c≤1∧zs.take o=zs0.take o∧zs.drop (o+ys.length+1)=zs0.drop (o+ys.length+1) ∧
  val W64 (zs.take (o+ys.length+1))+W64^(o+ys.length+1)*c=val W64 (zs0.take (o+ys.length+1))+W64^o*val W64 ys
theorem AbR.done {a ys zs:qN}{o c z:Nat}(h:AbR a ys o ys.length zs c)(i:o+ys.length<a.length)(d:zs[o+ys.length]?.getD 0=z):ZdO a ys o (zs.set (o+ys.length) (xO z 0 c)) (xU z 0 c):=by
 obtain⟨j,f,l,m,g,n⟩:=h
 have p:a[o+ys.length]?.getD 0=z:=(aP g).symm.trans d
 refine⟨by simpa using j,f.set _ (dF _ _ _),Zcr (d ▸ f.getD zP _) zP l,?_,?_,?_⟩
 ·rw[rP qO];exact m
 ·have e:=uX (List.drop 1) g
  rw[vV,vV] at e
  rw[tJ qO];exact e
 rw[uA (uF ys.length)] at n
 rw[xN _ _ _ _ qO,zU _ i,p,uP]
 have b:=uX (W64^(o+ys.length) * ·) (fG z 0 c)
 simp only[uK] at b
 rw[uH (W64^(o+ys.length)) W64]
 omega
theorem Zki (A:qA)(xs:qN)(c:Nat)(w:World)(l:zH .u64 w A xs)(p:xs.length≤4294967296)(g:Dig W64 xs)(m:Trim xs) :
 yA 111 #[.slice A xs.length c] w (RetV w (.int .i64 ((blen (val W64 xs):Nat):Int))):=by
 refine zV func111 rfl qK (fun w' n=>l.ext n) ?_
 refine yY (xq 1 [yJ 2 0] [] ?_)
 refine yZ (zD (yY (xq 3 [yB 5 ((((xs.length:Nat):Int):Int) == 0)] [] ?_)))
 refine xe (zB ?_)
 refine yQ (((((xs.length:Nat):Int):Int) == 0)) (fun d=>?_) fun d=>?_
 ·have f:=sK.1 d
  refine yY (xq 1 [yJ 2 0] [] ?_)
  refine yZ (zJ (zM ?_))
  refine yR (yI 0) fun w' R Q=>?_
  exact⟨by obtain rfl:xs=[]:=tG.1 qO;rfl,R⟩
 have f:=lU d
 refine zG (zB (yY (xq 3 [yJ 8 (IntKind.i64.wrap (((xs.length:Nat):Int)-1))] [] ?_)))
 rw[yW (((xs.length:Nat):Int)-1) (((xs.length-1:Nat):Int)) qO]
 refine xq 1 [yJ 9 (IntKind.i64.wrap (64*((xs.length-1:Nat):Int)))] [] ?_
 rw[yW (64*((xs.length-1:Nat):Int)) (((64*(xs.length-1):Nat):Int)) qO]
 refine xq 4 [eS1 10 A xs.length c,yJ 13 (IntKind.i64.wrap (((xs.length:Nat):Int)-1))] [] ?_
 rw[yW (((xs.length:Nat):Int)-1) (((xs.length-1:Nat):Int)) qO]
 refine xqk 14 _ (fun w R Q=>wF (t:=84) (e:=207) (x:=.tmp 10) (ix:=.tmp 13) (len:=xs.length) (cap:=c) (i:=xs.length-1) ((Q).ne (j:=xs.length-1) qO) qO) ?_
 obtain⟨a,b⟩:=yE (xs[xs.length-1]?.getD 0)
 refine xqk 15 (yX a) (fun w R Q=>by rw[←b];exact wU (t:=207) (x:=.tmp 14) (Q) qO) ?_
 refine xqc _ _ 16 (fun _:Unit=>yI (blen a:Nat)) _ (fun w R Q=>yN (Znp a _ (by rw[←b];exact g.getD zP _))) fun q=>?_
 refine xq 1 [(17,.v (yI (IntKind.i64.wrap (((64*(xs.length-1):Nat):Int)+((blen a:Nat):Int)))))] [] ?_
 rw[show IntKind.i64.wrap (((64*(xs.length-1):Nat):Int)+((blen a:Nat):Int))=((blen (val W64 xs):Nat):Int) by rw[ZeM (k:=xs.length-1) g qO m b,IntKind.wrap_i64];have:=kI.2 (show a<2^64 by have h:a<W64:=(by rw[←b];exact g.getD zP _);rw[zR] at h;exact h);omega]
 refine xq 1 [yJ 2 (blen (val W64 xs):Nat)] [] ?_
 refine yZ (zJ ?_)
 refine yR (yI (blen (val W64 xs):Nat)) fun w' R Q=>?_
 exact⟨rfl,R⟩
theorem Zl4 (A:qA)(xs:qN)(c:Nat)(w:World)(u:zH .u64 w A xs)(B:xs.length≤4294967296)(m:Dig W64 xs)(v:Glob w)(z:0<val W64 xs) :
 yA 168 #[.slice A xs.length c] w (RetV w (.int .i64 ((tzn (val W64 xs):Nat):Int))):=by
 refine zV (Φ:=fun w=>(zH .u64 w A xs∧Glob w)) func168 rfl qK (fun w' p=>⟨u.ext p,v.ext p⟩) ?_
 refine yY (xq 1 [yJ 2 0] [] ?_)
 refine yZ (yY (xq 1 [yJ 3 0] [] ?_))
 refine yZ (zD (zO ?_))
 refine xI (fun q r s=>∃ (k:Nat),r=ofL [eS1 0 A xs.length c,yJ 2 0,yJ 3 k] []∧s=(fun w=>(zH .u64 w A (xs)∧Glob w))∧(ZerR xs k)∧q=(xs.length-k)) _ ⟨0,rfl,rfl,ZerR.start xs,rfl⟩ (fun w Q=>⟨Q.1,Q.2⟩) ?_
 rintro q r s ⟨k,rfl,rfl,n,rfl⟩
 refine zD (zD ?_)
 have h:=n.lt z
 refine zC (xq 2 [eS1 4 A xs.length c,yJ 5 k] [] ?_)
 refine xqk 6 _ (fun w R Q=>wF (t:=84) (e:=207) (x:=.tmp 4) (ix:=.tmp 5) (len:=xs.length) (cap:=c) (i:=k) ((Q.1).ne (j:=k) qO) qO) ?_
 obtain⟨b,a⟩:=yE (xs[k]?.getD 0)
 refine xqk 7 (yX b) (fun w R Q=>by rw[←a];exact wU (t:=207) (x:=.tmp 6) (Q.1) qO) ?_
 refine xq 1 [yB 8 (((b:Int):Int) == 0)] [] ?_
 refine xe (zB ?_)
 refine yQ ((((b:Int):Int) == 0)) (fun d=>?_) fun d=>?_
 ·have g:=sK.1 d
  refine zG (zB (zO (zC (xq 2 [yJ 10 (IntKind.i64.wrap ((k:Int)+1))] [] ?_))))
  rw[yW ((k:Int)+1) (((k+1:Nat):Int)) qO]
  refine xq 1 [yJ 3 (k+1:Nat)] [] ?_
  refine xe (xK ?_)
  exact xC _ qO ⟨(k+1),rfl,rfl,(n.step h (by rw[a];omega)),rfl⟩ (fun w Q=>⟨Q.1,Q.2⟩)
 have g:=lU d
 refine xJ (zE (zE (xL (zB (yY (xq 2 [yJ 12 (IntKind.i64.wrap (64*(k:Int)))] [] ?_))))))
 rw[yW (64*(k:Int)) (((64*k:Nat):Int)) qO]
 refine xq 2 [eS1 13 A xs.length c,yJ 14 k] [] ?_
 refine xqk 15 _ (fun w R Q=>wF (t:=84) (e:=207) (x:=.tmp 13) (ix:=.tmp 14) (len:=xs.length) (cap:=c) (i:=k) ((Q.1).ne (j:=k) qO) qO) ?_
 obtain⟨l,f⟩:=yE (xs[k]?.getD 0)
 refine xqk 16 (yX l) (fun w R Q=>by rw[←f];exact wU (t:=207) (x:=.tmp 15) (Q.1) qO) ?_
 obtain rfl:b=l:=by rw[←a,f]
 refine xqc _ _ 17 (fun _:Unit=>yI (tzn b:Nat)) _ (fun w R Q=>yN (Zo6 b _ Q.2 qO (by rw[←a];exact m.getD zP _))) fun C=>?_
 refine xq 1 [yJ 18 (IntKind.i64.wrap (((64*k:Nat):Int)+((tzn b:Nat):Int)))] [] ?_
 rw[show IntKind.i64.wrap (((64*k:Nat):Int)+((tzn b:Nat):Int))=((tzn (val W64 xs):Nat):Int) by rw[n.done m h a qO,IntKind.wrap_i64];have:=ZerR.bound m a qO;omega]
 refine xq 1 [yJ 2 (tzn (val W64 xs):Nat)] [] ?_
 refine yZ (zJ ?_)
 refine yR (yI (tzn (val W64 xs):Nat)) fun w' R Q=>?_
 exact⟨rfl,R⟩
theorem Zo8 (A:qA)(xs:qN)(c:Nat)(w:World)(m:zH .u64 w A xs)(l:Dig W64 xs)(i:Nat)(hi:i≤274877906944) :
 yA 167 #[.slice A xs.length c,.int .i64 ((i:Nat):Int)] w (RetV w (.bool (decide (val W64 xs/2^i%2=1)))):=by
 refine zV (Φ:=fun w=>zH .u64 w A xs) func167 rfl qK (fun w' p=>m.ext p) ?_
 refine yY (xq 1 [yB 4 false] [] ?_)
 refine yZ (yY (xq 2 [(6,Γ (IntKind.i64.wrap (((i:Int)).tdiv 64)))] [] ?_))
 rw[show IntKind.i64.wrap ((((i:Int)).tdiv 64))=((i/64:Nat):Int) from tdq (i) 64 qO]
 refine xq 4 [yB 10 (decide (((i/64:Nat):Int)<((xs.length:Nat):Int)))] [] ?_
 rcases bl2 ((decide (((i/64:Nat):Int)<((xs.length:Nat):Int)))) with b|b
 ·rw[b]
  have g:=uB b
  have h:i/64<xs.length:=qO
  refine xq 3 [eS1 11 A xs.length c,(13,Γ (IntKind.i64.wrap (((i:Int)).tdiv 64)))] [] ?_
  rw[show IntKind.i64.wrap ((((i:Int)).tdiv 64))=((i/64:Nat):Int) from tdq (i) 64 qO]
  refine xqk 14 _ (fun w R Q=>wF (t:=84) (e:=207) (x:=.tmp 11) (ix:=.tmp 13) (len:=xs.length) (cap:=c) (i:=i/64) ((Q).ne (j:=i/64) qO) qO) ?_
  obtain⟨d,f⟩:=yE (xs[i/64]?.getD 0)
  refine xqk 15 (yX d) (fun w R Q=>by rw[←f];exact wU (t:=207) (x:=.tmp 14) (Q) qO) ?_
  refine xq 2 [yJ 17 (((i:Int)).tmod 64)] [] ?_
  rw[show ((i:Int)).tmod 64=((i%64:Nat):Int) from tdr (i) 64]
  refine xqk 18 _ (fun w R Q=>Zi1 (t:=207) (x:=.tmp 15) (y:=.tmp 17) (k:=3) (ky:=.i64) (a:=d) (n:=(i%64)) qO) ?_
  refine xqk 19 _ (fun w R Q=>ZqF (t:=207) (x:=.tmp 18) (y:=(Operand.const (Value.int IntKind.u64 1))) (k:=207) (a:=(d/2^(i%64))) (ha:=vN (vG _ _) (by rw[←f];exact l.getD zP _))) ?_
  refine xq 1 [(20,.v (.bool (((((d/2^(i%64))%2:Nat):Int):Int) == 1)))] [] ?_
  rw[show ((((d/2^(i%64))%2:Nat):Int) == 1)=decide (val W64 xs/2^i%2=1) from (ZrT _).trans (by rw[ZqH l h f])]
  refine xq 2 [yB 4 (decide (val W64 xs/2^i%2=1))] [] ?_
  refine yZ (zJ ?_)
  refine yR (.bool (decide (val W64 xs/2^i%2=1))) fun w' R Q=>?_
  exact⟨rfl,R⟩
 rw[b]
 have g:=uC b
 have h:¬ i/64<xs.length:=qO
 refine xq 12 [yB 4 false] [] ?_
 refine yZ (zJ ?_)
 refine yR (.bool false) fun w' R Q=>?_
 exact⟨by rw[Zo7 l h];rfl,R⟩
theorem ZqI {xs ys:qN}{j x y:Nat}(c:j<xs.length)(d:j<ys.length)(h:xs.drop (j+1)=ys.drop (j+1))(a:xs[j]?.getD 0=x)(b:ys[j]?.getD 0=y)(e:x=y):xs.drop j=ys.drop j:=by
 subst e
 rw[tR c,tR d,h]
 rw[uV c] at a
 rw[uV d] at b
 simp only[qG] at a b
 rw[a,b]
theorem Zja (A r:qA)(xs ys:qN)(c c2:Nat)(w:World)(S:zH .u64 w A xs)(T:zH .u64 w r ys)(V:xs.length≤4294967296)(G:Dig W64 xs)(H:Dig W64 ys)(I:Trim xs)(J:Trim ys) :
 yA 139 #[.slice A xs.length c,.slice r ys.length c2] w (RetV w (.int .i64 (cmpI ((val W64 xs:Nat):Int) ((val W64 ys:Nat):Int)))):=by
 refine zV (Φ:=fun w=>(zH .u64 w A xs∧zH .u64 w r ys)) func139 rfl qK (fun w' K=>⟨S.ext K,T.ext K⟩) ?_
 refine yY (xq 1 [yJ 4 0] [] ?_)
 refine yZ (zD (yY (xq 5 [yB 10 ((((xs.length:Nat):Int):Int) != ((ys.length:Nat):Int))] [] ?_)))
 refine xe (zB ?_)
 refine yQ (((((xs.length:Nat):Int):Int) != ((ys.length:Nat):Int))) (fun g=>?_) fun g=>?_
 ·have s:=Zhl g
  refine zD (yY (xq 5 [yB 15 (decide (((xs.length:Nat):Int)<((ys.length:Nat):Int)))] [] ?_))
  refine xe (zB ?_)
  refine yQ ((decide (((xs.length:Nat):Int)<((ys.length:Nat):Int)))) (fun h=>?_) fun h=>?_
  ·have u:=uB h
   refine yY (xq 1 [yJ 4 (-1)] [] ?_)
   refine yZ (zJ (zM (zM ?_)))
   refine yR (yI (-1)) fun w' R Q=>?_
   exact⟨by rw[←Zgx G H I J qO,iJ qO],R⟩
  have u:=uC h
  refine zG (zB (yY (xq 1 [yJ 4 1] [] ?_)))
  refine yZ (zJ (zM ?_))
  refine yR (yI 1) fun w' R Q=>?_
  exact⟨by rw[←Zgx G H I J qO,gU qO],R⟩
 have s:=Zhm g
 refine zG (zB (zD (yY (xq 3 [yJ 18 (IntKind.i64.wrap (((xs.length:Nat):Int)-1))] [] ?_))))
 rw[yW (((xs.length:Nat):Int)-1) (((xs.length:Nat):Int)-1) qO]
 refine xq 1 [yJ 5 (((xs.length:Nat):Int)-1)] [] ?_
 refine yZ (zO ?_)
 refine xI (fun L M O=>∃ (k:Nat),M=ofL [eS1 0 A xs.length c,eS1 1 r ys.length c2,yJ 4 0,yJ 5 ((k:Int)-1)] []∧O=(fun w=>(zH .u64 w A (xs)∧zH .u64 w r (ys)))∧(xs.drop k=ys.drop k)∧(k≤xs.length)∧L=(1+k)) _ ⟨xs.length,rfl,rfl,(by rw[vA (uF _),vA qO]),uF _,rfl⟩ (fun w Q=>⟨Q.1,Q.2⟩) ?_
 rintro L M O ⟨k,rfl,rfl,D,W,rfl⟩
 refine zD (yY (xq 2 [(20,.v (.bool (decide (((k:Int)-1)≥0))))] [] ?_))
 refine xe (zB ?_)
 refine yQ ((decide (((k:Int)-1)≥0))) (fun l=>?_) fun l=>?_
 ·have z:=uB l
  obtain⟨j,rfl⟩:∃ j,k=j+1:=⟨k-1,qO⟩
  rw[show ((((j+1):Nat):Int)-1)=(j:Int) by omega]
  refine zG (zB (zD (zO (zD ?_))))
  refine yO 9 zQ ?_
  refine xqf 2 [eS1 23 A xs.length c,yJ 24 j] [] ?_
  refine xqj 25 _ (fun w Q=>wF (t:=84) (e:=207) (x:=.tmp 23) (ix:=.tmp 24) (len:=xs.length) (cap:=c) (i:=j) ((Q.1).ne (j:=j) qO) qO) ?_
  obtain⟨d,a⟩:=yE (xs[j]?.getD 0)
  refine xqj 26 (yX d) (fun w Q=>by rw[←a];exact wU (t:=207) (x:=.tmp 25) (Q.1) (j:=j) qO) ?_
  refine xqf 2 [eS1 27 r ys.length c2,yJ 28 j] [] ?_
  refine xqj 29 _ (fun w Q=>wF (t:=84) (e:=207) (x:=.tmp 27) (ix:=.tmp 28) (len:=ys.length) (cap:=c2) (i:=j) ((Q.2).ne (j:=j) qO) qO) ?_
  obtain⟨f,b⟩:=yE (ys[j]?.getD 0)
  refine xqj 30 (yX f) (fun w Q=>by rw[←b];exact wU (t:=207) (x:=.tmp 29) (Q.2) qO) ?_
  refine xqf 1 [yB 31 (((d:Int):Int) != (f:Int))] [] ?_
  refine xz (xe (zB ?_))
  refine yQ ((((d:Int):Int) != (f:Int))) (fun m=>?_) fun m=>?_
  ·have B:=Zhl m
   refine zD (zD ?_)
   refine yO 9 zQ ?_
   refine xqf 2 [eS1 32 A xs.length c,yJ 33 j] [] ?_
   refine xqj 34 _ (fun w Q=>wF (t:=84) (e:=207) (x:=.tmp 32) (ix:=.tmp 33) (len:=xs.length) (cap:=c) (i:=j) ((Q.1).ne (j:=j) qO) qO) ?_
   obtain⟨E,p⟩:=yE (xs[j]?.getD 0)
   refine xqj 35 (yX E) (fun w Q=>by rw[←p];exact wU (t:=207) (x:=.tmp 34) (Q.1) (j:=j) qO) ?_
   obtain rfl:d=E:=by rw[←a,p]
   refine xqf 2 [eS1 36 r ys.length c2,yJ 37 j] [] ?_
   refine xqj 38 _ (fun w Q=>wF (t:=84) (e:=207) (x:=.tmp 36) (ix:=.tmp 37) (len:=ys.length) (cap:=c2) (i:=j) ((Q.2).ne (j:=j) qO) qO) ?_
   obtain⟨F,q⟩:=yE (ys[j]?.getD 0)
   refine xqj 39 (yX F) (fun w Q=>by rw[←q];exact wU (t:=207) (x:=.tmp 38) (Q.2) qO) ?_
   obtain rfl:f=F:=by rw[←b,q]
   refine xqf 1 [yB 40 (decide ((d:Int)<(f:Int)))] [] ?_
   refine xz (xe (zB ?_))
   refine yQ ((decide ((d:Int)<(f:Int)))) (fun n=>?_) fun n=>?_
   ·have C:=uB n
    refine yY (xq 1 [yJ 4 (-1)] [] ?_)
    refine yZ (zJ (zM (wY (zM (zM (wY (zM ?_)))))))
    refine yR (yI (-1)) fun w' R Q=>?_
    exact⟨by rw[←Zdp G H qO qO D a b qO,iJ qO],R⟩
   have C:=uC n
   refine zG (zB (yY (xq 1 [yJ 4 1] [] ?_)))
   refine yZ (zJ (wY (zM (zM (wY (zM ?_))))))
   refine yR (yI 1) fun w' R Q=>?_
   exact⟨by rw[←Zdp G H qO qO D a b qO,gU qO],R⟩
  have B:=Zhm m
  have U:xs.drop j=ys.drop j:=ZqI qO qO D a b qO
  refine zG (xK (zB (zC (xq 2 [yJ 22 (IntKind.i64.wrap ((j:Int)-1))] [] ?_))))
  rw[yW ((j:Int)-1) ((j:Int)-1) qO]
  refine xq 1 [yJ 5 ((j:Int)-1)] [] ?_
  refine xe ?_
  exact xC _ qO ⟨j,rfl,rfl,U,qO,rfl⟩ (fun w Q=>⟨Q.1,Q.2⟩)
 have z:=uC l
 obtain rfl:k=0:=qO
 refine xJ (zE (zE (xL (zB (yY (xq 1 [yJ 4 0] [] ?_))))))
 refine yZ (zJ ?_)
 refine yR (yI 0) fun w' R Q=>?_
 exact⟨by rw[sE,sE] at D;rw[D,Zdo],R⟩
def ZrU (b:Nat) (xs:List Nat) (u:Nat) (w:World) (e:Ending) (w':World):Prop:=∃ qs,e=.returned (.int .u64 ((val W64 xs%u:Nat):Int))∧(qs.length=xs.length∧Dig W64 qs∧val W64 qs=val W64 xs/u)∧Fr (fun i=>i=b) w w'∧Own .u64 207 w' b qs
theorem Zbz (b c:Nat)(xs:qN)(u:Nat)(w:World)(m:Own .u64 207 w b xs)(D:xs.length≤4294967296)(z:Dig W64 xs)(A:0<u)(n:u<W64) :
 yA 144 #[.slice (some ⟨b,0,none⟩) xs.length c,.int .u64 ((u:Nat):Int)] w (ZrU b xs u w):=by
 refine fY (fun i=>i=b) func144 rfl qK (fun w' B=>m.ext B) ?_
 refine yY (xq 1 [yU 4 0] [] ?_)
 refine yZ (yY (xq 1 [yU 5 0] [] ?_))
 refine yZ (zD (yY (xq 3 [yJ 9 (IntKind.i64.wrap (((xs.length:Nat):Int)-1))] [] ?_)))
 rw[yW (((xs.length:Nat):Int)-1) (((xs.length:Nat):Int)-1) qO]
 refine xq 1 [yJ 6 (((xs.length:Nat):Int)-1)] [] ?_
 refine yZ (zO ?_)
 refine xI (fun p q s=>∃ (k:Nat) (r:Nat) (h:List Nat),q=ofL [eS1 0 (yL b) xs.length c,yU 1 u,yU 4 0,yU 5 r,yJ 6 ((k:Int)-1)] []∧s=(fun w=>Own .u64 207 w b (h))∧(DwR xs u k h r)∧(k≤xs.length)∧p=(1+k)) _ ⟨xs.length,0,xs,rfl,rfl,DwR.start z A,uF _,rfl⟩ (fun w Q=>Q) ?_
 rintro p q s ⟨k,r,h,rfl,rfl,g,E,rfl⟩
 refine zD (yY (xq 2 [(11,.v (.bool (decide (((k:Int)-1)≥0))))] [] ?_))
 refine xe (zB ?_)
 refine yQ ((decide (((k:Int)-1)≥0))) (fun f=>?_) fun f=>?_
 ·have l:=uB f
  obtain⟨j,rfl⟩:∃ j,k=j+1:=⟨k-1,qO⟩
  rw[show ((((j+1):Nat):Int)-1)=(j:Int) by omega]
  have C:=g.1.1
  refine zG (zB (zD (zO (zC (xq 5 [eS1 15 (yL b) xs.length c,yJ 16 j,yU 17 r,eS1 18 (yL b) xs.length c,yJ 19 j] [] ?_)))))
  refine xqk 20 (.pointer (some ⟨b,j,none⟩)) (fun w R Q=>lX (t:=84) (e:=207) (x:=.tmp 18) (ix:=.tmp 19) (len:=xs.length) (cap:=c) (i:=j) qO) ?_
  obtain⟨a,d⟩:=yE (h[j]?.getD 0)
  refine xqk 21 (yX a) (fun w R Q=>by rw[←d];exact gJ (t:=207) (x:=.tmp 20) (Q) (j:=j) qO) ?_
  refine xq 1 [yU 22 u] [] ?_
  refine xqc _ _ 23 (fun _:Unit=>.tuple #[yX (divQ r a u:Nat), yX (divR r a u:Nat)]) _ (fun w R Q=>yN (Zhs r a u _ g.1.2.2.1 n (by rw[←d];exact g.1.2.1.getD zP _))) fun F=>?_
  refine xq 3 [yU 24 (divQ r a u:Nat),yU 25 (divR r a u:Nat)] [] ?_
  refine xqk 26 (.pointer (some ⟨b,j,none⟩)) (fun w R Q=>lX (t:=84) (e:=207) (x:=.tmp 15) (ix:=.tmp 16) (len:=xs.length) (cap:=c) (i:=j) qO) ?_
  refine jL (t:=207) (x:=.tmp 26) (y:=.tmp 24) b (j) (divQ r a u) (fun w=>(Own .u64 207 w b ((h).set (j) (divQ r a u))∧True)) (fun w Q=>Q.1) qO (Or.inr rfl) (fun w w' Q G m=>⟨m,trivial⟩) ?_
  refine xq 1 [yU 5 (divR r a u:Nat)] [] ?_
  refine xe (xK (zB (zC (xq 2 [yJ 13 (IntKind.i64.wrap ((j:Int)-1))] [] ?_))))
  rw[yW ((j:Int)-1) ((j:Int)-1) qO]
  refine xq 1 [yJ 6 ((j:Int)-1)] [] ?_
  refine xe ?_
  exact xC _ qO ⟨j,(divR r a u),((h).set (j) (divQ r a u)),rfl,rfl,(g.step qO d (by rw[←d];exact g.1.2.1.getD zP _)),qO,rfl⟩ (fun w Q=>Q.1)
 have l:=uC f
 obtain rfl:k=0:=qO
 refine xJ (zE (zE (xL (zB (yY (xq 2 [yU 4 r] [] ?_))))))
 refine yZ (zJ ?_)
 refine yR (yX r) fun w' R Q=>?_
 exact⟨h,by rw[g.1.done.2],⟨g.1.1,g.1.2.1,g.1.done.1⟩,R,Q⟩
def ZkX (b:Nat) (w:World) (p:List Nat→Nat→Prop) (e:Ending) (w':World):Prop:=∃ x:List Nat × Nat,e=.returned (.bool (((x.2:Nat):Int) == 1))∧p x.1 x.2∧Fr (fun i=>i=b) w w'∧Own .u64 207 w' b x.1
theorem Zjb (b c o:Nat)(m ys:qN)(A:qA)(c2:Nat)(w:World)(C:Own .u64 207 w b m)(S:zH .u64 w A ys)(J:∀ a,A=some a→a.block≠b)(U:o+ys.length<m.length)(V:m.length≤4294967296)(T:Dig W64 m)(D:Dig W64 ys)(q:Nat)(E:q<W64) :
 yA 204 #[.slice (some ⟨b,o,none⟩) (ys.length+1) c,.slice A ys.length c2,.int .u64 ((q:Nat):Int)] w (ZkX b w (ZdN m ys q o)):=by
 refine fY (fun i=>i=b) (Φ:=fun w=>(Own .u64 207 w b m∧zH .u64 w A ys)) func204 rfl qK (fun w' K=>⟨C.ext K,S.ext K⟩) ?_
 refine yY (xq 1 [yB 6 false] [] ?_)
 refine yZ (yY (xq 2 [yU 7 0,yU 8 0] [] ?_))
 refine yZ (zD (yY (xq 3 [eS1 14 A ys.length c2,yJ 15 ys.length,yJ 16 0] [] ?_)))
 refine yZ (zO ?_)
 refine xI (fun L M O=>∃ (f g k:Nat) (r:List Nat),M=ofL [eS1 0 (some ⟨b,o,none⟩) (ys.length+1) c,eS1 1 A ys.length c2,yU 2 q,yB 6 false,yU 7 f,yU 8 g,eS1 14 A ys.length c2,yJ 15 ys.length,yJ 16 k] []∧O=(fun w=>(Own .u64 207 w b (r)∧zH .u64 w A (ys)))∧(SpR m ys q o k r f g)∧(k≤ys.length)∧L=(ys.length-k)) _ ⟨0,0,0,m,rfl,rfl,SpR.start ys q o T,qO,rfl⟩ (fun w Q=>⟨Q.1,Q.2⟩) ?_
 rintro L M O ⟨f,g,k,r,rfl,rfl,z,W,rfl⟩
 refine yY (xq 1 [yB 17 (decide ((k:Int)<((ys.length:Nat):Int)))] [] ?_)
 refine yZ (zD ?_)
 refine yQ ((decide ((k:Int)<((ys.length:Nat):Int)))) (fun p=>?_) fun p=>?_
 ·have B:=uB p
  have F:=z.1
  have G:=z.2.2.2.1
  refine zG (zB (zD (zO (yY (xq 1 [yJ 18 k] [] ?_)))))
  refine xqk 19 _ (fun w R Q=>wF (t:=84) (e:=207) (x:=.tmp 14) (ix:=.tmp 16) (len:=ys.length) (cap:=c2) (i:=k) ((Q.2).ne (j:=k) qO) qO) ?_
  obtain⟨d,n⟩:=yE (ys[k]?.getD 0)
  refine xqk 20 (yX d) (fun w R Q=>by rw[←n];exact wU (t:=207) (x:=.tmp 19) (Q.2) (j:=k) qO) ?_
  refine xq 2 [yJ 9 k,yU 10 d] [] ?_
  refine yZ (yY (xq 2 [yU 22 d,yU 23 q] [] ?_))
  refine xqc _ _ 24 (fun _:Unit=>.tuple #[yX (wQ d q:Nat), yX (xH d q:Nat)]) _ (fun w R Q=>yN (ZdG d q _ (by rw[←n];exact D.getD zP _) E)) fun X=>?_
  refine xq 5 [yU 11 (wQ d q:Nat),yU 12 (xH d q:Nat)] [] ?_
  refine yZ (yY (xq 2 [yU 28 (xH d q:Nat),yU 29 f] [] ?_))
  refine xqk 30 _ (fun w R Q=>fT (args:=[Operand.tmp 28,Operand.tmp 29,Operand.const (Value.int IntKind.u64 0)]) (ts:=#[207,207,207]) (gY (xH d q) f 0 qO w)) ?_
  refine xq 5 [yU 12 (xO (xH d q) f 0:Nat),yU 13 (xU (xH d q) f 0:Nat)] [] ?_
  refine yZ (yY (xq 3 [(35,.v (yX (IntKind.u64.wrap (((wQ d q:Nat):Int)+((xU (xH d q) f 0:Nat):Int)))))] [] ?_))
  rw[Zf5 (a:=wQ d q) (b:=xU (xH d q) f 0) (Zi9 (by rw[←n];exact D.getD zP _) E z.2.2.1)]
  refine xq 1 [yU 7 (wQ d q+xU (xH d q) f 0:Nat)] [] ?_
  refine yZ (zC (xq 4 [eS1 37 (some ⟨b,o,none⟩) (ys.length+1) c,yJ 38 k,eS1 39 (some ⟨b,o,none⟩) (ys.length+1) c,yJ 40 k] [] ?_))
  refine xqk 41 (.pointer (some ⟨b,o+k,none⟩)) (fun w R Q=>jX (t:=84) (e:=207) (x:=.tmp 39) (ix:=.tmp 40) (len:=(ys.length+1)) (cap:=c) (i:=k) qO) ?_
  obtain⟨h,s⟩:=yE (r[o+k]?.getD 0)
  refine xqk 42 (yX h) (fun w R Q=>by rw[←s];exact gJ (t:=207) (x:=.tmp 41) (Q.1.1) (j:=o+k) qO) ?_
  refine xq 2 [yU 43 (xO (xH d q) f 0:Nat),yU 44 g] [] ?_
  refine xqk 45 _ (fun w R Q=>fT (args:=[Operand.tmp 42,Operand.tmp 43,Operand.tmp 44]) (ts:=#[207,207,207]) (gZ h (xO (xH d q) f 0) g qO w)) ?_
  refine xq 3 [yU 46 (kL h (xO (xH d q) f 0) g:Nat),yU 47 (kM h (xO (xH d q) f 0) g:Nat)] [] ?_
  refine xqk 48 (.pointer (some ⟨b,o+k,none⟩)) (fun w R Q=>jX (t:=84) (e:=207) (x:=.tmp 37) (ix:=.tmp 38) (len:=(ys.length+1)) (cap:=c) (i:=k) qO) ?_
  refine jL (t:=207) (x:=.tmp 48) (y:=.tmp 46) b (o+k) (kL h (xO (xH d q) f 0) g) (fun w=>((Own .u64 207 w b ((r).set (o+k) (kL h (xO (xH d q) f 0) g))∧zH .u64 w A (ys))∧True)) (fun w Q=>Q.1.1) qO (Or.inr rfl) (fun w w' Q H C=>⟨⟨C,((Q.1.2).fr H (fun a I _=>J a I))⟩,trivial⟩) ?_
  refine xr 1 [eS1 0 (some ⟨b,o,none⟩) (ys.length+1) c,eS1 1 A ys.length c2,yU 2 q,yB 6 false,yU 7 (wQ d q+xU (xH d q) f 0:Nat),yU 8 (kM h (xO (xH d q) f 0) g:Nat),eS1 14 A ys.length c2,yJ 15 ys.length,yJ 16 k] [] ?_
  refine xe (xK (zB (zC (xq 1 [yJ 49 (IntKind.i64.wrap ((k:Int)+1))] [] ?_))))
  rw[yW ((k:Int)+1) (((k+1:Nat):Int)) qO]
  refine xq 1 [yJ 16 (k+1:Nat)] [] ?_
  refine xe ?_
  exact xC _ qO ⟨(wQ d q+xU (xH d q) f 0),(kM h (xO (xH d q) f 0) g),(k+1),((r).set (o+k) (kL h (xO (xH d q) f 0) g)),rfl,rfl,(z.step qO n s D E),qO,rfl⟩ (fun w Q=>⟨Q.1.1,Q.1.2⟩)
 have B:=uC p
 have F:=z.1
 have G:=z.2.2.2.1
 obtain rfl:k=ys.length:=qO
 refine xJ (zE (zE (xL (zB (yY (xq 6 [eS1 51 (some ⟨b,o,none⟩) (ys.length+1) c,yJ 53 ys.length,eS1 54 (some ⟨b,o,none⟩) (ys.length+1) c,yJ 56 ys.length] [] ?_))))))
 refine xqk 57 (.pointer (some ⟨b,o+ys.length,none⟩)) (fun w R Q=>jX (t:=84) (e:=207) (x:=.tmp 54) (ix:=.tmp 56) (len:=(ys.length+1)) (cap:=c) (i:=ys.length) qO) ?_
 obtain⟨l,u⟩:=yE (r[o+ys.length]?.getD 0)
 refine xqk 58 (yX l) (fun w R Q=>by rw[←u];exact gJ (t:=207) (x:=.tmp 57) (Q.1) (j:=o+ys.length) qO) ?_
 refine xq 2 [yU 59 f,yU 60 g] [] ?_
 refine xqk 61 _ (fun w R Q=>fT (args:=[Operand.tmp 58,Operand.tmp 59,Operand.tmp 60]) (ts:=#[207,207,207]) (gZ l f g qO w)) ?_
 refine xq 3 [yU 62 (kL l f g:Nat),yU 63 (kM l f g:Nat)] [] ?_
 refine xqk 64 (.pointer (some ⟨b,o+ys.length,none⟩)) (fun w R Q=>jX (t:=84) (e:=207) (x:=.tmp 51) (ix:=.tmp 53) (len:=(ys.length+1)) (cap:=c) (i:=ys.length) qO) ?_
 refine jL (t:=207) (x:=.tmp 64) (y:=.tmp 62) b (o+ys.length) (kL l f g) (fun w=>(Own .u64 207 w b ((r).set (o+ys.length) (kL l f g))∧zH .u64 w A (ys))) (fun w Q=>Q.1) qO (Or.inr rfl) (fun w w' Q H C=>⟨C,((Q.2).fr H (fun a I _=>J a I))⟩) ?_
 refine xq 1 [yU 8 (kM l f g:Nat)] [] ?_
 refine yZ (yY (xq 3 [yB 6 ((((kM l f g:Nat):Int):Int) == 1)] [] ?_))
 refine yZ (zJ ?_)
 refine yR (.bool ((((kM l f g:Nat):Int):Int) == 1)) fun w' R Q=>?_
 exact⟨(_,_),rfl,z.done qO u,R,Q.1⟩
theorem Zjc (b c o:Nat)(l ys:qN)(A:qA)(c2:Nat)(w:World)(v:Own .u64 207 w b l)(J:zH .u64 w A ys)(E:∀ a,A=some a→a.block≠b)(M:o+ys.length<l.length)(O:l.length≤4294967296)(K:Dig W64 l)(L:Dig W64 ys) :
 yA 205 #[.slice (some ⟨b,o,none⟩) (ys.length+1) c,.slice A ys.length c2] w (ZkX b w (ZdO l ys o)):=by
 refine fY (fun i=>i=b) (Φ:=fun w=>(Own .u64 207 w b l∧zH .u64 w A ys)) func205 rfl qK (fun w' F=>⟨v.ext F,J.ext F⟩) ?_
 refine yY (xq 1 [yB 4 false] [] ?_)
 refine yZ (yY (xq 1 [yU 5 0] [] ?_))
 refine yZ (zD (yY (xq 3 [eS1 8 A ys.length c2,yJ 9 ys.length,yJ 10 0] [] ?_)))
 refine yZ (zO ?_)
 refine xI (fun G H I=>∃ (f k:Nat) (n:List Nat),H=ofL [eS1 0 (some ⟨b,o,none⟩) (ys.length+1) c,eS1 1 A ys.length c2,yB 4 false,yU 5 f,eS1 8 A ys.length c2,yJ 9 ys.length,yJ 10 k] []∧I=(fun w=>(Own .u64 207 w b (n)∧zH .u64 w A (ys)))∧(AbR l ys o k n f)∧(k≤ys.length)∧G=(ys.length-k)) _ ⟨0,0,l,rfl,rfl,AbR.start ys o K,qO,rfl⟩ (fun w Q=>⟨Q.1,Q.2⟩) ?_
 rintro G H I ⟨f,k,n,rfl,rfl,u,S,rfl⟩
 refine yY (xq 1 [yB 11 (decide ((k:Int)<((ys.length:Nat):Int)))] [] ?_)
 refine yZ (zD ?_)
 refine yQ ((decide ((k:Int)<((ys.length:Nat):Int)))) (fun m=>?_) fun m=>?_
 ·have s:=uB m
  have z:=u.1
  have B:=u.2.2.1
  refine zG (zB (zD (zO (yY (xq 1 [yJ 12 k] [] ?_)))))
  refine xqk 13 _ (fun w R Q=>wF (t:=84) (e:=207) (x:=.tmp 8) (ix:=.tmp 10) (len:=ys.length) (cap:=c2) (i:=k) ((Q.2).ne (j:=k) qO) qO) ?_
  obtain⟨d,p⟩:=yE (ys[k]?.getD 0)
  refine xqk 14 (yX d) (fun w R Q=>by rw[←p];exact wU (t:=207) (x:=.tmp 13) (Q.2) (j:=k) qO) ?_
  refine xq 2 [yJ 6 k,yU 7 d] [] ?_
  refine yZ (zC (xq 4 [eS1 16 (some ⟨b,o,none⟩) (ys.length+1) c,yJ 17 k,eS1 18 (some ⟨b,o,none⟩) (ys.length+1) c,yJ 19 k] [] ?_))
  refine xqk 20 (.pointer (some ⟨b,o+k,none⟩)) (fun w R Q=>jX (t:=84) (e:=207) (x:=.tmp 18) (ix:=.tmp 19) (len:=(ys.length+1)) (cap:=c) (i:=k) qO) ?_
  obtain⟨g,q⟩:=yE (n[o+k]?.getD 0)
  refine xqk 21 (yX g) (fun w R Q=>by rw[←q];exact gJ (t:=207) (x:=.tmp 20) (Q.1) (j:=o+k) qO) ?_
  refine xq 2 [yU 22 d,yU 23 f] [] ?_
  refine xqk 24 _ (fun w R Q=>fT (args:=[Operand.tmp 21,Operand.tmp 22,Operand.tmp 23]) (ts:=#[207,207,207]) (gY g d f qO w)) ?_
  refine xq 3 [yU 25 (xO g d f:Nat),yU 26 (xU g d f:Nat)] [] ?_
  refine xqk 27 (.pointer (some ⟨b,o+k,none⟩)) (fun w R Q=>jX (t:=84) (e:=207) (x:=.tmp 16) (ix:=.tmp 17) (len:=(ys.length+1)) (cap:=c) (i:=k) qO) ?_
  refine jL (t:=207) (x:=.tmp 27) (y:=.tmp 25) b (o+k) (xO g d f) (fun w=>(Own .u64 207 w b ((n).set (o+k) (xO g d f))∧zH .u64 w A (ys))) (fun w Q=>Q.1) qO (Or.inr rfl) (fun w w' Q C v=>⟨v,((Q.2).fr C (fun a D _=>E a D))⟩) ?_
  refine xq 1 [yU 5 (xU g d f:Nat)] [] ?_
  refine xe (xK (zB (zC (xq 1 [yJ 28 (IntKind.i64.wrap ((k:Int)+1))] [] ?_))))
  rw[yW ((k:Int)+1) (((k+1:Nat):Int)) qO]
  refine xq 1 [yJ 10 (k+1:Nat)] [] ?_
  refine xe ?_
  exact xC _ qO ⟨(xU g d f),(k+1),((n).set (o+k) (xO g d f)),rfl,rfl,(u.step qO p q L),qO,rfl⟩ (fun w Q=>⟨Q.1,Q.2⟩)
 have s:=uC m
 have z:=u.1
 have B:=u.2.2.1
 obtain rfl:k=ys.length:=qO
 refine xJ (zE (zE (xL (zB (yY (xq 6 [eS1 30 (some ⟨b,o,none⟩) (ys.length+1) c,yJ 32 ys.length,eS1 33 (some ⟨b,o,none⟩) (ys.length+1) c,yJ 35 ys.length] [] ?_))))))
 refine xqk 36 (.pointer (some ⟨b,o+ys.length,none⟩)) (fun w R Q=>jX (t:=84) (e:=207) (x:=.tmp 33) (ix:=.tmp 35) (len:=(ys.length+1)) (cap:=c) (i:=ys.length) qO) ?_
 obtain⟨h,r⟩:=yE (n[o+ys.length]?.getD 0)
 refine xqk 37 (yX h) (fun w R Q=>by rw[←r];exact gJ (t:=207) (x:=.tmp 36) (Q.1) (j:=o+ys.length) qO) ?_
 refine xq 1 [yU 38 f] [] ?_
 refine xqk 39 _ (fun w R Q=>fT (args:=[Operand.tmp 37,Operand.const (Value.int IntKind.u64 0),Operand.tmp 38]) (ts:=#[207,207,207]) (gY h 0 f qO w)) ?_
 refine xq 3 [yU 40 (xO h 0 f:Nat),yU 41 (xU h 0 f:Nat)] [] ?_
 refine xqk 42 (.pointer (some ⟨b,o+ys.length,none⟩)) (fun w R Q=>jX (t:=84) (e:=207) (x:=.tmp 30) (ix:=.tmp 32) (len:=(ys.length+1)) (cap:=c) (i:=ys.length) qO) ?_
 refine jL (t:=207) (x:=.tmp 42) (y:=.tmp 40) b (o+ys.length) (xO h 0 f) (fun w=>(Own .u64 207 w b ((n).set (o+ys.length) (xO h 0 f))∧zH .u64 w A (ys))) (fun w Q=>Q.1) qO (Or.inr rfl) (fun w w' Q C v=>⟨v,((Q.2).fr C (fun a D _=>E a D))⟩) ?_
 refine xq 1 [yU 5 (xU h 0 f:Nat)] [] ?_
 refine yZ (yY (xq 3 [yB 4 ((((xU h 0 f:Nat):Int):Int) == 1)] [] ?_))
 refine yZ (zJ ?_)
 refine yR (.bool ((((xU h 0 f:Nat):Int):Int) == 1)) fun w' R Q=>?_
 exact⟨(_,_),rfl,u.done qO r,R,Q.1⟩
noncomputable def win (o n:Nat) (zs:List Nat):Nat:=val W64 ((zs.drop o).take (n+1))
theorem Zab {o n:Nat}{zs:qN}(h:o≤zs.length):val W64 (zs.take (o+n+1))=val W64 (zs.take o)+W64^o*win o n zs:=by
 unfold win
 rw[show o+n+1=o+(n+1) by omega,List.take_add,kK,uM,uU h]
theorem Znq {o n:Nat}{zs:qN}(a:Dig W64 zs):win o n zs<W64^(n+1):=by
 have:=xZ ((a.drop o).take (n+1))
 refine uS this (vE zP (by rw[uM];exact Nat.min_le_left _ _))
def WinR (o n:Nat) (zs0 zs:List Nat):Prop:=zs.length=zs0.length∧Dig W64 zs∧zs.take o=zs0.take o∧zs.drop (o+n+1)=zs0.drop (o+n+1)
theorem WinR.start {o n:Nat}{zs0:qN}(h:Dig W64 zs0):WinR o n zs0 zs0:=⟨rfl,h,rfl,rfl⟩
theorem Zf7 {o a b c d x:Nat}(h:x+W64^o*a+W64^o*b=x+W64^o*c+W64^o*d):a+b=c+d:=by
 have e:W64^o*(a+b)=W64^o*(c+d):=by rw[uK,uK];omega
 exact Nat.eq_of_mul_eq_mul_left (uY zP) e
theorem ZdN.win {a c ys zs:qN}{q o b:Nat}(h:ZdN c ys q o zs b)(n:o≤a.length)(k:WinR o ys.length a c):WinR o ys.length a zs∧b≤1∧win o ys.length zs+q*val W64 ys=win o ys.length c+W64^(ys.length+1)*b:=by
 obtain⟨f,g,i,d,j,e⟩:=h
 obtain⟨k1,p,l,m⟩:=k
 refine⟨⟨f.trans k1,g,d.trans l,j.trans m⟩,i,?_⟩
 rw[Zab qO,Zab qO,d,show o+ys.length+1=o+(ys.length+1) by omega,uW,uH (W64^o)] at e
 exact Zf7 e
theorem ZdO.win {a b ys zs:qN}{o c:Nat}(h:ZdO b ys o zs c)(n:o≤a.length)(k:WinR o ys.length a b):WinR o ys.length a zs∧c≤1∧win o ys.length zs+W64^(ys.length+1)*c=win o ys.length b+val W64 ys:=by
 obtain⟨f,g,i,d,j,e⟩:=h
 obtain⟨k1,p,l,m⟩:=k
 refine⟨⟨f.trans k1,g,d.trans l,j.trans m⟩,i,?_⟩
 rw[Zab qO,Zab qO,d,show o+ys.length+1=o+(ys.length+1) by omega,uW,uH (W64^o)] at e
 exact Zf7 e
theorem ZqJ {o n:Nat}{zs:qN}{u0 u1 u2:Nat}(e:2≤n)(f:o+n<zs.length)(c:zs[o+n]?.getD 0=u0)(a:zs[o+(n-1)]?.getD 0=u1)(b:zs[o+(n-2)]?.getD 0=u2)(d:Dig W64 zs) :
 ∃ l,l<W64^(n-2)∧win o n zs=l+W64^(n-2)*(u2+W64*(u1+W64*u0)):=by
 obtain⟨m,rfl⟩:∃ m,n=m+2:=⟨n-2,qO⟩
 refine⟨val W64 ((zs.drop o).take m),?_,?_⟩
 ·have:=xZ ((d.drop o).take m)
  rw[uM,tC,uU qO] at this
  exact this
 unfold win
 simp only[show m+2-1=m+1 by omega,show m+2-2=m by omega] at a b ⊢
 have g:∀ j,(zs.drop o)[j]?.getD 0=zs[o+j]?.getD 0:=fun j=>by rw[vJ]
 rw[lN (m+2),lN (m+1),lN m,g,g,g,c,a,b]
 simp only[uP,uK,uH,sD]
theorem ZqK {n:Nat}{ys:qN}{t v2:Nat}(c:2≤n)(d:ys.length=n)(a:ys[n-1]?.getD 0=t)(b:ys[n-2]?.getD 0=v2):∃ l,val W64 ys=l+W64^(n-2)*(v2+W64*t):=by
 obtain⟨m,rfl⟩:∃ m,n=m+2:=⟨n-2,qO⟩
 refine⟨val W64 (ys.take m),?_⟩
 simp only[show m+2-1=m+1 by omega,show m+2-2=m by omega] at a b ⊢
 have:=lN (B:=W64) (xs:=ys) (m+1)
 rw[uA qO,lN m,a,b,uP] at this
 rw[this]
 simp only[uK,uH,sD]
theorem Zo9 {B l U V a u0 u1 u2 v2 t:Nat}(f:l<B)(g:U=l+B*(u2+W64*(u1+W64*u0)))(b:V=a+B*(v2+W64*t))(h:u2<W64)(c:0<t):U/V≤divQ u0 u1 t:=by
 unfold divQ
 rw[pQ c]
 have i:=Nat.div_mul_le_self U V
 generalize U/V=q at *
 have j:q*(B*(W64*t))≤q*V:=uI _ (by rw[b,uK];omega)
 have d:B*(q*(W64*t))<B*(u2+W64*(u1+W64*u0)+1):=by
  rw[tL,uK B (_+_) 1];omega
 have k:=sN d
 have e:W64*(q*t)<W64*(u1+W64*u0+1):=by
  rw[tL,uK W64 (_+_) 1];omega
 have m:=sN e
 rw[uG u0];omega
theorem Zf8 {B l U V b u0 u1 u2 v2 t g r:Nat}(j:l<B)(k:U=l+B*(u2+W64*(u1+W64*u0)))(c:V=b+B*(v2+W64*t))(d:r+g*t=u0*W64+u1)(h:r*W64+u2<g*v2)(a:0<V):U/V+1≤g:=by
 rw[Nat.add_one_le_iff,vQ a]
 have f:u2+W64*(u1+W64*u0)+1≤g*(v2+W64*t):=by
  have e:W64*(r+g*t)=W64*(u1+W64*u0):=by rw[d,vO,uG u0]
  rw[uK g,tL g]
  rw[uK W64 r] at e
  rw[uG r] at h
  omega
 have i:B*(u2+W64*(u1+W64*u0)+1)≤g*V:=by
  refine uD (uI B f) ?_
  rw[tL,c]
  exact uI _ qO
 rw[uK B (_+_) 1] at i
 omega
theorem Znr {U V:Nat}(h:U<W64*V):U/V≤W64-1:=by
 have a:0<V:=qJ (fun e=>by subst e;omega)
 have:=(vQ a).2 h
 omega
theorem ZkY {hi lo r u g v:Nat}(h:lo+W64*hi=g*v)(b:¬ hi<r)(c:hi=r→¬ lo≤u)(d:u<W64):r*W64+u<g*v:=by
 rw[←h,uG r]
 rcases Nat.lt_trichotomy hi r with a|a|a
 ·exact absurd a b
 ·have:=c a;subst a;omega
 have:=uI W64 a
 rw[Nat.mul_succ] at this
 omega
def CorR (U V P:Nat) (g b wn:Nat):Prop:=b≤1∧wn<P∧U/V≤g∧wn+g*V=U+P*b
theorem CorR.pos {U V P g b a:Nat}(h:CorR U V P g b a)(c:b=1)(d:0<V):U/V+1≤g:=by
 obtain⟨_,e,_,f⟩:=h
 subst c
 rw[Nat.add_one_le_iff,vQ d]
 omega
theorem CorR.step {U V P g b d wn' c:Nat}(h:CorR U V P g b d)(e:b=1)(i:0<V)(l:c≤1)(j:wn'<P)(f:wn'+P*c=d+V):CorR U V P (g-1) (1-c) wn':=by
 have m:=h.pos e i
 obtain⟨n,o,p,a⟩:=h
 subst e
 unfold CorR
 generalize U/V=q at *
 refine⟨qO,j,qO,?_⟩
 obtain⟨k,rfl⟩:∃ k,g=k+1:=⟨g-1,qO⟩
 rw[tN]
 rw[vC] at a
 rcases (by omega:c=0∨c=1) with rfl|rfl
 ·simp at f a ⊢;omega
 simp at f a ⊢;omega
theorem CorR.done {U V P g a:Nat}(h:CorR U V P g 0 a)(b:0<V):g=U/V∧a=U%V:=by
 obtain⟨d,f,i,c⟩:=h
 rw[tV,tE] at c
 have j:g≤U/V:=by rw[pQ b];omega
 have e:g=U/V:=qO
 refine⟨e,?_⟩
 have:=tB U V
 rw[←e,uG] at this
 omega
theorem ZsC:(18446744073709551615:Int)=((W64-1:Nat):Int):=by rw[zR];rfl
theorem ZpR {a b:Nat}(h:¬ a+b<W64)(ha:a<W64)(c:b<W64):IntKind.u64.wrap ((a:Int)+(b:Int))=((a+b-W64:Nat):Int):=by
 rw[IntKind.wrap_u64]
 rw[zR] at *
 omega
theorem ZqL {c:Nat}(h:c≤1):(!(((c:Nat):Int) == 1))=(((1-c:Nat):Int) == 1):=by
 rcases (by omega:c=0∨c=1) with rfl|rfl<;>rfl
def ZrV (b o:Nat) (zs0 ys:List Nat) (w:World) (e:Ending) (w':World):Prop:=∃ zs,e=.returned (.int .u64 ((win o ys.length zs0/val W64 ys:Nat):Int))∧(WinR o ys.length zs0 zs∧win o ys.length zs=win o ys.length zs0%val W64 ys)∧Fr (fun i=>i=b) w w'∧Own .u64 207 w' b zs
theorem Zf9 (b c o:Nat)(g ys:qN)(A:qA)(c2:Nat)(w:World)(hO:Own .u64 207 w b g)(hY:zH .u64 w A ys)(hA:∀ a,A=some a→a.block≠b)(ho:o+ys.length<g.length)(hl:g.length≤4294967296)(N:Dig W64 g)(Y:Dig W64 ys)(r0:2≤ys.length)(C:0<val W64 ys)(s0:win o ys.length g<W64*val W64 ys) :
 yA 165 #[.slice (some ⟨b,o,none⟩) (ys.length+1) c,.slice A ys.length c2] w (ZrV b o g ys w):=by
 obtain⟨u2,D⟩:=yE (g[o+(ys.length-2)]?.getD 0)
 refine fY (fun i=>i=b) (Φ:=fun w=>(Own .u64 207 w b g∧zH .u64 w A ys)) func165 rfl qK (fun w' hf=>⟨hO.ext hf,hY.ext hf⟩) ?_
 refine yY (xq 1 [yU 4 0] [] ?_)
 refine yZ (yY (xq 3 [yJ 5 ys.length] [] ?_))
 refine yZ (yY (xq 3 [eS1 14 A ys.length c2,yJ 16 (IntKind.i64.wrap (((ys.length:Nat):Int)-1))] [] ?_))
 rw[yW (((ys.length:Nat):Int)-1) (((ys.length-1:Nat):Int)) qO]
 refine xqk 17 _ (fun w R Q=>wF (t:=84) (e:=207) (x:=.tmp 14) (ix:=.tmp 16) (len:=ys.length) (cap:=c2) (i:=ys.length-1) ((Q.2).ne (j:=ys.length-1) qO) qO) ?_
 obtain⟨x10,q⟩:=yE (ys[ys.length-1]?.getD 0)
 refine xqk 18 (yX x10) (fun w R Q=>by rw[←q];exact wU (t:=207) (x:=.tmp 17) (Q.2) qO) ?_
 refine xq 1 [yU 6 x10] [] ?_
 refine yZ (yY (xq 1 [yU 7 18446744073709551615] [] ?_))
 rw[ZsC]
 refine xe (zB ?_)
 refine Zcd (fun O P=>∃ (f:Nat),O=ofL [eS1 0 (some ⟨b,o,none⟩) (ys.length+1) c,eS1 1 A ys.length c2,yU 7 f] []∧P=(fun w=>(Own .u64 207 w b (g)∧zH .u64 w A (ys)))∧(win o ys.length g/val W64 ys≤f)∧(f<W64)) ?_ ?_
 ·refine yY (xq 2 [eS1 19 (some ⟨b,o,none⟩) (ys.length+1) c,yJ 20 ys.length] [] ?_)
  refine xqk 21 (.pointer (some ⟨b,o+ys.length,none⟩)) (fun w R Q=>jX (t:=84) (e:=207) (x:=.tmp 19) (ix:=.tmp 20) (len:=(ys.length+1)) (cap:=c) qO) ?_
  obtain⟨k,E⟩:=yE (g[o+ys.length]?.getD 0)
  refine xqk 22 (yX k) (fun w R Q=>by rw[←E];exact gJ (t:=207) (x:=.tmp 21) (Q.1) qO) ?_
  refine xq 2 [yB 24 (decide ((k:Int)<(x10:Int)))] [] ?_
  refine xe (zB ?_)
  refine yQ ((decide ((k:Int)<(x10:Int)))) (fun F=>?_) fun F=>?_
  ·have Z:=uB F
   refine yY (xq 1 [yU 8 0] [] ?_)
   refine yZ (zD ?_)
   refine kR 16 [0,0,3,7,0,0,32,112,240,0,1023,2047,4095,4095,8191,32767] qK qK zQ ?_
   refine xqf 2 [eS1 26 (some ⟨b,o,none⟩) (ys.length+1) c,yJ 27 ys.length] [] ?_
   refine xqj 28 (.pointer (some ⟨b,o+ys.length,none⟩)) (fun w Q=>jX (t:=84) (e:=207) (x:=.tmp 26) (ix:=.tmp 27) (len:=(ys.length+1)) (cap:=c) qO) ?_
   obtain⟨k0,S⟩:=yE (g[o+ys.length]?.getD 0)
   refine xqj 29 (yX k0) (fun w Q=>by rw[←S];exact gJ (t:=207) (x:=.tmp 28) (Q.1) qO) ?_
   obtain rfl:k=k0:=by rw[←E,S]
   refine xqf 3 [eS1 30 (some ⟨b,o,none⟩) (ys.length+1) c,yJ 32 (IntKind.i64.wrap (((ys.length:Nat):Int)-1))] [] ?_
   rw[yW (((ys.length:Nat):Int)-1) (((ys.length-1:Nat):Int)) qO]
   refine xqj 33 (.pointer (some ⟨b,o+(ys.length-1),none⟩)) (fun w Q=>jX (t:=84) (e:=207) (x:=.tmp 30) (ix:=.tmp 32) (len:=(ys.length+1)) (cap:=c) qO) ?_
   obtain⟨l,z⟩:=yE (g[o+(ys.length-1)]?.getD 0)
   refine xqj 34 (yX l) (fun w Q=>by rw[←z];exact gJ (t:=207) (x:=.tmp 33) (Q.1) qO) ?_
   refine xqf 1 [yU 35 x10] [] ?_
   refine xqd _ _ 36 (fun _:Unit=>.tuple #[yX (divQ k l x10:Nat), yX (divR k l x10:Nat)]) _ (fun w R Q=>yN (Zhs k l x10 _ qO (by rw[←q];exact Y.getD zP _) (by rw[←z];exact N.getD zP _))) fun xx=>?_
   refine xqf 5 [yU 7 (divQ k l x10:Nat),yU 8 (divR k l x10:Nat)] [] ?_
   refine xz (yZ (zO ?_))
   obtain⟨lw,a0,hU⟩:=ZqJ (o:=o) (n:=ys.length) qO qO E z D N
   obtain⟨y2,b0⟩:=yE (ys[ys.length-2]?.getD 0)
   obtain⟨vl,hV⟩:=ZqK (ys:=ys) r0 rfl q b0
   refine yC [eS1 0 (some ⟨b,o,none⟩) (ys.length+1) c,eS1 1 A ys.length c2,yU 4 0,yJ 5 ys.length,yU 6 x10,yU 7 ((divQ k l x10):Nat),yU 8 ((divR k l x10):Nat)] [] (fun w=>(Own .u64 207 w b (g)∧zH .u64 w A (ys))) (fun w Q=>⟨Q.1.1,Q.1.2⟩) ?_
   have l0:0<x10:=qO
   refine ZkM (fun nn O P=>∃ (f h:Nat),O=ofL [eS1 0 (some ⟨b,o,none⟩) (ys.length+1) c,eS1 1 A ys.length c2,yU 4 0,yJ 5 ys.length,yU 6 x10,yU 7 f,yU 8 h] []∧P=(fun w=>(Own .u64 207 w b (g)∧zH .u64 w A (ys)))∧(win o ys.length g/val W64 ys≤f)∧(f<W64)∧(h+f*x10=k*W64+l)∧(h<W64)∧nn=(1+f)) _ ⟨(divQ k l x10),(divR k l x10),rfl,rfl,(Zo9 a0 hU hV (by rw[←D];exact N.getD zP _) l0),(Zgy qO (by rw[←z];exact N.getD zP _)),(by rw[vO];exact Zcv _ _ _),(qL (Zb1 _ _ l0) (by rw[←q];exact Y.getD zP _)),rfl⟩ ?_
   rintro nn O P ⟨f,h,rfl,rfl,hq,v,hr,t0,rfl⟩
   refine zO (yY (xq 4 [yU 40 f,eS1 41 A ys.length c2,yJ 43 (IntKind.i64.wrap (((ys.length:Nat):Int)-2))] [] ?_))
   rw[yW (((ys.length:Nat):Int)-2) (((ys.length-2:Nat):Int)) qO]
   refine xqk 44 _ (fun w R Q=>wF (t:=84) (e:=207) (x:=.tmp 41) (ix:=.tmp 43) (len:=ys.length) (cap:=c2) (i:=ys.length-2) ((Q.2).ne (j:=ys.length-2) qO) qO) ?_
   obtain⟨m0,T⟩:=yE (ys[ys.length-2]?.getD 0)
   refine xqk 45 (yX m0) (fun w R Q=>by rw[←T];exact wU (t:=207) (x:=.tmp 44) (Q.2) qO) ?_
   obtain rfl:y2=m0:=by rw[←b0,T]
   refine xqc _ _ 46 (fun _:Unit=>.tuple #[yX (wQ f y2:Nat), yX (xH f y2:Nat)]) _ (fun w R Q=>yN (ZdG f y2 _ v (by rw[←b0];exact Y.getD zP _))) fun xx=>?_
   refine xq 5 [yU 9 (wQ f y2:Nat),yU 10 (xH f y2:Nat)] [] ?_
   refine yZ (zD (yY (xq 4 [yB 52 (decide (((wQ f y2:Nat):Int)<(h:Int)))] [] ?_)))
   rcases bl2 ((decide (((wQ f y2:Nat):Int)<(h:Int)))) with s|s
   ·rw[s]
    have c0:=uB s
    refine xq 13 [yB 65 true] [] ?_
    refine yZ (xa (xJ (zE ?_)))
    refine Zca qK ?_
    refine zE (xL ?_)
    exact kW ⟨f,rfl,rfl,hq,v⟩ (fun w Q=>⟨Q.1.1,Q.1.2⟩)
   rw[s]
   have c0:=uC s
   refine xq 4 [yB 56 ((((wQ f y2:Nat):Int):Int) == (h:Int))] [] ?_
   rcases bl2 (((((wQ f y2:Nat):Int):Int) == (h:Int))) with u|u
   ·rw[u]
    have G:=sK.1 u
    refine xq 4 [yU 57 (xH f y2:Nat),eS1 58 (some ⟨b,o,none⟩) (ys.length+1) c,yJ 60 (IntKind.i64.wrap (((ys.length:Nat):Int)-2))] [] ?_
    rw[yW (((ys.length:Nat):Int)-2) (((ys.length-2:Nat):Int)) qO]
    refine xqk 61 (.pointer (some ⟨b,o+(ys.length-2),none⟩)) (fun w R Q=>jX (t:=84) (e:=207) (x:=.tmp 58) (ix:=.tmp 60) (len:=(ys.length+1)) (cap:=c) qO) ?_
    obtain⟨n0,U⟩:=yE (g[o+(ys.length-2)]?.getD 0)
    refine xqk 62 (yX n0) (fun w R Q=>by rw[←U];exact gJ (t:=207) (x:=.tmp 61) (Q.1.1) qO) ?_
    obtain rfl:u2=n0:=by rw[←D,U]
    refine xq 3 [yB 65 (decide (((xH f y2:Nat):Int)≤(u2:Int)))] [] ?_
    refine xe (zB ?_)
    refine yQ ((decide (((xH f y2:Nat):Int)≤(u2:Int)))) (fun H=>?_) fun H=>?_
    ·have d0:=uB H
     refine xJ (zE ?_)
     refine Zca qK ?_
     refine zE (xL ?_)
     exact kW ⟨f,rfl,rfl,hq,v⟩ (fun w Q=>⟨Q.1.1,Q.1.2⟩)
    have d0:=uC H
    refine zG (zB (zD ?_))
    have e0:h*W64+u2<f*y2:=ZkY (dG f y2) qO (fun _=>qO) (by rw[←D];exact N.getD zP _)
    have r:=Zf8 a0 hU hV hr e0 C
    have o0:1≤f:=uD (Nat.le_add_left 1 _) r
    by_cases y:h+x10<W64
    ·refine zC (xq 2 [yU 67 (IntKind.u64.wrap ((f:Int)-1))] [] ?_)
     rw[show IntKind.u64.wrap (((f:Int)-1))=((f-1:Nat):Int) by rw[IntKind.wrap_u64];have:=zR;omega]
     refine xq 1 [yU 7 (f-1:Nat)] [] ?_
     refine yZ (yY (xq 3 [yU 70 (IntKind.u64.wrap ((h:Int)+(x10:Int)))] [] ?_))
     rw[Zf5 (a:=h) (b:=x10) y]
     refine xq 1 [yU 8 (h+x10:Nat)] [] ?_
     refine yZ (yY (xq 3 [yB 73 (decide (((h+x10:Nat):Int)<(x10:Int)))] [] ?_))
     refine xe (zB ?_)
     refine yQ ((decide (((h+x10:Nat):Int)<(x10:Int)))) (fun I=>?_) fun I=>?_
     ·have f0:=uB I
      exfalso;omega
     have f0:=uC I
     refine zG (xK ?_)
     exact xC _ qO ⟨(f-1),(h+x10),rfl,rfl,(pW r),qO,(by obtain⟨m,rfl⟩:∃ m,f=m+1:=⟨f-1,qO⟩;rw[tN];rw[vC] at hr;omega),y,rfl⟩ (fun w Q=>⟨Q.1.1,Q.1.2⟩)
    refine zC (xq 2 [yU 67 (IntKind.u64.wrap ((f:Int)-1))] [] ?_)
    rw[show IntKind.u64.wrap (((f:Int)-1))=((f-1:Nat):Int) by rw[IntKind.wrap_u64];have:=zR;omega]
    refine xq 1 [yU 7 (f-1:Nat)] [] ?_
    refine yZ (yY (xq 3 [yU 70 (IntKind.u64.wrap ((h:Int)+(x10:Int)))] [] ?_))
    rw[ZpR (a:=h) (b:=x10) y qO (by rw[←q];exact Y.getD zP _)]
    refine xq 1 [yU 8 (h+x10-W64:Nat)] [] ?_
    refine yZ (yY (xq 3 [yB 73 (decide (((h+x10-W64:Nat):Int)<(x10:Int)))] [] ?_))
    refine xe (zB ?_)
    refine yQ ((decide (((h+x10-W64:Nat):Int)<(x10:Int)))) (fun J=>?_) fun J=>?_
    ·have g0:=uB J
     refine xJ ?_
     refine Zca qK ?_
     refine zE (xL ?_)
     exact kW ⟨(f-1),rfl,rfl,(pW r),qO⟩ (fun w Q=>⟨Q.1.1,Q.1.2⟩)
    have g0:=uC J
    exfalso;omega
   rw[u]
   have G:=lU u
   refine xq 9 [yB 65 false] [] ?_
   refine yZ (xb (zG (zB (zD ?_))))
   have e0:h*W64+u2<f*y2:=ZkY (dG f y2) qO (fun e=>absurd (show (wQ f y2:Int)=h by rw[e]) G) (by rw[←D];exact N.getD zP _)
   have r:=Zf8 a0 hU hV hr e0 C
   have o0:1≤f:=uD (Nat.le_add_left 1 _) r
   by_cases y:h+x10<W64
   ·refine zC (xq 2 [yU 67 (IntKind.u64.wrap ((f:Int)-1))] [] ?_)
    rw[show IntKind.u64.wrap (((f:Int)-1))=((f-1:Nat):Int) by rw[IntKind.wrap_u64];have:=zR;omega]
    refine xq 1 [yU 7 (f-1:Nat)] [] ?_
    refine yZ (yY (xq 3 [yU 70 (IntKind.u64.wrap ((h:Int)+(x10:Int)))] [] ?_))
    rw[Zf5 (a:=h) (b:=x10) y]
    refine xq 1 [yU 8 (h+x10:Nat)] [] ?_
    refine yZ (yY (xq 3 [yB 73 (decide (((h+x10:Nat):Int)<(x10:Int)))] [] ?_))
    refine xe (zB ?_)
    refine yQ ((decide (((h+x10:Nat):Int)<(x10:Int)))) (fun K=>?_) fun K=>?_
    ·have h0:=uB K
     exfalso;omega
    have h0:=uC K
    refine zG (xK ?_)
    exact xC _ qO ⟨(f-1),(h+x10),rfl,rfl,(pW r),qO,(by obtain⟨m,rfl⟩:∃ m,f=m+1:=⟨f-1,qO⟩;rw[tN];rw[vC] at hr;omega),y,rfl⟩ (fun w Q=>⟨Q.1.1,Q.1.2⟩)
   refine zC (xq 2 [yU 67 (IntKind.u64.wrap ((f:Int)-1))] [] ?_)
   rw[show IntKind.u64.wrap (((f:Int)-1))=((f-1:Nat):Int) by rw[IntKind.wrap_u64];have:=zR;omega]
   refine xq 1 [yU 7 (f-1:Nat)] [] ?_
   refine yZ (yY (xq 3 [yU 70 (IntKind.u64.wrap ((h:Int)+(x10:Int)))] [] ?_))
   rw[ZpR (a:=h) (b:=x10) y qO (by rw[←q];exact Y.getD zP _)]
   refine xq 1 [yU 8 (h+x10-W64:Nat)] [] ?_
   refine yZ (yY (xq 3 [yB 73 (decide (((h+x10-W64:Nat):Int)<(x10:Int)))] [] ?_))
   refine xe (zB ?_)
   refine yQ ((decide (((h+x10-W64:Nat):Int)<(x10:Int)))) (fun L=>?_) fun L=>?_
   ·have i0:=uB L
    refine xJ ?_
    refine Zca qK ?_
    refine zE (xL ?_)
    exact kW ⟨(f-1),rfl,rfl,(pW r),qO⟩ (fun w Q=>⟨Q.1.1,Q.1.2⟩)
   have i0:=uC L
   exfalso;omega
  have Z:=uC F
  refine zG ?_
  exact kW ⟨(W64-1),rfl,rfl,Znr s0,(by have:=zP;omega)⟩ (fun w Q=>⟨Q.1,Q.2⟩)
 rintro O P ⟨f,rfl,rfl,hq,v⟩
 refine zD (yY (xq 3 [eS1 74 (some ⟨b,o,none⟩) (ys.length+1) c,eS1 75 A ys.length c2,yU 76 f] [] ?_))
 refine ZcH (α:=List Nat × Nat) 204 [.slice (some ⟨b,o,none⟩) (ys.length+1) c,.slice A ys.length c2, yX f] (d:=77) (fun x=>.bool (((x.2:Nat):Int) == 1)) (fun x=>ZdN g ys f o x.1 x.2) (fun x=>x.1) b (fun x w=>(Own .u64 207 w b (x.1)∧zH .u64 w A (ys))) (fun w Q=>Q.1) qO (Or.inr rfl) (fun w R Q=>Zjb b _ o _ ys A _ _ Q.1 Q.2 hA qO hl N Y _ v) (fun x w w' hp Q hF hO=>⟨hO,((Q.2).fr hF (fun a ha _=>hA a ha))⟩) fun x V=>?_
 obtain⟨p0,W⟩:=x
 dsimp only at V
 have p:=V.win qO (WinR.start N)
 refine xr 1 [eS1 0 (some ⟨b,o,none⟩) (ys.length+1) c,eS1 1 A ys.length c2,yU 7 f,yB 11 ((W:Int) == 1)] [] ?_
 refine yZ (zO ?_)
 refine xI (fun nn O P=>∃ (f bb:Nat) (zs:List Nat),O=ofL [eS1 0 (some ⟨b,o,none⟩) (ys.length+1) c,eS1 1 A ys.length c2,yU 7 f,yB 11 ((bb:Int) == 1)] []∧P=(fun w=>(Own .u64 207 w b (zs)∧zH .u64 w A (ys)))∧(WinR o ys.length g zs)∧(CorR (win o ys.length g) (val W64 ys) (W64^(ys.length+1)) f bb (win o ys.length zs))∧(f<W64)∧nn=(1+f)) _ ⟨f,W,p0,rfl,rfl,p.1,⟨p.2.1,Znq p.1.2.1,hq,p.2.2⟩,v,rfl⟩ (fun w Q=>⟨Q.1,Q.2⟩) ?_
 rintro nn O P ⟨f,bb,zs,rfl,rfl,HW,HC,v,rfl⟩
 refine zD (yY (xq 1 [yB 78 ((bb:Int) == 1)] [] ?_))
 refine xe (zB ?_)
 refine yQ (((bb:Int) == 1)) (fun M=>?_) fun M=>?_
 ·have j0:=sK.1 M
  refine zG (zB (zD (zO ?_)))
  have r:=HC.pos qO C
  have o0:1≤f:=uD (Nat.le_add_left 1 _) r
  refine zC (xq 2 [eS1 81 (some ⟨b,o,none⟩) (ys.length+1) c,eS1 82 A ys.length c2] [] ?_)
  refine ZcH (α:=List Nat × Nat) 205 [.slice (some ⟨b,o,none⟩) (ys.length+1) c,.slice A ys.length c2] (d:=83) (fun x=>.bool (((x.2:Nat):Int) == 1)) (fun x=>ZdO zs ys o x.1 x.2) (fun x=>x.1) b (fun x w=>(Own .u64 207 w b (x.1)∧zH .u64 w A (ys))) (fun w Q=>Q.1) (by have:=HW.1;omega) (Or.inr rfl) (fun w R Q=>Zjc b _ o _ ys A _ _ Q.1 Q.2 hA (by rw[HW.1];omega) (by rw[HW.1];exact hl) HW.2.1 Y) (fun x w w' hp Q hF hO=>⟨hO,((Q.2).fr hF (fun a ha _=>hA a ha))⟩) fun x X=>?_
  obtain⟨q0,B⟩:=x
  dsimp only at X
  have p:=X.win qO HW
  refine xr 1 [eS1 0 (some ⟨b,o,none⟩) (ys.length+1) c,eS1 1 A ys.length c2,yU 7 f,yB 11 ((bb:Int) == 1),yB 84 (!((B:Int) == 1))] [] ?_
  rw[ZqL (c:=B) p.2.1]
  refine xq 1 [yB 11 (((1-B:Nat):Int) == 1)] [] ?_
  refine xe (xK (zB (zC (xq 2 [yU 80 (IntKind.u64.wrap ((f:Int)-1))] [] ?_))))
  rw[show IntKind.u64.wrap (((f:Int)-1))=((f-1:Nat):Int) by rw[IntKind.wrap_u64];have:=zR;omega]
  refine xq 1 [yU 7 (f-1:Nat)] [] ?_
  refine xe ?_
  exact xC _ qO ⟨(f-1),(1-B),q0,rfl,rfl,p.1,(HC.step qO C p.2.1 (Znq p.1.2.1) p.2.2),qO,rfl⟩ (fun w Q=>⟨Q.1,Q.2⟩)
 have j0:=lU M
 obtain rfl:bb=0:=by have:=HC.1;omega
 refine xJ (zE (zE (xL (zB (yY (xq 2 [yU 4 f] [] ?_))))))
 refine yZ (zJ ?_)
 refine yR (yX f) fun w' R Q=>?_
 obtain⟨e1,e2⟩:=HC.done C
 exact⟨zs,by rw[e1],⟨HW,e2⟩,R,Q.1⟩
theorem ZqM (w:World)(a:qA)(n c:Nat):(binOp .eql 84 (.slice a n c) Ξ).run prog w=.ok (.bool a.isNone) w :=
 Lib.run_eql_slice_nil w 84 207 a n c 0 0 underlying84
theorem Zl5 (A:qA)(xs:qN)(n c:Nat)(w:World)(p:xs.length=n)(q:zH .u64 w A xs)(C:n≤4294967296) :
 yA 143 #[.slice A n c] w (Zix w xs):=by
 have r:=zh q
 have s:=zh p
 clear q p
 have t:=ZqM
 cases A with
 | none =>
  have x:Hid (xs=[]):=by
   rcases xs with _|⟨y,D⟩
   ·rfl
   obtain⟨b,z,h,_⟩:=r.out qS;cases h
  go_enter func143,ntmps143
  go_wp2
  go_ret
  rw[x.out]
  exact⟨none,0,rfl,Buf.nil,Fr.refl _ _,fun b d=>by obtain⟨a,ha,_⟩:=d;cases ha⟩
 | some ad =>
  go_enter func143,ntmps143
  go_wp2_with (
   at_builtin
   refine lA rfl _ _ _ rfl _ .u64 8 underlying84 eL (some ⟨w.heap.size,0,none⟩) (some ad) 0 n 0 c rfl rfl [] xs rfl s.out ?_ (r.out.alloc _) (by simp only[maxLen];omega) qO ?_
   ·exact Or.inr ⟨_,rfl,Own.new w _ _ [] [],⟨#[],heap_alloc_new w _,rfl⟩,uF _,by simp only[maxLen];omega⟩
   intro B e E f g j
   have k:=zh f
   have l:=zh g
   have o:=zh j
   clear f g j)
  go_ret
  refine⟨B,e,?_,by simpa using k.out,?_,?_⟩
  ·rw[s.out];simp
  ·refine ((Fr.refl (fun _=>False) w).alloc _).next l.out fun i hi d=>?_
   obtain⟨a,ha,d⟩:=d
   injection ha with ha
   subst ha
   simp at d;omega
  intro b d
  rcases o.out b d with ⟨a,ha,h⟩|h
  ·injection ha with ha;subst ha;simp at h;omega
  simp at h;omega
theorem Zga (A:qA)(xs:qN)(c:Nat)(w:World)(f:zH .u64 w A xs)(g:xs.length≤4294967296)(d:0<xs.length) :
 yA 143 #[.slice A xs.length c] w (fun i w'=>∃ b c,i=.returned (.slice (some ⟨b,0,none⟩) xs.length c)∧w.heap.size≤b∧xs.length≤c∧Ext w w'∧Own .u64 207 w' b xs):=by
 refine (Zl5 A xs xs.length c w rfl f g).mono ?_
 rintro e w' ⟨p,a,rfl,j,Q,k⟩
 rcases j with ⟨_,h,_⟩|⟨b,rfl,l,_,o,_⟩
 ·rw[h] at d;simp at d
 exact⟨b,a,rfl,k b ⟨_,rfl,rfl⟩,o,Q,l⟩
def OvR (N V n L k:Nat) (zs qs:List Nat):Prop:=zs.length=n∧Dig W64 zs∧qs.length=L∧Dig W64 qs∧val W64 zs+V*(W64^k*val W64 (qs.drop k))=N∧val W64 zs<V*W64^k
theorem OvR.start {N V n L:Nat}{zs:qN}(c:zs.length=n)(d:Dig W64 zs)(b:val W64 zs=N)(a:N<V*W64^L):OvR N V n L L zs (List.replicate L 0) :=
 ⟨c,d,qS,Dig.replicate zP _,by rw[vA qS];simpa using b,by rw[b];exact a⟩
theorem Zpa {o n:Nat}{zs:qN}(c:o+n+1≤zs.length)(h:val W64 zs<W64^(o+n+1)):val W64 zs=val W64 (zs.take o)+W64^o*win o n zs∧val W64 (zs.drop (o+n+1))=0:=by
 have a:=xS (B:=W64) (xs:=zs) (o+n+1)
 rw[uU c] at a
 have b:val W64 (zs.drop (o+n+1))=0:=by
  refine Nat.eq_zero_of_not_pos fun d=>?_
  have:=uI (W64^(o+n+1)) d
  omega
 rw[b,tV,tE,Zab qO] at a
 exact⟨a,b⟩
theorem OvR.ready {N V n L j m:Nat}{zs a:qN}(h:OvR N V n L (j+1) zs a)(b:V<W64^m)(g:j+m+1≤n):val W64 zs=val W64 (zs.take j)+W64^j*win j m zs∧val W64 (zs.drop (j+m+1))=0∧win j m zs<W64*V:=by
 obtain⟨i,k,l,o,p,c⟩:=h
 have d:val W64 zs<W64^(j+m+1):=by
  refine uS c ?_
  rw[show j+m+1=m+(j+1) by omega,uW W64 m]
  exact uE _ (qZ b)
 obtain⟨k1,f⟩:=Zpa qO d
 refine⟨k1,f,?_⟩
 have:W64^j*win j m zs<W64^j*(W64*V):=by
  have e:V*W64^(j+1)=W64^j*(W64*V):=by rw[uP,uG V,uH]
  omega
 exact sN this
theorem OvR.step {N V n L j m:Nat}{zs b a:qN}(h:OvR N V n L (j+1) zs b)(f:V<W64^m)(c:0<V)(g:j+m+1≤n)(i:j<L)(k:WinR j m zs a)(l:win j m a=win j m zs%V) :
 OvR N V n L j a (b.set j (win j m zs/V)):=by
 obtain⟨k1,o,p⟩:=h.ready f g
 obtain⟨q,r,s,t,x,H⟩:=h
 obtain⟨y,z,A,C⟩:=k
 have D:win j m zs/V<W64:=by rw[vQ c];exact p
 have d:=xS (B:=W64) (xs:=a) (j+m+1)
 rw[C,o,tV,tE,Zab qO,A,l] at d
 have e:=tB (win j m zs) V
 have I:W64^j*win j m zs=V*(W64^j*(win j m zs/V))+W64^j*(win j m zs%V):=by
  conv=>lhs;rw[←e]
  rw[uK,tL]
 refine⟨y.trans q,z,by simpa using s,t.set j D,?_,?_⟩
 ·have E:(b.set j (win j m zs/V))[j]?.getD 0=win j m zs/V:=by rw[tW qO];rfl
  rw[xT j (by simp;omega),E,tJ qO,d]
  rw[uP] at x
  have J:V*(W64^j*(win j m zs/V+W64*val W64 (b.drop (j+1))))=V*(W64^j*(win j m zs/V))+V*(W64^j*W64*val W64 (b.drop (j+1))):=by
   rw[uK (W64^j),uK V,uH (W64^j)]
  omega
 rw[d]
 have F:=xZ (r.take j)
 rw[uM,uU qO] at F
 have G:=uI (W64^j) (uO (win j m zs) c)
 rw[Nat.mul_succ] at G
 rw[uG V]
 omega
theorem OvR.done {N V n L:Nat}{zs b:qN}(h:OvR N V n L 0 zs b)(d:0<V):val W64 b=N/V∧val W64 zs=N%V:=by
 obtain⟨e,f,g,i,c,a⟩:=h
 rw[tX,sU] at a
 rw[tX,pJ,sE] at c
 rw[←c]
 rw[Nat.add_mul_div_left _ _ d,tF a,rD,vH a]
 exact⟨qO,rfl⟩
theorem ZrW {ys:qN}{k t:Nat}(d:Dig W64 ys)(e:ys.length=k+1)(f:Trim ys)(a:ys[k]?.getD 0=t):wl (val W64 ys*2^(64-blen t))=ys.length:=by
 have g:0<t:=qJ (by rw[←a];exact f k e)
 have i:=ZeM d e f a
 have b:t<2^64:=by have:=a ▸ d.getD zP k;rw[zR] at this;exact this
 have j:=kI.2 b
 have c:0<val W64 ys:=by have:=zU (B:=W64) k (show k<ys.length by omega);rw[uA qO,a] at this;have:=uI (W64^k) g;have:=uY (n:=k) zP;omega
 have l:blen (val W64 ys*2^(64-blen t))=64*(k+1):=by rw[Zby c,i];omega
 have o:wl (val W64 ys*2^(64-blen t))≤k+1:=jC.2 (by rw[cF];exact kI.1 qO)
 have p:¬ wl (val W64 ys*2^(64-blen t))≤k:=fun h=>by
  have:=jC.1 h
  rw[cF] at this
  have:=kI.2 this
  omega
 omega
theorem ZsD {xs ys:qN}{s:Nat}(a:Dig W64 xs)(b:Trim ys)(g:0<ys.length)(h:ys.length≤xs.length):val W64 xs*2^s<val W64 ys*2^s*W64^(xs.length-ys.length+1):=by
 obtain⟨k,c⟩:∃ k,ys.length=k+1:=⟨ys.length-1,qO⟩
 have d:=xZ a
 have e:=Zdl (B:=W64) b c
 have f:W64^xs.length≤val W64 ys*W64^(xs.length-ys.length+1):=by
  rw[show xs.length=k+(xs.length-ys.length+1) by omega,uW]
  rw[show k+(xs.length-ys.length+1)-ys.length+1=xs.length-ys.length+1 by omega]
  exact uE _ e
 rw[Nat.mul_right_comm]
 exact (pD (p2 s)).2 (uS d f)
theorem Zpb {ws:qN}{n:Nat}(b:Dig W64 ws)(c:ws.length≤n):let a:=ws.take n ++ (List.replicate n 0).drop ws.length;a.length=n∧Dig W64 a∧val W64 a=val W64 ws:=by
 intro a
 have e:a=ws ++ List.replicate (n-ws.length) 0:=by show ws.take n ++ (List.replicate n 0).drop ws.length=_;rw[uA c,List.drop_replicate]
 rw[e]
 exact⟨by simp;omega,b.append (Dig.replicate zP _),by rw[kK,kS];simp⟩
theorem ZrX {xs:qN}{s:Nat}(a:Dig W64 xs)(b:s≤64):wl (val W64 xs*2^s)≤xs.length+1:=jC.2 (by
 have c:=xZ a
 rw[uP]
 have d:2^s≤W64:=by rw[zR];exact vE (n:=2) qD b
 exact uS ((pD (p2 s)).2 c) (uI _ d))
theorem ZrY {x y s:Nat}:x*2^s%(y*2^s)/2^s=x%y:=by rw[rG,oR _ (p2 s)]
theorem ZrZ {x y s:Nat}:x*2^s/(y*2^s)=x/y:=qF _ _ (p2 s)
theorem ZbA {b n c v:Nat}{xs:qN}{w:World}(a:Own .u64 207 w b xs)(f:Dig W64 xs)(g:xs.length=n)(h:val W64 xs=v)(i:n≤1099511627776)(d:n≤c):yA 142 #[.slice (some ⟨b,0,none⟩) n c] w (lH w v):=by
 subst g h
 refine (ZdH _ xs _ w a.shows0 i d).mono ?_
 rintro e w' ⟨rfl,Q⟩
 exact⟨_,rfl,(zL.of_own a f d).ext Q,Q⟩
theorem ZqN {ys:qN}{y:Nat}(h:ys.length=1)(e:ys[0]?.getD 0=y):val W64 ys=y:=by
 obtain⟨z,rfl⟩:=oV.1 h
 simp at e
 simp[e]
theorem Blk.own1 {w:World}{b r:Nat}(h:Blk 207 w b #[.int .u64 ((r:Nat):Int)]):Own .u64 207 w b [r]:=⟨[],qS,h⟩
section
variable {u v:Value} {m n:Nat} {w:World}
theorem fZ (f:zL w u m)(g:zL w v n)(a:wl m≤4294967296)(b:wl n≤4294967296):yA 138 #[u,v] w (lH w (m+n)):=by
 obtain⟨A,h,c,rfl,r,i,d,j,rfl⟩:=f
 obtain⟨k,l,o,rfl,p,k1,e,q,rfl⟩:=g
 rw[←xR d j] at a
 rw[←xR e q] at b
 exact Znf A k h l c o w i k1 a b d e
theorem ZaM (g:zL w u m)(h:zL w v n)(d:wl m≤4294967296)(a:n≤m):yA 140 #[u,v] w (lH w (m-n)):=by
 obtain⟨A,i,c,rfl,s,j,e,k,rfl⟩:=g
 obtain⟨l,o,p,rfl,q,k1,f,r,rfl⟩:=h
 have b:=lV a
 rw[←xR e k] at d b
 rw[←xR f r] at b
 exact ZlW A l i o c p w j k1 d qO e f b a
theorem Zl6 (f:zL w u m)(g:zL w v n)(a:wl m≤4294967296)(b:wl n≤4294967296):yA 212 #[u,v] w (lH w (m*n)):=by
 obtain⟨A,h,c,rfl,r,i,d,j,rfl⟩:=f
 obtain⟨k,l,o,rfl,p,k1,e,q,rfl⟩:=g
 rw[←xR d j] at a
 rw[←xR e q] at b
 exact ZlX A k h l c o w i k1 a b d e
theorem aC (k:Nat)(b:zL w u m)(d:wl m≤4294967296)(f:k≤274877906944):yA 112 #[u,.int .i64 ((k:Nat):Int)] w (lH w (m*2^k)):=by
 have a:=b
 obtain⟨A,g,c,rfl,j,h,e,i,rfl⟩:=b
 rw[←xR e i] at d
 exact Zqz A g c k w a h d e f
theorem ZbB (k:Nat)(b:zL w u m)(d:wl m≤4294967296)(f:k≤274877906944):yA 166 #[u,.int .i64 ((k:Nat):Int)] w (lH w (m/2^k)):=by
 have a:=b
 obtain⟨A,g,c,rfl,j,h,e,i,rfl⟩:=b
 rw[←xR e i] at d
 exact Zng A g c k w a h d e f
theorem fK (e:zL w u m)(a:wl m≤4294967296):yA 111 #[u] w (RetV w (.int .i64 ((blen m:Nat):Int))):=by
 obtain⟨A,f,c,rfl,h,g,b,d,rfl⟩:=e
 rw[←xR b d] at a
 exact Zki A f c w g a b d
theorem ZcL (d:Glob w)(e:zL w u m)(a:wl m≤4294967296)(f:0<m):yA 168 #[u] w (RetV w (.int .i64 ((tzn m:Nat):Int))):=by
 obtain⟨A,g,c,rfl,j,h,b,i,rfl⟩:=e
 rw[←xR b i] at a
 exact Zl4 A g c w h a b d f
theorem ZcM (i:Nat)(a:zL w u m)(hi:i≤274877906944):yA 167 #[u,.int .i64 ((i:Nat):Int)] w (RetV w (.bool (decide (m/2^i%2=1)))):=by
 obtain⟨A,b,c,rfl,f,d,e,g,rfl⟩:=a
 exact Zo8 A b c w d e i hi
theorem Zbe (e:zL w u m)(f:zL w v n)(a:wl m≤4294967296):yA 139 #[u,v] w (RetV w (.int .i64 (cmpI ((m:Nat):Int) ((n:Nat):Int)))):=by
 obtain⟨A,g,c,rfl,q,h,b,d,rfl⟩:=e
 obtain⟨i,j,k,rfl,l,k1,o,p,rfl⟩:=f
 rw[←xR b d] at a
 exact Zja A i g j c k w h k1 a b o d p
end
theorem Zns (A f:qA)(xs ys:qN)(c c2:Nat)(w:World)(hX:zH .u64 w A xs)(hY:zH .u64 w f ys)(hl:xs.length≤4294967295)(B0:ys.length≤4294967296)(hx:Dig W64 xs)(hy:Dig W64 ys)(hN:zL w (.slice A xs.length c) (val W64 xs))(hM:zL w (.slice f ys.length c2) (val W64 ys))(tx:Trim xs)(ty:Trim ys)(e0:0<val W64 ys) :
 yA 113 #[.slice A xs.length c,.slice f ys.length c2] w (Zdt w (val W64 xs/val W64 ys) (val W64 xs%val W64 ys)):=by
 have hw:wl (val W64 xs)≤4294967296:=by rw[←xR hx tx];omega
 have C0:wl (val W64 ys)≤4294967296:=by rw[←xR hy ty];exact B0
 refine zV (Φ:=fun w=>(((zL w (.slice A xs.length c) (val W64 xs)∧zH .u64 w A xs)∧zL w (.slice f ys.length c2) (val W64 ys))∧zH .u64 w f ys)) func113 rfl qK (fun w' hf=>⟨⟨⟨hN.ext hf,hX.ext hf⟩,hM.ext hf⟩,hY.ext hf⟩) ?_
 refine yY (xq 2 [eS1 4 none 0 0,eS1 5 none 0 0] [] ?_)
 refine yZ (zD (yY (xq 2 [eS1 13 A xs.length c,eS1 14 f ys.length c2] [] ?_)))
 refine xqc _ _ 15 (fun _:Unit=>yI (cmpI ((val W64 xs:Nat):Int) ((val W64 ys:Nat):Int))) _ (fun w R Q=>yN (Zbe Q.1.1.1 Q.1.2 hw)) fun xx=>?_
 refine xq 1 [(16,.v (.bool (decide ((cmpI ((val W64 xs:Nat):Int) ((val W64 ys:Nat):Int))<0))))] [] ?_
 refine xe (zB ?_)
 refine yQ ((decide ((cmpI ((val W64 xs:Nat):Int) ((val W64 ys:Nat):Int))<0))) (fun E=>?_) fun E=>?_
 ·have N:=fI.1 (uB E)
  refine yY (xq 3 [eS1 4 none 0 0,eS1 5 A xs.length c] [] ?_)
  refine yZ (zJ (zM ?_))
  refine yR (.tuple #[Ξ,.slice A xs.length c]) fun w' R Q=>?_
  exact⟨_,_,rfl,by rw[tF N];exact zL.zero _,by rw[vH N];exact Q.1.1.1.1,R⟩
 have D0:val W64 ys≤val W64 xs:=Nat.le_of_not_lt (fun h'=>uC E (fI.2 h'))
 have J0:ys.length≤xs.length:=by have:=lV D0;rwa [←xR hy ty,← xR hx tx] at this
 have K0:0<ys.length:=rO.2 (fun e=>by rw[e] at e0;simp at e0)
 refine zG (zB (zD (yY (xq 3 [yB 20 ((((ys.length:Nat):Int):Int) == 1)] [] ?_))))
 refine xe (zB ?_)
 refine yQ (((((ys.length:Nat):Int):Int) == 1)) (fun F=>?_) fun F=>?_
 ·have U:=sK.1 F
  refine yY (xq 1 [eS1 21 A xs.length c] [] ?_)
  refine ZoK 143 [.slice A xs.length c] (d:=22) (e:=207) xs (fun w R Q=>Zga A xs c w Q.1.1.1.2 qO qO) fun r cc f0 H0 _=>?_
  refine xr 1 [eS1 0 A xs.length c,eS1 1 f ys.length c2,eS1 4 none 0 0,eS1 5 none 0 0,eS1 6 (yL r) xs.length cc] [] ?_
  refine yZ (yY (xq 2 [eS1 23 (yL r) xs.length cc,eS1 24 f ys.length c2] [] ?_))
  refine xqk 25 _ (fun w R Q=>wF (t:=84) (e:=207) (x:=.tmp 24) (ix:=(Operand.const (Value.int IntKind.i64 0))) (cap:=c2) (i:=0) (((Q.1).self.1.2).ne (j:=0) qO) qO) ?_
  obtain⟨q,C⟩:=yE (ys[0]?.getD 0)
  refine xqk 26 (yX q) (fun w R Q=>by rw[←C];exact wU (t:=207) (x:=.tmp 25) ((Q.1).self.1.2) qO) ?_
  have g0:=ZqN qO C
  refine ZcH 144 [.slice (yL r) xs.length cc, yX q] (d:=27) (fun x=>yX (val W64 xs%q:Nat)) (fun x=>x.length=xs.length∧Dig W64 x∧val W64 x=val W64 xs/q) (fun x=>x) r (fun x w=>(Box (fun j=>r≤j) w (fun w=>((((zL w (.slice A xs.length c) (val W64 xs)∧zH .u64 w A (xs))∧zL w (.slice f ys.length c2) (val W64 ys))∧zH .u64 w f (ys))∧True))∧Own .u64 207 w r (x))) (fun w Q=>Q.2) qO (Or.inl f0) (fun w R Q=>Zbz r _ _ _ _ Q.2 qO hx qO (by rw[←C];exact hy.getD zP _)) (fun x w w' hp Q L V=>⟨((Q.1).fr (L.mono (fun _ _ e=>by rw[e];exact uF _))),V⟩) fun x G=>?_
  obtain⟨I0,rfl⟩:∃ y,y=x:=⟨_,rfl⟩
  refine xr 1 [eS1 0 A xs.length c,eS1 1 f ys.length c2,eS1 4 none 0 0,eS1 5 none 0 0,eS1 6 (yL r) xs.length cc,yU 7 (val W64 xs%q:Nat)] [] ?_
  refine yZ (yY (xq 1 [eS1 28 (yL r) xs.length cc] [] ?_))
  refine xqc _ _ 29 wE _ (fun w R Q=>yM xY (ZbA Q.2 G.2.1 G.1 G.2.2 qO qO)) fun⟨W,X,Y⟩=>?_
  refine xq 1 [yU 30 (val W64 xs%q:Nat)] [] ?_
  refine yD (d:=31) (fun zb:Nat=>Υ zb 1) (fun zb zw=>Blk 207 zw zb #[yX (val W64 xs%q:Nat)]) (fun w R Q=>gE (t:=84) (sz:=1) (z:=yX 0) (parts:=#[(0,Operand.tmp 30)]) qK qK qK qK qK qK) fun h0=>?_
  refine xr 0 [eS1 0 A xs.length c,eS1 1 f ys.length c2,eS1 4 none 0 0,eS1 5 none 0 0,eS1 29 W X Y,eS1 31 (yL h0) 1 1] [] ?_
  refine xqc 142 [Υ h0 1] 32 wE _ (fun w R Q=>yM xY (ZbA (Q.2).own1 (Dig.nil.cons (qL (uO _ qO) (by rw[←C];exact hy.getD zP _))) (show [val W64 xs%q].length=1 from rfl) (show val W64 [val W64 xs%q]=val W64 xs%q by simp) qO qO)) fun⟨i0,j0,k0⟩=>?_
  refine xq 2 [eS1 4 W X Y,eS1 5 i0 j0 k0] [] ?_
  refine yZ (zJ (zM ?_))
  refine yR (.tuple #[.slice W X Y,.slice i0 j0 k0]) fun w' R Q=>?_
  exact⟨_,_,rfl,by rw[g0];exact Q.1.1.2,by rw[g0];exact Q.2,R⟩
 have U:=lU F
 refine zG (zB (yY (xq 4 [eS1 33 f ys.length c2,yJ 36 (IntKind.i64.wrap (((ys.length:Nat):Int)-1))] [] ?_)))
 rw[yW (((ys.length:Nat):Int)-1) (((ys.length-1:Nat):Int)) qO]
 refine xqk 37 _ (fun w R Q=>wF (t:=84) (e:=207) (x:=.tmp 33) (ix:=.tmp 36) (len:=ys.length) (cap:=c2) (i:=ys.length-1) ((Q.1.2).ne (j:=ys.length-1) qO) qO) ?_
 obtain⟨l0,H⟩:=yE (ys[ys.length-1]?.getD 0)
 refine xqk 38 (yX l0) (fun w R Q=>by rw[←H];exact wU (t:=207) (x:=.tmp 37) (Q.1.2) qO) ?_
 obtain⟨t,rfl⟩:∃ t,t=l0:=⟨_,rfl⟩
 refine xqc _ _ 39 (fun _:Unit=>yI (64-blen t:Nat)) _ (fun w R Q=>yN (Zl3 t _ (by rw[←H];exact hy.getD zP _))) fun xx=>?_
 refine xq 1 [yJ 8 (64-blen t:Nat)] [] ?_
 refine yZ (yY (xq 2 [eS1 40 f ys.length c2,yJ 41 (64-blen t:Nat)] [] ?_))
 refine xqc _ _ 42 wE _ (fun w R Q=>yM xY (aC (64-blen t) Q.1.1.1.2 C0 qO)) fun⟨g,m0,o⟩=>?_
 refine xq 1 [eS1 9 g m0 o] [] ?_
 refine yZ (zD ?_)
 refine SXc.know (p:=m0=(wds (val W64 ys*2^(64-blen t))).length∧(wds (val W64 ys*2^(64-blen t))).length≤o) (fun w _ Q=>(Q.2).lens) fun M=>?_
 obtain⟨dd,B⟩:∃ dd,dd=wds (val W64 ys*2^(64-blen t)):=⟨_,rfl⟩
 rw[←B] at M
 obtain⟨rfl,L0⟩:=M
 have Z:Dig W64 dd:=by rw[B];exact (eG _).1
 have n0:Trim dd:=by rw[B];exact Zfa _
 have a0:val W64 dd=val W64 ys*2^(64-blen t):=by rw[B];exact (eG _).2
 have b0:dd.length=ys.length:=by rw[B,ZkN];exact ZrW hy qO ty H
 have I:0<val W64 dd:=aF n0 zP (fun e=>by rw[e] at b0;simp at b0;omega)
 have o0:=xZ Z
 refine zC (xq 3 [yJ 45 (IntKind.i64.wrap (((xs.length:Nat):Int)+1))] [] ?_)
 rw[yW (((xs.length:Nat):Int)+1) (((xs.length+1:Nat):Int)) qO]
 refine Zbu (d:=46) (t:=84) (e:=207) (k:=.u64) (kl:=.i64) (kc:=.i64) (l:=.tmp 45) (c:=.tmp 45) (xs.length+1) 8 qO qD fun b O p0=>?_
 have hA:∀ a,g=some a→a.block≠b:=fun a ha=>Nat.ne_of_lt (p0 a.block (fun w Q=>(Q.2).shows.lt (by rw[←B,b0];omega) ha))
 refine xr 1 [eS1 0 A xs.length c,eS1 1 f ys.length c2,eS1 4 none 0 0,eS1 5 none 0 0,yJ 8 (64-blen t:Nat),eS1 9 g dd.length o,eS1 10 (yL b) (xs.length+1) (xs.length+1)] [] ?_
 refine yZ (yY (xq 3 [eS1 47 (yL b) (xs.length+1) (xs.length+1),eS1 48 A xs.length c,yJ 49 (64-blen t:Nat)] [] ?_))
 refine xqc _ _ 50 wE _ (fun w R Q=>yM xY (aC (64-blen t) (Q.1).self.1.1.1.1.1.1 hw qO)) fun⟨E0,F0,G0⟩=>?_
 refine SXi.know (fun w _ Q=>(Q.2).lens) fun M=>?_
 have P:=ZrX (s:=64-blen t) hx qO
 rw[←ZkN] at P
 obtain⟨q0,r0,c0⟩:=Zpb (n:=xs.length+1) (eG (val W64 xs*2^(64-blen t))).1 P
 rw[(eG _).2] at c0
 obtain⟨zz,s0⟩:=yE ((wds (val W64 xs*2^(64-blen t))).take (xs.length+1) ++ (List.replicate (xs.length+1) 0).drop (wds (val W64 xs*2^(64-blen t))).length)
 rw[s0] at q0 r0 c0
 refine Zqv (d:=51) (dx:=Operand.tmp 47) (sx:=Operand.tmp 50) (dT:=84) (sT:=84) (e:=207) (k:=.u64) (sp:=E0) (mid:=List.replicate (xs.length+1) 0) (ys:=wds (val W64 xs*2^(64-blen t))) (n:=xs.length+1) (m:=F0) (dc:=xs.length+1) (sc:=G0) b (fun w=>((Box (fun j=>b≤j) w (fun w=>((((((zL w (.slice A xs.length c) (val W64 xs)∧zH .u64 w A (xs))∧zL w (.slice f ys.length c2) (val W64 ys))∧zH .u64 w f (ys))∧True)∧True)∧zL w (.slice g dd.length o) (val W64 ys*2^(64-blen t))))∧Own .u64 207 w b (zz))∧True)) qS M.1.symm qS (fun w Q=>Q.1.2) (fun w Q=>(Q.2).shows) (Or.inl O) (fun w w' Q L V=>⟨⟨((Q.1.1).fr (L.mono (fun _ _ e=>by rw[e];exact uF _))),(by rw[←s0];rwa [tH] at V)⟩,trivial⟩) ?_
 refine xr 0 [eS1 0 A xs.length c,eS1 1 f ys.length c2,eS1 4 none 0 0,eS1 5 none 0 0,yJ 8 (64-blen t:Nat),eS1 9 g dd.length o,eS1 10 (yL b) (xs.length+1) (xs.length+1)] [] ?_
 refine yZ (yY (xq 5 [yJ 56 (IntKind.i64.wrap (((xs.length:Nat):Int)-((ys.length:Nat):Int)))] [] ?_))
 rw[yW (((xs.length:Nat):Int)-((ys.length:Nat):Int)) (((xs.length-(ys.length):Nat):Int)) qO]
 refine xq 1 [(57,.v (yI (IntKind.i64.wrap (((xs.length-(ys.length):Nat):Int)+1))))] [] ?_
 rw[show IntKind.i64.wrap ((((xs.length-(ys.length):Nat):Int)+1))=((xs.length-(ys.length)+1:Nat):Int) by rw[IntKind.wrap_i64];omega]
 refine Zbu (d:=58) (t:=84) (e:=207) (k:=.u64) (kl:=.i64) (kc:=.i64) (l:=.tmp 57) (c:=.tmp 57) (xs.length-(ys.length)+1) 8 qO qD fun r22 t0 u0=>?_
 have M0:b<r22:=u0 b (fun w Q=>(Q.1.2).lt)
 refine xr 1 [eS1 1 f ys.length c2,eS1 4 none 0 0,eS1 5 none 0 0,yJ 8 (64-blen t:Nat),eS1 9 g dd.length o,eS1 10 (yL b) (xs.length+1) (xs.length+1),eS1 11 (yL r22) (xs.length-(ys.length)+1) (xs.length-(ys.length)+1)] [] ?_
 refine yZ (zD (yY (xq 3 [(61,.v (yI (IntKind.i64.wrap (((xs.length-(ys.length)+1:Nat):Int)-1))))] [] ?_)))
 rw[yW (((xs.length-ys.length+1:Nat):Int)-1) (((xs.length-ys.length+1:Nat):Int)-1) qO]
 refine xq 1 [yJ 12 (((xs.length-ys.length+1:Nat):Int)-1)] [] ?_
 refine yZ (zO ?_)
 refine xI (fun nn ss ff=>∃ (k:Nat) (J qs:List Nat),ss=ofL [eS1 1 f ys.length c2,eS1 4 none 0 0,eS1 5 none 0 0,yJ 8 (64-blen t:Nat),eS1 9 g dd.length o,eS1 10 (yL b) (xs.length+1) (xs.length+1),eS1 11 (yL r22) (xs.length-(ys.length)+1) (xs.length-(ys.length)+1),yJ 12 ((k:Int)-1)] []∧ff=(fun w=>((Box (fun j=>b≤j) w (fun w=>((((((zL w (.slice A xs.length c) (val W64 xs)∧zH .u64 w A (xs))∧zL w (.slice f ys.length c2) (val W64 ys))∧zH .u64 w f (ys))∧True)∧True)∧zL w (.slice g dd.length o) (val W64 ys*2^(64-blen t))))∧Own .u64 207 w b (J))∧Own .u64 207 w r22 (qs)))∧(OvR (val W64 xs*2^(64-blen t)) (val W64 dd) (xs.length+1) (xs.length-ys.length+1) k J qs)∧(k≤xs.length-ys.length+1)∧nn=(1+k)) _ ⟨(xs.length-ys.length+1),zz,(List.replicate (xs.length-(ys.length)+1) 0),rfl,rfl,(OvR.start q0 r0 c0 (by rw[a0];exact ZsD hx ty qO qO)),uF _,rfl⟩ (fun w Q=>⟨⟨(Q.1).self.1.1,(Q.1).self.1.2⟩,Q.2⟩) ?_
 rintro nn ss ff ⟨k,J,qs,rfl,rfl,D,hk,rfl⟩
 refine zD (yY (xq 2 [(63,.v (.bool (decide (((k:Int)-1)≥0))))] [] ?_))
 refine xe (zB ?_)
 refine yQ ((decide (((k:Int)-1)≥0))) (fun K=>?_) fun K=>?_
 ·have d0:=uB K
  obtain⟨j,rfl⟩:∃ j,k=j+1:=⟨k-1,qO⟩
  rw[show ((((j+1):Nat):Int)-1)=(j:Int) by omega]
  refine zG (zB (zD (zO (zC (xq 8 [eS1 66 (yL r22) (xs.length-(ys.length)+1) (xs.length-(ys.length)+1),yJ 67 j,eS1 68 (yL b) (xs.length+1) (xs.length+1),yJ 69 j,yJ 73 (IntKind.i64.wrap ((j:Int)+((ys.length:Nat):Int)))] [] ?_)))))
  rw[yW ((j:Int)+((ys.length:Nat):Int)) (((j+(ys.length):Nat):Int)) qO]
  refine xq 1 [(74,.v (yI (IntKind.i64.wrap (((j+(ys.length):Nat):Int)+1))))] [] ?_
  rw[show IntKind.i64.wrap ((((j+(ys.length):Nat):Int)+1))=((j+(ys.length)+1:Nat):Int) by rw[IntKind.wrap_i64];omega]
  refine xqk 75 (.slice (some ⟨b,j,none⟩) (dd.length+1) (xs.length+1-j)) (fun w R Q=>ZoM (t:=84) (e:=207) (x:=.tmp 68) (len:=(xs.length+1)) (cap:=(xs.length+1)) (l:=j) (h:=j+(ys.length)+1) (n:=dd.length+1) (m:=xs.length+1-j) (lo:=.tmp 69) (hi:=.tmp 74) qO qO qO qO qO) ?_
  refine xq 1 [eS1 76 g dd.length o] [] ?_
  refine ZcH 165 [.slice (some ⟨b,j,none⟩) (dd.length+1) (xs.length+1-j),.slice g dd.length o] (d:=77) (fun x=>yX (win j dd.length J/val W64 dd:Nat)) (fun x=>WinR j dd.length J x∧win j dd.length x=win j dd.length J%val W64 dd) (fun x=>x) b (fun x w=>((Box (fun j=>b≤j) w (fun w=>((((((zL w (.slice A xs.length c) (val W64 xs)∧zH .u64 w A (xs))∧zL w (.slice f ys.length c2) (val W64 ys))∧zH .u64 w f (ys))∧True)∧True)∧zL w (.slice g dd.length o) (val W64 ys*2^(64-blen t))))∧Own .u64 207 w b (x))∧Own .u64 207 w r22 (qs))) (fun w Q=>Q.1.2) (by have:=D.1;omega) (Or.inl O) (fun w R Q=>Zf9 b _ j J dd _ _ _ Q.1.2 (by rw[B];exact ((Q.1.1).self.2).shows) hA (by rw[D.1];omega) (by rw[D.1];omega) D.2.1 Z qO I (D.ready o0 qO).2.2) (fun x w w' hp Q L V=>⟨⟨((Q.1.1).fr (L.mono (fun _ _ e=>by rw[e];exact uF _))),V⟩,((Q.2).fr L (show ¬ (r22=b) by omega))⟩) fun x S=>?_
  obtain⟨T,rfl⟩:∃ y,y=x:=⟨_,rfl⟩
  have HS:=D.step o0 I qO qO S.1 S.2
  have N0:=D.2.2.1
  refine xr 0 [eS1 1 f ys.length c2,eS1 4 none 0 0,eS1 5 none 0 0,yJ 8 (64-blen t:Nat),eS1 9 g dd.length o,eS1 10 (yL b) (xs.length+1) (xs.length+1),eS1 11 (yL r22) (xs.length-(ys.length)+1) (xs.length-(ys.length)+1),yJ 12 j,eS1 66 (yL r22) (xs.length-(ys.length)+1) (xs.length-(ys.length)+1),yJ 67 j,yU 77 (win j dd.length J/val W64 dd:Nat)] [] ?_
  refine xqk 78 (.pointer (some ⟨r22,j,none⟩)) (fun w R Q=>lX (t:=84) (e:=207) (x:=.tmp 66) (ix:=.tmp 67) (len:=(xs.length-(ys.length)+1)) (cap:=(xs.length-(ys.length)+1)) (i:=j) qO) ?_
  refine jL (t:=207) (x:=.tmp 78) (y:=.tmp 77) r22 (j) (win j dd.length J/val W64 dd) (fun w=>((Box (fun j=>b≤j) w (fun w=>((((((zL w (.slice A xs.length c) (val W64 xs)∧zH .u64 w A (xs))∧zL w (.slice f ys.length c2) (val W64 ys))∧zH .u64 w f (ys))∧True)∧True)∧zL w (.slice g dd.length o) (val W64 ys*2^(64-blen t))))∧Own .u64 207 w b (T))∧Own .u64 207 w r22 ((qs).set (j) (win j dd.length J/val W64 dd)))) (fun w Q=>Q.2) qO (Or.inl t0) (fun w w' Q L V=>⟨⟨((Q.1.1).fr (L.mono (fun _ _ e=>by rw[e];omega))),((Q.1.2).fr L (show ¬ (b=r22) by omega))⟩,V⟩) ?_
  refine xe (xK (zB (zC (xq 2 [yJ 65 (IntKind.i64.wrap ((j:Int)-1))] [] ?_))))
  rw[yW ((j:Int)-1) ((j:Int)-1) qO]
  refine xq 1 [yJ 12 ((j:Int)-1)] [] ?_
  refine xe ?_
  exact xC _ qO ⟨j,T,((qs).set (j) (win j dd.length J/val W64 dd)),rfl,rfl,HS,qO,rfl⟩ (fun w Q=>⟨⟨Q.1.1,Q.1.2⟩,Q.2⟩)
 have d0:=uC K
 obtain rfl:k=0:=qO
 refine xJ (zE (zE (xL (zB (yY (xq 1 [eS1 79 (yL r22) (xs.length-(ys.length)+1) (xs.length-(ys.length)+1)] [] ?_))))))
 refine xqc 142 [Υ r22 (xs.length-(ys.length)+1)] 80 wE _ (fun w R Q=>yM xY (ZbA Q.2 D.2.2.2.1 D.2.2.1 ((D.done I).1.trans (by rw[a0,ZrZ])) qO qO)) fun⟨v0,w0,x0⟩=>?_
 refine xq 1 [eS1 81 (yL b) (xs.length+1) (xs.length+1)] [] ?_
 refine xqc 142 [Υ b (xs.length+1)] 82 wE _ (fun w R Q=>yM xY (ZbA Q.1.1.2 D.2.1 D.1 (D.done I).2 qO qO)) fun⟨O0,P0,Q0⟩=>?_
 refine xq 1 [yJ 83 (64-blen t:Nat)] [] ?_
 refine xqc _ _ 84 wE _ (fun w R Q=>(ZbB (64-blen t) Q.2 (uD (lV (qZ (uO _ I))) (by rw[←xR Z n0];omega)) qO).mono (fun _ _ h=>xY (by rw[show (val W64 xs*2^(64-blen t)%val W64 dd)/2^(64-blen t)=val W64 xs%val W64 ys by rw[a0,ZrY]] at h;exact h))) fun⟨y0,z0,A0⟩=>?_
 refine xq 2 [eS1 4 v0 w0 x0,eS1 5 y0 z0 A0] [] ?_
 refine yZ (zJ ?_)
 refine yR (.tuple #[.slice v0 w0 x0,.slice y0 z0 A0]) fun w' R Q=>?_
 exact⟨_,_,rfl,Q.1.1.2,Q.2,R⟩
end Go.Proofs.YtdlgidnkmbklcaaGreatDoor
namespace Go.Proofs.YtdlgidnkmbklcaaGreatDoor
structure FR where
 s:Bool
 m:Nat
 e:Int
 err:Int
def Zim:FR:=⟨false,0,0,0⟩
def errR (k:Int):FR:=⟨false,0,0,k⟩
def okE (e:Int):Prop := -1048576≤e∧e≤1048576
instance (e:Int):Decidable (okE e):=inferInstanceAs (Decidable (_∧_))
def wG (s:Bool) (n:Nat) (e:Int):FR:=if n=0 then Zim else if okE (e+tzn n) then ⟨s,oddM n,e+tzn n,0⟩ else errR 2
theorem Znt {n:Nat}(s:Bool)(h:0<n)(j:Nat)(e:Int):wG s (n*2^j) e=wG s n (e+j):=by
 unfold wG
 have a:=rC h (p2 j)
 rw[uQ (show ¬ n*2^j=0 by omega),uQ (show ¬ n=0 by omega),Zeh h,Zo5 h]
 have:e+((tzn n+j:Nat):Int)=e+j+tzn n:=qO
 rw[this]
def kG (s:Bool) (n:Nat) (e:Int) (bits:Nat) (more:Bool):FR :=
 if blen n≤bits then wG s n e else wG s (Zao n (blen n-bits-1) more) (e+(blen n-bits:Nat))
def wR (s:Bool) (n d:Nat) (e:Int) (bits:Nat):FR:=if n=0 then Zim else wG s (rndM n d bits) (e+rndK n d bits)
theorem ZeO (s:Bool)(e:Int)(bits:Nat)(more:Bool):kG s 0 e bits more=Zim:=by
 unfold kG;rw[uZ (by rw[fX];omega)];rfl
theorem fE (s:Bool)(d:Nat)(e:Int)(bits:Nat):wR s 0 d e bits=Zim:=rfl
theorem kZ (s:Bool)(n:Nat)(e:Int){bits:Nat}(f:0<bits):kG s n e bits false=wR s n 1 e bits:=by
 rcases uJ n with rfl|b
 ·rw[ZeO,fE]
 unfold kG wR
 rw[uQ (show ¬ n=0 by omega)]
 split
 ·rename_i h
  obtain⟨c,a⟩:=ZqD b f h
  rw[c,a,Znt s b]
  congr 1;omega
 rename_i h
 obtain⟨j,g⟩:∃ j,blen n=bits+(j+1):=⟨blen n-bits-1,qO⟩
 have i:fq n 1 0=n:=by unfold fq fa fb;simp
 have k:fa n 0%fb 1 0=0:=by unfold fb;simp[Nat.mod_one]
 obtain⟨c,a⟩:=ZdL b (d:=1) qD f 0 j (by rw[i];exact g)
 rw[i,k] at a
 rw[c,a,g,show bits+(j+1)-bits-1=j by omega,show bits+(j+1)-bits=j+1 by omega,Int.zero_add]
 rfl
theorem Zkj (s:Bool){n d:Nat}(e:Int){bits:Nat}(a:0<n)(b:0<d)(c:0<bits) :
 kG s (fq n d (rk0 n d bits-1)) (e+(rk0 n d bits-1)) bits (decide (fa n (rk0 n d bits-1)%fb d (rk0 n d bits-1)≠0))=wR s n d e bits:=by
 obtain⟨h,i⟩:=Zfd a b c
 have f:=ZdK n d (rk0 n d bits-1) 1
 rw[show rk0 n d bits-1+(1:Nat)=rk0 n d bits by omega] at f
 rw[f,ZaA] at h i
 generalize m:rk0 n d bits-1=k at *
 obtain⟨j,g⟩:∃ j,blen (fq n d k)=bits+(j+1):=⟨blen (fq n d k)-bits-1,qO⟩
 obtain⟨k1,l⟩:=ZdL a b c k j g
 unfold kG wR
 rw[uQ qO,uQ qO,k1,l,g,show bits+(j+1)-bits-1=j by omega,show bits+(j+1)-bits=j+1 by omega,Int.add_assoc]
def addR (sx:Bool) (xm:Nat) (xe:Int) (sy:Bool) (ym:Nat) (ye:Int) (bits:Nat):FR :=
 wR (decide (sg sx (xm*2^(xe-min xe ye).toNat)+sg sy (ym*2^(ye-min xe ye).toNat)<0)) (sg sx (xm*2^(xe-min xe ye).toNat)+sg sy (ym*2^(ye-min xe ye).toNat)).natAbs 1 (min xe ye) bits
theorem Znu (sx:Bool)(b:Nat)(xe:Int)(c:Bool)(ym:Nat)(a:Int)(bits:Nat):addR sx b xe c ym a bits=addR c ym a sx b xe bits:=by
 unfold addR;rw[Int.min_comm a xe,Int.add_comm]
theorem Zht {a s r:Nat}(c:Bool)(e:Int){bits:Nat}(d:0<bits)(ha:bits+1≤blen a)(b:0<r)(f:r<2^s) :
 wR c (a*2^s+r) 1 e bits=wG c (Zao a (blen a-bits-1) true) (e+s+(blen a:Int)-bits):=by
 obtain⟨g,h⟩:=ZqE d ha b f
 unfold wR
 rw[uQ qO,g,h]
 congr 1;omega
theorem Znv {s t:Bool}{a b:Nat}(h:b<a):decide (sg s a+sg t b<0)=s∧(sg s a+sg t b).natAbs=(if s=t then a+b else a-b):=by
 cases s<;>cases t<;>simp[sg]<;>omega
theorem Zl7 (sx:Bool){a:Nat}(xe:Int)(b:Bool){ym:Nat}(c:Int){bits:Nat}(k:0<bits)(m:0<a)(l:0<ym){f:Int}(B:f≤xe)(C:f≤blen a+xe-bits-2)(D:blen ym+c≤f) :
 addR sx a xe b ym c bits=addR sx a xe b 1 (f-1) bits:=by
 have n:=bO l
 have d:∀ (s r:Nat) (E:Int),E=f-s→0<r→r<2^s→wR (decide (sg sx (a*2^(xe-E).toNat)+sg b r<0)) (sg sx (a*2^(xe-E).toNat)+sg b r).natAbs 1 E bits =
  wG sx (Zao (if sx=b then a*2^(xe-f).toNat else a*2^(xe-f).toNat-1) (blen (if sx=b then a*2^(xe-f).toNat else a*2^(xe-f).toNat-1)-bits-1) true) (f+(blen (if sx=b then a*2^(xe-f).toNat else a*2^(xe-f).toNat-1):Int)-bits):=by
  intro s r E Q h o
  have i:a*2^(xe-E).toNat=a*2^(xe-f).toNat*2^s:=by
   rw[uH,← uW];congr 2;omega
  have F:bits+2≤blen (a*2^(xe-f).toNat):=by rw[Zby m];omega
  rw[i]
  generalize a*2^(xe-f).toNat=X at *
  have p:=cK.1 (show bits+1<blen X by omega)
  have G:2^bits*2=2^(bits+1):=(uP ..).symm
  have q:=p2 bits
  have u:=p2 s
  have j:1≤X:=qO
  have v:2^s≤X*2^s:=by have:=uE (2^s) j;omega
  obtain⟨w,x⟩:=Znv (s:=sx) (t:=b) (show r<X*2^s by omega)
  rw[w,x]
  by_cases e:sx=b
  ·rw[uZ e,uZ e,Zht sx E k qO h o]
   congr 1;omega
  rw[uQ e,uQ e]
  have y:X*2^s-r=(X-1)*2^s+(2^s-r):=by rw[Nat.sub_mul,pJ];omega
  have g:bits+1≤blen (X-1):=cK.2 qO
  rw[y,Zht sx E k g qO qO]
  congr 1;omega
 have z:c<f:=qO
 obtain⟨s,e⟩:=vW (show 0≤f-c by omega)
 have k1:=d s ym c qO l (uS (fU ym) (vE qD qO))
 have A:=d 1 1 (f-1) qO qD qD
 unfold addR
 rw[show min xe c=c by omega,show min xe (f-1)=f-1 by omega,show (c-c).toNat=0 by omega,show (f-1-(f-1)).toNat=0 by omega]
 simp only[tX,sU]
 rw[k1,A]
end Go.Proofs.YtdlgidnkmbklcaaGreatDoor
namespace Go.Proofs.YtdlgidnkmbklcaaGreatDoor
open Go.RowKit Tryz
def shNb (r:FR) (x:ShN):Value:=.tuple #[yV r.s x.1 x.2.1 x.2.2 r.e,.int .i64 r.err]
def lB (w:World) (r:FR) (e:Ending) (w':World):Prop:=∃ x:ShN,e=.returned (shNb r x)∧zL w' (wE x) r.m∧Ext w w'
theorem lO {w w':World}{e:Ending}{r:FR}(h:lB w r e w'):lG (shNb r) (fun x w=>zL w (wE x) r.m) w e w':=by
 obtain⟨x,rfl,a,Q⟩:=h
 exact⟨x,rfl,Q,boxn Q (fun S b c d=>a.nrb c d)⟩
theorem Zl8 (s:Bool)(e:Int):wG s 0 e=⟨false,0,0,0⟩:=rfl
theorem Zpc {n:Nat}(s:Bool){e:Int}(a:0<n)(b:¬ e+tzn n < -1048576)(c:¬ e+tzn n>1048576):wG s n e=⟨s,oddM n,e+tzn n,0⟩:=by
 unfold wG
 rw[uQ qO,uZ ⟨qO,qO⟩]
theorem Zhu {n:Nat}(s:Bool){e:Int}(a:0<n)(h:e+tzn n < -1048576∨e+tzn n>1048576):wG s n e=⟨false,0,0,2⟩:=by
 unfold wG
 rw[uQ qO,uQ (by rintro⟨b,c⟩;omega)];rfl
theorem cL (n:Nat):blen n≤64*wl n:=by
 rw[kI,rU]
 have:=Zd8 n
 rwa [zR] at this
theorem Zr0 {n:Nat}(h:wl n≤4294967296):tzn n≤274877906944:=by
 rcases uJ n with rfl|a
 ·rw[tzn,dif_pos (Or.inl rfl)];omega
 obtain⟨c,b⟩:=jY a
 have d:blen n=blen (oddM n)+tzn n:=by
  have:=Zby (show 0<oddM n by omega) (tzn n)
  rwa [←b] at this
 have:=cL n
 omega
theorem Zjd {n:Nat}(h:wl n≤4294967296):blen n≤274877906944:=by have:=cL n;omega
theorem Zgb {s:Bool}{n bits:Nat}{e:Int}{m:Bool}(h:blen n≤bits):kG s n e bits m=wG s n e:=by unfold kG;rw[uZ h]
theorem aD {s:Bool}{n bits j:Nat}{e:Int}{m:Bool}(h:blen n=bits+(j+1))(a:n/2^j%2=1)(b:tzn n<j∨n/2^(j+1)%2=1∨m=true)(c:0<n) :
 kG s n e bits m=wG s (n/2^(j+1)+1) (e+((j+1:Nat):Int)):=by
 unfold kG Zao
 rw[uQ qO,h,show bits+(j+1)-bits-1=j by omega,show bits+(j+1)-bits=j+1 by omega,uZ ⟨a,by rw[←Zno c];exact b⟩]
theorem Zap {s:Bool}{n bits j:Nat}{e:Int}{m:Bool}(h:blen n=bits+(j+1))(a:0<n)(b:¬ (n/2^j%2=1∧(tzn n<j∨n/2^(j+1)%2=1∨m=true))) :
 kG s n e bits m=wG s (n/2^(j+1)) (e+((j+1:Nat):Int)):=by
 unfold kG Zao
 rw[uQ qO,h,show bits+(j+1)-bits-1=j by omega,show bits+(j+1)-bits=j+1 by omega,uQ (by rw[←Zno a];exact b)]
theorem Zr1:Trim [1]:=by
 intro k a
 have:k=0:=by simp at a;omega
 subst this
 simp
theorem wl_1:wl 1≤4294967296:=uD (Zaw.2 (by rw[zR];decide)) qD
theorem Zac {w:World}{b:Nat}(h:Blk 207 w b #[.int .u64 1]):zL w (.slice (some ⟨b,0,none⟩) 1 1) 1 :=
 ⟨_,[1],1,rfl,uF _,(Blk.own1 (r:=1) h).shows0,Dig.nil.cons (by rw[zR];decide),Zr1,rfl⟩
def ZcN (w:World) (Q:Nat) (v:Value):Prop:=Q<w.heap.size∧w.cell? ⟨Q,0,none⟩=some v
theorem ZcN.ext {w w':World}{Q:Nat}{v:Value}(h:ZcN w Q v)(a:Ext w w'):ZcN w' Q v:=⟨uS h.1 a.size,(a.cell (p:=⟨Q,0,none⟩) h.1 (fun f=>f)).trans h.2⟩
theorem Znw (Q:Nat)(A:qA)(l c:Nat)(w:World)(h:ZcN w Q (.slice A l c)):yA 115 #[.pointer (some ⟨Q,0,none⟩)] w (RetV w (.bool (decide (0<l)))):=by
 have a:=h.2
 go_enter func115,ntmps115
 go_wp2
 go_ret
 exact⟨uX Ending.returned (uX Value.bool (oE.2 qO)),Fr.refl _ _⟩
theorem Znx (w:World):yA 136 #[] w (RetV w (.bool false)):=by
 go_enter func136,ntmps136
 go_wp2
 go_ret
 exact⟨rfl,Fr.refl _ _⟩
theorem jZ (s:Bool)(A:qA)(l c n:Nat)(e:Int)(w:World)(t:Glob w)(q:zL w (.slice A l c) n)(o:wl n≤4294967296)(u : -1152921504606846976≤e)(x:e≤1152921504606846976) :
 yA 141 #[.bool s,.slice A l c,.int .i64 e] w (lB w (wG s n e)):=by
 refine zV (Φ:=fun w=>(Glob w∧zL w (.slice A l c) (n))) func141 rfl qK (fun w' r=>⟨t.ext r,q.ext r⟩) ?_
 refine zD ?_
 have y:=q.len0
 have z:=Zr0 o
 have B:=@jH n
 refine zC (xq 2 [Δ 6,yJ 7 0] [yF 6 86 false none 0 0 0] ?_)
 refine yZ (zD (yY (xq 3 [yB 11 (((l:Int):Int) == 0)] [] ?_)))
 refine xe (zB ?_)
 refine yQ ((((l:Int):Int) == 0)) (fun b=>?_) fun b=>?_
 ·have f:=sK.1 b
  have m:n=0:=qO
  refine yY (xq 3 [yJ 7 0] [] ?_)
  refine yZ (zJ (zM ?_))
  refine yR (.tuple #[yV false none 0 0 0, yI 0]) fun w' R Q=>?_
  rw[m,Zl8]
  exact⟨(none,0,0),rfl,zL.zero _,R⟩
 have f:=lU b
 have m:0<n:=qO
 refine zG (zB (yY (xq 1 [eS1 13 A l c] [] ?_)))
 refine xqc _ _ 14 (fun _:Unit=>yI (tzn n:Nat)) _ (fun w R Q=>yN (ZcL Q.1 Q.2 o m)) fun C=>?_
 refine xq 1 [yJ 8 (tzn n:Nat)] [] ?_
 refine yZ (yY (xq 3 [yJ 17 (IntKind.i64.wrap (e+((tzn n:Nat):Int)))] [] ?_))
 rw[yW (e+((tzn n:Nat):Int)) (e+((tzn n:Nat):Int)) qO]
 refine xq 1 [yJ 2 (e+((tzn n:Nat):Int))] [] ?_
 refine yZ (zD (yY (xq 3 [(20,.v (.bool (decide ((e+((tzn n:Nat):Int))<(-1048576)))))] [] ?_)))
 rcases bl2 ((decide ((e+((tzn n:Nat):Int))<(-1048576)))) with a|a
 ·rw[a]
  have g:=uB a
  refine xq 3 [yB 23 true] [] ?_
  refine yZ (xa (yY (xq 3 [yJ 7 2] [] ?_)))
  refine yZ (zJ (zM ?_))
  refine yR (.tuple #[yV false none 0 0 0, yI 2]) fun w' R Q=>?_
  rw[Zhu s m qO]
  exact⟨(none,0,0),rfl,zL.zero _,R⟩
 rw[a]
 have g:=uC a
 refine xq 3 [(23,.v (.bool (decide ((e+((tzn n:Nat):Int))>1048576))))] [] ?_
 refine xe (zB ?_)
 refine yQ ((decide ((e+((tzn n:Nat):Int))>1048576))) (fun d=>?_) fun d=>?_
 ·have h:=uB d
  refine yY (xq 3 [yJ 7 2] [] ?_)
  refine yZ (zJ (zM ?_))
  refine yR (.tuple #[yV false none 0 0 0, yI 2]) fun w' R Q=>?_
  rw[Zhu s m qO]
  exact⟨(none,0,0),rfl,zL.zero _,R⟩
 have h:=uC d
 refine zG (zB (yY (xq 3 [yB 25 s,eS1 26 A l c,yJ 27 (tzn n:Nat)] [] ?_)))
 refine xqc _ _ 28 wE _ (fun w R Q=>yM xY (ZbB (tzn n) Q.1.2 o qO)) fun⟨i,j,k⟩=>?_
 refine xq 4 [yJ 7 0] [yF 6 86 s i j k (e+((tzn n:Nat):Int))] ?_
 refine yZ (zJ ?_)
 refine yR (.tuple #[yV s i j k (e+((tzn n:Nat):Int)), yI 0]) fun w' R Q=>?_
 rw[Zpc s m qO qO]
 exact⟨(i,j,k),rfl,Q.2,R⟩
theorem gA (s:Bool)(A:qA)(l c n:Nat)(e:Int)(bits:Nat)(w:World)(hg:Glob w)(hN:zL w (.slice A l c) n)(E:wl n≤4294967296)(y0 : -576460752303423488≤e)(z0:e≤576460752303423488)(hb:bits≤4294967296) :
 yA 114 #[.bool s,.slice A l c,.int .i64 e,.int .i64 ((bits:Nat):Int),.func (.func 136) #[] #[]] w (lB w (kG s n e bits false)):=by
 refine zV (Φ:=fun w=>(Glob w∧zL w (.slice A l c) (n))) func114 rfl qK (fun w' hf=>⟨hg.ext hf,hN.ext hf⟩) ?_
 refine zD ?_
 have A0:=Zjd E
 by_cases F:blen n≤bits
 ·obtain⟨k,hk⟩:∃ k,bits=blen n+k:=⟨bits-blen n,qO⟩
  refine zC (xq 2 [Δ 10,yJ 11 0] [yF 10 86 false none 0 0 0] ?_)
  refine yZ (yY (xq 1 [eS1 14 A l c] [] ?_))
  refine xqc _ _ 15 (fun _:Unit=>yI (blen n:Nat)) _ (fun w R Q=>yN (fK Q.2 E)) fun xx=>?_
  refine xq 2 [yJ 17 (IntKind.i64.wrap (((blen n:Nat):Int)-(bits:Int)))] [] ?_
  rw[show IntKind.i64.wrap (((blen n:Nat):Int)-(bits:Int)) = -(k:Int) by rw[IntKind.wrap_i64];omega]
  refine xq 1 [yJ 12 (-(k:Int))] [] ?_
  refine yZ (zD (yY (xq 2 [(19,.v (.bool (decide ((-(k:Int))≤0))))] [] ?_)))
  rw[show decide (-(k:Int)≤0)=true from vP qO]
  refine yZ (xa (yY (xq 3 [yB 20 s,eS1 21 A l c,yJ 22 e] [] ?_)))
  obtain⟨g,G⟩:=yE (wG s (n) (e))
  refine xqc _ _ 23 (shNb g) _ (fun w R Q=>yM lO ((show Calls _ _ _ _ (lB w g) by rw[←G];exact jZ s _ _ _ _ _ _ Q.1.1 Q.1.2 E qO qO))) fun⟨L,M,N⟩=>?_
  refine xq 4 [yJ 11 g.err] [yF 10 86 g.s L M N g.e] ?_
  refine yZ (zJ (zM ?_))
  refine yR (.tuple #[yV g.s L M N g.e, yI g.err]) fun w' R Q=>?_
  rw[Zgb F,G]
  exact⟨(L,M,N),rfl,Q.2,R⟩
 obtain⟨j,hj⟩:∃ j,blen n=bits+(j+1):=⟨blen n-bits-1,qO⟩
 have O:0<n:=qJ (fun e=>by rw[e,fX] at F;omega)
 have B:wl (n/2^(j+1))≤4294967296:=uD (lV (vG _ _)) E
 have P:wl (n/2^(j+1)+1)≤4294967296:=uD (lV (oN O (Nat.one_lt_two_pow qO))) E
 obtain⟨b1,S⟩:=yE (decide (n/2^j%2=1))
 obtain⟨b2,T⟩:=yE (decide (n/2^(j+1)/2^0%2=1))
 obtain⟨b3,U⟩:=yE false
 refine zC (xq 2 [Δ 10,yJ 11 0] [yF 10 86 false none 0 0 0] ?_)
 refine yZ (yY (xq 1 [eS1 14 A l c] [] ?_))
 refine xqc _ _ 15 (fun _:Unit=>yI (blen n:Nat)) _ (fun w R Q=>yN (fK Q.2 E)) fun xx=>?_
 refine xq 2 [yJ 17 (IntKind.i64.wrap (((blen n:Nat):Int)-(bits:Int)))] [] ?_
 rw[yW (((blen n:Nat):Int)-(bits:Int)) (((j+1:Nat):Int)) qO]
 refine xq 1 [yJ 12 (j+1:Nat)] [] ?_
 refine yZ (zD (yY (xq 2 [yB 19 (decide (((j+1:Nat):Int)≤0))] [] ?_)))
 rw[show decide (((j+1:Nat):Int)≤0)=false from uR qO]
 refine yZ (xb (zG (zB (yY (xq 2 [eS1 26 A l c,yJ 27 (j+1:Nat)] [] ?_)))))
 refine xqc _ _ 28 wE _ (fun w R Q=>yM xY (ZbB (j+1) Q.1.2 E qO)) fun⟨a,b,f⟩=>?_
 refine xq 1 [eS1 13 a b f] [] ?_
 refine yZ (zD (yY (xq 3 [eS1 29 A l c,yJ 31 (IntKind.i64.wrap (((j+1:Nat):Int)-1))] [] ?_)))
 rw[yW (((j+1:Nat):Int)-1) ((j:Int)) qO]
 refine xqc _ _ 32 (fun _:Unit=>.bool b1) _ (fun w R Q=>yN ((show Calls _ _ _ _ (RetV w (.bool b1)) by rw[←S];exact ZcM (j) Q.1.1.2 qO))) fun xx=>?_
 refine xq 1 [yB 33 b1] [] ?_
 rcases bl2 (b1) with i|i
 ·rw[i]
  have k1:=uB (S.trans i)
  refine xq 1 [eS1 34 A l c] [] ?_
  refine xqc _ _ 35 (fun _:Unit=>yI (tzn n:Nat)) _ (fun w R Q=>yN (ZcL Q.1.1.1.1 Q.1.1.1.2 E O)) fun xx=>?_
  refine xq 2 [yJ 37 (IntKind.i64.wrap (((j+1:Nat):Int)-1))] [] ?_
  rw[yW (((j+1:Nat):Int)-1) ((j:Int)) qO]
  refine xq 2 [yB 39 (decide (((tzn n:Nat):Int)<(j:Int)))] [] ?_
  rcases bl2 ((decide (((tzn n:Nat):Int)<(j:Int)))) with m|m
  ·rw[m]
   have V:=uB m
   have k4:tzn n<j:=qO
   refine xr 8 [yB 0 s,yJ 2 e,Δ 10,yJ 11 0,yJ 12 (j+1:Nat),eS1 13 a b f,yB 47 true] [yF 10 86 false none 0 0 0] ?_
   refine yZ (xa (zC (xq 1 [eS1 48 a b f] [] ?_)))
   refine yD (d:=49) (fun C:Nat=>Υ C 1) (fun C zw=>Blk 207 zw C #[yX 1]) (fun w R Q=>gE (t:=84) (sz:=1) (z:=yX 0) (parts:=#[(0,Operand.const (Value.int IntKind.u64 1))]) qK qK qK qK qK qK) fun v0=>?_
   refine xr 0 [yB 0 s,yJ 2 e,Δ 10,yJ 11 0,yJ 12 (j+1:Nat),eS1 13 a b f,eS1 48 a b f,eS1 49 (yL v0) 1 1] [yF 10 86 false none 0 0 0] ?_
   refine xqc _ _ 50 wE _ (fun w R Q=>yM xY (fZ Q.1.1.1.2 (Zac Q.2) B wl_1)) fun⟨m0,n0,o0⟩=>?_
   refine xq 1 [eS1 13 m0 n0 o0] [] ?_
   refine yZ (yY (xq 5 [yB 51 s,eS1 52 m0 n0 o0,yJ 55 (IntKind.i64.wrap (e+((j+1:Nat):Int)))] [] ?_))
   rw[yW (e+((j+1:Nat):Int)) (e+((j+1:Nat):Int)) qO]
   obtain⟨o,H⟩:=yE (wG s (n/2^(j+1)+1) ((e+((j+1:Nat):Int))))
   refine xqc _ _ 56 (shNb o) _ (fun w R Q=>yM lO ((show Calls _ _ _ _ (lB w o) by rw[←H];exact jZ s _ _ _ _ _ _ Q.1.1.1.1.1.1.1 Q.2 P qO qO))) fun⟨W,X,Y⟩=>?_
   refine xq 4 [yJ 11 o.err] [yF 10 86 o.s W X Y o.e] ?_
   refine yZ (zJ ?_)
   refine yR (.tuple #[yV o.s W X Y o.e, yI o.err]) fun w' R Q=>?_
   rw[aD hj k1 (Or.inl k4) O,H]
   exact⟨(W,X,Y),rfl,Q.2,R⟩
  rw[m]
  have V:=uC m
  have k4:¬ tzn n<j:=qO
  refine xr 1 [yB 0 s,yJ 2 e,(4,.v (.func (.func 136) #[] #[])),Δ 10,yJ 11 0,yJ 12 (j+1:Nat),eS1 13 a b f,yB 33 true,yB 39 false,eS1 40 a b f] [yF 10 86 false none 0 0 0] ?_
  refine xqc _ _ 41 (fun _:Unit=>.bool b2) _ (fun w R Q=>yN ((show Calls _ _ _ _ (RetV w (.bool b2)) by rw[←T];exact ZcM (0) Q.1.1.2 qO))) fun xx=>?_
  refine xq 2 [yB 43 b2] [] ?_
  rcases bl2 (b2) with q|q
  ·rw[q]
   have k2:=uB (T.trans q)
   rw[tX,pV] at k2
   refine xq 4 [yB 47 true] [] ?_
   refine yZ (xa (zC (xq 1 [eS1 48 a b f] [] ?_)))
   refine yD (d:=49) (fun C:Nat=>Υ C 1) (fun C zw=>Blk 207 zw C #[yX 1]) (fun w R Q=>gE (t:=84) (sz:=1) (z:=yX 0) (parts:=#[(0,Operand.const (Value.int IntKind.u64 1))]) qK qK qK qK qK qK) fun w0=>?_
   refine xr 0 [yB 0 s,yJ 2 e,Δ 10,yJ 11 0,yJ 12 (j+1:Nat),eS1 13 a b f,eS1 48 a b f,eS1 49 (yL w0) 1 1] [yF 10 86 false none 0 0 0] ?_
   refine xqc _ _ 50 wE _ (fun w R Q=>yM xY (fZ Q.1.1.1.1.2 (Zac Q.2) B wl_1)) fun⟨p0,q0,r0⟩=>?_
   refine xq 1 [eS1 13 p0 q0 r0] [] ?_
   refine yZ (yY (xq 5 [yB 51 s,eS1 52 p0 q0 r0,yJ 55 (IntKind.i64.wrap (e+((j+1:Nat):Int)))] [] ?_))
   rw[yW (e+((j+1:Nat):Int)) (e+((j+1:Nat):Int)) qO]
   obtain⟨r,I⟩:=yE (wG s (n/2^(j+1)+1) ((e+((j+1:Nat):Int))))
   refine xqc _ _ 56 (shNb r) _ (fun w R Q=>yM lO ((show Calls _ _ _ _ (lB w r) by rw[←I];exact jZ s _ _ _ _ _ _ Q.1.1.1.1.1.1.1.1 Q.2 P qO qO))) fun⟨Z,a0,b0⟩=>?_
   refine xq 4 [yJ 11 r.err] [yF 10 86 r.s Z a0 b0 r.e] ?_
   refine yZ (zJ ?_)
   refine yR (.tuple #[yV r.s Z a0 b0 r.e, yI r.err]) fun w' R Q=>?_
   rw[aD hj k1 (Or.inr (Or.inl k2)) O,I]
   exact⟨(Z,a0,b0),rfl,Q.2,R⟩
  rw[q]
  have k2:=uC (T.trans q)
  rw[tX,pV] at k2
  refine xq 1 [(44,.v (.func (.func 136) #[] #[]))] [] ?_
  refine xqc 136 [] 45 (fun _:Unit=>.bool b3) _ (fun w R Q=>yN ((show Calls _ _ _ _ (RetV w (.bool b3)) by rw[←U];exact Znx _))) fun xx=>?_
  refine xq 2 [yB 47 b3] [] ?_
  refine xe (zB ?_)
  refine yQ (b3) (fun D=>?_) fun D=>?_
  ·have k3:=U.trans D
   refine zC (xq 1 [eS1 48 a b f] [] ?_)
   refine yD (d:=49) (fun C:Nat=>Υ C 1) (fun C zw=>Blk 207 zw C #[yX 1]) (fun w R Q=>gE (t:=84) (sz:=1) (z:=yX 0) (parts:=#[(0,Operand.const (Value.int IntKind.u64 1))]) qK qK qK qK qK qK) fun x0=>?_
   refine xr 0 [yB 0 s,yJ 2 e,Δ 10,yJ 11 0,yJ 12 (j+1:Nat),eS1 13 a b f,eS1 48 a b f,eS1 49 (yL x0) 1 1] [yF 10 86 false none 0 0 0] ?_
   refine xqc _ _ 50 wE _ (fun w R Q=>yM xY (fZ Q.1.1.1.1.1.2 (Zac Q.2) B wl_1)) fun⟨s0,t0,u0⟩=>?_
   refine xq 1 [eS1 13 s0 t0 u0] [] ?_
   refine yZ (yY (xq 5 [yB 51 s,eS1 52 s0 t0 u0,yJ 55 (IntKind.i64.wrap (e+((j+1:Nat):Int)))] [] ?_))
   rw[yW (e+((j+1:Nat):Int)) (e+((j+1:Nat):Int)) qO]
   obtain⟨u,J⟩:=yE (wG s (n/2^(j+1)+1) ((e+((j+1:Nat):Int))))
   refine xqc _ _ 56 (shNb u) _ (fun w R Q=>yM lO ((show Calls _ _ _ _ (lB w u) by rw[←J];exact jZ s _ _ _ _ _ _ Q.1.1.1.1.1.1.1.1.1 Q.2 P qO qO))) fun⟨c0,d0,e0⟩=>?_
   refine xq 4 [yJ 11 u.err] [yF 10 86 u.s c0 d0 e0 u.e] ?_
   refine yZ (zJ ?_)
   refine yR (.tuple #[yV u.s c0 d0 e0 u.e, yI u.err]) fun w' R Q=>?_
   rw[aD hj k1 (Or.inr (Or.inr k3)) O,J]
   exact⟨(c0,d0,e0),rfl,Q.2,R⟩
  have k3:=U.trans D
  refine zG (zB (yY (xq 5 [yB 51 s,eS1 52 a b f,yJ 55 (IntKind.i64.wrap (e+((j+1:Nat):Int)))] [] ?_)))
  rw[yW (e+((j+1:Nat):Int)) (e+((j+1:Nat):Int)) qO]
  obtain⟨x,hr25⟩:=yE (wG s (n/2^(j+1)) ((e+((j+1:Nat):Int))))
  refine xqc _ _ 56 (shNb x) _ (fun w R Q=>yM lO ((show Calls _ _ _ _ (lB w x) by rw[←hr25];exact jZ s _ _ _ _ _ _ Q.1.1.1.1.1.1.1 Q.1.1.1.1.2 B qO qO))) fun⟨f0,g0,i0⟩=>?_
  refine xq 4 [yJ 11 x.err] [yF 10 86 x.s f0 g0 i0 x.e] ?_
  refine yZ (zJ ?_)
  refine yR (.tuple #[yV x.s f0 g0 i0 x.e, yI x.err]) fun w' R Q=>?_
  rw[Zap hj O (fun h=>by rcases h.2 with h|h|h;exact k4 h;exact k2 h;rw[k3] at h;cases h),hr25]
  exact⟨(f0,g0,i0),rfl,Q.2,R⟩
 rw[i]
 have k1:=uC (S.trans i)
 refine xq 14 [yB 47 false] [] ?_
 refine yZ (xb (zG (zB (yY (xq 5 [yB 51 s,eS1 52 a b f,yJ 55 (IntKind.i64.wrap (e+((j+1:Nat):Int)))] [] ?_)))))
 rw[yW (e+((j+1:Nat):Int)) (e+((j+1:Nat):Int)) qO]
 obtain⟨y,K⟩:=yE (wG s (n/2^(j+1)) ((e+((j+1:Nat):Int))))
 refine xqc _ _ 56 (shNb y) _ (fun w R Q=>yM lO ((show Calls _ _ _ _ (lB w y) by rw[←K];exact jZ s _ _ _ _ _ _ Q.1.1.1.1 Q.1.2 B qO qO))) fun⟨j0,k0,l0⟩=>?_
 refine xq 4 [yJ 11 y.err] [yF 10 86 y.s j0 k0 l0 y.e] ?_
 refine yZ (zJ ?_)
 refine yR (.tuple #[yV y.s j0 k0 l0 y.e, yI y.err]) fun w' R Q=>?_
 rw[Zap hj O (fun h=>k1 h.1),K]
 exact⟨(j0,k0,l0),rfl,Q.2,R⟩
theorem Zl9 (s:Bool)(A:qA)(l c n:Nat)(e:Int)(bits:Nat)(Q:Nat)(A2:qA)(l2 c2:Nat)(w:World)(hg:Glob w)(hN:zL w (.slice A l c) n)(E:wl n≤4294967296)(z0 : -576460752303423488≤e)(A0:e≤576460752303423488)(hb:bits≤4294967296)(hQ:ZcN w Q (.slice A2 l2 c2)) :
 yA 114 #[.bool s,.slice A l c,.int .i64 e,.int .i64 ((bits:Nat):Int),.func (.func 115) #[] #[.pointer (some ⟨Q,0,none⟩)]] w (lB w (kG s n e bits (decide (0<l2)))):=by
 refine zV (Φ:=fun w=>((Glob w∧zL w (.slice A l c) (n))∧ZcN w Q (.slice A2 l2 c2))) func114 rfl qK (fun w' hf=>⟨⟨hg.ext hf,hN.ext hf⟩,hQ.ext hf⟩) ?_
 refine zD ?_
 have B0:=Zjd E
 by_cases F:blen n≤bits
 ·obtain⟨k,hk⟩:∃ k,bits=blen n+k:=⟨bits-blen n,qO⟩
  refine zC (xq 2 [Δ 10,yJ 11 0] [yF 10 86 false none 0 0 0] ?_)
  refine yZ (yY (xq 1 [eS1 14 A l c] [] ?_))
  refine xqc _ _ 15 (fun _:Unit=>yI (blen n:Nat)) _ (fun w S R=>(fK R.1.2 E).mono (fun _ _ h=>zI h rfl)) fun xx=>?_
  refine xq 2 [yJ 17 (IntKind.i64.wrap (((blen n:Nat):Int)-(bits:Int)))] [] ?_
  rw[show IntKind.i64.wrap (((blen n:Nat):Int)-(bits:Int)) = -(k:Int) by rw[IntKind.wrap_i64];omega]
  refine xq 1 [yJ 12 (-(k:Int))] [] ?_
  refine yZ (zD (yY (xq 2 [(19,.v (.bool (decide ((-(k:Int))≤0))))] [] ?_)))
  rw[show decide (-(k:Int)≤0)=true from vP qO]
  refine yZ (xa (yY (xq 3 [yB 20 s,eS1 21 A l c,yJ 22 e] [] ?_)))
  obtain⟨g,G⟩:=yE (wG s (n) (e))
  refine xqc _ _ 23 (shNb g) _ (fun w S R=>((show Calls _ _ _ _ (lB w g) by rw[←G];exact jZ s _ _ _ _ _ _ R.1.1.1 R.1.1.2 E qO qO)).mono (fun _ _=>lO)) fun⟨L,M,N⟩=>?_
  refine xq 4 [yJ 11 g.err] [yF 10 86 g.s L M N g.e] ?_
  refine yZ (zJ (zM ?_))
  refine yR (.tuple #[yV g.s L M N g.e, yI g.err]) fun w' S R=>?_
  rw[Zgb F,G]
  exact⟨(L,M,N),rfl,R.2,S⟩
 obtain⟨j,hj⟩:∃ j,blen n=bits+(j+1):=⟨blen n-bits-1,qO⟩
 have O:0<n:=qJ (fun e=>by rw[e,fX] at F;omega)
 have B:wl (n/2^(j+1))≤4294967296:=uD (lV (vG _ _)) E
 have P:wl (n/2^(j+1)+1)≤4294967296:=uD (lV (oN O (Nat.one_lt_two_pow qO))) E
 obtain⟨b1,T⟩:=yE (decide (n/2^j%2=1))
 obtain⟨b2,U⟩:=yE (decide (n/2^(j+1)/2^0%2=1))
 obtain⟨b3,V⟩:=yE (decide (0<l2))
 refine zC (xq 2 [Δ 10,yJ 11 0] [yF 10 86 false none 0 0 0] ?_)
 refine yZ (yY (xq 1 [eS1 14 A l c] [] ?_))
 refine xqc _ _ 15 (fun _:Unit=>yI (blen n:Nat)) _ (fun w S R=>(fK R.1.2 E).mono (fun _ _ h=>zI h rfl)) fun xx=>?_
 refine xq 2 [yJ 17 (IntKind.i64.wrap (((blen n:Nat):Int)-(bits:Int)))] [] ?_
 rw[yW (((blen n:Nat):Int)-(bits:Int)) (((j+1:Nat):Int)) qO]
 refine xq 1 [yJ 12 (j+1:Nat)] [] ?_
 refine yZ (zD (yY (xq 2 [yB 19 (decide (((j+1:Nat):Int)≤0))] [] ?_)))
 rw[show decide (((j+1:Nat):Int)≤0)=false from uR qO]
 refine yZ (xb (zG (zB (yY (xq 2 [eS1 26 A l c,yJ 27 (j+1:Nat)] [] ?_)))))
 refine xqc _ _ 28 wE _ (fun w S R=>(ZbB (j+1) R.1.1.2 E qO).mono (fun _ _=>xY)) fun⟨a,b,f⟩=>?_
 refine xq 1 [eS1 13 a b f] [] ?_
 refine yZ (zD (yY (xq 3 [eS1 29 A l c,yJ 31 (IntKind.i64.wrap (((j+1:Nat):Int)-1))] [] ?_)))
 rw[yW (((j+1:Nat):Int)-1) ((j:Int)) qO]
 refine xqc _ _ 32 (fun _:Unit=>.bool b1) _ (fun w S R=>((show Calls _ _ _ _ (RetV w (.bool b1)) by rw[←T];exact ZcM (j) R.1.1.1.2 qO)).mono (fun _ _ h=>zI h rfl)) fun xx=>?_
 refine xq 1 [yB 33 b1] [] ?_
 rcases bl2 (b1) with i|i
 ·rw[i]
  have k1:=uB (T.trans i)
  refine xq 1 [eS1 34 A l c] [] ?_
  refine xqc _ _ 35 (fun _:Unit=>yI (tzn n:Nat)) _ (fun w S R=>(ZcL R.1.1.1.1.1 R.1.1.1.1.2 E O).mono (fun _ _ h=>zI h rfl)) fun xx=>?_
  refine xq 2 [yJ 37 (IntKind.i64.wrap (((j+1:Nat):Int)-1))] [] ?_
  rw[yW (((j+1:Nat):Int)-1) ((j:Int)) qO]
  refine xq 2 [yB 39 (decide (((tzn n:Nat):Int)<(j:Int)))] [] ?_
  rcases bl2 ((decide (((tzn n:Nat):Int)<(j:Int)))) with m|m
  ·rw[m]
   have W:=uB m
   have k4:tzn n<j:=qO
   refine xr 8 [yB 0 s,yJ 2 e,Δ 10,yJ 11 0,yJ 12 (j+1:Nat),eS1 13 a b f,yB 47 true] [yF 10 86 false none 0 0 0] ?_
   refine yZ (xa (zC (xq 1 [eS1 48 a b f] [] ?_)))
   refine yD (d:=49) (fun C:Nat=>Υ C 1) (fun C zw=>Blk 207 zw C #[yX 1]) (fun w S R=>gE (t:=84) (sz:=1) (z:=yX 0) (parts:=#[(0,Operand.const (Value.int IntKind.u64 1))]) qK qK qK qK qK qK) fun w0=>?_
   refine xr 0 [yB 0 s,yJ 2 e,Δ 10,yJ 11 0,yJ 12 (j+1:Nat),eS1 13 a b f,eS1 48 a b f,eS1 49 (yL w0) 1 1] [yF 10 86 false none 0 0 0] ?_
   refine xqc _ _ 50 wE _ (fun w S R=>(fZ R.1.1.1.2 (Zac R.2) B wl_1).mono (fun _ _=>xY)) fun⟨n0,o0,p0⟩=>?_
   refine xq 1 [eS1 13 n0 o0 p0] [] ?_
   refine yZ (yY (xq 5 [yB 51 s,eS1 52 n0 o0 p0,yJ 55 (IntKind.i64.wrap (e+((j+1:Nat):Int)))] [] ?_))
   rw[yW (e+((j+1:Nat):Int)) (e+((j+1:Nat):Int)) qO]
   obtain⟨o,H⟩:=yE (wG s (n/2^(j+1)+1) ((e+((j+1:Nat):Int))))
   refine xqc _ _ 56 (shNb o) _ (fun w S R=>((show Calls _ _ _ _ (lB w o) by rw[←H];exact jZ s _ _ _ _ _ _ R.1.1.1.1.1.1.1.1 R.2 P qO qO)).mono (fun _ _=>lO)) fun⟨X,Y,Z⟩=>?_
   refine xq 4 [yJ 11 o.err] [yF 10 86 o.s X Y Z o.e] ?_
   refine yZ (zJ ?_)
   refine yR (.tuple #[yV o.s X Y Z o.e, yI o.err]) fun w' S R=>?_
   rw[aD hj k1 (Or.inl k4) O,H]
   exact⟨(X,Y,Z),rfl,R.2,S⟩
  rw[m]
  have W:=uC m
  have k4:¬ tzn n<j:=qO
  refine xr 1 [yB 0 s,yJ 2 e,(4,.v (.func (.func 115) #[] #[.pointer (yL Q)])),Δ 10,yJ 11 0,yJ 12 (j+1:Nat),eS1 13 a b f,yB 33 true,yB 39 false,eS1 40 a b f] [yF 10 86 false none 0 0 0] ?_
  refine xqc _ _ 41 (fun _:Unit=>.bool b2) _ (fun w S R=>((show Calls _ _ _ _ (RetV w (.bool b2)) by rw[←U];exact ZcM (0) R.1.1.2 qO)).mono (fun _ _ h=>zI h rfl)) fun xx=>?_
  refine xq 2 [yB 43 b2] [] ?_
  rcases bl2 (b2) with q|q
  ·rw[q]
   have k2:=uB (U.trans q)
   rw[tX,pV] at k2
   refine xq 4 [yB 47 true] [] ?_
   refine yZ (xa (zC (xq 1 [eS1 48 a b f] [] ?_)))
   refine yD (d:=49) (fun C:Nat=>Υ C 1) (fun C zw=>Blk 207 zw C #[yX 1]) (fun w S R=>gE (t:=84) (sz:=1) (z:=yX 0) (parts:=#[(0,Operand.const (Value.int IntKind.u64 1))]) qK qK qK qK qK qK) fun x0=>?_
   refine xr 0 [yB 0 s,yJ 2 e,Δ 10,yJ 11 0,yJ 12 (j+1:Nat),eS1 13 a b f,eS1 48 a b f,eS1 49 (yL x0) 1 1] [yF 10 86 false none 0 0 0] ?_
   refine xqc _ _ 50 wE _ (fun w S R=>(fZ R.1.1.1.1.2 (Zac R.2) B wl_1).mono (fun _ _=>xY)) fun⟨q0,r0,s0⟩=>?_
   refine xq 1 [eS1 13 q0 r0 s0] [] ?_
   refine yZ (yY (xq 5 [yB 51 s,eS1 52 q0 r0 s0,yJ 55 (IntKind.i64.wrap (e+((j+1:Nat):Int)))] [] ?_))
   rw[yW (e+((j+1:Nat):Int)) (e+((j+1:Nat):Int)) qO]
   obtain⟨r,I⟩:=yE (wG s (n/2^(j+1)+1) ((e+((j+1:Nat):Int))))
   refine xqc _ _ 56 (shNb r) _ (fun w S R=>((show Calls _ _ _ _ (lB w r) by rw[←I];exact jZ s _ _ _ _ _ _ R.1.1.1.1.1.1.1.1.1 R.2 P qO qO)).mono (fun _ _=>lO)) fun⟨a0,b0,c0⟩=>?_
   refine xq 4 [yJ 11 r.err] [yF 10 86 r.s a0 b0 c0 r.e] ?_
   refine yZ (zJ ?_)
   refine yR (.tuple #[yV r.s a0 b0 c0 r.e, yI r.err]) fun w' S R=>?_
   rw[aD hj k1 (Or.inr (Or.inl k2)) O,I]
   exact⟨(a0,b0,c0),rfl,R.2,S⟩
  rw[q]
  have k2:=uC (U.trans q)
  rw[tX,pV] at k2
  refine xq 1 [(44,.v (.func (.func 115) #[] #[.pointer (yL Q)]))] [] ?_
  refine xqc _ _ 45 (fun _:Unit=>.bool b3) _ (fun w S R=>((show Calls _ _ _ _ (RetV w (.bool b3)) by rw[←V];exact Znw Q A2 l2 c2 _ R.1.1.1.1.1.2)).mono (fun _ _ h=>zI h rfl)) fun xx=>?_
  refine xq 2 [yB 47 b3] [] ?_
  refine xe (zB ?_)
  refine yQ (b3) (fun D=>?_) fun D=>?_
  ·have k3:=V.trans D
   refine zC (xq 1 [eS1 48 a b f] [] ?_)
   refine yD (d:=49) (fun C:Nat=>Υ C 1) (fun C zw=>Blk 207 zw C #[yX 1]) (fun w S R=>gE (t:=84) (sz:=1) (z:=yX 0) (parts:=#[(0,Operand.const (Value.int IntKind.u64 1))]) qK qK qK qK qK qK) fun y0=>?_
   refine xr 0 [yB 0 s,yJ 2 e,Δ 10,yJ 11 0,yJ 12 (j+1:Nat),eS1 13 a b f,eS1 48 a b f,eS1 49 (yL y0) 1 1] [yF 10 86 false none 0 0 0] ?_
   refine xqc _ _ 50 wE _ (fun w S R=>(fZ R.1.1.1.1.1.2 (Zac R.2) B wl_1).mono (fun _ _=>xY)) fun⟨t0,u0,v0⟩=>?_
   refine xq 1 [eS1 13 t0 u0 v0] [] ?_
   refine yZ (yY (xq 5 [yB 51 s,eS1 52 t0 u0 v0,yJ 55 (IntKind.i64.wrap (e+((j+1:Nat):Int)))] [] ?_))
   rw[yW (e+((j+1:Nat):Int)) (e+((j+1:Nat):Int)) qO]
   obtain⟨u,J⟩:=yE (wG s (n/2^(j+1)+1) ((e+((j+1:Nat):Int))))
   refine xqc _ _ 56 (shNb u) _ (fun w S R=>((show Calls _ _ _ _ (lB w u) by rw[←J];exact jZ s _ _ _ _ _ _ R.1.1.1.1.1.1.1.1.1.1 R.2 P qO qO)).mono (fun _ _=>lO)) fun⟨d0,e0,f0⟩=>?_
   refine xq 4 [yJ 11 u.err] [yF 10 86 u.s d0 e0 f0 u.e] ?_
   refine yZ (zJ ?_)
   refine yR (.tuple #[yV u.s d0 e0 f0 u.e, yI u.err]) fun w' S R=>?_
   rw[aD hj k1 (Or.inr (Or.inr k3)) O,J]
   exact⟨(d0,e0,f0),rfl,R.2,S⟩
  have k3:=V.trans D
  refine zG (zB (yY (xq 5 [yB 51 s,eS1 52 a b f,yJ 55 (IntKind.i64.wrap (e+((j+1:Nat):Int)))] [] ?_)))
  rw[yW (e+((j+1:Nat):Int)) (e+((j+1:Nat):Int)) qO]
  obtain⟨x,hr25⟩:=yE (wG s (n/2^(j+1)) ((e+((j+1:Nat):Int))))
  refine xqc _ _ 56 (shNb x) _ (fun w S R=>((show Calls _ _ _ _ (lB w x) by rw[←hr25];exact jZ s _ _ _ _ _ _ R.1.1.1.1.1.1.1.1 R.1.1.1.1.2 B qO qO)).mono (fun _ _=>lO)) fun⟨g0,i0,j0⟩=>?_
  refine xq 4 [yJ 11 x.err] [yF 10 86 x.s g0 i0 j0 x.e] ?_
  refine yZ (zJ ?_)
  refine yR (.tuple #[yV x.s g0 i0 j0 x.e, yI x.err]) fun w' S R=>?_
  rw[Zap hj O (fun h=>by rcases h.2 with h|h|h;exact k4 h;exact k2 h;rw[k3] at h;cases h),hr25]
  exact⟨(g0,i0,j0),rfl,R.2,S⟩
 rw[i]
 have k1:=uC (T.trans i)
 refine xq 14 [yB 47 false] [] ?_
 refine yZ (xb (zG (zB (yY (xq 5 [yB 51 s,eS1 52 a b f,yJ 55 (IntKind.i64.wrap (e+((j+1:Nat):Int)))] [] ?_)))))
 rw[yW (e+((j+1:Nat):Int)) (e+((j+1:Nat):Int)) qO]
 obtain⟨y,K⟩:=yE (wG s (n/2^(j+1)) ((e+((j+1:Nat):Int))))
 refine xqc _ _ 56 (shNb y) _ (fun w S R=>((show Calls _ _ _ _ (lB w y) by rw[←K];exact jZ s _ _ _ _ _ _ R.1.1.1.1.1 R.1.2 B qO qO)).mono (fun _ _=>lO)) fun⟨k0,l0,m0⟩=>?_
 refine xq 4 [yJ 11 y.err] [yF 10 86 y.s k0 l0 m0 y.e] ?_
 refine yZ (zJ ?_)
 refine yR (.tuple #[yV y.s k0 l0 m0 y.e, yI y.err]) fun w' S R=>?_
 rw[Zap hj O (fun h=>k1 h.1),K]
 exact⟨(k0,l0,m0),rfl,R.2,S⟩
theorem Zny {u v:Value}{m n:Nat}{w:World}(d:zL w u m)(e:zL w v n)(f:wl m≤4294967295)(g:wl n≤4294967296)(l:0<n):yA 113 #[u,v] w (Zdt w (m/n) (m%n)):=by
 have a:=d
 have b:=e
 obtain⟨A,o,c,rfl,x,p,h,i,rfl⟩:=d
 obtain⟨q,r,s,rfl,t,k1,j,k,rfl⟩:=e
 rw[←xR h i] at f
 rw[←xR j k] at g
 exact Zns A q o r c s w p k1 f g h j a b i k l
theorem Zpd {s:Bool}{A:qA}{l c:Nat}{e:Int}:ZkL #[.bool s,.slice A l c,.int .i64 e]:=by
 intro i k;rcases i with _|_|_|i<;>simp
theorem Blk.cell3n {t:TypeId}{w:World}{g:Nat}{x y z:Value}(h:Blk t w g #[x,y,z]):w.cell? ⟨g,0,none⟩=some x∧w.cell? ⟨g,1,none⟩=some y∧w.cell? ⟨g,2,none⟩=some z∧w.frozen? ⟨g,0,none⟩=false∧w.frozen? ⟨g,1,none⟩=false∧w.frozen? ⟨g,2,none⟩=false :=
 ⟨h.cell 0,h.cell 1,h.cell 2,h.frozen 0,h.frozen 1,h.frozen 2⟩
theorem Zr2 {fn:Func}{t t2:Tmp}{a:Array Value}{w g b:World}{r:Nat}{x:FR}{A u:qA}{l c y c0:Nat}{s0:Bool}{z:Int}(d:fn.results=#[.cell t 86,.tmp t2])(B:a[t]? = some (.pointer (some ⟨r,0,none⟩)))(h:a[t2]? = some (.int .i64 x.err))(j:w.heap.size≤r)(C:Ext w g)(D:Blk 86 g r #[.bool s0,.slice u y c0,.int .i64 z])(q:Ext g b)(E:zL b (.slice A l c) x.m) :
 bodyPost prog fn (lB w x) .ret ⟨a,[]⟩ (((b.setCell ⟨r,0,none⟩ (.bool x.s)).setCell ⟨r,1,none⟩ (.slice A l c)).setCell ⟨r,2,none⟩ (.int .i64 x.e)):=by
 have f:=D.ext q
 have k:Blk 86 (((b.setCell ⟨r,0,none⟩ (.bool x.s)).setCell ⟨r,1,none⟩ (.slice A l c)).setCell ⟨r,2,none⟩ (.int .i64 x.e)) r #[.bool x.s,.slice A l c,.int .i64 x.e]:=((f.set_ 0 _).set_ 1 _).set_ 2 _
 obtain⟨F,G,H,_⟩:=k.cell3n
 have I:Fr (fun i=>i=r) b (((b.setCell ⟨r,0,none⟩ (.bool x.s)).setCell ⟨r,1,none⟩ (.slice A l c)).setCell ⟨r,2,none⟩ (.int .i64 x.e)):=(((show Fr (fun i=>i=r) b b from Fr.refl _ _).setCell (p:=⟨r,0,none⟩) (Or.inl rfl) _).setCell (p:=⟨r,1,none⟩) (Or.inl rfl) _).setCell (p:=⟨r,2,none⟩) (Or.inl rfl) _
 have n:=E.other f Zpd I
 have o:Ext w (((b.setCell ⟨r,0,none⟩ (.bool x.s)).setCell ⟨r,1,none⟩ (.slice A l c)).setCell ⟨r,2,none⟩ (.int .i64 x.e)):=(((C.trans q).setCell (p:=⟨r,0,none⟩) (Or.inr j) _).setCell (p:=⟨r,1,none⟩) (Or.inr j) _).setCell (p:=⟨r,2,none⟩) (Or.inr j) _
 generalize ((b.setCell ⟨r,0,none⟩ (.bool x.s)).setCell ⟨r,1,none⟩ (.slice A l c)).setCell ⟨r,2,none⟩ (.int .i64 x.e)=W at *
 exact bodyPost_ret (v:=shNb x (A,l,c)) (by simp[results,d,B,h,go_sem,F,G,H,shNb]) rfl ⟨(A,l,c),rfl,n,o⟩
theorem Zcf {a b:Nat}(h:a<64*b):wl (2^a)≤b:=jC.2 (by rw[show W64=2^64 by rw[zR],← rU];exact pX qD h)
theorem ZdP (s:Bool)(A:qA)(l c n:Nat)(B:qA)(m d k:Nat)(e:Int)(bits:Nat)(w:World)(hg:Glob w)(hN:zL w (.slice A l c) n)(hK:zL w (.slice B m d) k)(h0:wl n≤1000000)(i0:wl k≤1000000)(D:0<k)(j0 : -288230376151711744≤e)(k0:e≤288230376151711744)(P:0<bits)(hb:bits≤1000000) :
 yA 70 #[.bool s,.slice A l c,.slice B m d,.int .i64 e,.int .i64 ((bits:Nat):Int)] w (lB w (wR s n k e bits)):=by
 have l0:=cL n
 have m0:=cL k
 obtain⟨a1,E⟩:∃ a,a=(rk0 n k bits-1).toNat:=⟨_,rfl⟩
 obtain⟨a2,j⟩:∃ a,a=(-(rk0 n k bits-1)).toNat:=⟨_,rfl⟩
 obtain⟨b,Q⟩:∃ x:Int,x=(bits:Int)+1+(blen k:Nat)-(blen n:Nat):=⟨_,rfl⟩
 have f:rk0 n k bits-1 = -b:=by unfold rk0;omega
 rw[f] at E j
 rw[Int.neg_neg] at j
 have n0 : -100000000≤b:=qO
 have o0:b≤100000000:=qO
 have F:fa n (rk0 n k bits-1)=n*2^a2:=by unfold fa;rw[f,Int.neg_neg,← j]
 have G:fb k (rk0 n k bits-1)=k*2^a1:=by unfold fb;rw[f,← E]
 have p0:wl (n*2^a2)≤4000000:=by
  refine uD (Zfv _ _) ?_
  have:wl (2^a2)≤2000001:=Zcf qO
  omega
 have q0:wl (k*2^a1)≤4000000:=by
  refine uD (Zfv _ _) ?_
  have:wl (2^a1)≤2000001:=Zcf qO
  omega
 have r0:(if (0:Int)>b then (0:Int) else b)=(a2:Int):=by split<;>omega
 have s0:(if (0:Int) > -b then (0:Int) else -b)=(a1:Int):=by split<;>omega
 have HG:=zh hg
 have HN:=zh hN
 have HK:=zh hK
 clear hg hN hK
 obtain⟨x,R⟩:=yE (wR s n k e bits)
 rw[R]
 have HX:=zh R
 clear R
 go_enter func70,ntmps70
 go_wp2_with fail
 refine (fK (HK.out.ext ((Fr.refl _ _).alloc _)) qO).mono ?_
 rintro H w1 ⟨rfl,o⟩
 have I:Hid (Ext w w1):=((Fr.refl _ _).alloc _).trans o
 have S:Hid (Blk 86 w1 w.heap.size #[.bool false,Ξ,.int .i64 0]):=(show Blk 86 (w.alloc (.cells #[.bool false,Ξ,.int .i64 0] 86)) w.heap.size #[.bool false,Ξ,.int .i64 0] from heap_alloc_new w _).ext o
 clear o
 go_wp2_with fail
 refine (fK (HN.out.ext I.out) qO).mono ?_
 rintro H w2 ⟨rfl,p⟩
 have J:=zh (I.out.trans p)
 have T:=zh (S.out.ext p)
 clear p
 go_wp2_with fail
 rw[show max ((bits:Int)+1+(blen k:Nat)-(blen n:Nat)) 0=(a2:Int) by omega]
 refine (aC a2 (HN.out.ext J.out) qO qO).mono ?_
 rintro H w3 ⟨v3,rfl,q,r⟩
 obtain⟨A3,l3,c3,rfl⟩:=q.slice
 have K:=zh (J.out.trans r)
 have U:=zh (T.out.ext r)
 have V:=zh q
 clear q r
 go_wp2_with fail
 rw[show max (-((bits:Int)+1+(blen k:Nat)-(blen n:Nat))) 0=(a1:Int) by omega]
 refine (aC a1 (HK.out.ext K.out) qO qO).mono ?_
 rintro H w4 ⟨v4,rfl,t,g⟩
 obtain⟨A4,l4,c4,rfl⟩:=t.slice
 have W:=zh (K.out.trans g)
 have X:=zh (U.out.ext g)
 have L:=zh (V.out.ext g)
 have Y:=zh t
 clear t g
 go_wp2_with fail
 refine (Zny L.out Y.out qO qO (rC D (p2 a1))).mono ?_
 rintro H Z ⟨v5,v6,rfl,u,v,y⟩
 obtain⟨A5,l5,c5,rfl⟩:=u.slice
 obtain⟨A6,O,c6,rfl⟩:=v.slice
 have M:=zh (W.out.trans y)
 have a0:=zh (X.out.ext y)
 have b0:=zh u
 have c0:=zh v
 clear u v y
 go_wp2_with fail
 have i:ZcN (Z.alloc (.cells #[.slice A6 O c6] 84)) Z.heap.size (.slice A6 O c6):=⟨qS,by rw[Lib.cell_of_heap (heap_alloc_new Z _)];rfl⟩
 have d0:wl (n*2^a2/(k*2^a1))≤4294967296:=uD (lV (vG _ _)) qO
 refine (Zl9 s A5 l5 c5 _ _ bits _ A6 O c6 _ (HG.out.ext (M.out.alloc _)) (b0.out.ext ((Fr.refl _ _).alloc _)) d0 qO qO qO i).mono ?_
 rintro H w6 ⟨⟨A7,l7,c7⟩,rfl,z,C⟩
 have hr:kG s (n*2^a2/(k*2^a1)) (e-((bits:Int)+1+(blen k:Nat)-(blen n:Nat))) bits (decide (0<O))=x:=by
  rw[←HX.out,← Q]
  rcases uJ n with rfl|hn
  ·rw[sY,Nat.zero_div,ZeO,fE]
  have h:=Zkj s (n:=n) (d:=k) e (bits:=bits) hn D P
  have hq:fq n k (rk0 n k bits-1)=n*2^a2/(k*2^a1):=by unfold fq;rw[F,G]
  rw[hq,F,G,f] at h
  rw[←h,show e + -b=e-b by omega]
  congr 1
  have e0:=c0.out.len0
  exact oE.2 (by rw[e0];have:=@jH (n*2^a2%(k*2^a1));omega)
 rw[hr] at z
 rw[hr]
 clear hr
 have f0:=zh z
 have g0:Hid (Ext w w6):=(M.out.alloc _).trans C
 have N:=zh ((a0.out.ext ((Fr.refl _ _).alloc _)).ext C)
 obtain⟨z0,z1,z2,z3,z4,z5⟩:=N.out.cell3n
 clear z C i
 simp only[shNb]
 go_wp2
 exact Zr2 rfl rfl rfl (uF _) g0.out N.out (Fr.refl _ _) f0.out
theorem ZgT {a b:Int}:(if b<a then b else a)=min a b:=qO
def ZcO (s:Bool) (m n:Nat) (e:Int) (bits:Nat):FR:=if n=0 then ⟨false,0,0,5⟩ else wR s m n e bits
def sumR (sx:Bool) (xm:Nat) (xe:Int) (sy:Bool) (ym:Nat) (ye:Int) (bits:Nat):FR :=
 if xm=0 then wR sy ym 1 ye bits else if ym=0 then wR sx xm 1 xe bits else addR sx xm xe sy ym ye bits
theorem Zin {n a:Nat}(c:wl n≤1000000)(ha:a≤100000000):wl (n*2^a)≤4000000:=by
 have:=Zfv n (2^a)
 have:wl (2^a)≤2000001:=Zcf qO
 omega
section
variable {s t:Bool} {a b bits:Nat} {low:Int}
theorem Zhv (ha:0<a)(h:s=t):wR (decide (sg s a+sg t b<0)) (sg s a+sg t b).natAbs 1 low bits=wR s (a+b) 1 low bits:=by
 subst h
 have c:decide (sg s a+sg s b<0)=s:=by cases s<;>simp[sg]<;>omega
 have d:(sg s a+sg s b).natAbs=a+b:=by cases s<;>simp[sg]<;>omega
 rw[c,d]
theorem Zgc (h:¬ s=t)(f:b≤a):wR (decide (sg s a+sg t b<0)) (sg s a+sg t b).natAbs 1 low bits=wR s (a-b) 1 low bits:=by
 have c:(sg s a+sg t b).natAbs=a-b:=by cases s<;>cases t<;>simp[sg] at h ⊢<;>omega
 rw[c]
 by_cases e:a-b=0
 ·rw[e,fE,fE]
 have d:decide (sg s a+sg t b<0)=s:=by cases s<;>cases t<;>simp[sg] at h ⊢<;>omega
 rw[d]
theorem ZeP (h:¬ s=t)(e:a<b):wR (decide (sg s a+sg t b<0)) (sg s a+sg t b).natAbs 1 low bits=wR t (b-a) 1 low bits:=by
 have c:(sg s a+sg t b).natAbs=b-a:=by cases s<;>cases t<;>simp[sg] at h ⊢<;>omega
 rw[c]
 have d:decide (sg s a+sg t b<0)=t:=by cases s<;>cases t<;>simp[sg] at h ⊢<;>omega
 rw[d]
end
theorem Zje {sx:Bool}{c:Nat}{xe:Int}{d:Bool}{ym:Nat}{e:Int}{bits u1 u2:Nat}{low:Int}(f:min xe e=low)(g:xe-low=u1)(h:e-low=u2) :
 addR sx c xe d ym e bits=wR (decide (sg sx (c*2^u1)+sg d (ym*2^u2)<0)) (sg sx (c*2^u1)+sg d (ym*2^u2)).natAbs 1 low bits:=by
 unfold addR
 rw[f,g,h]
 rfl
theorem Zej {a b:Nat}:cmpI a b≥0↔b≤a:=by
 have:=@fI a b
 omega
theorem ZbC (s:Bool)(A:qA)(l c x:Nat)(e:Int)(w:World)(f:zL w (.slice A l c) x)(d:wl x≤4294967296)(g : -1152921504606846976≤e)(h:e≤1152921504606846976) :
 yA 137 #[yV s A l c e] w (RetV w (.int .i64 (((blen x:Nat):Int)+e))):=by
 refine zV (Φ:=fun w=>zL w (.slice A l c) (x)) func137 rfl qK (fun w' i=>f.ext i) ?_
 refine zD ?_
 have j:=Zjd d
 refine zC (xq 2 [Δ 1,yJ 2 0] [yF 1 86 s A l c e] ?_)
 refine yZ (zD ?_)
 refine yO 7 zQ ?_
 refine xqg 2 [eS1 4 A l c] ?_
 refine xqd _ _ 5 (fun _:Unit=>yI (blen x:Nat)) _ (fun w R Q=>yN (fK Q d)) fun k=>?_
 refine xqg 3 [yJ 8 (IntKind.i64.wrap (((blen x:Nat):Int)+e))] ?_
 rw[yW (((blen x:Nat):Int)+e) (((blen x:Nat):Int)+e) qO]
 refine xqg 1 [yJ 2 (((blen x:Nat):Int)+e)] ?_
 refine xz (yZ (zJ ?_))
 refine yR (yI (((blen x:Nat):Int)+e)) fun w' R Q=>?_
 exact⟨rfl,R⟩
theorem Znz (s:Bool)(A:qA)(l c x:Nat)(e:Int)(t:Bool)(B:qA)(m d y:Nat)(f:Int)(bits:Nat)(C:0<bits)(W:bits≤4096)(w:World)(G:Glob w)(E:zL w (.slice A l c) x)(H:wl x≤100000)(I : -1073741824≤e)(J:e≤1073741824)(F:zL w (.slice B m d) y)(K:wl y≤100000)(L : -1073741824≤f)(M:f≤1073741824) :
 yA 180 #[yV s A l c e, yV t B m d f,.int .i64 ((bits:Nat):Int)] w (lB w (wR (s != t) (x*y) 1 (e+f) bits)):=by
 refine zV (Φ:=fun w=>((Glob w∧zL w (.slice A l c) (x))∧zL w (.slice B m d) (y))) func180 rfl qK (fun w' D=>⟨⟨G.ext D,E.ext D⟩,F.ext D⟩) ?_
 refine zD ?_
 have N:=E.len0
 have O:=F.len0
 have P:=@jH x
 have S:=@jH y
 refine zC (xq 4 [Δ 3,Δ 4,Δ 6,yJ 7 0] [yF 6 86 false none 0 0 0,yF 4 86 t B m d f,yF 3 86 s A l c e] ?_)
 refine yZ (zD (yY (xq 5 [yB 12 (((l:Int):Int) == 0)] [] ?_)))
 rcases bl2 ((((l:Int):Int) == 0)) with h|h
 ·rw[h]
  have q:=sK.1 h
  have u:x=0:=qO
  refine xq 5 [yB 17 true] [] ?_
  refine yZ (xa (yY (xq 3 [yJ 7 0] [] ?_)))
  refine yZ (zJ (zM ?_))
  refine yR (.tuple #[yV false none 0 0 0, yI 0]) fun w' R Q=>?_
  rw[u,sY,fE]
  exact⟨(none,0,0),rfl,zL.zero _,R⟩
 rw[h]
 have q:=lU h
 have u:¬ x=0:=qO
 refine xq 5 [yB 17 (((m:Int):Int) == 0)] [] ?_
 refine xe (zB ?_)
 refine yQ ((((m:Int):Int) == 0)) (fun i=>?_) fun i=>?_
 ·have r:=sK.1 i
  have z:y=0:=qO
  refine yY (xq 3 [yJ 7 0] [] ?_)
  refine yZ (zJ (zM ?_))
  refine yR (.tuple #[yV false none 0 0 0, yI 0]) fun w' R Q=>?_
  rw[z,tV,fE]
  exact⟨(none,0,0),rfl,zL.zero _,R⟩
 have r:=lU i
 have z:¬ y=0:=qO
 refine zG (zB (zD ?_))
 refine yO 19 zQ ?_
 refine xqg 9 [yB 23 (s != t),eS1 25 A l c,eS1 27 B m d] ?_
 refine xqd _ _ 28 wE _ (fun w R Q=>yM xY (Zl6 Q.1.2 Q.2 qO qO)) fun⟨T,U,V⟩=>?_
 refine xqg 5 [yJ 33 (IntKind.i64.wrap (e+f))] ?_
 rw[yW (e+f) (e+f) qO]
 refine xqg 1 [yJ 34 bits] ?_
 obtain⟨g,o⟩:=yE (kG ((s != t)) (x*y) ((e+f)) bits false)
 refine xqd _ _ 35 (shNb g) _ (fun w R Q=>yM lO ((show Calls _ _ _ _ (lB w g) by rw[←o];exact gA ((s != t)) _ _ _ _ ((e+f)) _ _ Q.1.1.1 Q.2 (by have:=Zfv x y;omega) qO qO qO))) fun⟨j,k,n⟩=>?_
 refine xqg 2 [(36,.v (yV g.s j k n g.e)),yJ 37 g.err] ?_
 refine xz (xq 2 [yJ 7 g.err] [yF 6 86 g.s j k n g.e] ?_)
 refine yZ (zJ ?_)
 refine yR (.tuple #[yV g.s j k n g.e, yI g.err]) fun w' R Q=>?_
 rw[←kZ _ _ _ C,o]
 exact⟨(j,k,n),rfl,Q.2,R⟩
theorem ZnA (s:Bool)(A:qA)(l c x:Nat)(e:Int)(t:Bool)(B:qA)(m d y:Nat)(f:Int)(bits:Nat)(r:0<bits)(N:bits≤4096)(w:World)(C:Glob w)(v:zL w (.slice A l c) x)(D:wl x≤100000)(E : -1073741824≤e)(F:e≤1073741824)(z:zL w (.slice B m d) y)(G:wl y≤100000)(H : -1073741824≤f)(I:f≤1073741824) :
 yA 100 #[yV s A l c e, yV t B m d f,.int .i64 ((bits:Nat):Int)] w (lB w (ZcO (s != t) x y (e-f) bits)):=by
 refine zV (Φ:=fun w=>((Glob w∧zL w (.slice A l c) (x))∧zL w (.slice B m d) (y))) func100 rfl qK (fun w' u=>⟨⟨C.ext u,v.ext u⟩,z.ext u⟩) ?_
 refine zD ?_
 have J:=v.len0
 have K:=z.len0
 have L:=@jH x
 have M:=@jH y
 refine zC (xq 4 [Δ 3,Δ 4,Δ 6,yJ 7 0] [yF 6 86 false none 0 0 0,yF 4 86 t B m d f,yF 3 86 s A l c e] ?_)
 refine yZ (zD (yY (xq 4 [yB 11 (((m:Int):Int) == 0)] [] ?_)))
 refine xe (zB ?_)
 refine yQ ((((m:Int):Int) == 0)) (fun h=>?_) fun h=>?_
 ·have j:=sK.1 h
  have k:y=0:=qO
  refine yY (xq 3 [yJ 7 5] [] ?_)
  refine yZ (zJ (zM ?_))
  refine yR (.tuple #[yV false none 0 0 0, yI 5]) fun w' R Q=>?_
  rw[show ZcO (s != t) x y (e-f) bits=⟨false,0,0,5⟩ from uZ k]
  exact⟨(none,0,0),rfl,zL.zero _,R⟩
 have j:=lU h
 have k:¬ y=0:=qO
 refine zG (zB (yY (xq 14 [yB 17 (s != t),eS1 19 A l c,eS1 21 B m d,yJ 26 (IntKind.i64.wrap (e-f))] [] ?_)))
 rw[yW (e-f) (e-f) qO]
 refine xq 1 [yJ 27 bits] [] ?_
 obtain⟨g,i⟩:=yE (wR (s != t) x y ((e-f)) bits)
 refine xqc _ _ 28 (shNb g) _ (fun w R Q=>yM lO ((show Calls _ _ _ _ (lB w g) by rw[←i];exact ZdP (s != t) _ _ _ x _ _ _ y _ bits _ Q.1.1 Q.1.2 Q.2 qO qO qO qO qO r qO))) fun⟨n,o,q⟩=>?_
 refine xq 4 [yJ 7 g.err] [yF 6 86 g.s n o q g.e] ?_
 refine yZ (zJ ?_)
 refine yR (.tuple #[yV g.s n o q g.e, yI g.err]) fun w' R Q=>?_
 rw[show ZcO (s != t) x y (e-f) bits=wR (s != t) x y (e-f) bits from uQ k,i]
 exact⟨(n,o,q),rfl,Q.2,R⟩
theorem ZnC (s:Bool)(A:qA)(l c x:Nat)(e:Int)(t:Bool)(B:qA)(m d y:Nat)(f:Int)(bits:Nat)(G:0<bits)(hb:bits≤4096)(w:World)(hg:Glob w)(hX:zL w (.slice A l c) x)(m1:wl x≤100000)(n1 : -1073741824≤e)(o1:e≤1073741824)(hY:zL w (.slice B m d) y)(p1:wl y≤100000)(q1 : -1073741824≤f)(r1:f≤1073741824) :
 yA 99 #[yV s A l c e, yV t B m d f,.int .i64 ((bits:Nat):Int)] w (lB w (sumR s x e t y f bits)):=by
 refine zV (Φ:=fun w=>((Glob w∧zL w (.slice A l c) (x))∧zL w (.slice B m d) (y))) func99 rfl qK (fun w' hf=>⟨⟨hg.ext hf,hX.ext hf⟩,hY.ext hf⟩) ?_
 refine zD ?_
 have s1:=hX.len0
 have t1:=hY.len0
 have v1:=@jH x
 have w1:=@jH y
 have x1:=cL x
 have y1:=cL y
 refine zC (xq 4 [Δ 3,Δ 4,Δ 6,yJ 7 0] [yF 6 86 false none 0 0 0,yF 4 86 t B m d f,yF 3 86 s A l c e] ?_)
 refine yZ (zD (yY (xq 4 [yB 15 (((l:Int):Int) == 0)] [] ?_)))
 refine xe (zB ?_)
 refine yQ ((((l:Int):Int) == 0)) (fun M=>?_) fun M=>?_
 ·have O0:=sK.1 M
  have P0:x=0:=qO
  refine zC (xq 4 [] [yF 4 86 s A l c e,yF 3 86 t B m d f] ?_)
  refine yZ (zD (yY (xq 4 [yB 21 (((l:Int):Int) == 0)] [] ?_)))
  rw[M]
  refine yZ (xa (yY (xq 7 [yB 23 t,eS1 25 B m d,yJ 27 f,yJ 28 bits] [] ?_)))
  obtain⟨I,F0⟩:=yE (kG t (y) (f) bits false)
  refine xqc _ _ 29 (shNb I) _ (fun w R Q=>yM lO ((show Calls _ _ _ _ (lB w I) by rw[←F0];exact gA t _ _ _ _ f _ _ Q.1.1 Q.2 qO qO qO qO))) fun⟨Q0,R0,S0⟩=>?_
  refine xq 4 [yJ 7 I.err] [yF 6 86 I.s Q0 R0 S0 I.e] ?_
  refine yZ (zJ (zM ?_))
  refine yR (.tuple #[yV I.s Q0 R0 S0 I.e, yI I.err]) fun w' R Q=>?_
  rw[show sumR s x e t y f bits=wR t y 1 f bits from uZ P0,← kZ _ _ _ G,F0]
  exact⟨(Q0,R0,S0),rfl,Q.2,R⟩
 have O0:=lU M
 have P0:¬ x=0:=qO
 refine zG (zB (zD (yY (xq 4 [yB 21 (((m:Int):Int) == 0)] [] ?_))))
 refine xe (zB ?_)
 refine yQ ((((m:Int):Int) == 0)) (fun P=>?_) fun P=>?_
 ·have T0:=sK.1 P
  have h1:y=0:=qO
  refine yY (xq 7 [yB 23 s,eS1 25 A l c,yJ 27 e,yJ 28 bits] [] ?_)
  obtain⟨J,G0⟩:=yE (kG s (x) (e) bits false)
  refine xqc _ _ 29 (shNb J) _ (fun w R Q=>yM lO ((show Calls _ _ _ _ (lB w J) by rw[←G0];exact gA s _ _ _ _ e _ _ Q.1.1 Q.1.2 qO qO qO qO))) fun⟨U0,V0,W0⟩=>?_
  refine xq 4 [yJ 7 J.err] [yF 6 86 J.s U0 V0 W0 J.e] ?_
  refine yZ (zJ (zM ?_))
  refine yR (.tuple #[yV J.s U0 V0 W0 J.e, yI J.err]) fun w' R Q=>?_
  rw[show sumR s x e t y f bits=wR s x 1 e bits by unfold sumR;rw[uQ P0,uZ h1],← kZ _ _ _ G,G0]
  exact⟨(U0,V0,W0),rfl,Q.2,R⟩
 have T0:=lU P
 have h1:¬ y=0:=qO
 refine zG (zB ?_)
 refine Zcd (fun ss ff=>∃ (j:Bool) (P1:Option Addr) (pl pc p:Nat) (i:Int) (n:Bool) (Q1:Option Addr) (ql qc q:Nat) (k:Int),ss=ofL [yJ 2 bits,Δ 3,Δ 4,Δ 6,yJ 7 0] [yF 6 86 false none 0 0 0,yF 3 86 j P1 pl pc i,yF 4 86 n Q1 ql qc k]∧ff=(fun w=>((Glob w∧zL w (.slice P1 pl pc) (p))∧zL w (.slice Q1 ql qc) (q)))∧(0<p)∧(0<q)∧(wl p≤100000)∧(wl q≤100000)∧(-1073741824≤i)∧(i≤1073741824)∧(-1073741824≤k)∧(k≤1073741824)∧(((blen q:Nat):Int)+k≤((blen p:Nat):Int)+i)∧(addR s x e t y f bits=addR j p i n q k bits)) ?_ ?_
 ·refine zD ?_
  refine yO 5 zQ ?_
  refine xqg 1 [(32,.v (yV s A l c e))] ?_
  refine xqd 137 [yV s A l c e] 33 (fun _:Unit=>yI (((blen x:Nat):Int)+e)) _ (fun w R Q=>yN (ZbC _ _ _ _ _ _ _ Q.1.2 qO qO qO)) fun xx=>?_
  refine xqg 1 [(34,.v (yV t B m d f))] ?_
  refine xqd 137 [yV t B m d f] 35 (fun _:Unit=>yI (((blen y:Nat):Int)+f)) _ (fun w R Q=>yN (ZbC _ _ _ _ _ _ _ Q.1.2 qO qO qO)) fun xx=>?_
  refine xqg 1 [(36,.v (.bool (decide ((((blen x:Nat):Int)+e)<(((blen y:Nat):Int)+f)))))] ?_
  refine xz (xe (zB ?_))
  refine yQ ((decide ((((blen x:Nat):Int)+e)<(((blen y:Nat):Int)+f)))) (fun S=>?_) fun S=>?_
  ·have X0:=uB S
   refine zC (xq 4 [] [yF 4 86 s A l c e,yF 3 86 t B m d f] ?_)
   refine xe ?_
   exact kW ⟨t,B,m,d,y,f,s,A,l,c,x,e,rfl,rfl,qO,qO,qO,qO,qO,qO,qO,qO,qO,(Znu _ _ _ _ _ _ _)⟩ (fun w Q=>⟨⟨Q.1.1.1.1,Q.1.1.2⟩,Q.1.1.1.2⟩)
  have X0:=uC S
  refine zG ?_
  exact kW ⟨s,A,l,c,x,e,t,B,m,d,y,f,rfl,rfl,qO,qO,qO,qO,qO,qO,qO,qO,qO,rfl⟩ (fun w Q=>⟨⟨Q.1.1.1.1,Q.1.1.1.2⟩,Q.1.1.2⟩)
 rintro ss ff ⟨j,P1,pl,pc,p,i,n,Q1,ql,qc,q,k,rfl,rfl,l0,i1,z1,A1,B1,C1,D1,E1,l1,H0⟩
 refine zD (zD ?_)
 have F1:=cL p
 have G1:=cL q
 have H1:=bO l0
 have I1:=bO i1
 obtain⟨z,hz⟩:=yE (min i (((blen p:Nat):Int)+i-(bits:Int)-2))
 refine yO 9 zQ ?_
 refine xqg 3 [yJ 40 i,(41,.v (yV j P1 pl pc i))] ?_
 refine xqd 137 [yV j P1 pl pc i] 42 (fun _:Unit=>yI (((blen p:Nat):Int)+i)) _ (fun w R Q=>yN (ZbC _ _ _ _ _ _ _ Q.1.2 qO qO qO)) fun xx=>?_
 refine xqg 2 [(44,.v (yI (IntKind.i64.wrap ((((blen p:Nat):Int)+i)-(bits:Int)))))] ?_
 rw[yW (((blen p:Nat):Int)+i-(bits:Int)) (((blen p:Nat):Int)+i-(bits:Int)) qO]
 refine xqg 1 [(45,.v (yI (IntKind.i64.wrap ((((blen p:Nat):Int)+i-(bits:Int))-2))))] ?_
 rw[yW (((blen p:Nat):Int)+i-(bits:Int)-2) (((blen p:Nat):Int)+i-(bits:Int)-2) qO]
 refine xqg 1 [yJ 46 (if (((blen p:Nat):Int)+i-(bits:Int)-2)<i then (((blen p:Nat):Int)+i-(bits:Int)-2) else i)] ?_
 rw[(show (if ((blen p:Nat):Int)+i-(bits:Int)-2<i then ((blen p:Nat):Int)+i-(bits:Int)-2 else i)=z from ZgT.trans hz)]
 refine xqg 1 [yJ 8 z] ?_
 refine xz (yZ (yY (xq 1 [(47,.v (yV n Q1 ql qc k))] [] ?_)))
 refine xqc 137 [yV n Q1 ql qc k] 48 (fun _:Unit=>yI (((blen q:Nat):Int)+k)) _ (fun w R Q=>yN (ZbC _ _ _ _ _ _ _ Q.1.2 qO qO qO)) fun xx=>?_
 refine xq 2 [(50,.v (.bool (decide ((((blen q:Nat):Int)+k)≤z))))] [] ?_
 refine xe (zB ?_)
 refine yQ ((decide ((((blen q:Nat):Int)+k)≤z))) (fun T=>?_) fun T=>?_
 ·have Y0:=uB T
  refine zC (xq 2 [yB 52 n] [] ?_)
  refine yD (d:=53) (fun zb:Nat=>Υ zb 1) (fun zb zw=>Blk 207 zw zb #[yX 1]) (fun w R Q=>gE (t:=84) (sz:=1) (z:=yX 0) (parts:=#[(0,Operand.const (Value.int IntKind.u64 1))]) qK qK qK qK qK qK) fun m0=>?_
  refine xr 2 [yJ 2 bits,Δ 3,Δ 4,Δ 6,yJ 7 0,yB 52 n,eS1 53 (yL m0) 1 1,yJ 55 (IntKind.i64.wrap (z-1))] [yF 6 86 false none 0 0 0,yF 3 86 j P1 pl pc i,yF 4 86 n Q1 ql qc k] ?_
  rw[yW (z-1) (z-1) qO]
  refine xq 2 [] [yF 4 86 n (yL m0) 1 1 (z-1)] ?_
  refine yZ (zD ?_)
  obtain⟨g,K⟩:=yE (min i (z-1))
  obtain⟨U,Z0⟩:∃ u:Nat,i-g=u:=vW qO
  obtain⟨u2,a1⟩:∃ u:Nat,(z-1)-g=u:=vW qO
  have V:addR s x e t y f bits=addR j p i n 1 (z-1) bits:=H0.trans (Zl7 _ _ _ _ G l0 i1 qO qO qO)
  rw[Zje K Z0 a1] at V
  have b1:U≤100000000:=qO
  have c1:u2≤100000000:=qO
  have j1 : -4294967296≤g:=qO
  have k1:g≤4294967296:=qO
  obtain⟨a,ha⟩:=yE (p*2^U)
  obtain⟨b,L⟩:=yE (1*2^u2)
  have d1:wl a≤4000000:=by rw[←ha];exact Zin qO b1
  have e1:wl b≤4000000:=by rw[←L];exact Zin (uD (Zaw.2 (by rw[zR];decide)) qD) c1
  have f1:0<a:=by rw[←ha];exact rC l0 (p2 U)
  rw[ha,L] at V
  refine zC (xq 5 [yJ 61 (if (z-1)<i then (z-1) else i)] [] ?_)
  rw[(show (if (z-1)<i then (z-1) else i)=g from ZgT.trans K)]
  refine xq 1 [yJ 9 g] [] ?_
  refine yZ (zD ?_)
  refine SXc.weak [yJ 2 bits,Δ 3,Δ 4,Δ 6,yJ 7 0,yJ 9 g] [yF 4 86 n (yL m0) 1 1 (z-1),yF 6 86 false none 0 0 0,yF 3 86 j P1 pl pc i] (kQ.of qK) qK (fun _ h=>h) ?_
  refine yO 16 zQ ?_
  refine xqg 6 [eS1 63 P1 pl pc,yJ 67 (IntKind.i64.wrap (i-g))] ?_
  rw[yW (i-g) ((U:Int)) qO]
  refine xqd _ _ 68 wE _ (fun w R Q=>(aC U Q.1.1.1.1.2 qO qO).mono (fun _ _ h=>xY (by rw[ha] at h;exact h))) fun⟨W,X,Y⟩=>?_
  refine xqg 6 [eS1 70 (yL m0) 1 1,yJ 74 (IntKind.i64.wrap ((z-1)-g))] ?_
  rw[yW ((z-1)-g) ((u2:Int)) qO]
  refine xqd _ _ 75 wE _ (fun w R Q=>(aC u2 (Zac Q.1.2) wl_1 qO).mono (fun _ _ h=>xY (by rw[L] at h;exact h))) fun⟨Z,a0,b0⟩=>?_
  refine xqg 2 [eS1 10 W X Y,eS1 11 Z a0 b0] ?_
  refine xz (yZ (zD (zO (yY (xq 6 [yB 76 (j == n)] [] ?_)))))
  refine xe (zB ?_)
  refine yQ ((j == n)) (fun N=>?_) fun N=>?_
  ·have H:j=n:=eq_of_beq N
   refine zD ?_
   refine yO 10 zQ ?_
   refine xqg 4 [yB 83 j,eS1 84 W X Y,eS1 85 Z a0 b0] ?_
   refine xqd _ _ 86 wE _ (fun w R Q=>yM xY (fZ Q.1.2 Q.2 qO qO)) fun⟨J1,K1,L1⟩=>?_
   refine xqg 2 [yJ 87 g,yJ 88 bits] ?_
   obtain⟨o,I0⟩:=yE (kG j (a+b) (g) bits false)
   refine xqd _ _ 89 (shNb o) _ (fun w R Q=>yM lO ((show Calls _ _ _ _ (lB w o) by rw[←I0];exact gA j _ _ _ _ g _ _ Q.1.1.1.1.1.1.1.1 Q.2 (by have:=ZmI d1 e1;omega) qO qO qO))) fun⟨n0,o0,p0⟩=>?_
   refine xqg 2 [(90,.v (yV o.s n0 o0 p0 o.e)),yJ 91 o.err] ?_
   refine xz (xq 2 [yJ 7 o.err] [yF 6 86 o.s n0 o0 p0 o.e] ?_)
   refine yZ (zJ (wY (zM ?_)))
   refine yR (.tuple #[yV o.s n0 o0 p0 o.e, yI o.err]) fun w' R Q=>?_
   rw[show sumR s x e t y f bits=addR s x e t y f bits by unfold sumR;rw[uQ qO,uQ qO],V]
   rw[Zhv f1 H,← kZ _ _ _ G,I0]
   exact⟨(n0,o0,p0),rfl,Q.2,R⟩
  have H:¬ j=n:=fun e'=>by rw[e'] at N;simp at N
  refine yY (xq 2 [eS1 93 W X Y,eS1 94 Z a0 b0] [] ?_)
  refine xqc _ _ 95 (fun _:Unit=>yI (cmpI (a:Int) (b:Int))) _ (fun w R Q=>yN (Zbe Q.1.2 Q.2 qO)) fun xx=>?_
  refine xq 2 [(92,.v (.bool (decide ((cmpI (a:Int) (b:Int))≥0))))] [] ?_
  refine xe (zB ?_)
  refine yQ ((decide ((cmpI (a:Int) (b:Int))≥0))) (fun c0=>?_) fun c0=>?_
  ·have d0:b≤a:=by have:=Zej.1 (uB c0);omega
   refine zD ?_
   refine yO 10 zQ ?_
   refine xqg 4 [yB 98 j,eS1 99 W X Y,eS1 100 Z a0 b0] ?_
   refine xqd _ _ 101 wE _ (fun w R Q=>yM xY (ZaM Q.1.1.2 Q.1.2 qO d0)) fun⟨M1,N1,O1⟩=>?_
   refine xqg 2 [yJ 102 g,yJ 103 bits] ?_
   obtain⟨r,J0⟩:=yE (kG j (a-b) (g) bits false)
   refine xqd _ _ 104 (shNb r) _ (fun w R Q=>yM lO ((show Calls _ _ _ _ (lB w r) by rw[←J0];exact gA j _ _ _ _ g _ _ Q.1.1.1.1.1.1.1.1.1 Q.2 (uD (lV (Nat.sub_le _ _)) qO) qO qO qO))) fun⟨q0,r0,s0⟩=>?_
   refine xqg 2 [(105,.v (yV r.s q0 r0 s0 r.e)),yJ 106 r.err] ?_
   refine xz (xq 2 [yJ 7 r.err] [yF 6 86 r.s q0 r0 s0 r.e] ?_)
   refine yZ (zJ (wY (zM ?_)))
   refine yR (.tuple #[yV r.s q0 r0 s0 r.e, yI r.err]) fun w' R Q=>?_
   rw[show sumR s x e t y f bits=addR s x e t y f bits by unfold sumR;rw[uQ qO,uQ qO],V]
   rw[Zgc H d0,← kZ _ _ _ G,J0]
   exact⟨(q0,r0,s0),rfl,Q.2,R⟩
  have g1:a<b:=by have:=mt Zej.2 (uC c0);omega
  refine zG (xK (zB (zD ?_)))
  refine yO 10 zQ ?_
  refine xqg 4 [yB 108 n,eS1 109 Z a0 b0,eS1 110 W X Y] ?_
  refine xqd _ _ 111 wE _ (fun w R Q=>yM xY (ZaM Q.1.2 Q.1.1.2 qO qO)) fun⟨R1,S1,T1⟩=>?_
  refine xqg 2 [yJ 112 g,yJ 113 bits] ?_
  obtain⟨C,K0⟩:=yE (kG n (b-a) (g) bits false)
  refine xqd _ _ 114 (shNb C) _ (fun w R Q=>yM lO ((show Calls _ _ _ _ (lB w C) by rw[←K0];exact gA n _ _ _ _ g _ _ Q.1.1.1.1.1.1.1.1.1 Q.2 (uD (lV (Nat.sub_le _ _)) qO) qO qO qO))) fun⟨t0,u0,v0⟩=>?_
  refine xqg 2 [(115,.v (yV C.s t0 u0 v0 C.e)),yJ 116 C.err] ?_
  refine xz (xq 2 [yJ 7 C.err] [yF 6 86 C.s t0 u0 v0 C.e] ?_)
  refine yZ (zJ ?_)
  refine yR (.tuple #[yV C.s t0 u0 v0 C.e, yI C.err]) fun w' R Q=>?_
  rw[show sumR s x e t y f bits=addR s x e t y f bits by unfold sumR;rw[uQ qO,uQ qO],V]
  rw[ZeP H g1,← kZ _ _ _ G,K0]
  exact⟨(t0,u0,v0),rfl,Q.2,R⟩
 have Y0:=uC T
 refine zG (zB (zD ?_))
 obtain⟨g,K⟩:=yE (min i k)
 obtain⟨U,Z0⟩:∃ u:Nat,i-g=u:=vW qO
 obtain⟨u2,a1⟩:∃ u:Nat,k-g=u:=vW qO
 have V:=H0
 rw[Zje K Z0 a1] at V
 have b1:U≤100000000:=qO
 have c1:u2≤100000000:=qO
 have j1 : -4294967296≤g:=qO
 have k1:g≤4294967296:=qO
 obtain⟨a,ha⟩:=yE (p*2^U)
 obtain⟨b,L⟩:=yE (q*2^u2)
 have d1:wl a≤4000000:=by rw[←ha];exact Zin qO b1
 have e1:wl b≤4000000:=by rw[←L];exact Zin qO c1
 have f1:0<a:=by rw[←ha];exact rC l0 (p2 U)
 rw[ha,L] at V
 refine zC (xq 5 [yJ 61 (if k<i then k else i)] [] ?_)
 rw[(show (if k<i then k else i)=g from ZgT.trans K)]
 refine xq 1 [yJ 9 g] [] ?_
 refine yZ (zD ?_)
 refine SXc.weak [yJ 2 bits,Δ 3,Δ 4,Δ 6,yJ 7 0,yJ 9 g] [yF 6 86 false none 0 0 0,yF 3 86 j P1 pl pc i,yF 4 86 n Q1 ql qc k] (kQ.of qK) qK (fun _ h=>h) ?_
 refine yO 16 zQ ?_
 refine xqg 6 [eS1 63 P1 pl pc,yJ 67 (IntKind.i64.wrap (i-g))] ?_
 rw[yW (i-g) ((U:Int)) qO]
 refine xqd _ _ 68 wE _ (fun w R Q=>(aC U Q.1.1.1.2 qO qO).mono (fun _ _ h=>xY (by rw[ha] at h;exact h))) fun⟨e0,f0,g0⟩=>?_
 refine xqg 6 [eS1 70 Q1 ql qc,yJ 74 (IntKind.i64.wrap (k-g))] ?_
 rw[yW (k-g) ((u2:Int)) qO]
 refine xqd _ _ 75 wE _ (fun w R Q=>(aC u2 Q.1.1.1.2 qO qO).mono (fun _ _ h=>xY (by rw[L] at h;exact h))) fun⟨h0,i0,j0⟩=>?_
 refine xqg 2 [eS1 10 e0 f0 g0,eS1 11 h0 i0 j0] ?_
 refine xz (yZ (zD (zO (yY (xq 6 [yB 76 (j == n)] [] ?_)))))
 refine xe (zB ?_)
 refine yQ ((j == n)) (fun O=>?_) fun O=>?_
 ·have H:j=n:=eq_of_beq O
  refine zD ?_
  refine yO 10 zQ ?_
  refine xqg 4 [yB 83 j,eS1 84 e0 f0 g0,eS1 85 h0 i0 j0] ?_
  refine xqd _ _ 86 wE _ (fun w R Q=>yM xY (fZ Q.1.2 Q.2 qO qO)) fun⟨U1,V1,W1⟩=>?_
  refine xqg 2 [yJ 87 g,yJ 88 bits] ?_
  obtain⟨D,L0⟩:=yE (kG j (a+b) (g) bits false)
  refine xqd _ _ 89 (shNb D) _ (fun w R Q=>yM lO ((show Calls _ _ _ _ (lB w D) by rw[←L0];exact gA j _ _ _ _ g _ _ Q.1.1.1.1.1.1.1 Q.2 (by have:=ZmI d1 e1;omega) qO qO qO))) fun⟨w0,x0,y0⟩=>?_
  refine xqg 2 [(90,.v (yV D.s w0 x0 y0 D.e)),yJ 91 D.err] ?_
  refine xz (xq 2 [yJ 7 D.err] [yF 6 86 D.s w0 x0 y0 D.e] ?_)
  refine yZ (zJ (wY (zM ?_)))
  refine yR (.tuple #[yV D.s w0 x0 y0 D.e, yI D.err]) fun w' R Q=>?_
  rw[show sumR s x e t y f bits=addR s x e t y f bits by unfold sumR;rw[uQ qO,uQ qO],V]
  rw[Zhv f1 H,← kZ _ _ _ G,L0]
  exact⟨(w0,x0,y0),rfl,Q.2,R⟩
 have H:¬ j=n:=fun e'=>by rw[e'] at O;simp at O
 refine yY (xq 2 [eS1 93 e0 f0 g0,eS1 94 h0 i0 j0] [] ?_)
 refine xqc _ _ 95 (fun _:Unit=>yI (cmpI (a:Int) (b:Int))) _ (fun w R Q=>yN (Zbe Q.1.2 Q.2 qO)) fun xx=>?_
 refine xq 2 [(92,.v (.bool (decide ((cmpI (a:Int) (b:Int))≥0))))] [] ?_
 refine xe (zB ?_)
 refine yQ ((decide ((cmpI (a:Int) (b:Int))≥0))) (fun k0=>?_) fun k0=>?_
 ·have d0:b≤a:=by have:=Zej.1 (uB k0);omega
  refine zD ?_
  refine yO 10 zQ ?_
  refine xqg 4 [yB 98 j,eS1 99 e0 f0 g0,eS1 100 h0 i0 j0] ?_
  refine xqd _ _ 101 wE _ (fun w R Q=>yM xY (ZaM Q.1.1.2 Q.1.2 qO d0)) fun⟨X1,Y1,Z1⟩=>?_
  refine xqg 2 [yJ 102 g,yJ 103 bits] ?_
  obtain⟨E,M0⟩:=yE (kG j (a-b) (g) bits false)
  refine xqd _ _ 104 (shNb E) _ (fun w R Q=>yM lO ((show Calls _ _ _ _ (lB w E) by rw[←M0];exact gA j _ _ _ _ g _ _ Q.1.1.1.1.1.1.1.1 Q.2 (uD (lV (Nat.sub_le _ _)) qO) qO qO qO))) fun⟨z0,A0,B0⟩=>?_
  refine xqg 2 [(105,.v (yV E.s z0 A0 B0 E.e)),yJ 106 E.err] ?_
  refine xz (xq 2 [yJ 7 E.err] [yF 6 86 E.s z0 A0 B0 E.e] ?_)
  refine yZ (zJ (wY (zM ?_)))
  refine yR (.tuple #[yV E.s z0 A0 B0 E.e, yI E.err]) fun w' R Q=>?_
  rw[show sumR s x e t y f bits=addR s x e t y f bits by unfold sumR;rw[uQ qO,uQ qO],V]
  rw[Zgc H d0,← kZ _ _ _ G,M0]
  exact⟨(z0,A0,B0),rfl,Q.2,R⟩
 have g1:a<b:=by have:=mt Zej.2 (uC k0);omega
 refine zG (xK (zB (zD ?_)))
 refine yO 10 zQ ?_
 refine xqg 4 [yB 108 n,eS1 109 h0 i0 j0,eS1 110 e0 f0 g0] ?_
 refine xqd _ _ 111 wE _ (fun w R Q=>yM xY (ZaM Q.1.2 Q.1.1.2 qO qO)) fun⟨a2,b2,c2⟩=>?_
 refine xqg 2 [yJ 112 g,yJ 113 bits] ?_
 obtain⟨F,N0⟩:=yE (kG n (b-a) (g) bits false)
 refine xqd _ _ 114 (shNb F) _ (fun w R Q=>yM lO ((show Calls _ _ _ _ (lB w F) by rw[←N0];exact gA n _ _ _ _ g _ _ Q.1.1.1.1.1.1.1.1 Q.2 (uD (lV (Nat.sub_le _ _)) qO) qO qO qO))) fun⟨C0,D0,E0⟩=>?_
 refine xqg 2 [(115,.v (yV F.s C0 D0 E0 F.e)),yJ 116 F.err] ?_
 refine xz (xq 2 [yJ 7 F.err] [yF 6 86 F.s C0 D0 E0 F.e] ?_)
 refine yZ (zJ ?_)
 refine yR (.tuple #[yV F.s C0 D0 E0 F.e, yI F.err]) fun w' R Q=>?_
 rw[show sumR s x e t y f bits=addR s x e t y f bits by unfold sumR;rw[uQ qO,uQ qO],V]
 rw[ZeP H g1,← kZ _ _ _ G,N0]
 exact⟨(C0,D0,E0),rfl,Q.2,R⟩
theorem Zek {x:Int}(h:0≤x):Lib.itoa x=Lib.decDigits x.natAbs:=by
 unfold Lib.itoa
 rw[uQ qO]
 congr 1;omega
theorem ZcQ {n:Nat}(h:10≤n):Lib.decDigits n=Lib.decDigits (n/10) ++ [UInt8.ofNat (48+n%10)]:=by
 rw[Lib.decDigits,dif_neg qO]
theorem eZ {n:Nat}(h:n<10):Lib.decDigits n=[UInt8.ofNat (48+n)]:=Lib.decDigits_one h
theorem Zaq {n:Nat}(h:n<10):(UInt8.ofNat (48+n)).toNat=48+n:=by
 rw[UInt8.toNat_ofNat'];omega
theorem ZeQ {n:Nat}(h:n<10):zX (UInt8.ofNat (48+n))=true:=by
 unfold zX;rw[Zaq h];simp;omega
theorem kY:∀ n,(Lib.decDigits n).all zX=true:=by
 intro n
 induction n using Nat.strongRecOn with
 | _ n ih =>
  rcases vM n 10 with h|h
  ·rw[eZ h,rV,ZeQ h];rfl
  rw[ZcQ h,qX,ih (n/10) qO,rV,ZeQ (uO n (by omega:0<10))];rfl
theorem iA:∀ n,zK (Lib.decDigits n)=n:=by
 intro n
 induction n using Nat.strongRecOn with
 | _ n ih =>
  rcases vM n 10 with h|h
  ·rw[eZ h];simp only[zK,List.foldl_cons,List.foldl_nil];rw[Zaq h];omega
  rw[ZcQ h,eY,ih (n/10) qO,Zaq (uO n (by omega:0<10))];omega
theorem bP:∀ n,0<n→(Lib.decDigits n).head? ≠ some 48:=by
 intro n
 induction n using Nat.strongRecOn with
 | _ n ih =>
  intro b
  rcases vM n 10 with h|h
  ·rw[eZ h]
   intro e
   simp only[List.head?_cons,qR] at e
   have:=uX UInt8.toNat e
   rw[Zaq h] at this
   simp at this;omega
  have a:=ih (n/10) qO qO
  rw[ZcQ h,List.head?_append]
  cases hc:(Lib.decDigits (n/10)).head? with
  | none=>exact absurd (oZ.1 hc) (lI _)
  | some c=>rw[hc] at a;exact a
theorem eP {p:UInt8→Bool}{l:List UInt8}(h:l.all p=true):l.takeWhile p=l∧l.dropWhile p=[]:=by
 induction l with
 | nil=>exact⟨rfl,rfl⟩
 | cons x xs ih =>
  simp only[rV,tD] at h
  obtain⟨a,b⟩:=ih h.2
  rw[oK,List.dropWhile_cons,h.1]
  simp[a,b]
theorem Zma {l:List UInt8}(h:l.all zX=true):xE l=(false,l):=by
 unfold xE
 rw[uQ]
 intro e
 cases l with
 | nil=>cases e
 | cons x xs =>
  simp only[List.head?_cons,qR] at e
  subst e
  simp only[rV,tD] at h
  exact absurd h.1 qD
theorem ZnD (n:Nat):wZ (Lib.decDigits n)=(false,Lib.decDigits n,[],true):=by
 obtain⟨c,d⟩:=eP (kY n)
 unfold wZ
 rw[Zma (kY n)]
 simp only[]
 rw[c,d]
 rcases uJ n with a|a
 ·subst a;rw[eZ qO];rfl
 have b:Lib.decDigits n≠[48]:=fun e=>bP n a (by rw[e];rfl)
 rw[uQ b,uQ (fun e=>e.elim (lI n) (bP n a)),uZ rfl]
theorem ZnE {n:Nat}(h:0<n):wZ ([45] ++ Lib.decDigits n)=(true,Lib.decDigits n,[],true):=by
 obtain⟨b,c⟩:=eP (kY n)
 unfold wZ
 have e:xE ([45] ++ Lib.decDigits n)=(true,Lib.decDigits n):=rfl
 rw[e]
 simp only[]
 rw[b,c]
 have a:Lib.decDigits n≠[48]:=fun e=>bP n h (by rw[e];rfl)
 rw[uQ a,uQ (fun e=>e.elim (lI n) (bP n h)),uZ rfl]
theorem Zbf {z:Int}(h:z<0):Lib.itoa z=[45] ++ Lib.decDigits z.natAbs:=by
 unfold Lib.itoa
 rw[uZ h]
 rfl
theorem Zmb (z:Int):wZ (Lib.itoa z)=(decide (z<0),Lib.decDigits z.natAbs,[],true):=by
 by_cases h:z<0
 ·rw[Zbf h,ZnE qO,vP h]
 rw[Zek qO,ZnD,uR h]
theorem ZbD (z:Int):xW (Lib.itoa z)=some (z:Rat):=by
 unfold xW
 rw[Zmb]
 simp only[]
 rw[uZ trivial,iA]
 congr 2
 unfold sg
 split
 ·rename_i h;have:=uB h;omega
 rename_i h;have:¬ z<0:=fun k=>h (vP k);omega
def xF (q:Rat):List UInt8:=if q.den=1 then Lib.itoa q.num else Lib.itoa q.num ++ [47] ++ Lib.itoa (q.den:Int)
theorem Zjg {x y:Int}(c:0<y):(Rat.divInt x y).num=x.tdiv (Int.gcd x y:Int)∧((Rat.divInt x y).den:Int)=y.tdiv (Int.gcd x y:Int):=by
 have a:(Int.gcd x y:Int)∣x:=Int.gcd_dvd_left _ _
 have b:(Int.gcd x y:Int)∣y:=Int.gcd_dvd_right _ _
 rw[Rat.num_divInt,Rat.den_divInt,uQ qO,qB c,Int.one_mul,Int.gcd_comm y x,Int.tdiv_eq_ediv_of_dvd a,Int.tdiv_eq_ediv_of_dvd b]
 refine⟨rfl,?_⟩
 rw[tO]
 congr 1
 omega
theorem ZdQ {x y:Int}(a:0<y)(h:((Int.gcd x y:Nat):Int)=1):(Rat.divInt x y).num=x∧((Rat.divInt x y).den:Int)=y:=by
 have:=Zjg (x:=x) a
 rwa [h,Int.tdiv_one,Int.tdiv_one] at this
theorem Zge {c:UInt8}(h:zX c=true):UInt8.ofNat (48+(c.toNat-48))=c:=by
 have:=dP h
 apply UInt8.toNat.inj
 rw[UInt8.toNat_ofNat']
 have:=c.toNat_lt
 omega
theorem Zjh:∀ (k:Nat) (l:List UInt8),l.length=k→l.all zX=true→l≠[]→l.head? ≠ some 48→Lib.decDigits (zK l)=l:=by
 intro k
 induction k with
 | zero=>intro l d _ g;exact absurd (tG.1 d) g
 | succ k ih =>
  intro l d f g b
  obtain⟨l',c,rfl⟩:∃ l' c,l=l' ++ [c]:=by
   rcases List.eq_nil_or_concat l with h|⟨l',c,h⟩
   ·exact absurd h g
   exact⟨l',c,by simpa using h⟩
  rw[qX,tD] at f
  have i:zX c=true:=by simpa using f.2
  have m:=dP i
  rw[eY]
  by_cases a:l'=[]
  ·subst a
   have e:zK []=0:=rfl
   rw[e,tV,tA,eZ qO,Zge i];rfl
  have j:l'.head? ≠ some 48:=by
   rw[List.head?_append] at b
   cases hx:l'.head? with
   | none=>exact absurd (oZ.1 hx) a
   | some x=>rw[hx] at b;exact b
  have n:=ih l' (by simp at d;exact d) f.1 a j
  have o:=(ZcF f.1 a j).1
  rw[ZcQ qO,show (10*zK l'+(c.toNat-48))/10=zK l' by omega,show (10*zK l'+(c.toNat-48))%10=c.toNat-48 by omega,n,Zge i]
theorem ZeR (n:Nat):(Lib.decDigits n).head? ≠ some 45:=by
 intro e
 cases h:Lib.decDigits n with
 | nil=>exact lI n h
 | cons x xs =>
  rw[h] at e
  simp only[List.head?_cons,qR] at e
  subst e
  have:=kY n
  rw[h] at this
  simp only[rV,tD] at this
  exact absurd this.1 qD
theorem Zad {p:UInt8→Bool}{l r:List UInt8}{c:UInt8}(h:l.all p=true)(a:p c=false):(l ++ c :: r).takeWhile p=l∧(l ++ c :: r).dropWhile p=c :: r:=by
 induction l with
 | nil=>simp[a]
 | cons x xs ih =>
  simp only[rV,tD] at h
  obtain⟨b,d⟩:=ih h.2
  rw[nI,oK,List.dropWhile_cons,h.1]
  simp[b,d]
theorem Zar (z:Int)(r:List UInt8):xE (Lib.itoa z ++ r)=(decide (z<0),Lib.decDigits z.natAbs ++ r):=by
 by_cases h:z<0
 ·rw[Zbf h,vP h]
  unfold xE
  rw[uZ qS]
  rfl
 rw[Zek qO,uR h]
 unfold xE
 rw[uQ]
 intro e
 rw[List.head?_append] at e
 cases hx:(Lib.decDigits z.natAbs).head? with
 | none=>exact absurd (oZ.1 hx) (lI _)
 | some c =>
  rw[hx] at e
  exact ZeR _ (hx.trans e)
theorem ZdR (z:Int):sg (decide (z<0)) z.natAbs=z:=by
 unfold sg
 split
 ·rename_i h;have:=uB h;omega
 rename_i h;have:¬ z<0:=fun k=>h (vP k);omega
theorem Zgf {q:Rat}(h:q.den=1):((q.num:Int):Rat)=q:=by
 apply Rat.ext<;>simp[h]
theorem Zr4 {q:Rat}(h:q.den≠1):q.num≠0:=by
 intro e
 have:=q.reduced
 rw[e] at this
 simp[Nat.Coprime] at this
 exact h this
theorem iB (n:Nat):Lib.itoa (n:Int)=Lib.decDigits n:=by
 rw[Zek qO,tQ]
theorem Zmc {q:Rat}(h:q.den≠1):wZ (xF q)=(decide (q.num<0),Lib.decDigits q.num.natAbs,Lib.decDigits q.den,true):=by
 have l:=Zr4 h
 have m:=q.den_nz
 unfold xF
 rw[uQ h,iB,vU]
 unfold wZ
 rw[Zar]
 simp only[]
 obtain⟨g,i⟩:=Zad (p:=zX) (r:=Lib.decDigits q.den) (c:=47) (kY q.num.natAbs) qD
 have e:Lib.decDigits q.num.natAbs ++ ([47] ++ Lib.decDigits q.den)=Lib.decDigits q.num.natAbs ++ 47 :: Lib.decDigits q.den:=rfl
 rw[e,g,i]
 have f:=bP q.num.natAbs qO
 rw[uQ (fun e=>f (by rw[e];rfl)),uQ (fun e=>e.elim (lI _) f),uQ qS,uQ qS]
 simp only[List.tail_cons]
 obtain⟨j,k⟩:=eP (kY q.den)
 rw[j,k]
 have a:=bP q.den qO
 have b:Lib.decDigits q.den≠[49]:=fun e=>by
  have:=iA q.den
  rw[e] at this
  exact h (by rw[←this];rfl)
 have d:=lI q.den
 simp[a,b,d]
theorem Zhw (q:Rat):xW (xF q)=some q:=by
 by_cases h:q.den=1
 ·unfold xF
  rw[uZ h,ZbD,Zgf h]
 unfold xW
 rw[Zmc h]
 simp only[]
 rw[uQ (lI _),iA,iA,uZ q.reduced,ZdR,Rat.mkRat_self]
theorem Zhx {neg:Bool}{a:Nat}(h:a=0→neg=false):(sg neg a<0↔neg=true)∧(sg neg a).natAbs=a:=by
 cases neg with
 | false=>simp[sg]
 | true =>
  have:a≠0:=fun e=>by cases h e
  simp[sg];omega
theorem Zcg {neg:Bool}{a:Nat}(h:a=0→neg=false):Lib.itoa (sg neg a)=(if neg then [45] else []) ++ Lib.decDigits a:=by
 obtain⟨c,b⟩:=Zhx h
 cases neg with
 | false=>rw[Zek (by simp[sg]),b];rfl
 | true=>rw[Zbf (c.2 rfl),b];rfl
theorem ZeS {l r:List UInt8}{neg:Bool}(h:xE l=(neg,r)):l=(if neg then [45] else []) ++ r:=by
 unfold xE at h
 split at h
 ·rename_i hh
  injection h with h1 h2
  subst h1 h2
  cases l with
  | nil=>cases hh
  | cons x xs=>simp at hh;subst hh;rfl
 injection h with h1 h2
 subst h1 h2
 rfl
theorem gR {l:List UInt8}{q:Rat}(h:xW l=some q):xF q=l:=by
 unfold xW at h
 cases hs:wZ l with
 | mk neg r =>
  obtain⟨num,den,ok⟩:=r
  rw[hs] at h
  cases ok with
  | false=>cases h
  | true =>
   simp only[] at h
   have k:=bK hs
   obtain⟨z,m⟩:=ZfZ hs
   cases hu:xE l with
   | mk neg' t =>
    have j:=ZeS hu
    have a:t.takeWhile zX ++ t.dropWhile zX=t:=pG
    unfold wZ at hs
    rw[hu] at hs
    simp only[] at hs
    split at hs
    ·-- zero
     rename_i f
     injection hs with e1 hs;injection hs with e2 hs;injection hs with e3 e4
     subst e1 e2 e3
     simp at e4
     rw[uZ rfl,f] at h
     have A:zK [48]=0:=rfl
     rw[A] at h
     injection h with h
     rw[e4.1] at h j
     rw[←h,j,← a,f,e4.2]
     simp only[sg]
     unfold xF
     rw[uZ qS]
     have:Lib.itoa ((0:Nat):Int)=[48]:=by rw[iB,eZ qO];rfl
     simpa using this
    split at hs
    ·injection hs with _ hs;injection hs with _ hs;injection hs with _ hs;cases hs
    rename_i w
    have n:t.takeWhile zX≠[]:=fun e=>w (Or.inl e)
    have o:(t.takeWhile zX).head? ≠ some 48:=fun e=>w (Or.inr e)
    have g:=Zjh _ _ rfl (jR (p:=zX) t) n o
    split at hs
    ·rename_i s
     injection hs with e1 hs;injection hs with e2 hs;injection hs with e3 _
     subst e1 e2 e3
     rw[uZ rfl] at h
     injection h with h
     rw[←h]
     unfold xF
     rw[uZ qS]
     have i:(((sg neg' (zK (t.takeWhile zX)):Int)):Rat).num=sg neg' (zK (t.takeWhile zX)):=rfl
     rw[i,Zcg (fun e=>(m e).1),g,j]
     rw[s,rJ] at a
     rw[a]
    split at hs
    ·injection hs with _ hs;injection hs with _ hs;injection hs with _ hs;cases hs
    rename_i s b
    injection hs with e1 hs;injection hs with e2 hs;injection hs with e3 e4
    subst e1 e2
    rw[e3] at e4
    simp at e4
    obtain⟨⟨⟨k1,u⟩,B⟩,D⟩:=e4
    rw[uQ u] at h
    split at h
    ·rename_i C
     injection h with h
     have E:=z u
     have v:q.num=sg neg' (zK (t.takeWhile zX))∧q.den=zK den:=by
      have:=ZdQ (x:=sg neg' (zK (t.takeWhile zX))) (y:=(zK den:Int)) qO (by
       unfold Int.gcd
       rw[(Zhx (fun e=>(m e).1)).2,tQ,C];rfl)
      rw[Rat.divInt_ofNat,h] at this
      exact⟨this.1,by have:=this.2;omega⟩
     unfold xF
     rw[uQ (by rw[v.2];omega),v.1,v.2,Zcg (fun e=>(m e).1),g,iB,Zjh _ _ rfl k.2.1 u B,j]
     have d:t.dropWhile zX=47 :: den:=by
      cases hx:t.dropWhile zX with
      | nil=>exact absurd hx s
      | cons c r =>
       rw[hx] at b k1 e3
       simp at b k1 e3
       subst b
       have:=pG (p:=zX) (l:=r)
       rw[e3,k1,rJ] at this
       rw[this]
     rw[d] at a
     rw[vU,vU]
     congr 1
    cases h
theorem Zbg {l:List UInt8}{q:Rat}:xW l=some q↔xF q=l :=
 ⟨gR,fun h=>by rw[←h];exact Zhw q⟩
def fvB (s:List UInt8) (e:Int):Bool :=
 if s=[48] then decide (e=0)
 else decide ((xE s).2≠[]∧(xE s).2.head? ≠ some 48∧okE e∧(xE s).2.all zX=true∧zK (xE s).2%2=1)
def flM (s:List UInt8):Int:=sg (xE s).1 (zK (xE s).2)
theorem Zhy:Lib.itoa 0=[48]:=by
 rw[show (0:Int)=((0:Nat):Int) from rfl,iB,eZ qO];rfl
theorem Zji:flM [48]=0:=qD
theorem ZnF {neg:Bool}{a:Nat}(h:a%2=1):sg neg a%2=1:=by unfold sg;split<;>omega
theorem ZqO {s:List UInt8}{e:Int}(h:fvB s e=true):s=Lib.itoa (flM s)∧((flM s=0∧e=0)∨(flM s%2=1∧okE e)):=by
 unfold fvB at h
 by_cases a:s=[48]
 ·rw[uZ a] at h
  subst a
  rw[Zji]
  exact⟨Zhy.symm,Or.inl ⟨rfl,uB h⟩⟩
 rw[uQ a] at h
 obtain⟨b,c,d,f,g⟩:=uB h
 unfold flM
 refine⟨?_,Or.inr ⟨ZnF g,d⟩⟩
 rw[Zcg (fun h=>qO),Zjh _ _ rfl f b c]
 exact ZeS rfl
theorem bG (z:Int):xE (Lib.itoa z)=(decide (z<0),Lib.decDigits z.natAbs):=by
 have:=Zar z []
 rwa [rJ,rJ] at this
theorem Zpf (z:Int):flM (Lib.itoa z)=z:=by
 unfold flM;rw[bG,iA];exact ZdR z
theorem ZkZ (z e:Int):fvB (Lib.itoa z) e=decide ((z=0∧e=0)∨(z%2=1∧okE e)):=by
 unfold fvB
 by_cases a:z=0
 ·subst a
  rw[Zhy,uZ rfl]
  by_cases b:e=0
  ·subst b;rfl
  rw[uR b]
  symm
  exact uR (fun h=>by rcases h with h|h<;>omega)
 have c:¬ Lib.itoa z=[48]:=fun h=>a (by rw[←Zpf z,h,Zji])
 rw[uQ c,bG]
 refine oE.2 ⟨fun⟨_,_,d,_,f⟩=>Or.inr ⟨?_,d⟩,fun h=>?_⟩
 ·rw[iA] at f;omega
 rcases h with ⟨h,_⟩|⟨i,g⟩
 ·exact absurd h a
 exact⟨lI _,bP _ qO,g,kY _,by rw[iA];omega⟩
theorem Zpg {l:List UInt8}{c:UInt8}(h:(l ++ [c]).all zX=true):zK (l ++ [c])%2=c.toNat % 2:=by
 rw[eY]
 have a:zX c=true:=by rw[qX] at h;simp at h;exact h.2
 have:=dP a
 omega
noncomputable def valF (l:List UInt8):Rat:=(xW l).getD 0
theorem ZnG {l:List UInt8}(b:l.all zX=true)(f:l.length≤570):wl (zK l)≤30:=by
 rw[jC]
 have c:=kJ l b
 obtain⟨k,d⟩:∃ k,k=30:=⟨_,rfl⟩
 have a:10^l.length≤10^(19*k):=vE qO qO
 rw[←d]
 rw[rU] at a
 have e:(10^19)^k≤W64^k:=sZ (by rw[zR];decide) k
 exact uS c (uD a e)
theorem Zgg:∀ (k u:Nat),1≤k→u<10^k→Lib.nDigits u≤k
 | 0,_,h,_=>qO
 | k+1,u,_,h=>by
  by_cases a:u<10
  ·rw[Lib.nDigits_small a];omega
  rw[Lib.nDigits_big a]
  have b:1≤k:=by
   rcases uJ k with e|e
   ·subst e;simp at h;omega
   exact e
  have c:u/10<10^k:=by
   rw[uP] at h
   exact sW (by rw[uG];exact h)
  have:=Zgg k (u/10) b c
  omega
theorem Zk0 {z:Int}{k:Nat}(a:1≤k)(h:z.natAbs<10^k):(Lib.itoa z).length≤k+1:=by
 have b:=Zgg k z.natAbs a h
 have e:0≤z→z.toNat=z.natAbs:=fun h=>qO
 unfold Lib.itoa
 split
 ·simp only[sB,Lib.decDigits_length]
  omega
 rename_i c
 rw[Lib.decDigits_length]
 first
  | omega
  | (rw[e qO];omega)
theorem Zhz {l:List UInt8}(h:xW l=none):valF l=0:=by unfold valF;rw[h];rfl
theorem jS {l:List UInt8}{q:Rat}(h:xW l=some q):valF l=q:=by unfold valF;rw[h];rfl
theorem dV (l:List UInt8):bytes ⟨l.toArray⟩=l:=by simp[bytes]
theorem Zme {w w':World}{e:Ending}{l:List UInt8}(h:Zfi w l e w'):lG (fun x:Int×Int×Bool=>.tuple #[.agg #[.int .i64 x.1,.int .i64 x.2.1],.bool x.2.2]) (fun x _=>ZaU l x.1 x.2.1 x.2.2) w e w':=by
 obtain⟨a,b,c,rfl,d,Q⟩:=h
 exact⟨(a,b,c),rfl,Q,BoxN.pure d⟩
abbrev ShSp:=Bool×ByteArray×ByteArray×Bool
theorem Zmf {w w':World}{e:Ending}{s:ByteArray}(h:Ze8 s w e w'):lG (fun x:ShSp=>.tuple #[.agg #[.bool x.1,.string x.2.1,.string x.2.2.1],.bool x.2.2.2]) (fun x _=>wZ (bytes s)=(x.1,bytes x.2.1,bytes x.2.2.1,x.2.2.2)) w e w':=by
 obtain⟨neg,t,d,a,rfl,b,Q⟩:=h
 exact⟨(neg,t,d,a),rfl,Q,BoxN.pure b⟩
theorem Zk1 {x:ByteArray}(h:bytes x=[]):(x.toList == (⟨#[]⟩:ByteArray).toList)=true:=by
 rw[Lib.toList_data,Lib.toList_data,show x.data.toList=[] from h];rfl
theorem Zk2 {x:ByteArray}(h:¬ bytes x=[]):(x.toList == (⟨#[]⟩:ByteArray).toList)=false:=by
 rw[Lib.toList_data,Lib.toList_data]
 exact tK.2 h
theorem ZnI {l:List UInt8}{neg:Bool}{t d:List UInt8}(h:wZ l=(neg,t,d,false)):xW l=none:=by unfold xW;rw[h]
theorem ZnJ {l:List UInt8}{neg:Bool}{t d:List UInt8}(h:wZ l=(neg,t,d,true))(a:d=[]):(xW l).isSome=true:=by unfold xW;rw[h];simp[a]
theorem ZnK {l:List UInt8}{neg:Bool}{t d:List UInt8}(h:wZ l=(neg,t,d,true))(b:¬ d=[]):(xW l).isSome=decide (((Int.gcd (zK t:Int) (zK d:Int):Nat):Int)=1):=by
 unfold xW
 rw[h]
 have e:Int.gcd (zK t:Int) (zK d:Int)=Nat.gcd (zK t) (zK d):=rfl
 rw[e]
 simp only[uQ b]
 by_cases a:Nat.gcd (zK t) (zK d)=1
 ·rw[uZ a,a];rfl
 rw[uQ a];simp;omega
theorem Zmg {l:List UInt8}{a b:Int}(h:ZaU l a b true):(xW l).isSome=true:=by
 rcases h with ⟨_,q,h,_⟩|⟨h,_⟩
 ·rw[h];rfl
 cases h
theorem jT (s:ByteArray)(w:World)(r:Glob w)(t:(bytes s).length≤570) :
 yA 26 #[.string s] w (RetV w (.bool (xW (bytes s)).isSome)):=by
 have h:s.size≤1099511627776:=by rw[zT] at t;omega
 refine zV (Φ:=fun w=>Glob w) func26 rfl qK (fun w' u=>r.ext u) ?_
 refine yY (xq 1 [yB 2 false] [] ?_)
 refine yZ (zD (yY (xq 1 [yT 8 s] [] ?_)))
 refine xqc _ _ 9 (fun x:Int×Int×Bool=>.tuple #[.agg #[yI x.1, yI x.2.1],.bool x.2.2]) _ (fun w R Q=>yM Zme (Zh6 s _ h)) fun⟨L,M,k⟩=>?_
 rcases k with _|_
 ·refine xq 6 [yB 4 false] [] ?_
  refine yZ (yY (xq 1 [yB 12 false] [] ?_))
  refine yZ (xb (zG (zB (yY (xq 1 [yT 14 s] [] ?_)))))
  refine xqc _ _ 15 (fun x:ShSp=>.tuple #[.agg #[.bool x.1,.string x.2.1,.string x.2.2.1],.bool x.2.2.2]) _ (fun w R Q=>yM Zmf (Zhi s _ h)) fun⟨b,c,a,l⟩=>?_
  rcases l with _|_
  ·refine xq 6 [Δ 5,yB 6 false] [(5,152,[.v (.bool b),.v (.string c),.v (.string a)])] ?_
   refine yZ (zD (zD ?_))
   refine SXc.know (p:=wZ (bytes s)=(b,bytes c,bytes a,false)) (fun w _ Q=>Q.2) fun i=>?_
   refine zC (xq 7 [yB 24 true] [] ?_)
   refine yZ (xa (yY (xq 2 [yB 2 false] [] ?_)))
   refine yZ (zJ (zM ?_))
   refine yR (.bool false) fun w' R Q=>?_
   exact⟨by rw[ZnI i];rfl,R⟩
  refine xq 6 [Δ 5,yB 6 true] [(5,152,[.v (.bool b),.v (.string c),.v (.string a)])] ?_
  refine yZ (zD (zD ?_))
  refine SXc.know (p:=wZ (bytes s)=(b,bytes c,bytes a,true)) (fun w _ Q=>Q.2) fun i=>?_
  by_cases j:bytes a=[]
  ·refine zC (xq 6 [yB 20 false,yB 23 ((a:ByteArray).toList == (⟨#[]⟩:ByteArray).toList)] [] ?_)
   rw[Zk1 j]
   refine xq 1 [yB 24 true] [] ?_
   refine yZ (xa (yY (xq 2 [yB 2 true] [] ?_)))
   refine yZ (zJ (zM ?_))
   refine yR (.bool true) fun w' R Q=>?_
   exact⟨by rw[ZnJ i j],R⟩
  refine zC (xq 6 [yB 20 false,yB 23 ((a:ByteArray).toList == (⟨#[]⟩:ByteArray).toList)] [] ?_)
  rw[Zk2 j]
  refine xq 1 [yB 24 false] [] ?_
  refine yZ (xb (zG (zB (zD ?_))))
  obtain⟨d,e,y⟩:=bK i
  have f:ZcE c.size:=by unfold ZcE;rw[←zT];omega
  have g:ZcE a.size:=by unfold ZcE;rw[←zT];omega
  have m:wl ((zK (bytes c):Nat):Int).natAbs≤79:=by rw[tQ];exact uD (ZnG d qO) qD
  have n:wl ((zK (bytes a):Nat):Int).natAbs≤79:=by rw[tQ];exact uD (ZnG e qO) qD
  have o:Fits ((zK (bytes c):Nat):Int):=by unfold Fits;omega
  have q:Fits ((zK (bytes a):Nat):Int):=by unfold Fits;omega
  refine yO 9 zQ ?_
  refine xqg 2 [yT 27 c] ?_
  refine xqd _ _ 28 wN _ (fun w R Q=>yM Ze9 (ZdE c _ d f)) fun⟨z,A,B,C⟩=>?_
  refine xqg 2 [yT 30 a] ?_
  refine xqd _ _ 31 wN _ (fun w R Q=>yM Ze9 (ZdE a _ e g)) fun⟨D,E,F,G⟩=>?_
  refine xqd _ _ 32 wN _ (fun w R Q=>yM Ze9 (Zqj _ _ ((zK (bytes c):Int)) ((zK (bytes a):Int)) _ Q.1.1.1.1 Q.1.2 Q.2 o q (Zif.words m n))) fun⟨H,I,J,K⟩=>?_
  refine xqd _ _ 33 (fun _:Unit=>.bool (decide ((((Int.gcd ((zK (bytes c):Int)) ((zK (bytes a):Int)):Nat):Int))=1))) _ (fun w R Q=>yN (ZmV _ (((Int.gcd ((zK (bytes c):Int)) ((zK (bytes a):Int)):Nat):Int)) _ Q.2)) fun N=>?_
  refine xqg 1 [(2,.v (.bool (decide ((((Int.gcd ((zK (bytes c):Int)) ((zK (bytes a):Int)):Nat):Int))=1))))] ?_
  refine xz (yZ (zJ ?_))
  refine zF (v:=.bool (decide ((((Int.gcd ((zK (bytes c):Int)) ((zK (bytes a):Int)):Nat):Int))=1))) qK fun w' R Q=>?_
  exact⟨by rw[ZnK i j],R⟩
 refine xq 6 [yB 4 true] [] ?_
 refine yZ (yY (xq 1 [yB 12 true] [] ?_))
 refine yZ (xa (yY (xq 1 [yB 2 true] [] ?_)))
 refine yZ (zJ (zM ?_))
 refine yR (.bool true) fun w' R Q=>?_
 exact⟨by rw[Zmg Q.2],R⟩
theorem Zae {n:Nat}(h:n<10):Lib.itoa (n:Int)=[UInt8.ofNat (48+n)]:=by
 unfold Lib.itoa
 rw[uQ qO,qT,Lib.decDigits,dif_pos h]
theorem dW {q:Rat}{n:Nat}(h:n<10)(d:q.num=(n:Int))(e:q.den=1):xF q=[UInt8.ofNat (48+n)]:=by
 unfold xF;rw[uZ e,d,Zae h]
theorem Zk3 {q:Rat}{n d:Nat}(h:n<10)(e:d<10)(f:q.num=(n:Int))(g:q.den=d)(i:d≠1):xF q=[UInt8.ofNat (48+n),47,UInt8.ofNat (48+d)]:=by
 unfold xF;rw[g,uQ i,f,Zae h,Zae e];rfl
theorem ZqP {l:List UInt8}{q:Rat}(h:xF q=l):valF l=q:=jS (Zbg.2 h)
theorem t1:xF (mkRat 1 1)=[49]:=dW (n:=1) qD qD qD
theorem t3:xF (mkRat 3 1)=[51]:=dW (n:=3) qD qD qD
theorem t13:xF (mkRat 1 3)=[49,47,51]:=Zk3 (n:=1) (d:=3) qD qD qD qD qD
theorem t12:xF (mkRat 1 2)=[49,47,50]:=Zk3 (n:=1) (d:=2) qD qD qD qD qD
section
variable {w w':World} {e:Ending} {s:ByteArray}
theorem Zmh (h:ZiX s w e w'):lG (fun x:ByteArray×Bool=>.tuple #[.string x.1,.bool x.2]) (fun x _=>xE (bytes s)=(x.2,bytes x.1)) w e w':=by
 obtain⟨r,neg,rfl,h,rfl⟩:=h
 exact⟨(r,neg),rfl,Fr.refl _ _,BoxN.pure h⟩
end
theorem Zk4 {a b:ByteArray}(h:bytes a=bytes b):a=b:=by
 cases a with|mk a=>cases b with|mk b=>simp only[bytes] at h;rw[Array.toList_inj.1 h]
def e4:Nat:=400
theorem ZgU {s:ByteArray}(h:bytes s=[48]):(s.toList == (⟨#[48]⟩:ByteArray).toList)=true:=by
 rw[Lib.toList_data,Lib.toList_data,show s.data.toList=[48] from h];rfl
theorem Zch {s:ByteArray}(h:¬ bytes s=[48]):(s.toList == (⟨#[48]⟩:ByteArray).toList)=false:=by
 rw[Lib.toList_data,Lib.toList_data];exact tK.2 h
theorem Zk5 {l:List UInt8}{q:Rat}{c:UInt8}(h:xW l=some q)(a:l.head? = some c):(c=45→q.num<0)∧(c≠45→0≤q.num):=by
 have i:=gR h
 have d:∃ r,l=Lib.itoa q.num ++ r:=by
  rw[←i];unfold xF
  split
  ·exact⟨[],qS⟩
  exact⟨[47] ++ Lib.itoa (q.den:Int),qS⟩
 obtain⟨r,g⟩:=d
 rcases oW q.num 0 with b|b
 ·rw[g,Zbf b] at a
  simp at a
  exact⟨fun _=>b,fun e=>absurd a.symm e⟩
 refine⟨fun e=>?_,fun _=>b⟩
 exfalso
 rw[g,show q.num=((q.num.toNat:Nat):Int) by omega,iB] at a
 have f:=lI q.num.toNat
 have:=ZeR q.num.toNat
 cases hd:Lib.decDigits q.num.toNat with
 | nil=>exact f hd
 | cons x xs=>rw[hd] at a this;simp at a this;exact this (a.trans e)
theorem Zph {l:List UInt8}{q:Rat}(h:xW l=some q)(a:q.num=0):l=[48]:=by
 have b:=gR h
 have c:q=0:=Rat.num_eq_zero.1 a
 rw[←b,c];exact dW (n:=0) qD qD qD
theorem zt:xF 0=[48]:=dW (n:=0) qD qD qD
theorem ZnL {s:ByteArray}(h:¬ bytes s=[]):∃ c,(bytes s).head? = some c∧s[0]? = some c:=by
 obtain⟨a,_⟩:=bW h
 exact⟨s[0],bX a,by simp[a]⟩
theorem Zr5 {c b:UInt8}(h:¬ c=b):((c.toNat:Int) == (b.toNat:Int))=false:=by
 have:c.toNat≠b.toNat:=fun e=>h (UInt8.toNat_inj.1 e)
 simp;omega
theorem fL {P:Program}{o:Oper}{ρ:Operand→Value}{w:World}{t:TypeId}{x i:Operand}{b:ByteArray}{k:Nat}{c:UInt8}(a:o.op=Op.index t x i)(d:P.underlying t=some .string)(e:ρ x=.string b)(hi:ρ i=.int .i64 (k:Int))(f:b[k]? = some c):(execOp ρ o).run P w=.ok (.value (.int .u8 (c.toNat:Int))) w:=by
 simp[execOp,a,Instr.index,asIntOf,underlying,d,e,hi,f,Result.andThen]
theorem ZdT (s:ByteArray)(w:World)(l:Glob w)(j:(bytes s).length≤570) :
 yA 27 #[.string s] w (RetV w (.int .i64 (valF (bytes s)).num.sign)):=by
 refine zV func27 rfl qK (fun w' m=>l.ext m) ?_
 refine yY (xr 1 [yT 0 s,yJ 2 0] [] ?_)
 refine yZ (zD (zO (zD ?_)))
 by_cases a:bytes s=[48]
 ·refine zC (xr 2 [yT 0 s,yJ 2 0,yB 5 ((s:ByteArray).toList == (⟨#[48]⟩:ByteArray).toList)] [] ?_)
  rw[ZgU a]
  refine xr 6 [yT 0 s,yJ 2 0,yB 3 true] [] ?_
  refine yZ (xa (yY (xr 1 [yJ 2 0] [] ?_)))
  refine yZ (zJ (wY (zM ?_)))
  refine yR (yI 0) fun w' R Q=>?_
  exact⟨by rw[ZqP (show xF 0=bytes s by rw[a];exact zt)];rfl,R⟩
 refine zC (xr 2 [yT 0 s,yJ 2 0,yB 5 ((s:ByteArray).toList == (⟨#[48]⟩:ByteArray).toList)] [] ?_)
 rw[Zch a]
 refine xr 2 [yT 0 s,yJ 2 0,yB 6 false,yT 7 s] [] ?_
 by_cases d:(xW (bytes s)).isSome=true
 ·obtain⟨q,hq⟩:=sX.1 d
  obtain⟨c,k,f⟩:=ZnL (s:=s) (fun e=>by rw[e,show xW []=none from rfl] at hq;cases hq)
  refine xc _ _ 8 (fun _:Unit=>.bool true) _ (fun w R Q=>(jT s _ Q j).mono (fun _ _ h=>zI h (by rw[d]))) fun n=>?_
  refine xr 3 [yT 0 s,yJ 2 0,yB 3 false] [] ?_
  refine yZ (xb (zD ?_))
  by_cases g:c=45
  ·refine zC (xr 1 [yJ 2 0,yT 12 s] [] ?_)
   refine yK 13 (.int .u8 (c.toNat:Int)) (fun w R Q=>fL (t:=9) (x:=.tmp 12) (i:=.const (yI 0)) qK qK qK (by rfl) f) ?_
   refine xr 1 [yJ 2 0,yB 14 (((c.toNat:Int):Int) == 45)] [] ?_
   rw[(show ((c.toNat:Int) == 45)=true by rw[g];rfl)]
   refine xr 1 [yJ 2 0,yB 11 true] [] ?_
   refine yZ (xa (yY (xr 1 [yJ 2 (-1)] [] ?_)))
   refine yZ (zJ (wY (zM ?_)))
   refine yR (yI (-1)) fun w' R Q=>?_
   exact⟨by rw[jS hq,pA ((Zk5 hq k).1 g)],R⟩
  refine zC (xr 1 [yJ 2 0,yT 12 s] [] ?_)
  refine yK 13 (.int .u8 (c.toNat:Int)) (fun w R Q=>fL (t:=9) (x:=.tmp 12) (i:=.const (yI 0)) qK qK qK (by rfl) f) ?_
  refine xr 1 [yJ 2 0,yB 14 (((c.toNat:Int):Int) == 45)] [] ?_
  rw[(show ((c.toNat:Int) == 45)=false from Zr5 (b:=45) g)]
  refine xr 1 [yJ 2 0,yB 11 false] [] ?_
  refine yZ (xb (zG (xK (zB (yY (xr 1 [yJ 2 1] [] ?_))))))
  refine yZ (zJ ?_)
  refine yR (yI 1) fun w' R Q=>?_
  exact⟨by rw[jS hq,qB (by have o:=(Zk5 hq k).2 g;have p:q.num≠0:=fun e=>a (Zph hq e);omega)],R⟩
 refine xc _ _ 8 (fun _:Unit=>.bool false) _ (fun w R Q=>(jT s _ Q j).mono (fun _ _ h=>zI h (by rw[qU.2 d]))) fun n=>?_
 refine xr 3 [yT 0 s,yJ 2 0,yB 3 true] [] ?_
 refine yZ (xa (yY (xr 1 [yJ 2 0] [] ?_)))
 refine yZ (zJ (wY (zM ?_)))
 refine yR (yI 0) fun w' R Q=>?_
 exact⟨by rw[Zhz (by cases h:xW (bytes s) with|none=>rfl|some q=>rw[h] at d;exact absurd rfl d)];rfl,R⟩
end Go.Proofs.YtdlgidnkmbklcaaGreatDoor
