/-
 My texts.
-/
import Derived.Test.YtmpffakfhcpjoaaGreatDoorF21
import Derived.Test.YtmpffakfhcpjoaaGreatDoorF19
set_option maxRecDepth 100000
set_option maxHeartbeats 8000000
namespace Go.Proofs.YtmpffakfhcpjoaaGreatDoor
def FvOk (v:Fv3):Prop:=wl v.2.1≤100000∧okE v.2.2∧(v.2.1=0∨v.2.1%2=1)∧(v.1=true→0<v.2.1)
theorem Zha:FvOk (false,0,0):=⟨uA (Nat.le_of_eq (lR.2 rfl)) (vS _),by show okE 0;unfold okE;omega,Or.inl rfl,fun h=>by cases h⟩
def fvR (r:FR):Fv3:=(r.s,r.m,r.e)
def mulV (x y:Fv3) (b:Nat):FR:=wX (x.1 != y.1) (x.2.1*y.2.1) 1 (x.2.2+y.2.2) b
def subV (x y:Fv3) (b:Nat):FR:=sumR x.1 x.2.1 x.2.2 (if y.2.1=0 then y.1 else !y.1) y.2.1 y.2.2 b
def divV (x y:Fv3) (b:Nat):FR:=Zch (x.1 != y.1) x.2.1 y.2.1 (x.2.2-y.2.2) b
def iP (x:Fv3) (b:Nat):FR:=fX x.1 x.2.1 x.2.2 b
def musT (r:FR):Option Fv3:=if r.err=0 then some (fvR r) else none
theorem iV {r:FR}{v:Fv3}(h:musT r=some v):r.err=0∧v=fvR r:=by
 unfold musT at h
 split at h
 ·injection h with h;exact⟨by assumption,h.symm⟩
 cases h
def FrOk (r:FR):Prop:=r.err=0→FvOk (fvR r)
theorem ZhY {r:FR}{v:Fv3}(a:FrOk r)(h:musT r=some v):FvOk v:=by
 obtain⟨b,rfl⟩:=iV h
 exact a b
theorem Zc1 {k:Int}:FrOk ⟨false,0,0,k⟩:=fun _=>Zha
theorem Zmv {s:Bool}{n:Nat}{e:Int}(h:wl n≤100000):FrOk (xU s n e):=by
 unfold xU
 split
 ·exact Zc1
 rename_i c
 have a:=kM (n:=n) qO
 split
 ·rename_i b
  exact fun _=>⟨uA (lC (vJ _ _)) h,b,Or.inr a.1,fun _=>by show 0<oddM n;omega⟩
 exact Zc1
theorem Zrb {n d bits:Nat}(b:0<n)(c:0<d)(e:0<bits):rndM n d bits≤2^bits:=by
 have f:=Za1 b c e
 have g:=(Ze5 (fa n (rndK n d bits)) (fb d (rndK n d bits))).2
 have a:=jX (fq n d (rndK n d bits))
 rw[f] at a
 unfold rndM
 unfold fq at a
 omega
theorem ZhZ {n b:Nat}(h:n≤2^b)(c:b≤4096):wl n≤100000:=uA (lC h) (uA (ZbO (a:=b) (b:=100) qO) qD)
theorem Zc2 {s:Bool}{n d b:Nat}{e:Int}(c:0<d)(f:0<b)(a:b≤4096):FrOk (wX s n d e b):=by
 unfold wX
 split
 ·exact Zc1
 exact Zmv (ZhZ (Zrb qO c f) a)
theorem Zs6 {x y:Fv3}{b:Nat}(c:0<b)(a:b≤4096):FrOk (mulV x y b):=Zc2 qD c a
theorem Zmw {x y:Fv3}{b:Nat}(c:0<b)(a:b≤4096):FrOk (subV x y b):=by
 unfold subV sumR
 split
 ·exact Zc2 qD c a
 split
 ·exact Zc2 qD c a
 exact Zc2 qD c a
theorem Zmx {x y:Fv3}{b:Nat}(c:0<b)(a:b≤4096):FrOk (divV x y b):=by
 unfold divV Zch
 split
 ·exact Zc1
 exact Zc2 qO c a
theorem ZpG {y:Nat}{mk:Bool}:2*gB y 0 mk≤y+1:=by
 unfold gB
 simp only[tH,rS,mM,vZ,mK,ne_eq,not_true,false_or]
 split<;>omega
theorem Zs7 {M n:Nat}{E:Int}(c:M%2=1)(d:0<n):sqM M E n≤2^n:=by
 have e:(blen M:Int)+(E-2*sqK M E n+2)=2*n+1∨(blen M:Int)+(E-2*sqK M E n+2)=2*n+2:=by unfold sqK;omega
 have f:=ZbN (show 0<M by omega) (E-2*sqK M E n+2) qO
 unfold sqM
 generalize fq M 1 (-(E-2*sqK M E n+2))=F at *
 have u:=xH.1 (show blen F≤2*n+2 by omega)
 have a:isq F<2^(n+1):=by
  refine qY fun h=>?_
  have b:=vK h h
  rw[←uU,show n+1+(n+1)=2*n+2 by omega] at b
  have g:=(dM F).1
  omega
 have:=ZpG (y:=isq F) (mk:=jT M (E-2*sqK M E n+2))
 rw[uO] at a
 omega
theorem Zku {x:Fv3}{b:Nat}(c:FvOk x)(d:0<b)(a:b≤4096):FrOk (iP x b):=by
 unfold iP fX
 split
 ·exact Zc1
 split
 ·exact Zc1
 exact Zmv (ZhZ (Zs7 (c.2.2.1.resolve_left (by assumption)) d) a)
def at3 (l:List Fv3) (i:Nat):Fv3:=l.getD i (false,0,0)
def sgnV (v:Fv3):Int:=if v.2.1=0 then 0 else if v.1=true then -1 else 1
def Zbm (t x y:Fv3) (b:Nat):Option Fv3:=(musT (mulV x y b)).bind fun p=>musT (subV t p b)
def chK (b:Nat) (L:List Fv3) (i j n:Nat):Nat→Nat→Fv3→Option Fv3
 | 0,_,t=>some t
 | f+1,k,t=>(Zbm t (at3 L (i*n+k)) (at3 L (j*n+k)) b).bind fun t=>chK b L i j n f (k+1) t
def chE (b:Nat) (L:List Fv3) (i j n:Nat) (t:Fv3):Option Fv3:=if j<i then musT (divV t (at3 L (j*n+j)) b) else if sgnV t≤0 then none else musT (iP t b)
def chI (b:Nat) (A:List Fv3) (n j:Nat):Nat→Nat→List Fv3→Option (List Fv3)
 | 0,_,L=>some L
 | f+1,i,L=>(chK b L i j n j 0 (at3 A (i*n+j))).bind fun t=>(chE b L i j n t).bind fun v=>chI b A n j f (i+1) (L.set (i*n+j) v)
def chJ (b:Nat) (A:List Fv3) (n:Nat):Nat→Nat→List Fv3→Option (List Fv3)
 | 0,_,L=>some L
 | f+1,j,L=>(chI b A n j (n-j) j L).bind fun L=>chJ b A n f (j+1) L
def ZaT (b:Nat) (A:List Fv3) (n:Nat):Option (List Fv3):=chJ b A n n 0 (List.replicate (n*n) (false,0,0))
def fval (v:Fv3):Rat:=qv (sg v.1 v.2.1) v.2.2
def svq (s:Bool) (q:Rat):Rat:=if s then -q else q
theorem dD (s:Bool)(m:Nat)(e:Int):fval (s,m,e)=svq s ((m:Rat)*2^e):=Zja s m e
theorem aR (s:Bool)(e:Int):fval (s,0,e)=0:=by
 rw[dD,show ((0:Nat):Rat)=0 from rfl,mT]
 unfold svq;split<;>rfl
def Nx (g T:Int) (v:Fv3):Prop:=(v.2.1=0∧v.2.2=0)∨(0<v.2.1 ∧ -g≤v.2.2∧(blen v.2.1:Int)+v.2.2≤T∧blen v.2.1≤80)
theorem Nx.weak {g h T U:Int}{v:Fv3}(H:Nx g T v)(e:g≤h)(f:T≤U):Nx h U v:=H.imp id (fun⟨a,b,c,d⟩=>⟨a,qO,qO,d⟩)
theorem Zh0 {g T:Int}:Nx g T (false,0,0):=Or.inl ⟨rfl,rfl⟩
structure Gr (b:Nat) (q:Rat) (g T:Int) (r:FR):Prop where
 er:r.err=0
 rs:RndS b q (fval (fvR r))
 nx:Nx g T (fvR r)
theorem Gr.zero {b:Nat}{g T:Int}{q:Rat}(h:q=0):Gr b q g T ⟨false,0,0,0⟩:=⟨rfl,Or.inl ⟨h,aR _ _⟩,Zh0⟩
theorem Rnd.scale {q:Rat}{b m:Nat}{K e:Int}(h:Rnd q b m K):Rnd (q*2^e) b m (K+e):=by
 have a:=gM e
 obtain⟨c,d,f,g,i,j⟩:=h
 refine⟨?_,?_,?_,?_,i,j⟩<;>rw[eW]
 ·rw[←sL];exact Zce a c
 ·rw[←sL];exact (oT a).2 d
 ·rw[←sL,← sL];exact Zce a f
 rw[←sL,← sL];exact Zce a g
theorem Zh1 {s:Bool}{n:Nat}{e:Int}(a:0<n)(f : -1000000≤e)(g:e+blen n≤1000000) :
 (xU s n e).err=0∧fval (fvR (xU s n e))=svq s ((n:Rat)*2^e)∧0<(xU s n e).m∧(xU s n e).e=e+tzn n∧(blen (xU s n e).m:Int)+(xU s n e).e=blen n+e:=by
 have b:=Zkm a
 obtain⟨h,c⟩:=kM a
 have i:blen n=blen (oddM n)+tzn n:=by
  have:=dE (show 0<oddM n by omega) (tzn n)
  rw[←c] at this;exact this
 obtain⟨d,p2⟩:=Zug (s:=s) (e:=e) a ⟨qO,qO⟩
 rw[d]
 refine⟨rfl,?_,by show 0<oddM n;omega,rfl,by show (blen (oddM n):Int)+(e+tzn n)=_;omega⟩
 show qv (sg s (oddM n)) (e+tzn n)=_
 rw[p2];exact Zja s n e
theorem Zus {q:Rat}{b m:Nat}{K:Int}{s:Bool}(a:0<q)(h:Rnd q b m K):RndS b (svq s q) (svq s ((m:Rat)*2^K)):=by
 cases s
 ·exact Or.inr (Or.inl ⟨a,m,K,h,rfl⟩)
 exact Or.inr (Or.inr ⟨by show -q<0;grind,m,K,by show Rnd (- -q) b m K;rw[Rat.neg_neg];exact h,rfl⟩)
theorem Zmy {s:Bool}{n d b:Nat}{e g T:Int}(a:0<n)(c:0<d)(f:0<b)(i:b≤79)(q : -g≤e+blen n-blen d-b)(r:e+blen n-blen d+2≤T)(t:g≤900000)(u:T≤900000):Gr b (svq s ((n:Rat)/d*2^e)) g T (wX s n d e b):=by
 have h:=ZgM a c f
 have j:0<rndM n d b:=ZjS a c f
 have k:blen (rndM n d b)≤b+1:=xH.2 (vA h.mh (by rw[uO];have:=p2 b;omega))
 have v:rndK n d b=rk0 n d b∨rndK n d b=rk0 n d b+1:=by unfold rndK;split<;>simp
 have l:rk0 n d b=(blen n:Int)-blen d-b:=rfl
 unfold wX
 rw[uI qO]
 obtain⟨o,p2,p,w,x⟩:=Zh1 (s:=s) (e:=e+rndK n d b) j qO qO
 refine⟨o,?_,Or.inr ⟨p,?_,?_,?_⟩⟩
 ·rw[p2,Int.add_comm e]
  refine Zus (mJ ?_ (gM e)) h.scale
  rw[oF]
  exact mJ (pS.2 a) (Rat.inv_pos.2 (pS.2 c))
 ·show -g≤(xU s (rndM n d b) (e+rndK n d b)).e
  omega
 ·show (blen (xU s (rndM n d b) (e+rndK n d b)).m:Int)+(xU s (rndM n d b) (e+rndK n d b)).e≤T
  omega
 show blen (xU s (rndM n d b) (e+rndK n d b)).m≤80
 omega
theorem div_one (q:Rat):q/((1:Nat):Rat)=q:=by show q/1=q;grind
theorem Zf0 {s:Bool}{n b:Nat}{e g T:Int}(a:0<n)(c:0<b)(d:b≤79)(w : -g≤e)(x:e+blen n+1≤T)(y:g≤800000)(j:T≤900000):Gr b (svq s ((n:Rat)*2^e)) g T (wX s n 1 e b):=by
 have z:=gK a
 have A:blen 1=1:=rfl
 obtain⟨k,i,f⟩:=Zmy (s:=s) (e:=e) (b:=b) (g:=g+b) (T:=T) a (show 0<1 by decide) c d qO qO qO j
 rw[div_one] at i
 refine⟨k,i,?_⟩
 rcases f with f|⟨l,B,m,o⟩
 ·exact Or.inl f
 refine Or.inr ⟨l,?_,m,o⟩
 show -g≤(wX s n 1 e b).e
 have p:0<rndM n 1 b:=ZjS a qD c
 unfold wX
 rw[uI qO]
 have q:=ZgM a (show 0<1 by decide) c
 have r:blen (rndM n 1 b)≤b+1:=xH.2 (vA q.mh (by rw[uO];have:=p2 b;omega))
 have C:rndK n 1 b=rk0 n 1 b∨rndK n 1 b=rk0 n 1 b+1:=by unfold rndK;split<;>simp
 have t:rk0 n 1 b=(blen n:Int)-blen 1-b:=rfl
 obtain⟨D,p2,E,u,F⟩:=Zh1 (s:=s) (e:=e+rndK n 1 b) p qO qO
 rw[u]
 by_cases h:blen n≤b
 ·obtain⟨v,r2⟩:=ZlX a c h
  rw[v,r2,Zbr a]
  omega
 omega
theorem Zly {m n:Nat}:blen (m*n)≤blen m+blen n:=xH.2 (by rw[uU];exact pY (jX m) (jX n))
theorem Zmz (s t:Bool)(p q:Rat):svq s p*svq t q=svq (s != t) (p*q):=by
 cases s<;>cases t<;>simp[svq]<;>grind
theorem Nx.zero {g T:Int}{v:Fv3}(H:Nx g T v)(h:v.2.1=0):v.2.1=0∧v.2.2=0:=H.elim id (fun a=>qO)
theorem ZbU {v:Fv3}(h:v.2.1=0):fval v=0:=by
 obtain⟨s,m,e⟩:=v
 have:m=0:=h
 subst this;exact aR _ _
theorem Nx.pos {g T:Int}{v:Fv3}(H:Nx g T v)(h:¬ v.2.1=0):0<v.2.1 ∧ -g≤v.2.2∧(blen v.2.1:Int)+v.2.2≤T∧blen v.2.1≤80:=H.elim (fun a=>absurd a.1 h) id
theorem Zs8 {x y:Fv3}{b:Nat}{g h T U:Int}(k:0<b)(d:b≤79)(X:Nx g T x)(Y:Nx h U y)(l:g+h≤800000)(o:T+U+1≤900000):Gr b (fval x*fval y) (g+h) (T+U+1) (mulV x y b):=by
 unfold mulV
 by_cases i:x.2.1=0
 ·rw[i,sD,jJ]
  exact Gr.zero (by rw[ZbU i,mT])
 by_cases j:y.2.1=0
 ·rw[j,tX,jJ]
  exact Gr.zero (by rw[ZbU j,Rat.mul_zero])
 obtain⟨q,v,w,_⟩:=X.pos i
 obtain⟨u,z,A,_⟩:=Y.pos j
 have B:=Zly (m:=x.2.1) (n:=y.2.1)
 have:=Zf0 (s:=x.1 != y.1) (n:=x.2.1*y.2.1) (e:=x.2.2+y.2.2) (g:=g+h) (T:=T+U+1) (sK q u) k d qO qO l o
 have e:fval x*fval y=svq (x.1 != y.1) (((x.2.1*y.2.1:Nat):Rat)*2^(x.2.2+y.2.2)):=by
  obtain⟨s,m,e⟩:=x;obtain⟨t,n,f⟩:=y
  rw[dD,dD,Zmz,eW,sB]
  congr 1
  generalize (m:Rat)=a;generalize (n:Rat)=c;generalize (2:Rat)^e=p;generalize (2:Rat)^f=r
  grind
 rw[e];exact this
theorem Zlz {m n:Nat}{k:Nat}(b:blen m≤k)(d:blen n≤k):blen (m+n)≤k+1:=xH.2 (by
 have a:=xH.1 b;have c:=xH.1 d;rw[uO];omega)
theorem ZdE {m k:Nat}:blen (m*2^k)≤blen m+k:=by
 rcases uJ m with h|h
 ·rw[h,sD,iT];omega
 exact Nat.le_of_eq (dE h k)
theorem ZpH (s t:Bool)(a c:Nat):(sg s a+sg t c).natAbs≤a+c:=by cases s<;>cases t<;>simp[sg]<;>omega
theorem ZeM {v:Fv3}{f:Int}(h:f≤v.2.2):fval v=qv (sg v.1 (v.2.1*2^(v.2.2-f).toNat)) f:=by
 unfold fval
 rw[←Zkn,Zer];congr 1;omega
theorem ZnO {a c:Nat}(h:a≤c):blen a≤blen c:=xH.2 (vA h (jX c))
theorem Zs9 {x y:Fv3}{b:Nat}{g T:Int}(i:0<b)(a:b≤79)(X:Nx g T x)(Y:Nx g T y)(j:g≤800000)(l:T+3≤900000):Gr b (fval x+fval y) g (T+3) (sumR x.1 x.2.1 x.2.2 y.1 y.2.1 y.2.2 b):=by
 have one:∀ z:Fv3,Nx g T z→Gr b (fval z) g (T+3) (wX z.1 z.2.1 1 z.2.2 b):=fun z Z=>by
  by_cases c:z.2.1=0
  ·rw[c,jJ];exact Gr.zero (ZbU c)
  obtain⟨o,w,A,_⟩:=Z.pos c
  have:=Zf0 (s:=z.1) (e:=z.2.2) (g:=g) (T:=T+3) o i a qO qO j l
  obtain⟨s,m,e⟩:=z
  rw[dD];exact this
 unfold sumR
 by_cases d:x.2.1=0
 ·rw[uM d,ZbU d,Rat.zero_add];exact one y Y
 rw[uI d]
 by_cases h:y.2.1=0
 ·rw[uM h,ZbU h,Rat.add_zero];exact one x X
 rw[uI h]
 obtain⟨B,C,D,_⟩:=X.pos d
 obtain⟨E,F,G,_⟩:=Y.pos h
 unfold addR
 have ex:=ZeM (v:=x) (f:=min x.2.2 y.2.2) qO
 have p:=ZeM (v:=y) (f:=min x.2.2 y.2.2) qO
 have q:=ZdE (m:=x.2.1) (k:=(x.2.2-min x.2.2 y.2.2).toNat)
 have r:=ZdE (m:=y.2.1) (k:=(y.2.2-min x.2.2 y.2.2).toNat)
 have H : -g≤min x.2.2 y.2.2:=qO
 have t:min x.2.2 y.2.2≤T:=qO
 have I:(blen (x.2.1*2^(x.2.2-min x.2.2 y.2.2).toNat):Int)≤T-min x.2.2 y.2.2:=qO
 have J:(blen (y.2.1*2^(y.2.2-min x.2.2 y.2.2).toNat):Int)≤T-min x.2.2 y.2.2:=qO
 generalize x.2.1*2^(x.2.2-min x.2.2 y.2.2).toNat=m at *
 generalize y.2.1*2^(y.2.2-min x.2.2 y.2.2).toNat=n at *
 generalize min x.2.2 y.2.2=f at *
 have e:fval x+fval y=qv (sg x.1 m+sg y.1 n) f:=by rw[ex,p,ZpB]
 rw[e]
 have K:=uA (ZnO (ZpH x.1 y.1 m n)) (Zlz (k:=(T-f).toNat) qO qO)
 generalize sg x.1 m+sg y.1 n=z at *
 by_cases c:z.natAbs=0
 ·rw[c,jJ]
  exact Gr.zero (by rw[show z=0 by omega];exact ZhW _)
 have:=Zf0 (s:=decide (z<0)) (n:=z.natAbs) (e:=f) (g:=g) (T:=T+3) qO i a qO qO j l
 have u:qv z f=svq (decide (z<0)) ((z.natAbs:Rat)*2^f):=by
  have:=Zja (decide (z<0)) z.natAbs f
  rw[ZbQ] at this;exact this
 rw[u];exact this
theorem Zta {x y:Fv3}{b:Nat}{g T:Int}(c:0<b)(a:b≤79)(X:Nx g T x)(Y:Nx g T y)(d:g≤800000)(f:T+3≤900000):Gr b (fval x-fval y) g (T+3) (subV x y b):=by
 have i:fval (if y.2.1=0 then y.1 else !y.1,y.2.1,y.2.2) = -fval y:=by
  obtain⟨s,m,e⟩:=y
  by_cases h:m=0
  ·subst h;rw[aR,aR,Rat.neg_zero]
  show fval (if m=0 then s else !s,m,e)=_
  rw[uI h,dD,dD]
  cases s<;>simp[svq]
 have:=Zs9 (y:=(if y.2.1=0 then y.1 else !y.1,y.2.1,y.2.2)) c a X Y d f
 rw[i,← Rat.sub_eq_add_neg] at this
 exact this
theorem Zrc (x:Rat):(-x)⁻¹ = -x⁻¹:=by grind
theorem Ztb {x y:Fv3}{b:Nat}{g h T U:Int}(o:0<b)(i:b≤79)(X:Nx g T x)(Y:Nx h U y)(v:0<y.2.1){G V:Int}(w:g+U+b≤G)(z:T+h+2≤V)(A:G≤800000)(q:V≤900000):Gr b (fval x/fval y) G V (divV x y b):=by
 unfold divV Zch
 rw[uI qO]
 by_cases j:x.2.1=0
 ·rw[j,jJ]
  exact Gr.zero (by rw[ZbU j,oF,mT])
 obtain⟨l,B,C,_⟩:=X.pos j
 obtain⟨k,D,E,_⟩:=Y.pos qO
 have F:=gK l
 have H:=gK k
 have:=Zmy (s:=x.1 != y.1) (n:=x.2.1) (d:=y.2.1) (e:=x.2.2-y.2.2) (g:=G) (T:=V) l k o i qO qO qO q
 have e:fval x/fval y=svq (x.1 != y.1) ((x.2.1:Rat)/y.2.1*2^(x.2.2-y.2.2)):=by
  obtain⟨s,m,e⟩:=x;obtain⟨t,n,f⟩:=y
  have I:(n:Rat)≠0:=fun e=>by have:=Rat.natCast_eq_zero_iff.1 e;have:0<n:=k;omega
  have J:=gM f
  have u:(svq t ((n:Rat)*2^f))⁻¹=svq t ((n:Rat)⁻¹*2^(-f)):=by
   have:(2:Rat)^(-f)=(2^f)⁻¹:=mS _ _
   rw[this]
   cases t
   ·show ((n:Rat)*2^f)⁻¹=(n:Rat)⁻¹*(2^f)⁻¹
    rw[Rat.inv_mul_rev,pU]
   show (-((n:Rat)*2^f))⁻¹ = -((n:Rat)⁻¹*(2^f)⁻¹)
   rw[Zrc,Rat.inv_mul_rev,pU]
  rw[dD,dD,oF,u,Zmz,Int.sub_eq_add_neg,eW,oF]
  congr 1
  generalize (m:Rat)=a;generalize (n:Rat)⁻¹=c;generalize (2:Rat)^e=p;generalize (2:Rat)^(-f)=r
  grind
 rw[e];exact this
theorem Zrd {x:Fv3}{b:Nat}{g T:Int}(h:0<b)(k:b≤79)(X:Nx g T x)(l:x.1=false)(o:0<x.2.1){G V:Int}(B:g+2*b≤2*G)(C:T+4≤2*V)(D:G≤800000)(F:V≤900000) :
 (iP x b).err=0∧Nx G V (fvR (iP x b))∧0<fval (fvR (iP x b))∧(fval (fvR (iP x b))-fval (fvR (iP x b))*2^(-(b:Int)))*(fval (fvR (iP x b))-fval (fvR (iP x b))*2^(-(b:Int)))≤fval x∧fval x≤(fval (fvR (iP x b))+fval (fvR (iP x b))*2^(-(b:Int)))*(fval (fvR (iP x b))+fval (fvR (iP x b))*2^(-(b:Int))):=by
 obtain⟨s,M,E⟩:=x
 have d:s=false:=l
 subst d
 have a:0<M:=o
 obtain⟨_,p,q,_⟩:=X.pos (by show ¬ M=0;omega)
 have r : -g≤E:=p
 have t:(blen M:Int)+E≤T:=q
 have H:=gK a
 have u:iP (false,M,E) b=xU false (sqM M E b) (sqK M E b):=by
  unfold iP fX Zbf
  show (if false=true then _ else if M=0 then _ else _)=_
  rw[uI qD,uI qO]
 rw[u]
 obtain⟨i,v⟩:=ZpA (M:=M) (n:=b) (E:=E) a h
 have w:sqK M E b=((blen M:Int)+E-1)/2-((b:Int)-1):=rfl
 have c:=Zmq (M:=M) (bits:=b) (E:=E) h rfl rfl i
 generalize sqM M E b=m at *
 generalize sqK M E b=K at *
 have j:0<m:=uT (p2 _) i
 have y:blen m≤b+1:=xH.2 (vA v (by rw[uO];have:=p2 b;omega))
 obtain⟨z,p2,A,I,J⟩:=Zh1 (s:=false) (e:=K) j qO qO
 have f:fval (fvR (xU false m K))=(m:Rat)*2^K:=p2
 have Q:fval (false,M,E)=(M:Rat)*2^E:=dD false M E
 rw[f,Q]
 refine⟨z,Or.inr ⟨A,?_,?_,?_⟩,mJ (pS.2 j) (gM K),c.1,c.2⟩
 ·show -G≤(xU false m K).e
  omega
 ·show (blen (xU false m K).m:Int)+(xU false m K).e≤V
  omega
 show blen (xU false m K).m≤80
 omega
theorem Nx.top {g T U:Int}{v:Fv3}(H:Nx g T v)(b : -(2^U)<fval v)(f:fval v<2^U):Nx g U v:=by
 by_cases h:v.2.1=0
 ·exact Or.inl (H.zero h)
 obtain⟨a,c,_,d⟩:=H.pos h
 refine Or.inr ⟨a,c,?_,d⟩
 obtain⟨s,m,e⟩:=v
 have i:0<m:=a
 show (blen m:Int)+e≤U
 refine Int.not_lt.1 fun l=>?_
 have n:(m:Rat)*2^e<2^U:=by
  rw[dD] at b f
  cases s
  ·exact f
  have o : -(2:Rat)^U < -((m:Rat)*2^e):=b
  grind
 have j:((2^(blen m-1):Nat):Rat)≤m:=tQ.2 (ZbL i)
 have k:=Zce (gM e) j
 rw[←fF,← eW] at k
 have p:=Zni (show U≤((blen m-1:Nat):Int)+e by have:=gK i;omega)
 grind
end Go.Proofs.YtmpffakfhcpjoaaGreatDoor
namespace Go.Proofs.YtmpffakfhcpjoaaGreatDoor
open Go.RowKit Tryz
theorem Ztc {r c:Int}(d:1≤r)(a:r≤64)(e:1≤c)(b:c≤64):IntKind.i64.wrap (r*c)=r*c:=by
 have f:r*c≤64*64:=Int.mul_le_mul a b qO qD
 have g:0≤r*c:=Int.mul_nonneg qO qO
 rw[IntKind.wrap_i64];omega
theorem ZaA {i c:Nat}(a:i≤64)(b:c≤64):IntKind.i64.wrap ((i:Int)*(c:Int))=((i*c:Nat):Int):=by
 have d:i*c≤64*64:=vK a b
 rw[IntKind.wrap_i64,← tG];omega
instance {m:Nat}:Nonempty {b:Nat // m≤b}:=⟨⟨m,uF _⟩⟩
theorem Zf1 {a b:Int}(h:a=b):(a != b)=false:=by simp[h]
theorem wP {α:Type}[Inhabited α]{l:List α}{j:Nat}(h:j<l.length):l[j]! ∈ l:=by rw[vT l j h];exact sF h
def fl0:ByteArray×Int:=(⟨#[]⟩,0)
def stC (s:ByteArray):List Value:=[.string s]
theorem Zby (s:ByteArray):(stC s).length=1:=rfl
theorem ZeN (s:ByteArray):∀ (k:IntKind) (z:Int),Value.int k z∈stC s→k=.i64:=fun k z h=>by simp[stC] at h
def fY {α β:Type} (f:α→β) (z:β) (xs:List α) (k:Nat):List β:=fill xs.length z ((xs.take k).map f)
theorem Zbn {α β:Type}(f:α→β)(z:β)(xs:List α):fY f z xs 0=List.replicate xs.length z:=by unfold fY;rw[List.take_zero,nB,Zaz]
theorem Zcq {α β:Type}{f:α→β}{z:β}{xs:List α}{k:Nat}:(fY f z xs k).length=xs.length:=by unfold fY;exact Zax (by rw[vG,uN];omega)
theorem Zcr {α β:Type}(f:α→β)(z:β)(xs:List α):fY f z xs xs.length=xs.map f:=by
 unfold fY;rw[pK];have:=Zay (z:=z) (l:=xs.map f);rwa [vG] at this
theorem Zcs {α β:Type}[Inhabited α]{f:α→β}{z v:β}{xs:List α}{k:Nat}(a:k<xs.length)(c:f xs[k]! = v):(fY f z xs k).set k v=fY f z xs (k+1):=by
 unfold fY
 have b:((xs.take k).map f).length=k:=by rw[vG,uN];omega
 have:=Zkt (n:=xs.length) (z:=z) (x:=v) (l:=(xs.take k).map f) (by rw[b];exact a)
 rw[b] at this
 rw[this,← c,vT xs k a,tO a,nJ,nQ]
noncomputable def rdF (b:Int) (s:ByteArray):ByteArray×Int:=(⟨(frT (kW (bytes s) b)).toArray⟩,frE (kW (bytes s) b))
def ZrY (r c:Nat) (fs:List (ByteArray×Int)) (w:World) (e:Ending) (w':World):Prop:=∃ b,e=.returned (.tuple #[.agg #[.int .i64 ((r:Nat):Int),.int .i64 ((c:Nat):Int),.slice (some ⟨b,0,none⟩) fs.length fs.length],.int .i64 0])∧OwnD w' w.heap.size 67 2 (some ⟨b,0,none⟩) fs.length fs.length (fs.flatMap flC)∧Ext w w'
theorem Zut {r c:Int}{n:Nat}(h:1≤r∧r≤64∧1≤c∧c≤64∧(((n:Nat):Int):Int)=r*c):n≤4096:=by
 have a:r*c≤64*64:=Int.mul_le_mul h.2.1 h.2.2.2.1 qO qD
 have:=h.2.2.2.2
 omega
def mtB (r c:Int) (ts:List ByteArray):Bool:=decide (1≤r∧r≤64∧1≤c∧c≤64∧((ts.length:Nat):Int)=r*c) && ts.all (fun s=>(wA (bytes s)).isSome)
theorem Zre {p:Nat→Prop}{k:Nat}(h:∀ j,j<k→p j)(b:p k):∀ j,j<k+1→p j:=fun j c=>by
 rcases vO j k with a|a
 ·exact h j a
 rw[show j=k by omega];exact b
theorem ZmA {α:Type}[Inhabited α]{p:α→Bool}{l:List α}:l.all p=true↔∀ j,j<l.length→p l[j]! = true:=by
 rw[vI]
 exact⟨fun h j a=>h _ (by rw[vT l j a];exact sF a),fun h x b=>by
  obtain⟨j,a,e⟩:=pJ b
  have:=h j a
  rw[vT l j a,e] at this
  exact this⟩
theorem Ztd {r c:Int}{ts:List ByteArray}(a:1≤r∧r≤64∧1≤c∧c≤64∧((ts.length:Nat):Int)=r*c)(b:∀ j,j<ts.length→(wA (bytes ts[j]!)).isSome=true):mtB r c ts=true:=by
 unfold mtB;rw[vQ a,mI];exact ZmA.2 b
theorem Zuu {r c:Int}{ts:List ByteArray}{k:Nat}(a:k<ts.length)(hv:(wA (bytes ts[k]!)).isSome=false):mtB r c ts=false:=by
 unfold mtB
 rw[Bool.and_eq_false_iff]
 refine Or.inr ?_
 rw[rU]
 intro h
 rw[ZmA.1 h k a] at hv
 cases hv
theorem Zrf {r c:Int}{ts:List ByteArray}(a:¬ (1≤r∧r≤64∧1≤c∧c≤64∧((ts.length:Nat):Int)=r*c)):mtB r c ts=false:=by
 unfold mtB;rw[uV a,Bool.false_and]
theorem ZeO (r c:Int)(A:qA)(n k:Nat)(w:World) :
 Ζ 50 #[.agg #[.int .i64 r,.int .i64 c,.slice A n k]] w (RetV w (.bool (decide (1≤r∧r≤64∧1≤c∧c≤64∧((n:Nat):Int)=r*c)))):=by
 refine zU (Φ:=fun w=>True) func50 rfl qK (fun w' m=>trivial) ?_
 refine yY (xq 2 [Δ 1,yB 2 false] [(1,44,[Γ r,Γ c,Λ A n k])] ?_)
 refine yZ (yY (xq 4 [yB 6 (decide (1≤r))] [] ?_))
 rcases bl2 ((decide (1≤r))) with a|a
 ·rw[a]
  have g:=uC a
  refine xq 5 [yB 11 (decide (r≤64))] [] ?_
  rcases bl2 ((decide (r≤64))) with d|d
  ·rw[d]
   have i:=uC d
   refine xq 5 [yB 16 (decide (1≤c))] [] ?_
   rcases bl2 ((decide (1≤c))) with e|e
   ·rw[e]
    have j:=uC e
    refine xq 5 [yB 21 (decide (c≤64))] [] ?_
    rcases bl2 ((decide (c≤64))) with f|f
    ·rw[f]
     have l:=uC f
     refine xq 8 [yJ 24 n,yJ 29 (IntKind.i64.wrap (r*c))] [] ?_
     rw[(show IntKind.i64.wrap (r*c)=r*c from Ztc qO qO qO qO)]
     refine xq 3 [yB 2 (((n:Int):Int) == (r*c))] [] ?_
     refine yZ (zH ?_)
     refine yR (.bool (((n:Int):Int) == (r*c))) fun w' R Q=>?_
     exact⟨vP (fun b=>Ending.returned (.bool b)) (Bool.eq_iff_iff.2 (by rw[sZ,decide_eq_true_iff];exact⟨fun h=>⟨qO,qO,qO,qO,h⟩,fun h=>h.2.2.2.2⟩)),R⟩
    rw[f]
    have l:=uD f
    refine xq 11 [yB 2 false] [] ?_
    refine yZ (zH ?_)
    refine yR (.bool false) fun w' R Q=>?_
    exact⟨by rw[uV (fun h=>qO)],R⟩
   rw[e]
   have j:=uD e
   refine xq 16 [yB 2 false] [] ?_
   refine yZ (zH ?_)
   refine yR (.bool false) fun w' R Q=>?_
   exact⟨by rw[uV (fun h=>qO)],R⟩
  rw[d]
  have i:=uD d
  refine xq 21 [yB 2 false] [] ?_
  refine yZ (zH ?_)
  refine yR (.bool false) fun w' R Q=>?_
  exact⟨by rw[uV (fun h=>qO)],R⟩
 rw[a]
 have g:=uD a
 refine xq 26 [yB 2 false] [] ?_
 refine yZ (zH ?_)
 refine yR (.bool false) fun w' R Q=>?_
 exact⟨by rw[uV (fun h=>qO)],R⟩
theorem Zkv (r c:Int)(A:qA)(cap:Nat)(ts:List ByteArray)(w:World)(C:Glob w)(D:SRd w A ts)(o:∀ s∈ts,(bytes s).length≤570) :
 Ζ 29 #[.agg #[.int .i64 r,.int .i64 c,.slice A ts.length cap]] w (RetV w (.bool (mtB r c ts))):=by
 refine zU (Φ:=fun w=>(Glob w∧SRd w A ts)) func29 rfl qK (fun w' q=>⟨C.ext q,D.ext q⟩) ?_
 refine yY (xq 2 [Δ 1,yB 2 false] [(1,44,[Γ r,Γ c,Λ A ts.length cap])] ?_)
 refine yZ (zC (yY (xq 1 [(5,.v (.agg #[yI r, yI c,.slice A ts.length cap]))] [] ?_)))
 by_cases g:1≤r∧r≤64∧1≤c∧c≤64∧(((ts.length:Nat):Int):Int)=r*c
 ·have E:ts.length≤4096:=Zut g
  refine xqc 50 [.agg #[yI r, yI c,.slice A ts.length cap]] 6 (fun _:Unit=>.bool true) _ (fun w R Q=>(ZeO r c A ts.length cap _).mono (fun _ _ h=>zO h (by rw[vQ g]))) fun m=>?_
  refine xq 1 [yB 7 false] [] ?_
  refine yZ (xb (zJ (zA (zC (yY (xq 4 [eS1 9 A ts.length cap,yJ 10 ts.length,yJ 11 0] [] ?_))))))
  refine yZ (zQ ?_)
  refine xO (fun u y z=>∃ (k:Nat),y=ofL [yB 2 false,eS1 9 A ts.length cap,yJ 10 ts.length,yJ 11 k] []∧z=(fun w=>(Glob w∧SRd w A ts))∧(k≤ts.length)∧(∀ j,j<k→(wA (bytes ts[j]!)).isSome=true)∧u=(1+(ts.length-k))) ((1+(ts.length-0))) ⟨0,rfl,rfl,(vS _),(fun j F=>qO),rfl⟩ (fun w Q=>⟨Q.1.1,Q.1.2⟩) ?_
  rintro u y z ⟨k,rfl,rfl,G,B,rfl⟩
  refine yY (xq 1 [yB 12 (decide ((k:Int)<((ts.length:Nat):Int)))] [] ?_)
  refine yZ (zC ?_)
  refine yQ ((decide ((k:Int)<((ts.length:Nat):Int)))) (fun l=>?_) fun l=>?_
  ·have a:k<ts.length:=by have:=uC l;omega
   refine zJ (zA (zC (zQ (zC (zB ?_)))))
   refine xqk 13 (atA A (k*1)) (fun w R Q=>xE (t:=42) (e:=9) (sz:=1) (x:=.tmp 9) (ix:=.tmp 11) (len:=ts.length) (cap:=cap) (i:=k) (Q.2.ne a) a) ?_
   obtain⟨b,d⟩:∃ x,ts[k]! = x:=⟨_,rfl⟩
   refine xqk 14 (.string b) (fun w R Q=>by rw[←d];exact ZfZ (t:=9) (x:=.tmp 13) (j:=k) Q.2 a) ?_
   refine xq 1 [yT 4 b] [] ?_
   refine yZ (yY (xq 1 [yT 15 b] [] ?_))
   rcases bl2 (wA (bytes b)).isSome with f|f
   ·refine xqc 51 [.string b] 16 (fun _:Unit=>.bool true) _ (fun w R Q=>(aO b _ Q.1 (by rw[←d];exact o _ (by rw[vT ts k a];exact sF a))).mono (fun _ _ h=>zO h (by rw[f]))) fun m=>?_
    refine xq 1 [yB 17 false] [] ?_
    refine yZ (xb (zJ (xR (zA (zB (xq 1 [yJ 18 (IntKind.i64.wrap ((k:Int)+1))] [] ?_))))))
    rw[yW ((k:Int)+1) (((k+1:Nat):Int)) qO]
    refine xq 1 [yJ 11 (k+1:Nat)] [] ?_
    refine xe ?_
    exact xK ((1+(ts.length-(k+1)))) qO ⟨(k+1),rfl,rfl,a,(Zre B (by rw[d];exact f)),rfl⟩ (fun w Q=>⟨Q.1.1,Q.1.2⟩)
   refine xqc 51 [.string b] 16 (fun _:Unit=>.bool false) _ (fun w R Q=>(aO b _ Q.1 (by rw[←d];exact o _ (by rw[vT ts k a];exact sF a))).mono (fun _ _ h=>zO h (by rw[f]))) fun m=>?_
   refine xq 1 [yB 17 true] [] ?_
   refine yZ (xa (yY (xq 1 [yB 2 false] [] ?_)))
   refine yZ (zH (wY (zL (zL (wY (zL ?_))))))
   refine yR (.bool false) fun w' R Q=>?_
   exact⟨by rw[Zuu a (by rw[d];exact f)],R⟩
  have n:k=ts.length:=by have:=uD l;omega
  refine xM (zE (zE (xW (zA (yY (xq 1 [yB 2 true] [] ?_))))))
  refine yZ (zH ?_)
  refine yR (.bool true) fun w' R Q=>?_
  exact⟨by rw[Ztd (by assumption) (n ▸ B)],R⟩
 refine xqc 50 [.agg #[yI r, yI c,.slice A ts.length cap]] 6 (fun _:Unit=>.bool false) _ (fun w R Q=>(ZeO r c A ts.length cap _).mono (fun _ _ h=>zO h (by rw[uV g]))) fun m=>?_
 refine xq 1 [yB 7 true] [] ?_
 refine yZ (xa (yY (xq 1 [yB 2 false] [] ?_)))
 refine yZ (zH (zL ?_))
 refine yR (.bool false) fun w' R Q=>?_
 exact⟨by rw[Zrf (by assumption)],R⟩
theorem Zhb (m:Nat)(r c:Nat)(A:qA)(cap:Nat)(b:List (ByteArray×Int))(w:World)(l:OwnD w m 67 2 A cap b.length (b.flatMap flC))(s:1≤r∧r≤32)(u:1≤c∧c≤32)(y:b.length=r*c)(z:∀ x∈b,fvB (bytes x.1) x.2=true)(B:∀ x∈b,(bytes x.1).length≤1000) :
 Ζ 34 #[.agg #[.int .i64 ((r:Nat):Int),.int .i64 ((c:Nat):Int),.slice A b.length cap]] w (RetV w (.bool true)):=by
 have C:r*c≤32*32:=vK s.2 u.2
 refine zU (Φ:=fun w=>True) func34 rfl qK (fun w' E=>trivial) ?_
 refine yY (xq 2 [Δ 1,yB 2 false] [(1,38,[Γ r,Γ c,Λ A b.length cap])] ?_)
 refine yZ (zC (yY (xq 3 [yB 7 (decide ((r:Int)<1))] [] ?_)))
 rw[(show decide ((r:Int)<1)=false from uV qO)]
 refine xq 4 [yB 8 false,yB 11 (decide ((r:Int)>32))] [] ?_
 rw[(show decide ((r:Int)>32)=false from uV qO)]
 refine xq 5 [yB 13 false,yB 16 (decide ((c:Int)<1))] [] ?_
 rw[(show decide ((c:Int)<1)=false from uV qO)]
 refine xq 5 [yB 18 false,yB 21 (decide ((c:Int)>32))] [] ?_
 rw[(show decide ((c:Int)>32)=false from uV qO)]
 refine xq 10 [yB 23 false,yJ 26 b.length,yJ 31 (IntKind.i64.wrap ((r:Int)*(c:Int)))] [] ?_
 rw[(show IntKind.i64.wrap ((r:Int)*(c:Int))=((r*c:Nat):Int) from ZaA qO qO)]
 refine xq 1 [yB 32 ((((b.length:Nat):Int):Int) != ((r*c:Nat):Int))] [] ?_
 rw[(show ((((b.length:Nat):Int):Int) != ((r*c:Nat):Int))=false from Zf1 (by rw[y]))]
 refine xq 1 [yB 33 false] [] ?_
 refine yZ (xb (zJ (zA (zC (yY (xq 4 [eS1 35 A b.length cap,yJ 36 b.length,yJ 37 0] [] ?_))))))
 refine yZ (zQ ?_)
 refine xO (fun n o q=>∃ (k:Nat),o=ofL [yB 2 false,eS1 35 A b.length cap,yJ 36 b.length,yJ 37 k] []∧q=(fun w=>True)∧(k≤b.length)∧n=(1+(b.length-k))) ((1+(b.length-0))) ⟨0,rfl,rfl,(vS _),rfl⟩ (fun w Q=>trivial) ?_
 rintro n o q ⟨k,rfl,rfl,F,rfl⟩
 refine yY (xq 1 [yB 38 (decide ((k:Int)<((b.length:Nat):Int)))] [] ?_)
 refine yZ (zC ?_)
 refine yQ ((decide ((k:Int)<((b.length:Nat):Int)))) (fun f=>?_) fun f=>?_
 ·have d:k<b.length:=by have:=uC f;omega
  refine zJ (zA (zC (zQ (zC (zB ?_)))))
  refine xqk 39 (atA A (k*2)) (fun w R Q=>xE (t:=36) (e:=67) (sz:=2) (x:=.tmp 35) (ix:=.tmp 37) (len:=b.length) (cap:=cap) (i:=k) ((OwnD.ext l R).ne d) d) ?_
  obtain⟨a,g⟩:∃ x,b[k]! = x:=⟨_,rfl⟩
  refine xqk 40 (yS a.1 a.2) (fun w R Q=>by rw[←g];exact aQ (t:=67) (x:=.tmp 39) (j:=k) (OwnD.ext l R) Zaw d) ?_
  refine xq 2 [Δ 4] [yG 4 67 a.1 a.2] ?_
  refine yZ (yY (xq 1 [(41,.v (yS a.1 a.2))] [] ?_))
  refine xqc 68 [yS a.1 a.2] 42 (fun _:Unit=>.bool true) _ (fun w R Q=>(Zdw a.1 a.2 _ (by rw[←g];exact uA (B _ (wP d)) qD)).mono (fun _ _ h=>zO h (by rw[show fvB (bytes a.1) a.2=true by rw[←g];exact z _ (wP d)]))) fun G=>?_
  refine xq 1 [yB 43 false] [] ?_
  refine yZ (xb (zJ (xR (zA (zB (xq 1 [yJ 44 (IntKind.i64.wrap ((k:Int)+1))] [] ?_))))))
  rw[yW ((k:Int)+1) (((k+1:Nat):Int)) qO]
  refine xq 1 [yJ 37 (k+1:Nat)] [] ?_
  refine xe ?_
  exact xK ((1+(b.length-(k+1)))) qO ⟨(k+1),rfl,rfl,d,rfl⟩ (fun w Q=>trivial)
 have D:k=b.length:=by have:=uD f;omega
 refine xM (zE (zE (xW (zA (yY (xq 1 [yB 2 true] [] ?_))))))
 refine yZ (zH ?_)
 refine yR (.bool true) fun w' R Q=>?_
 exact⟨rfl,R⟩
theorem ZiI (r c:Nat)(A:qA)(cap:Nat)(ts:List ByteArray)(b:Int)(w:World)(G:Glob w)(D:SRd w A ts)(H:∀ s∈ts,(bytes s).length≤570)(M:mtB r c ts=true)(N:8≤b)(O:b≤1024)(T:r≤32)(U:c≤32)(V:ts.length≤1024)(P:∀ s∈ts,(kW (bytes s) b).err=0) :
 Ζ 9 #[.agg #[.int .i64 ((r:Nat):Int),.int .i64 ((c:Nat):Int),.slice A ts.length cap],.int .i64 b] w (ZrY r c (ts.map (rdF b)) w):=by
 obtain⟨C,u⟩:∃ m,m=w.heap.size:=⟨_,rfl⟩
 refine zU (Φ:=fun w=>True) func9 rfl qK (fun w' W=>trivial) ?_
 refine yY (xq 3 [Δ 2,Δ 4,yJ 5 0] [(4,38,[Γ 0,Γ 0,Ω]),(2,44,[Γ r,Γ c,Λ A ts.length cap])] ?_)
 refine yZ (zC (yY (xq 1 [(11,.v (.agg #[yI r, yI c,.slice A ts.length cap]))] [] ?_)))
 refine xqc 29 [.agg #[yI r, yI c,.slice A ts.length cap]] 12 (fun _:Unit=>.bool true) _ (fun w R Q=>(Zkv (r:Int) (c:Int) A cap ts _ (G.ext R) (D.ext R) H).mono (fun _ _ h=>zO h (by rw[M]))) fun S=>?_
 refine xq 1 [yB 13 false] [] ?_
 refine yZ (xb (zJ (zA (zC (yY (xq 2 [yB 16 (decide (b<8))] [] ?_))))))
 rw[(show decide (b<8)=false from uV qO)]
 refine xq 3 [yB 17 false,yB 19 (decide (b>1024))] [] ?_
 rw[(show decide (b>1024)=false from uV qO)]
 refine xq 1 [yB 20 false] [] ?_
 refine yZ (xb (zJ (zA (zC (yY (xq 3 [yB 24 (decide ((r:Int)>32))] [] ?_))))))
 rw[(show decide ((r:Int)>32)=false from uV qO)]
 refine xq 4 [yB 25 false,yB 28 (decide ((c:Int)>32))] [] ?_
 rw[(show decide ((c:Int)>32)=false from uV qO)]
 refine xq 1 [yB 29 false] [] ?_
 refine yZ (xb (zJ (zA (zC ?_))))
 refine yO 10 zM ?_
 refine xqg 7 [yJ 32 r,yJ 34 c,yJ 37 ts.length] ?_
 refine ZcT 38 (fun E:{b:Nat // C≤b}=>Υ E.1 ts.length) (fun E w=>OwnD w C 67 2 (yL E.1) ts.length ts.length ((List.replicate ts.length fl0).flatMap flC)) qK qK qK qK qK qK qK (fun w R Q=>iO (t:=36) (e:=67) (kl:=.i64) (kc:=.i64) (l:=.tmp 37) (c:=.tmp 37) (bytes:=24) (z:=.agg #[.string ⟨#[]⟩, yI 0]) fl0 Zaw qD rfl Zg9 (u ▸ R.size) (by simp only[maxLen];omega) qO) fun⟨d,I⟩=>?_
 refine xf 2 [yJ 1 b,Δ 2,Δ 4,yJ 5 0,Δ 6,(39,.v (.agg #[yI r, yI c,Υ d ts.length]))] [(6,38,[Γ 0,Γ 0,Ω]),(4,38,[Γ 0,Γ 0,Ω]),(2,44,[Γ r,Γ c,Λ A ts.length cap])] ?_
 refine xz (xq 1 [] [(6,38,[Γ r,Γ c,Λ (yL d) ts.length ts.length])] ?_)
 refine yZ (zC (yY (xq 4 [eS1 41 A ts.length cap,yJ 42 ts.length,yJ 43 0] [] ?_)))
 refine yZ (zQ ?_)
 refine xO (fun J K L=>∃ (k:Nat),K=ofL [yJ 1 b,Δ 4,yJ 5 0,Δ 6,eS1 41 A ts.length cap,yJ 42 ts.length,yJ 43 k] [(6,38,[Γ r,Γ c,Λ (yL d) ts.length ts.length]),(4,38,[Γ 0,Γ 0,Ω])]∧L=(fun w=>OwnD w C 67 2 (yL d) ts.length ts.length ((fY (rdF b) fl0 ts k).flatMap flC))∧(k≤ts.length)∧J=(1+(ts.length-k))) ((1+(ts.length-0))) ⟨0,rfl,rfl,(vS _),rfl⟩ (fun w Q=>(by rw[Zbn];exact Q.2)) ?_
 rintro J K L ⟨k,rfl,rfl,X,rfl⟩
 refine yY (xq 1 [yB 44 (decide ((k:Int)<((ts.length:Nat):Int)))] [] ?_)
 refine yZ (zC ?_)
 refine yQ ((decide ((k:Int)<((ts.length:Nat):Int)))) (fun o=>?_) fun o=>?_
 ·have f:k<ts.length:=by have:=uC o;omega
  refine zJ (zA (zC (zQ (yY (xq 1 [yJ 45 k] [] ?_)))))
  refine xqk 46 (atA A (k*1)) (fun w R Q=>xE (t:=42) (e:=9) (sz:=1) (x:=.tmp 41) (ix:=.tmp 43) (len:=ts.length) (cap:=cap) (i:=k) ((D.ext R).ne f) f) ?_
  obtain⟨n,g⟩:∃ x,ts[k]! = x:=⟨_,rfl⟩
  refine xqk 47 (.string n) (fun w R Q=>by rw[←g];exact ZfZ (t:=9) (x:=.tmp 46) (j:=k) (D.ext R) f) ?_
  refine xq 2 [yJ 7 k,yT 8 n] [] ?_
  refine yZ (yY (xq 2 [yT 49 n,yJ 50 b] [] ?_))
  obtain⟨a,q⟩:=yE (kW (bytes n) b)
  have B:a.err=0:=by rw[←q,← g];exact P _ (wP f)
  refine xqc 30 [.string n, yI b] 51 (fun _:Unit=>.tuple #[yS ⟨(frT a).toArray⟩ (frE a), yI 0]) _ (fun w R Q=>(ZnJ n b _ (G.ext R) (by rw[←g];exact H _ (wP f))).mono (fun _ _ h=>zO h (by rw[q,B]))) fun S=>?_
  refine xq 6 [Δ 9,yJ 10 0] [yG 9 67 ⟨(frT a).toArray⟩ (frE a)] ?_
  refine yZ (zC (yY (xq 2 [yB 55 false] [] ?_)))
  refine yZ (xb (zJ (zA (zB (xq 4 [eS1 59 (yL d) ts.length ts.length,yJ 60 k,(61,.v (yS ⟨(frT a).toArray⟩ (frE a)))] [] ?_)))))
  refine xqk 62 (.pointer (some ⟨d,0+k*2,none⟩)) (fun w R Q=>jV (t:=36) (e:=67) (sz:=2) (x:=.tmp 59) (ix:=.tmp 60) (len:=ts.length) (cap:=ts.length) (i:=k) f) ?_
  refine dC (t:=67) (x:=.tmp 62) (y:=.tmp 61) (j:=k) (new:=flC ((⟨(frT a).toArray⟩,frE a))) C d (yS ⟨(frT a).toArray⟩ (frE a)) (fun w=>True) (fun w Q=>Q.1) f rfl qD (fun h=>Or.inl (uA (u ▸ uF _) h)) (by simp[flC,Value.oneCell']) (Zg9 _) rfl (fun w w' Q Y=>trivial) ?_
  rw[←jU Zaw ((fY (rdF b) fl0 ts k)) k ((⟨(frT a).toArray⟩,frE a)) (by rw[Zcq];exact f),Zcs f (by rw[g,rdF,q])]
  refine xr 0 [yJ 1 b,Δ 4,yJ 5 0,Δ 6,eS1 41 A ts.length cap,yJ 42 ts.length,yJ 43 k] [(6,38,[Γ r,Γ c,Λ (yL d) ts.length ts.length]),(4,38,[Γ 0,Γ 0,Ω])] ?_
  refine xe (xR (zA (zB (xq 1 [yJ 63 (IntKind.i64.wrap ((k:Int)+1))] [] ?_))))
  rw[yW ((k:Int)+1) (((k+1:Nat):Int)) qO]
  refine xq 1 [yJ 43 (k+1:Nat)] [] ?_
  refine xe ?_
  exact xK ((1+(ts.length-(k+1)))) qO ⟨(k+1),rfl,rfl,f,rfl⟩ (fun w Q=>Q.2)
 have F:k=ts.length:=by have:=uD o;omega
 refine xM (zE (zE (xW (zA (yY (xq 3 [yJ 5 0] [(4,38,[Γ r,Γ c,Λ (yL d) ts.length ts.length])] ?_))))))
 refine yZ (zH ?_)
 refine yR (.tuple #[.agg #[yI r, yI c,Υ d ts.length], yI 0]) fun w' R Q=>?_
 exact⟨d,by rw[vG],by have h:=Q;rw[F,Zcr] at h;rw[vG];exact u ▸ h,R⟩
theorem ZiJ (r c:Nat)(w:World)(j:r≤64)(k:c≤64) :
 Ζ 60 #[.int .i64 ((r:Nat):Int),.int .i64 ((c:Nat):Int)] w (fun e w'=>∃ b,e=.returned (.agg #[.int .i64 ((r:Nat):Int),.int .i64 ((c:Nat):Int),.slice (some ⟨b,0,none⟩) (r*c) (r*c)])∧OwnD w' w.heap.size 99 3 (some ⟨b,0,none⟩) (r*c) (r*c) ((List.replicate (r*c) nb0).flatMap nbC)∧Ext w w'):=by
 obtain⟨h,f⟩:∃ m,m=w.heap.size:=⟨_,rfl⟩
 have n:r*c≤64*64:=vK j k
 refine zU (Φ:=fun w=>True) func60 rfl qK (fun w' o=>trivial) ?_
 refine yY (xq 1 [Δ 4] [(4,75,[Γ 0,Γ 0,Ω])] ?_)
 refine yZ (yY (xq 5 [yJ 5 r,yJ 6 c,yJ 9 (IntKind.i64.wrap ((r:Int)*(c:Int)))] [] ?_))
 rw[(show IntKind.i64.wrap ((r:Int)*(c:Int))=((r*c:Nat):Int) from ZaA qO qO)]
 refine yD (d:=10) (fun g:{b:Nat // h≤b}=>Υ g.1 (r*c)) (fun g w=>OwnD w h 99 3 (yL g.1) (r*c) (r*c) ((List.replicate (r*c) nb0).flatMap nbC)) (fun w R Q=>iO (t:=73) (e:=99) (kl:=.i64) (kc:=.i64) (l:=.tmp 9) (c:=.tmp 9) (bytes:=40) (z:=.agg #[.bool false,Ξ, yI 0]) nb0 Zbx qD rfl Zks (f ▸ R.size) (by simp only[maxLen];omega) qO) fun⟨a,i⟩=>?_
 refine xr 2 [Δ 4] [(4,75,[Γ r,Γ c,Λ (yL a) (r*c) (r*c)])] ?_
 refine yZ (zH ?_)
 refine yR (.agg #[yI r, yI c,Υ a (r*c)]) fun w' R Q=>?_
 exact⟨a,rfl,f ▸ Q.2,R⟩
theorem Ze9 (m r c:Nat)(A:qA)(cap n:Nat)(xs:List Nb)(i j:Nat)(w:World)(f:OwnD w m 99 3 A cap n (xs.flatMap nbC))(g:xs.length=n)(hi:i≤64)(h:c≤64)(d:i*c+j<n)(k:n≤4096) :
 Ζ 61 #[.agg #[.int .i64 ((r:Nat):Int),.int .i64 ((c:Nat):Int),.slice A n cap],.int .i64 ((i:Nat):Int),.int .i64 ((j:Nat):Int)] w (RetV w (.agg #[.bool xs[i*c+j]!.s,.slice xs[i*c+j]!.A xs[i*c+j]!.l xs[i*c+j]!.c,.int .i64 xs[i*c+j]!.e])):=by
 refine zU (Φ:=fun w=>True) func61 rfl qK (fun w' o=>trivial) ?_
 refine yY (xq 2 [Δ 3,Δ 6] [yF 6 99 false none 0 0 0,(3,75,[Γ r,Γ c,Λ A n cap])] ?_)
 refine yZ (yY (xq 6 [eS1 8 A n cap,yJ 12 (IntKind.i64.wrap ((i:Int)*(c:Int)))] [] ?_))
 rw[(show IntKind.i64.wrap ((i:Int)*(c:Int))=((i*c:Nat):Int) from ZaA qO qO)]
 refine xq 2 [yJ 14 (IntKind.i64.wrap (((i*c:Nat):Int)+(j:Int)))] [] ?_
 rw[(show IntKind.i64.wrap (((i*c:Nat):Int)+(j:Int))=((i*c+j:Nat):Int) by rw[IntKind.wrap_i64];omega)]
 refine xqk 15 (atA A ((i*c+j)*3)) (fun w R Q=>xE (t:=73) (e:=99) (sz:=3) (x:=.tmp 8) (ix:=.tmp 14) (len:=n) (cap:=cap) (i:=i*c+j) ((OwnD.ext f R).ne d) d) ?_
 obtain⟨a,b⟩:∃ x,xs[i*c+j]! = x:=⟨_,rfl⟩
 refine xqk 16 (yV a.s a.A a.l a.c a.e) (fun w R Q=>by rw[←b];exact aQ (t:=99) (x:=.tmp 15) (j:=i*c+j) (OwnD.ext f R) Zbx (g.symm ▸ d)) ?_
 refine xq 1 [] [yF 6 99 a.s a.A a.l a.c a.e] ?_
 refine yZ (zH ?_)
 refine yR (yV a.s a.A a.l a.c a.e) fun w' R Q=>?_
 exact⟨by rw[←b],R⟩
theorem Zkw (m r c b cap n:Nat)(xs:List Nb)(i j:Nat)(x:Nb)(w:World)(d:OwnD w m 99 3 (some ⟨b,0,none⟩) cap n (xs.flatMap nbC))(f:xs.length=n)(hi:i≤64)(h:c≤64)(a:i*c+j<n)(k:n≤4096) :
 Ζ 63 #[.agg #[.int .i64 ((r:Nat):Int),.int .i64 ((c:Nat):Int),.slice (some ⟨b,0,none⟩) n cap],.int .i64 ((i:Nat):Int),.int .i64 ((j:Nat):Int), yV x.s x.A x.l x.c x.e] w (fun e w'=>e=.returned (.tuple #[])∧Fr (fun i=>i=b) w w'∧OwnD w' m 99 3 (some ⟨b,0,none⟩) cap n ((xs.set (i*c+j) x).flatMap nbC)):=by
 refine ZeL (fun i=>i=b) (Φ:=fun w=>OwnD w m 99 3 (yL b) cap n (xs.flatMap nbC)) func63 rfl qK (fun w' g=>OwnD.ext d g) ?_
 refine yY (xq 2 [Δ 4,Δ 7] [yF 7 99 x.s x.A x.l x.c x.e,(4,75,[Γ r,Γ c,Λ (yL b) n cap])] ?_)
 refine yZ (zB (xq 6 [eS1 9 (yL b) n cap,yJ 13 (IntKind.i64.wrap ((i:Int)*(c:Int)))] [] ?_))
 rw[(show IntKind.i64.wrap ((i:Int)*(c:Int))=((i*c:Nat):Int) from ZaA qO qO)]
 refine xq 2 [yJ 15 (IntKind.i64.wrap (((i*c:Nat):Int)+(j:Int)))] [] ?_
 rw[(show IntKind.i64.wrap (((i*c:Nat):Int)+(j:Int))=((i*c+j:Nat):Int) by rw[IntKind.wrap_i64];omega)]
 refine xq 1 [(16,.v (yV x.s x.A x.l x.c x.e))] [] ?_
 refine xqk 17 (.pointer (some ⟨b,0+(i*c+j)*3,none⟩)) (fun w R Q=>jV (t:=73) (e:=99) (sz:=3) (x:=.tmp 9) (ix:=.tmp 15) (len:=n) (cap:=cap) (i:=i*c+j) a) ?_
 refine dC (t:=99) (x:=.tmp 17) (y:=.tmp 16) (j:=i*c+j) (new:=nbC x) m b (yV x.s x.A x.l x.c x.e) (fun w=>True) (fun w Q=>Q) a rfl qD (fun _=>Or.inr rfl) (by simp[nbC,Value.oneCell']) (Zks _) rfl (fun w w' Q o=>trivial) ?_
 rw[←jU Zbx xs (i*c+j) x (f.symm ▸ a)]
 refine xr 0 [] [] ?_
 refine xe ?_
 refine Zsh (v:=.tuple #[]) qK fun w' R Q=>?_
 exact⟨rfl,R,Q.2⟩
theorem ZdF (s:Bool)(A:qA)(l c:Nat)(e:Int)(w:World) :
 Ζ 64 #[yV s A l c e,.int .i64 0] w (RetV w (yV s A l c e)):=by
 refine zU (Φ:=fun w=>True) func64 rfl qK (fun w' a=>trivial) ?_
 refine yY (xq 2 [Δ 2,Δ 4] [yF 4 99 false none 0 0 0,yF 2 99 s A l c e] ?_)
 refine yZ (zC (yY (xq 2 [yB 6 false] [] ?_)))
 refine yZ (xb (zJ (zA (yY (xq 2 [] [yF 4 99 s A l c e] ?_)))))
 refine yZ (zH ?_)
 refine yR (yV s A l c e) fun w' R Q=>?_
 exact⟨rfl,R⟩
theorem OwnD.boxN {w w':World}{m n c k:Nat}{e:TypeId}{A:qA}{xs:List Value}(h:OwnD w' w.heap.size e k A c n xs)(a:m≤w.heap.size):BoxN w w' (fun v=>OwnD v m e k A c n xs):=fun S b d f=>OwnD.mono (h.fr f (fun i hi g=>by
 have j:=(h.blk hi).1
 have l:=(b i g).1
 omega)) a
theorem ZiK {r c n m0:Nat}{w w':World}{e:Ending}(a:m0≤w.heap.size)(f:r*c=n)(h:∃ b,e=.returned (.agg #[.int .i64 ((r:Nat):Int),.int .i64 ((c:Nat):Int),.slice (some ⟨b,0,none⟩) (r*c) (r*c)])∧OwnD w' w.heap.size 99 3 (some ⟨b,0,none⟩) (r*c) (r*c) ((List.replicate (r*c) nb0).flatMap nbC)∧Ext w w') :
 lD (fun b:{b:Nat // m0≤b}=>.agg #[.int .i64 ((r:Nat):Int),.int .i64 ((c:Nat):Int),.slice (some ⟨b.1,0,none⟩) n n]) (fun b w=>OwnD w m0 99 3 (some ⟨b.1,0,none⟩) n n ((List.replicate n nb0).flatMap nbC)) w e w':=by
 subst f
 obtain⟨b,rfl,d,Q⟩:=h
 exact⟨⟨b,uA a (d.blk rfl).1⟩,rfl,Q,d.boxN a⟩
theorem Za4 {n k:Nat}{α:Type}{z x:α}{l:List α}(a:l.length=k)(h:k<n):(fill n z l).set k x=fill n z (l ++ [x]):=by subst a;exact Zkt h
theorem Zf3 {α β γ:Type}[Inhabited β]{f:α→γ}{g:β→γ}{ys:List α}{a:List β}{k:Nat}{v:α}(c:ys.map f=(a.take k).map g)(b:k<a.length)(d:f v=g a[k]!):(ys ++ [v]).map f=(a.take (k+1)).map g:=by
 rw[nJ,c,nQ,d,vT a k b,tO b,nJ,nQ]
theorem wR.snoc {w:World}{ys:List Nb}{x:Nb}(h:wR w ys)(b:NbOk w x):wR w (ys ++ [x]):=fun y a=>by
 rcases rD.1 a with a|a
 ·exact h y a
 rw[rJ.1 a];exact b
def ldV (x:ByteArray×Int):Fv3:=((ldR (bytes x.1) x.2).s,(ldR (bytes x.1) x.2).m,(ldR (bytes x.1) x.2).e)
def ftV (x:Nb):ByteArray×Int:=(⟨(Lib.itoa (sg x.s x.m)).toArray⟩,x.e)
def exV (x:ByteArray×Int):ByteArray:=⟨(exT (bytes x.1) x.2).toArray⟩
def Zct (sh:Value→Value) (r c:Nat) (vs:List Fv3) (w:World) (e:Ending) (w':World):Prop:=∃ b xs,e=.returned (sh (.agg #[.int .i64 ((r:Nat):Int),.int .i64 ((c:Nat):Int),.slice (some ⟨b,0,none⟩) xs.length xs.length]))∧xs.map nbV=vs∧OwnD w' w.heap.size 99 3 (some ⟨b,0,none⟩) xs.length xs.length (xs.flatMap nbC)∧wR w' xs∧Ext w w'
def ZaU (sh:Value→Value) (r c:Nat) (fs:List (ByteArray×Int)) (w:World) (e:Ending) (w':World):Prop:=∃ b,e=.returned (sh (.agg #[.int .i64 ((r:Nat):Int),.int .i64 ((c:Nat):Int),.slice (some ⟨b,0,none⟩) fs.length fs.length]))∧OwnD w' w.heap.size 67 2 (some ⟨b,0,none⟩) fs.length fs.length (fs.flatMap flC)∧Ext w w'
theorem ZpJ (m:Nat)(r c:Nat)(A:qA)(cap:Nat)(a:List (ByteArray×Int))(w:World)(H:OwnD w m 67 2 A cap a.length (a.flatMap flC))(J:1≤r∧r≤32)(K:1≤c∧c≤32)(L:a.length=r*c)(M:∀ x∈a,fvB (bytes x.1) x.2=true)(N:∀ x∈a,(bytes x.1).length≤1000) :
 Ζ 85 #[.agg #[.int .i64 ((r:Nat):Int),.int .i64 ((c:Nat):Int),.slice A a.length cap]] w (Zct (fun v=>.tuple #[v,.bool true]) r c (a.map ldV) w):=by
 obtain⟨m0,E⟩:∃ m,m=w.heap.size:=⟨_,rfl⟩
 have V:r*c≤32*32:=vK J.2 K.2
 refine zU (Φ:=fun w=>True) func85 rfl qK (fun w' W=>trivial) ?_
 refine yY (xq 3 [Δ 1,Δ 2,yB 3 false] [(2,75,[Γ 0,Γ 0,Ω]),(1,38,[Γ r,Γ c,Λ A a.length cap])] ?_)
 refine yZ (zC (yY (xq 1 [(7,.v (.agg #[yI r, yI c,.slice A a.length cap]))] [] ?_)))
 refine xqc 34 [.agg #[yI r, yI c,.slice A a.length cap]] 8 (fun _:Unit=>.bool true) _ (fun w R Q=>yN (Zhb m r c A cap a _ (OwnD.ext H R) J K L M N)) fun X=>?_
 refine xq 1 [yB 9 false] [] ?_
 refine yZ (xb (zJ (zA (yY (xq 4 [yJ 12 r,yJ 14 c] [] ?_)))))
 refine xqc 60 [yI r, yI c] 15 (fun b:{b:Nat // m0≤b}=>.agg #[yI r, yI c,Υ b.1 a.length]) _ (fun w R Q=>(ZiJ r c _ qO qO).mono (fun _ _ h=>ZiK (m0:=m0) (E ▸ R.size) L.symm h)) fun⟨l,O⟩=>?_
 refine xq 2 [Δ 4] [(4,75,[Γ r,Γ c,Λ (yL l) a.length a.length])] ?_
 refine yZ (zC (yY (xq 4 [eS1 17 A a.length cap,yJ 18 a.length,yJ 19 0] [] ?_)))
 refine yZ (zQ ?_)
 refine xO (fun P S T=>∃ (k:Nat) (B:List Nb),S=ofL [Δ 2,yB 3 false,Δ 4,eS1 17 A a.length cap,yJ 18 a.length,yJ 19 k] [(4,75,[Γ r,Γ c,Λ (yL l) a.length a.length]),(2,75,[Γ 0,Γ 0,Ω])]∧T=(fun w=>(wR w B∧OwnD w m0 99 3 (yL l) a.length a.length ((fill a.length nb0 B).flatMap nbC)))∧(k≤a.length)∧(B.map nbV=(a.take k).map ldV)∧P=(1+(a.length-k))) ((1+(a.length-0))) ⟨0,([]:List Nb),rfl,rfl,(vS _),rfl,rfl⟩ (fun w Q=>⟨(fun _ h=>nomatch h),(by rw[Zaz];exact Q.2)⟩) ?_
 rintro P S T ⟨k,B,rfl,rfl,Y,G,rfl⟩
 refine yY (xq 1 [yB 20 (decide ((k:Int)<((a.length:Nat):Int)))] [] ?_)
 refine yZ (zC ?_)
 refine yQ ((decide ((k:Int)<((a.length:Nat):Int)))) (fun z=>?_) fun z=>?_
 ·have g:k<a.length:=by have:=uC z;omega
  have C:B.length=k:=by have:=vP List.length G;rw[vG,vG,uN] at this;omega
  refine zJ (zA (zC (zQ (yY (xq 1 [yJ 21 k] [] ?_)))))
  refine xqk 22 (atA A (k*2)) (fun w R Q=>xE (t:=36) (e:=67) (sz:=2) (x:=.tmp 17) (ix:=.tmp 19) (len:=a.length) (cap:=cap) (i:=k) ((OwnD.ext H R).ne g) g) ?_
  obtain⟨f,n⟩:∃ x,a[k]! = x:=⟨_,rfl⟩
  refine xqk 23 (yS f.1 f.2) (fun w R Q=>by rw[←n];exact aQ (t:=67) (x:=.tmp 22) (j:=k) (OwnD.ext H R) Zaw g) ?_
  refine xq 3 [yJ 5 k,Δ 6] [yG 6 67 f.1 f.2] ?_
  refine xe (zA ?_)
  refine Zrh 9 7 31 (fun _ _ _ _ h=>h) ?_
  refine xqg 4 [eS1 26 (yL l) a.length a.length,yJ 27 k,(28,.v (yS f.1 f.2))] ?_
  obtain⟨d,D⟩:=yE (ldR (bytes f.1) f.2)
  refine xqd 69 [yS f.1 f.2] 29 (shLd true d) _ (fun w R Q=>yM ZhU ((show Calls _ _ _ _ (Zg5 w true d) by rw[←D,← show fvB (bytes f.1) f.2=true by rw[←n];exact M _ (wP g)];exact ZeI f.1 f.2 _ (by rw[←n];exact uA (N _ (wP g)) qD)))) fun⟨o,q,u⟩=>?_
  refine xqg 3 [(30,.v (yV d.s o q u d.e))] ?_
  refine xqj 32 (.pointer (some ⟨l,0+k*3,none⟩)) (fun w Q=>jV (t:=73) (e:=99) (sz:=3) (x:=.tmp 26) (ix:=.tmp 27) (len:=a.length) (cap:=a.length) (i:=k) g) ?_
  refine xz ?_
  refine dC (t:=99) (x:=.tmp 32) (y:=.tmp 30) (j:=k) (new:=nbC ((⟨d.s,o,q,u,d.m,d.e⟩:Nb))) m0 l (yV d.s o q u d.e) (fun w=>(wR w B∧zF w (.slice o q u) d.m)) (fun w Q=>Q.1.2) g rfl qD (fun h=>Or.inl (uA (E ▸ uF _) h)) (by simp[nbC,Value.oneCell']) (Zks _) rfl (fun w w' Q U=>⟨wR.row Q.1.1 Q.1.2 U,zF.rowD Q.2 Q.1.2 U⟩) ?_
  rw[←jU Zbx ((fill a.length nb0 B)) k ((⟨d.s,o,q,u,d.m,d.e⟩:Nb)) (by rw[Zax qO];exact g),Za4 C g]
  refine xr 0 [Δ 2,yB 3 false,Δ 4,eS1 17 A a.length cap,yJ 18 a.length,yJ 19 k] [(4,75,[Γ r,Γ c,Λ (yL l) a.length a.length]),(2,75,[Γ 0,Γ 0,Ω])] ?_
  refine xe (xR (zA (zB (xq 1 [yJ 33 (IntKind.i64.wrap ((k:Int)+1))] [] ?_))))
  rw[yW ((k:Int)+1) (((k+1:Nat):Int)) qO]
  refine xq 1 [yJ 19 (k+1:Nat)] [] ?_
  refine xe ?_
  exact xK ((1+(a.length-(k+1)))) qO ⟨(k+1),(B ++ [(⟨d.s,o,q,u,d.m,d.e⟩:Nb)]),rfl,rfl,g,(Zf3 G g (by rw[n,ldV,D];rfl)),rfl⟩ (fun w Q=>⟨(wR.snoc Q.1.1 Q.1.2),Q.2⟩)
 have F:k=a.length:=by have:=uD z;omega
 have C:B.length=k:=by have:=vP List.length G;rw[vG,vG,uN] at this;omega
 refine xM (zE (zE (xW (zA (yY (xq 3 [yB 3 true] [(2,75,[Γ r,Γ c,Λ (yL l) a.length a.length])] ?_))))))
 refine yZ (zH ?_)
 refine yR (.tuple #[.agg #[yI r, yI c,Υ l a.length],.bool true]) fun w' R Q=>?_
 exact⟨l,B,by have h:=C;rw[F] at h;rw[h],by rw[G,F,pK],by have h:=Q.2;have I:=C;rw[F] at I;rw[←I,Zay] at h;rw[I] at h ⊢;exact E ▸ h,Q.1,R⟩
theorem ZlA (m r c:Nat)(A:qA)(cap n:Nat)(xs:List Nb)(w:World)(E:OwnD w m 99 3 A cap n (xs.flatMap nbC))(K:wR w xs)(q:xs.length=n)(L:Glob w)(M:n≤4096)(F:∀ x∈xs,wl x.m≤1000000∧(x.s=true→0<x.m)) :
 Ζ 86 #[.agg #[.int .i64 ((r:Nat):Int),.int .i64 ((c:Nat):Int),.slice A n cap]] w (ZaU (fun v=>v) r c (xs.map ftV) w):=by
 obtain⟨B,u⟩:∃ m,m=w.heap.size:=⟨_,rfl⟩
 refine zU (Φ:=fun w=>True) func86 rfl qK (fun w' N=>trivial) ?_
 refine yY (xq 2 [Δ 1,Δ 2] [(2,38,[Γ 0,Γ 0,Ω]),(1,75,[Γ r,Γ c,Λ A n cap])] ?_)
 refine yZ (zC ?_)
 refine yO 10 zM ?_
 refine xqg 7 [yJ 7 r,yJ 9 c,yJ 12 n] ?_
 refine ZcT 13 (fun C:{b:Nat // B≤b}=>Υ C.1 n) (fun C w=>OwnD w B 67 2 (yL C.1) n n ((List.replicate n fl0).flatMap flC)) qK qK qK qK qK qK qK (fun w R Q=>iO (t:=36) (e:=67) (kl:=.i64) (kc:=.i64) (l:=.tmp 12) (c:=.tmp 12) (bytes:=24) (z:=.agg #[.string ⟨#[]⟩, yI 0]) fl0 Zaw qD rfl Zg9 (u ▸ R.size) (by simp only[maxLen];omega) qO) fun⟨d,G⟩=>?_
 refine xf 2 [Δ 1,Δ 2,Δ 3,(14,.v (.agg #[yI r, yI c,Υ d n]))] [(3,38,[Γ 0,Γ 0,Ω]),(2,38,[Γ 0,Γ 0,Ω]),(1,75,[Γ r,Γ c,Λ A n cap])] ?_
 refine xz (xq 1 [] [(3,38,[Γ r,Γ c,Λ (yL d) n n])] ?_)
 refine yZ (zC (yY (xq 4 [eS1 16 A n cap,yJ 17 n,yJ 18 0] [] ?_)))
 refine yZ (zQ ?_)
 refine xO (fun H I J=>∃ (k:Nat),I=ofL [Δ 2,Δ 3,eS1 16 A n cap,yJ 17 n,yJ 18 k] [(3,38,[Γ r,Γ c,Λ (yL d) n n]),(2,38,[Γ 0,Γ 0,Ω])]∧J=(fun w=>OwnD w B 67 2 (yL d) n n ((fY ftV fl0 xs k).flatMap flC))∧(k≤n)∧H=(1+(n-k))) ((1+(n-0))) ⟨0,rfl,rfl,(vS _),rfl⟩ (fun w Q=>(by rw[Zbn,q];exact Q.2)) ?_
 rintro H I J ⟨k,rfl,rfl,O,rfl⟩
 refine yY (xq 1 [yB 19 (decide ((k:Int)<(n:Int)))] [] ?_)
 refine yZ (zC ?_)
 refine yQ ((decide ((k:Int)<(n:Int)))) (fun o=>?_) fun o=>?_
 ·have f:k<n:=by have:=uC o;omega
  refine zJ (zA (zC (zQ (yY (xq 1 [yJ 20 k] [] ?_)))))
  refine xqk 21 (atA A (k*3)) (fun w R Q=>xE (t:=73) (e:=99) (sz:=3) (x:=.tmp 16) (ix:=.tmp 18) (len:=n) (cap:=cap) (i:=k) ((OwnD.ext E R).ne f) f) ?_
  obtain⟨a,g⟩:∃ x,xs[k]! = x:=⟨_,rfl⟩
  refine xqk 22 (yV a.s a.A a.l a.c a.e) (fun w R Q=>by rw[←g];exact aQ (t:=99) (x:=.tmp 21) (j:=k) (OwnD.ext E R) Zbx (q.symm ▸ f)) ?_
  refine xq 3 [yJ 4 k,Δ 5] [yF 5 99 a.s a.A a.l a.c a.e] ?_
  refine xe (zA ?_)
  refine yO 6 zM ?_
  refine xqg 4 [eS1 24 (yL d) n n,yJ 25 k,(26,.v (yV a.s a.A a.l a.c a.e))] ?_
  refine xqd 79 [yV a.s a.A a.l a.c a.e] 27 (fun _:Unit=>.agg #[.string ⟨(Lib.itoa (sg a.s a.m)).toArray⟩, yI a.e]) _ (fun w R Q=>yN (ZfC a.s a.A a.l a.c a.m a.e _ (L.ext R) (by rw[←g];exact (K.ext R).get (q.symm ▸ f)) (by rw[←g];exact (F _ (wP (q.symm ▸ f))).1) (by rw[←g];exact (F _ (wP (q.symm ▸ f))).2))) fun P=>?_
  refine xqj 28 (.pointer (some ⟨d,0+k*2,none⟩)) (fun w Q=>jV (t:=36) (e:=67) (sz:=2) (x:=.tmp 24) (ix:=.tmp 25) (len:=n) (cap:=n) (i:=k) f) ?_
  refine xz ?_
  refine dC (t:=67) (x:=.tmp 28) (y:=.tmp 27) (j:=k) (new:=flC ((⟨(Lib.itoa (sg a.s a.m)).toArray⟩,a.e))) B d (yS ⟨(Lib.itoa (sg a.s a.m)).toArray⟩ a.e) (fun w=>True) (fun w Q=>Q.1) f rfl qD (fun h=>Or.inl (uA (u ▸ uF _) h)) (by simp[flC,Value.oneCell']) (Zg9 _) rfl (fun w w' Q S=>trivial) ?_
  rw[←jU Zaw ((fY ftV fl0 xs k)) k ((⟨(Lib.itoa (sg a.s a.m)).toArray⟩,a.e)) (by rw[Zcq];exact q.symm ▸ f),Zcs (q.symm ▸ f) (by rw[g];rfl)]
  refine xr 0 [Δ 2,Δ 3,eS1 16 A n cap,yJ 17 n,yJ 18 k] [(3,38,[Γ r,Γ c,Λ (yL d) n n]),(2,38,[Γ 0,Γ 0,Ω])] ?_
  refine xe (xR (zA (zB (xq 1 [yJ 29 (IntKind.i64.wrap ((k:Int)+1))] [] ?_))))
  rw[yW ((k:Int)+1) (((k+1:Nat):Int)) qO]
  refine xq 1 [yJ 18 (k+1:Nat)] [] ?_
  refine xe ?_
  exact xK ((1+(n-(k+1)))) qO ⟨(k+1),rfl,rfl,f,rfl⟩ (fun w Q=>Q.2)
 have D:k=n:=by have:=uD o;omega
 refine xM (zE (zE (xW (zA (yY (xq 2 [] [(2,38,[Γ r,Γ c,Λ (yL d) n n])] ?_))))))
 refine yZ (zH ?_)
 refine yR (.agg #[yI r, yI c,Υ d n]) fun w' R Q=>?_
 exact⟨d,by rw[vG,q],by have h:=Q;rw[D,← q,Zcr] at h;rw[vG];exact u ▸ h,R⟩
theorem Zhd (m:Nat)(r c:Nat)(A:qA)(cap:Nat)(a:List (ByteArray×Int))(w:World)(u:OwnD w m 67 2 A cap a.length (a.flatMap flC))(K:Glob w)(D:1≤r∧r≤32)(E:1≤c∧c≤32)(L:a.length=r*c)(M:∀ x∈a,fvB (bytes x.1) x.2=true)(F:∀ x∈a,(bytes x.1).length≤1000)(N:∀ x∈a,-1000≤x.2∧x.2≤1000) :
 Ζ 12 #[.agg #[.int .i64 ((r:Nat):Int),.int .i64 ((c:Nat):Int),.slice A a.length cap]] w (fun e w'=>∃ b,e=.returned (.tuple #[.agg #[.int .i64 ((r:Nat):Int),.int .i64 ((c:Nat):Int),.slice (some ⟨b,0,none⟩) a.length a.length],.int .i64 0])∧OwnD w' w.heap.size 9 1 (some ⟨b,0,none⟩) a.length a.length ((a.map exV).flatMap stC)∧Ext w w'):=by
 obtain⟨s,q⟩:∃ m,m=w.heap.size:=⟨_,rfl⟩
 have O:r*c≤32*32:=vK D.2 E.2
 refine zU (Φ:=fun w=>True) func12 rfl qK (fun w' S=>trivial) ?_
 refine yY (xq 3 [Δ 1,Δ 2,yJ 3 0] [(2,44,[Γ 0,Γ 0,Ω]),(1,38,[Γ r,Γ c,Λ A a.length cap])] ?_)
 refine yZ (zC (yY (xq 1 [(7,.v (.agg #[yI r, yI c,.slice A a.length cap]))] [] ?_)))
 refine xqc 34 [.agg #[yI r, yI c,.slice A a.length cap]] 8 (fun _:Unit=>.bool true) _ (fun w R Q=>yN (Zhb m r c A cap a _ (OwnD.ext u R) D E L M F)) fun P=>?_
 refine xq 1 [yB 9 false] [] ?_
 refine yZ (xb (zJ (zA (zC ?_))))
 refine yO 10 zM ?_
 refine xqg 7 [yJ 12 r,yJ 14 c,yJ 17 a.length] ?_
 refine ZcT 18 (fun B:{b:Nat // s≤b}=>Υ B.1 a.length) (fun B w=>OwnD w s 9 1 (yL B.1) a.length a.length ((List.replicate a.length (⟨#[]⟩:ByteArray)).flatMap stC)) qK qK qK qK qK qK qK (fun w R Q=>iO (t:=42) (e:=9) (kl:=.i64) (kc:=.i64) (l:=.tmp 17) (c:=.tmp 17) (bytes:=16) (z:=.string ⟨#[]⟩) (⟨#[]⟩:ByteArray) Zby qD rfl ZeN (q ▸ R.size) (by simp only[maxLen];omega) qO) fun⟨f,G⟩=>?_
 refine xf 2 [Δ 1,Δ 2,yJ 3 0,Δ 4,(19,.v (.agg #[yI r, yI c,Υ f a.length]))] [(4,44,[Γ 0,Γ 0,Ω]),(2,44,[Γ 0,Γ 0,Ω]),(1,38,[Γ r,Γ c,Λ A a.length cap])] ?_
 refine xz (xq 1 [] [(4,44,[Γ r,Γ c,Λ (yL f) a.length a.length])] ?_)
 refine yZ (zC (yY (xq 4 [eS1 21 A a.length cap,yJ 22 a.length,yJ 23 0] [] ?_)))
 refine yZ (zQ ?_)
 refine xO (fun H I J=>∃ (k:Nat),I=ofL [Δ 2,yJ 3 0,Δ 4,eS1 21 A a.length cap,yJ 22 a.length,yJ 23 k] [(4,44,[Γ r,Γ c,Λ (yL f) a.length a.length]),(2,44,[Γ 0,Γ 0,Ω])]∧J=(fun w=>OwnD w s 9 1 (yL f) a.length a.length ((fY exV ⟨#[]⟩ a k).flatMap stC))∧(k≤a.length)∧H=(1+(a.length-k))) ((1+(a.length-0))) ⟨0,rfl,rfl,(vS _),rfl⟩ (fun w Q=>(by rw[Zbn];exact Q.2)) ?_
 rintro H I J ⟨k,rfl,rfl,T,rfl⟩
 refine yY (xq 1 [yB 24 (decide ((k:Int)<((a.length:Nat):Int)))] [] ?_)
 refine yZ (zC ?_)
 refine yQ ((decide ((k:Int)<((a.length:Nat):Int)))) (fun o=>?_) fun o=>?_
 ·have g:k<a.length:=by have:=uC o;omega
  refine zJ (zA (zC (zQ (yY (xq 1 [yJ 25 k] [] ?_)))))
  refine xqk 26 (atA A (k*2)) (fun w R Q=>xE (t:=36) (e:=67) (sz:=2) (x:=.tmp 21) (ix:=.tmp 23) (len:=a.length) (cap:=cap) (i:=k) ((OwnD.ext u R).ne g) g) ?_
  obtain⟨d,n⟩:∃ x,a[k]! = x:=⟨_,rfl⟩
  refine xqk 27 (yS d.1 d.2) (fun w R Q=>by rw[←n];exact aQ (t:=67) (x:=.tmp 26) (j:=k) (OwnD.ext u R) Zaw g) ?_
  refine xq 3 [yJ 5 k,Δ 6] [yG 6 67 d.1 d.2] ?_
  refine xe (zA ?_)
  refine yO 6 zM ?_
  refine xqg 4 [eS1 29 (yL f) a.length a.length,yJ 30 k,(31,.v (yS d.1 d.2))] ?_
  refine xqd 35 [yS d.1 d.2] 32 (fun _:Unit=>.string ⟨(exT (bytes d.1) d.2).toArray⟩) _ (fun w R Q=>yN (ZnK d.1 d.2 _ (K.ext R) (by rw[←n];exact uA (F _ (wP g)) qD) (by rw[←n];exact fun _=>N _ (wP g)))) fun P=>?_
  refine xqj 33 (.pointer (some ⟨f,0+k*1,none⟩)) (fun w Q=>jV (t:=42) (e:=9) (sz:=1) (x:=.tmp 29) (ix:=.tmp 30) (len:=a.length) (cap:=a.length) (i:=k) g) ?_
  refine xz ?_
  refine dC (t:=9) (x:=.tmp 33) (y:=.tmp 32) (j:=k) (new:=stC ((⟨(exT (bytes d.1) d.2).toArray⟩))) s f (.string ⟨(exT (bytes d.1) d.2).toArray⟩) (fun w=>True) (fun w Q=>Q.1) g rfl qD (fun h=>Or.inl (uA (q ▸ uF _) h)) (by simp[stC,Value.oneCell']) (ZeN _) rfl (fun w w' Q U=>trivial) ?_
  rw[←jU Zby ((fY exV ⟨#[]⟩ a k)) k ((⟨(exT (bytes d.1) d.2).toArray⟩)) (by rw[Zcq];exact g),Zcs g (by rw[n];rfl)]
  refine xr 0 [Δ 2,yJ 3 0,Δ 4,eS1 21 A a.length cap,yJ 22 a.length,yJ 23 k] [(4,44,[Γ r,Γ c,Λ (yL f) a.length a.length]),(2,44,[Γ 0,Γ 0,Ω])] ?_
  refine xe (xR (zA (zB (xq 1 [yJ 34 (IntKind.i64.wrap ((k:Int)+1))] [] ?_))))
  rw[yW ((k:Int)+1) (((k+1:Nat):Int)) qO]
  refine xq 1 [yJ 23 (k+1:Nat)] [] ?_
  refine xe ?_
  exact xK ((1+(a.length-(k+1)))) qO ⟨(k+1),rfl,rfl,g,rfl⟩ (fun w Q=>Q.2)
 have C:k=a.length:=by have:=uD o;omega
 refine xM (zE (zE (xW (zA (yY (xq 3 [yJ 3 0] [(2,44,[Γ r,Γ c,Λ (yL f) a.length a.length])] ?_))))))
 refine yZ (zH ?_)
 refine yR (.tuple #[.agg #[yI r, yI c,Υ f a.length], yI 0]) fun w' R Q=>?_
 exact⟨f,rfl,by have h:=Q;rw[C,Zcr] at h;exact q ▸ h,R⟩
theorem ZdG {w w':World}{e:Ending}{r:FR}(b:r.err=0)(h:wE w r e w'):lD (fun q:ShN=>.tuple #[yV r.s q.1 q.2.1 q.2.2 r.e,.int .i64 0]) (fun x w=>zF w (xI x) r.m) w e w':=by
 have a:=wG h
 unfold shNb at a
 rw[b] at a
 exact a
theorem FvOk.wl {v:Fv3}(h:FvOk v):wl v.2.1≤100000:=uA h.1 qD
theorem FvOk.lo {v:Fv3}(h:FvOk v) : -1073741824≤v.2.2:=by have:=h.2.1;unfold okE at this;omega
theorem FvOk.hi {v:Fv3}(h:FvOk v):v.2.2≤1073741824:=by have:=h.2.1;unfold okE at this;omega
def Zr0 (v:Fv3) (w:World) (e:Ending) (w':World):Prop:=∃ z:Nb,e=.returned (yV z.s z.A z.l z.c z.e)∧nbV z=v∧NbOk w' z∧Ext w w'
theorem Zri (t x y:Nb)(b:Nat)(v:Fv3)(w:World)(G:Glob w)(J:NbOk w t)(K:NbOk w x)(L:NbOk w y)(C:FvOk (nbV t))(D:FvOk (nbV x))(E:FvOk (nbV y))(M:8≤b)(N:b≤1024)(O:Zbm (nbV t) (nbV x) (nbV y) b=some v) :
 Ζ 62 #[yV t.s t.A t.l t.c t.e, yV x.s x.A x.l x.c x.e, yV y.s y.A y.l y.c y.e,.int .i64 ((b:Nat):Int)] w (Zr0 v w):=by
 obtain⟨p,F,H⟩:=tJ.1 O
 refine zU (Φ:=fun w=>True) func62 rfl qK (fun w' S=>trivial) ?_
 refine yY (xq 4 [Δ 4,Δ 5,Δ 6,Δ 8] [yF 8 99 false none 0 0 0,yF 6 99 y.s y.A y.l y.c y.e,yF 5 99 x.s x.A x.l x.c x.e,yF 4 99 t.s t.A t.l t.c t.e] ?_)
 refine yZ (zC ?_)
 refine yO 13 zM ?_
 refine xqg 4 [(9,.v (yV t.s t.A t.l t.c t.e)),(10,.v (yV x.s x.A x.l x.c x.e)),(11,.v (yV y.s y.A y.l y.c y.e)),yJ 12 b] ?_
 obtain⟨d,f⟩:=yE (mulV (nbV x) (nbV y) b)
 have z:d.err=0:=by rw[←f];exact (iV F).1
 have u:FvOk (fvR d):=by rw[←f];exact Zs6 qO qO (by rw[f];exact z)
 refine xqd 89 [yV x.s x.A x.l x.c x.e, yV y.s y.A y.l y.c y.e, yI b] 13 (fun q:ShN=>.tuple #[yV d.s q.1 q.2.1 q.2.2 d.e, yI 0]) _ (fun w R Q=>((show Calls _ _ _ _ (wE w d) by rw[←f];exact ZoX x.s x.A x.l x.c x.m x.e y.s y.A y.l y.c y.m y.e b qO qO _ (G.ext R) (K.ext R) D.wl D.lo D.hi (L.ext R) E.wl E.lo E.hi)).mono (fun _ _ h=>ZdG z h)) fun⟨n,o,r⟩=>?_
 refine xqg 2 [(14,.v (yV d.s n o r d.e)),yJ 15 0] ?_
 refine xqd 64 [yV d.s n o r d.e, yI 0] 16 (fun _:Unit=>.agg #[.bool d.s,.slice n o r, yI d.e]) _ (fun w R Q=>yN (ZdF d.s n o r d.e _)) fun P=>?_
 refine xqg 1 [yJ 17 b] ?_
 obtain⟨a,g⟩:=yE (subV (nbV t) (fvR d) b)
 have B:a.err=0:=by rw[←g];exact (iV (by rw[←f,← (iV F).2];exact H)).1
 have I:FvOk (fvR a):=by rw[←g];exact Zmw qO qO (by rw[g];exact B)
 refine xqd 88 [yV t.s t.A t.l t.c t.e, yV d.s n o r d.e, yI b] 18 (fun q:ShN=>.tuple #[yV a.s q.1 q.2.1 q.2.2 a.e, yI 0]) _ (fun w R Q=>((show Calls _ _ _ _ (wE w a) by rw[←g];exact ZpK t.s t.A t.l t.c t.m t.e d.s n o r d.m d.e b qO qO _ (G.ext R) (J.ext R) C.wl C.lo C.hi Q.1.2 u.wl u.lo u.hi)).mono (fun _ _ h=>ZdG B h)) fun⟨i,j,k⟩=>?_
 refine xqg 2 [(19,.v (yV a.s i j k a.e)),yJ 20 0] ?_
 refine xqd 64 [yV a.s i j k a.e, yI 0] 21 (fun _:Unit=>.agg #[.bool a.s,.slice i j k, yI a.e]) _ (fun w R Q=>yN (ZdF a.s i j k a.e _)) fun P=>?_
 refine xz (xq 1 [] [yF 8 99 a.s i j k a.e] ?_)
 refine yZ (zH ?_)
 refine yR (yV a.s i j k a.e) fun w' R Q=>?_
 exact⟨(⟨a.s,i,j,k,a.m,a.e⟩:Nb),rfl,by rw[(iV H).2,(iV F).2,f,g];rfl,Q.1.2,R⟩
theorem jH {i j n:Nat}(hi:i<n)(a:j<n):i*n+j<n*n:=by
 have:=uE n (show i+1≤n by omega)
 rw[rA] at this
 omega
theorem Zfa {ys:List Nb}{i:Nat}(h:i<ys.length):at3 (ys.map nbV) i=nbV ys[i]! := by
 unfold at3
 rw[tC,nW,uR h,vT ys i h]
 rfl
theorem Zkx {ys:List Nb}{i:Nat}{x:Nb}(h:i<ys.length)(a:ys[i]! = x):at3 (ys.map nbV) i=nbV x:=by rw[Zfa h,a]
theorem ZpL {ys:List Nb}{i:Nat}{z:Nb}(h:∀ y∈ys,FvOk (nbV y))(b:FvOk (nbV z)):∀ y∈ys.set i z,FvOk (nbV y):=fun y c=>by
 rcases rN c with a|a
 ·exact h y a
 rw[a];exact b
theorem Zrj (k:Nat):∀ y∈List.replicate k nb0,FvOk (nbV y):=fun y a=>by rw[(qV.1 a).2];exact Zha
theorem ZpM (k:Nat):(List.replicate k nb0).map nbV=List.replicate k (false,0,0):=List.map_replicate
theorem Zky {t x y v:Fv3}{b:Nat}(c:0<b)(a:b≤4096)(h:Zbm t x y b=some v):FvOk v:=by
 obtain⟨p,_,d⟩:=tJ.1 h
 exact ZhY (Zmw c a) d
theorem Zrk {b n j:Nat}{A L Lf:List Fv3}(h:j<n)(d:chJ b A n (n-j) j L=some Lf):∃ c,chI b A n j (n-j) j L=some c∧chJ b A n (n-(j+1)) (j+1) c=some Lf:=by
 obtain⟨f,e⟩:∃ f,n-j=f+1:=⟨n-j-1,qO⟩
 rw[show n-(j+1)=f by omega]
 have a:chJ b A n (f+1) j L=some Lf:=by rw[←e];exact d
 exact tJ.1 a
theorem Zrl {b n i j:Nat}{A L L1:List Fv3}(h:i<n)(a:chI b A n j (n-i) i L=some L1):∃ t v,chK b L i j n j 0 (at3 A (i*n+j))=some t∧chE b L i j n t=some v∧chI b A n j (n-(i+1)) (i+1) (L.set (i*n+j) v)=some L1:=by
 obtain⟨f,c⟩:∃ f,n-i=f+1:=⟨n-i-1,qO⟩
 rw[show n-(i+1)=f by omega]
 have d:chI b A n j (f+1) i L=some L1:=by rw[←c];exact a
 obtain⟨t,e,g⟩:=tJ.1 d
 obtain⟨v,k,l⟩:=tJ.1 g
 exact⟨t,v,e,k,l⟩
theorem Zrm {b n i j k:Nat}{L:List Fv3}{t t1:Fv3}(h:k<j)(a:chK b L i j n (j-k) k t=some t1):∃ v,Zbm t (at3 L (i*n+k)) (at3 L (j*n+k)) b=some v∧chK b L i j n (j-(k+1)) (k+1) v=some t1:=by
 obtain⟨f,c⟩:∃ f,j-k=f+1:=⟨j-k-1,qO⟩
 rw[show j-(k+1)=f by omega]
 have d:chK b L i j n (f+1) k t=some t1:=by rw[←c];exact a
 exact tJ.1 d
theorem Zh2 {b n i j:Nat}{L:List Fv3}{t v d:Fv3}(h:j<i)(Q:chE b L i j n t=some v)(a:at3 L (j*n+j)=d):musT (divV t d b)=some v:=by
 unfold chE at Q
 rw[uM h,a] at Q
 exact Q
theorem ZdH {b n i j:Nat}{L:List Fv3}{t v:Fv3}(h:¬ j<i)(Q:chE b L i j n t=some v):¬ sgnV t≤0∧musT (iP t b)=some v:=by
 unfold chE at Q
 rw[uI h] at Q
 split at Q
 ·cases Q
 exact⟨by assumption,Q⟩
theorem Zte {v:Fv3}{w w':World}{e:Ending}(h:Zr0 v w e w'):lD (fun z:{z:Nb // nbV z=v}=>.agg #[.bool z.1.s,.slice z.1.A z.1.l z.1.c,.int .i64 z.1.e]) (fun z w=>NbOk w z.1) w e w':=by
 obtain⟨z,rfl,a,b,Q⟩:=h
 exact⟨⟨z,a⟩,rfl,Q,boxn Q (fun S d f g=>zF.nrb b f g)⟩
theorem ZpN {w w':World}{e:Ending}{v:Value}{x:Nb}(h:RetV w v e w')(a:NbOk w x):lD (fun _:Unit=>v) (fun _ w=>NbOk w x) w e w':=by
 obtain⟨rfl,Q⟩:=h
 exact⟨(),rfl,Q,boxn Q (fun S b c d=>zF.nrb (zF.ext a Q) c d)⟩
instance {v:Fv3}:Nonempty {z:Nb // nbV z=v}:=⟨⟨⟨v.1,none,0,0,v.2.1,v.2.2⟩,rfl⟩⟩
theorem Zkz {m b cap n k:Nat}{e:TypeId}{xs:List Value}{w w':World}{a:Ending}(h:a=.returned (.tuple #[])∧Fr (fun i=>i=b) w w'∧OwnD w' m e k (some ⟨b,0,none⟩) cap n xs):∃ x:Unit,a=.returned ((fun _:Unit=>.tuple #[]) x)∧Fr (fun i=>i=b) w w'∧BoxT b w w' (fun w=>OwnD w m e k (some ⟨b,0,none⟩) cap n xs) :=
 ⟨(),h.1,h.2.1,fun S c d f=>h.2.2.fr f (fun i hi g=>by
  injection hi with hi
  injection hi with hi
  exact (d i g).2.1 hi.symm)⟩
theorem ZiL {w:World}{m b cap n:Nat}{e:TypeId}{ys:List Nb}(h:OwnD w m e 3 (some ⟨b,0,none⟩) cap n (ys.flatMap nbC))(c:0<ys.length):w.cell? ⟨b,0,none⟩=some (.bool ys[0]!.s):=by
 have d:=bN Zbx ys 0 0 c qD
 obtain⟨g,a,_,f⟩:=h.at (j:=0*3+0) d
 injection a with a
 injection a with a
 subst a
 exact f
theorem ZpO (m n:Nat)(A:qA)(cap:Nat)(xs:List Nb)(b I P:Nat)(Lf:List Fv3)(w:World)(hg:Glob w)(hM:Blk 75 w I #[.int .i64 ((n:Nat):Int),.int .i64 ((n:Nat):Int),.slice A (n*n) cap])(hB:Blk 3 w P #[.int .i64 ((b:Nat):Int)])(hO:OwnD w m 99 3 A cap (n*n) (xs.flatMap nbC))(hN:wR w xs)(hl:xs.length=n*n)(hn:n≤32)(y0:8≤b)(z0:b≤1024)(A0:∀ x∈xs,FvOk (nbV x))(hC:ZaT b (xs.map nbV) n=some Lf) :
 Ζ 59 #[.pointer (some ⟨I,0,none⟩),.pointer (some ⟨P,0,none⟩)] w (Zct (fun v=>v) n n Lf w):=by
 obtain⟨m0,c0⟩:∃ m,m=w.heap.size:=⟨_,rfl⟩
 have I0:I<m0:=c0 ▸ hM.lt
 have J0:P<m0:=c0 ▸ hB.lt
 have K0:n*n≤32*32:=vK hn hn
 refine zU (Φ:=fun w=>(Blk 75 w I #[yI n, yI n,.slice A (n*n) cap]∧Blk 3 w P #[yI b])) func59 rfl qK (fun w' hf=>⟨hM.ext hf,hB.ext hf⟩) ?_
 refine yY (xq 1 [Δ 2] [(2,75,[Γ 0,Γ 0,Ω])] ?_)
 refine yZ (yY (xq 1 [(8,.v (.pointer (yL I)))] [] ?_))
 refine xqk 9 (yI n) (fun w R Q=>wN (t:=3) (x:=.tmp 8) (g:=I) (off:=0) (Blk.news Q.1 0 _ rfl)) ?_
 refine xq 1 [(10,.v (.pointer (some ⟨I,0+1,none⟩)))] [] ?_
 refine xqk 11 (yI n) (fun w R Q=>wN (t:=3) (x:=.tmp 10) (g:=I) (off:=0+1) (Blk.news Q.1 1 _ rfl)) ?_
 refine xqc 60 [yI n, yI n] 12 (fun b:{b:Nat // m0≤b}=>.agg #[yI n, yI n,Υ b.1 (n*n)]) _ (fun w R Q=>(ZiJ n n _ qO qO).mono (fun _ _ h=>ZiK (m0:=m0) (c0 ▸ R.size) rfl h)) fun⟨a,k0⟩=>?_
 refine xq 2 [Δ 3] [(3,75,[Γ n,Γ n,Λ (yL a) (n*n) (n*n)])] ?_
 refine yZ (zC (yY (xq 1 [(13,.v (.pointer (some ⟨I,0+1,none⟩)))] [] ?_)))
 refine xqk 14 (yI n) (fun w R Q=>wN (t:=3) (x:=.tmp 13) (g:=I) (off:=0+1) (Blk.news Q.1.1 1 _ rfl)) ?_
 refine xq 1 [yJ 15 0] [] ?_
 refine yZ (zQ ?_)
 refine xO (fun nn ss ff=>∃ (j:Nat) (G:List Nb),ss=ofL [(0,.v (.pointer (yL I))),(1,.v (.pointer (yL P))),Δ 2,Δ 3,yJ 14 n,yJ 15 j] [(3,75,[Γ n,Γ n,Λ (yL a) (n*n) (n*n)]),(2,75,[Γ 0,Γ 0,Ω])]∧ff=(fun w=>(((Blk 75 w I #[yI n, yI n,.slice A (n*n) cap]∧Blk 3 w P #[yI b])∧wR w G)∧OwnD w m0 99 3 (yL a) (n*n) (n*n) (G.flatMap nbC)))∧(j≤n)∧(G.length=n*n)∧(∀ y∈G,FvOk (nbV y))∧(chJ b (xs.map nbV) n (n-j) j (G.map nbV)=some Lf)∧nn=(1+(n-j))) ((1+(n-0))) ⟨0,(List.replicate (n*n) nb0),rfl,rfl,(vS _),qS,(Zrj _),(by rw[ZpM];exact hC),rfl⟩ (fun w Q=>⟨⟨⟨Q.1.1,Q.1.2⟩,(wR.zero _ _)⟩,(by exact Q.2)⟩) ?_
 rintro nn ss ff ⟨j,G,rfl,rfl,hj,B,T,hL,rfl⟩
 refine yY (xq 1 [yB 16 (decide ((j:Int)<(n:Int)))] [] ?_)
 refine yZ (zC ?_)
 refine yQ ((decide ((j:Int)<(n:Int)))) (fun g0=>?_) fun g0=>?_
 ·have r:j<n:=by have:=uC g0;omega
  obtain⟨L1,hI,hJ⟩:=Zrk r hL
  refine zJ (zA (zC (zQ (yY (xq 2 [yJ 4 j] [] ?_)))))
  refine yZ (yY (xq 2 [yJ 5 j] [] ?_))
  refine yZ (zQ ?_)
  refine xO (fun nn ss ff=>∃ (i:Nat) (G:List Nb),ss=ofL [(0,.v (.pointer (yL I))),(1,.v (.pointer (yL P))),Δ 2,Δ 3,yJ 4 j,yJ 5 i,yJ 14 n,yJ 15 j] [(3,75,[Γ n,Γ n,Λ (yL a) (n*n) (n*n)]),(2,75,[Γ 0,Γ 0,Ω])]∧ff=(fun w=>(((Blk 75 w I #[yI n, yI n,.slice A (n*n) cap]∧Blk 3 w P #[yI b])∧wR w G)∧OwnD w m0 99 3 (yL a) (n*n) (n*n) (G.flatMap nbC)))∧(j≤i)∧(i≤n)∧(G.length=n*n)∧(∀ y∈G,FvOk (nbV y))∧(chI b (xs.map nbV) n j (n-i) i (G.map nbV)=some L1)∧nn=(1+(n-i))) ((1+(n-j))) ⟨j,G,rfl,rfl,(uF _),(pA r),B,T,hI,rfl⟩ (fun w Q=>⟨⟨⟨Q.1.1.1,Q.1.1.2⟩,Q.1.2⟩,Q.2⟩) ?_
  rintro nn ss ff ⟨i,G,rfl,rfl,H0,hi,B,T,hI,rfl⟩
  refine zC (yY (xq 2 [yJ 19 i,(20,.v (.pointer (yL I)))] [] ?_))
  refine xqk 21 (yI n) (fun w R Q=>wN (t:=3) (x:=.tmp 20) (g:=I) (off:=0) (Blk.news Q.1.1.1 0 _ rfl)) ?_
  refine xq 1 [yB 22 (decide ((i:Int)<(n:Int)))] [] ?_
  refine xe (zA ?_)
  refine yQ ((decide ((i:Int)<(n:Int)))) (fun h0=>?_) fun h0=>?_
  ·have H:i<n:=by have:=uC h0;omega
   obtain⟨t1,u,hK,d0,t0⟩:=Zrl H hI
   refine zJ (zA (zC (zQ (zC (zB ?_)))))
   refine xqk 25 (.agg #[yI n, yI n,.slice A (n*n) cap]) (fun w R Q=>Zs5 (t:=75) (x:=.tmp 0) (g:=I) (cs:=[yI n, yI n,.slice A (n*n) cap]) Q.1.1.1) ?_
   refine xq 2 [yJ 26 i,yJ 27 j] [] ?_
   obtain⟨F,Z⟩:∃ x,xs[i*n+j]! = x:=⟨_,rfl⟩
   have p0:FvOk (nbV F):=by rw[←Z];exact A0 _ (wP (by rw[hl];exact (jH H r)))
   refine xqc 61 [.agg #[yI n, yI n,.slice A (n*n) cap], yI i, yI j] 28 (fun _:Unit=>.agg #[.bool F.s,.slice F.A F.l F.c, yI F.e]) _ (fun w R Q=>((show Calls _ _ _ _ (RetV _ (yV F.s F.A F.l F.c F.e)) by rw[←Z];exact Ze9 m n n A cap (n*n) xs i j _ (OwnD.ext hO R) hl qO qO (jH H r) qO)).mono (fun _ _ h=>ZpN h (show NbOk _ F by rw[←Z];exact (wR.ext hN R) _ (wP (by rw[hl];exact (jH H r)))))) fun xx=>?_
   refine xq 2 [Δ 6] [yF 6 99 F.s F.A F.l F.c F.e] ?_
   refine yZ (zC (yY (xq 2 [yJ 29 j,yJ 30 0] [] ?_)))
   refine yZ (zQ ?_)
   refine xO (fun nn ss ff=>∃ (k:Nat) (t:Nb),ss=ofL [(0,.v (.pointer (yL I))),(1,.v (.pointer (yL P))),Δ 2,Δ 3,yJ 4 j,yJ 5 i,Δ 6,yJ 14 n,yJ 15 j,yJ 29 j,yJ 30 k] [yF 6 99 t.s t.A t.l t.c t.e,(3,75,[Γ n,Γ n,Λ (yL a) (n*n) (n*n)]),(2,75,[Γ 0,Γ 0,Ω])]∧ff=(fun w=>((((Blk 75 w I #[yI n, yI n,.slice A (n*n) cap]∧Blk 3 w P #[yI b])∧wR w G)∧OwnD w m0 99 3 (yL a) (n*n) (n*n) (G.flatMap nbC))∧NbOk w t))∧(k≤j)∧(FvOk (nbV t))∧(chK b (G.map nbV) i j n (j-k) k (nbV t)=some t1)∧nn=(1+(j-k))) ((1+(j-0))) ⟨0,F,rfl,rfl,(vS _),p0,(by rw[Zfa (by rw[hl];exact (jH H r)),Z] at hK;exact hK),rfl⟩ (fun w Q=>⟨⟨⟨⟨Q.1.1.1.1,Q.1.1.1.2⟩,Q.1.1.2⟩,Q.1.2⟩,Q.2⟩) ?_
   rintro nn ss ff ⟨k,t,rfl,rfl,hk,S,hK,rfl⟩
   refine yY (xq 1 [yB 31 (decide ((k:Int)<(j:Int)))] [] ?_)
   refine yZ (zC ?_)
   refine yQ ((decide ((k:Int)<(j:Int)))) (fun i0=>?_) fun i0=>?_
   ·have u0:k<j:=by have:=uC i0;omega
    have U:k<n:=qO
    obtain⟨v,q0,B0⟩:=Zrm u0 hK
    refine zJ (zA (zC (zQ (yY (xq 2 [yJ 7 k] [] ?_)))))
    refine xe (zA ?_)
    refine yO 11 zM ?_
    refine xqg 4 [(33,.v (yV t.s t.A t.l t.c t.e)),(34,.v (.agg #[yI n, yI n,Υ a (n*n)])),yJ 35 i,yJ 36 k] ?_
    obtain⟨D,a0⟩:∃ x,G[i*n+k]! = x:=⟨_,rfl⟩
    have r0:FvOk (nbV D):=by rw[←a0];exact T _ (wP (by rw[B];exact (jH H U)))
    refine xqd 61 [.agg #[yI n, yI n,Υ a (n*n)], yI i, yI k] 37 (fun _:Unit=>.agg #[.bool D.s,.slice D.A D.l D.c, yI D.e]) _ (fun w R Q=>yN ((show Calls _ _ _ _ (RetV _ (yV D.s D.A D.l D.c D.e)) by rw[←a0];exact Ze9 m0 n n (yL a) (n*n) (n*n) G i k _ Q.1.2 B qO qO (jH H U) qO))) fun xx=>?_
    refine xqg 3 [(38,.v (.agg #[yI n, yI n,Υ a (n*n)])),yJ 39 j,yJ 40 k] ?_
    obtain⟨E,b0⟩:∃ x,G[j*n+k]! = x:=⟨_,rfl⟩
    have s0:FvOk (nbV E):=by rw[←b0];exact T _ (wP (by rw[B];exact (jH r U)))
    refine xqd 61 [.agg #[yI n, yI n,Υ a (n*n)], yI j, yI k] 41 (fun _:Unit=>.agg #[.bool E.s,.slice E.A E.l E.c, yI E.e]) _ (fun w R Q=>yN ((show Calls _ _ _ _ (RetV _ (yV E.s E.A E.l E.c E.e)) by rw[←b0];exact Ze9 m0 n n (yL a) (n*n) (n*n) G j k _ Q.1.1.2 B qO qO (jH r U) qO))) fun xx=>?_
    refine xqj 42 (yI b) (fun w Q=>wN (t:=3) (x:=.tmp 1) (g:=P) (off:=0) (Blk.news Q.1.1.1.2 0 _ rfl)) ?_
    have v0:Zbm (nbV t) (nbV D) (nbV E) b=some v:=by rw[Zfa (by rw[B];exact (jH H U)),Zfa (by rw[B];exact (jH r U)),a0,b0] at q0;exact q0
    refine xqd 62 [yV t.s t.A t.l t.c t.e, yV D.s D.A D.l D.c D.e, yV E.s E.A E.l E.c E.e, yI b] 43 (fun z:{z:Nb // nbV z=v}=>.agg #[.bool z.1.s,.slice z.1.A z.1.l z.1.c, yI z.1.e]) _ (fun w R Q=>yM Zte (Zri t D E b v _ (hg.ext R) Q.1.1.2 (show NbOk _ D by rw[←a0];exact Q.1.1.1.1.2 _ (wP (by rw[B];exact (jH H U)))) (show NbOk _ E by rw[←b0];exact Q.1.1.1.1.2 _ (wP (by rw[B];exact (jH r U)))) S r0 s0 y0 z0 v0)) fun⟨e0,l0⟩=>?_
    refine xz (xq 1 [] [yF 6 99 e0.s e0.A e0.l e0.c e0.e] ?_)
    refine xe (xR (zA (zB (xq 1 [yJ 44 (IntKind.i64.wrap ((k:Int)+1))] [] ?_))))
    rw[yW ((k:Int)+1) (((k+1:Nat):Int)) qO]
    refine xq 1 [yJ 30 (k+1:Nat)] [] ?_
    refine xe ?_
    exact xK ((1+(j-(k+1)))) qO ⟨(k+1),e0,rfl,rfl,u0,(by rw[l0];exact Zky qO qO q0),(by rw[l0];exact B0),rfl⟩ (fun w Q=>⟨⟨⟨⟨Q.1.1.1.1.1.1.1,Q.1.1.1.1.1.1.2⟩,Q.1.1.1.1.1.2⟩,Q.1.1.1.1.2⟩,Q.2⟩)
   have C0:k=j:=by have:=uD i0;omega
   have hT:nbV t=t1:=by rw[C0,rZ] at hK;injection hK
   rw[←hT] at d0
   refine xM (zE (zE (xW (zA (zC (yY (xq 3 [yB 47 (decide ((i:Int)>(j:Int)))] [] ?_)))))))
   refine xe (zA ?_)
   refine yQ ((decide ((i:Int)>(j:Int)))) (fun j0=>?_) fun j0=>?_
   ·have f0:j<i:=by have:=uC j0;omega
    refine zC ?_
    refine yO 13 zM ?_
    refine xqg 7 [(48,.v (.agg #[yI n, yI n,Υ a (n*n)])),yJ 49 i,yJ 50 j,(51,.v (yV t.s t.A t.l t.c t.e)),(52,.v (.agg #[yI n, yI n,Υ a (n*n)])),yJ 53 j,yJ 54 j] ?_
    obtain⟨C,V⟩:∃ x,G[j*n+j]! = x:=⟨_,rfl⟩
    have Y:FvOk (nbV C):=by rw[←V];exact T _ (wP (by rw[B];exact (jH r r)))
    refine xqd 61 [.agg #[yI n, yI n,Υ a (n*n)], yI j, yI j] 55 (fun _:Unit=>.agg #[.bool C.s,.slice C.A C.l C.c, yI C.e]) _ (fun w R Q=>yN ((show Calls _ _ _ _ (RetV _ (yV C.s C.A C.l C.c C.e)) by rw[←V];exact Ze9 m0 n n (yL a) (n*n) (n*n) G j j _ Q.1.2 B qO qO (jH r r) qO))) fun xx=>?_
    refine xqj 56 (yI b) (fun w Q=>wN (t:=3) (x:=.tmp 1) (g:=P) (off:=0) (Blk.news Q.1.1.1.2 0 _ rfl)) ?_
    obtain⟨f,W⟩:=yE (divV (nbV t) (nbV C) b)
    have n0:f.err=0:=by rw[←W];exact (iV (Zh2 f0 d0 (Zkx (by rw[B];exact (jH r r)) V))).1
    have w0:FvOk (fvR f):=by rw[←W];exact Zmx qO qO (by rw[W];exact n0)
    refine xqd 65 [yV t.s t.A t.l t.c t.e, yV C.s C.A C.l C.c C.e, yI b] 57 (fun q:ShN=>.tuple #[yV f.s q.1 q.2.1 q.2.2 f.e, yI 0]) _ (fun w R Q=>((show Calls _ _ _ _ (wE w f) by rw[←W];exact ZoY t.s t.A t.l t.c t.m t.e C.s C.A C.l C.c C.m C.e b qO qO _ (hg.ext R) Q.1.2 S.wl S.lo S.hi (show NbOk _ C by rw[←V];exact Q.1.1.1.2 _ (wP (by rw[B];exact (jH r r)))) Y.wl Y.lo Y.hi)).mono (fun _ _ h=>ZdG n0 h)) fun⟨J,K,L⟩=>?_
    refine xqg 2 [(58,.v (yV f.s J K L f.e)),yJ 59 0] ?_
    refine xqd 64 [yV f.s J K L f.e, yI 0] 60 (fun _:Unit=>.agg #[.bool f.s,.slice J K L, yI f.e]) _ (fun w R Q=>yN (ZdF f.s J K L f.e _)) fun xx=>?_
    refine xz ?_
    refine ZbT (b:=a) (d:=61) (j:=0) (c:=.bool G[0]!.s) 63 [.agg #[yI n, yI n,Υ a (n*n)], yI i, yI j, yV f.s J K L f.e] (fun _:Unit=>.tuple #[]) (fun w=>((Blk 75 w I #[yI n, yI n,.slice A (n*n) cap]∧Blk 3 w P #[yI b])∧wR w (G.set (i*n+j) (⟨f.s,J,K,L,f.m,f.e⟩:Nb)))) (fun _ w=>OwnD w m0 99 3 (yL a) (n*n) (n*n) ((G.set (i*n+j) (⟨f.s,J,K,L,f.m,f.e⟩:Nb)).flatMap nbC)) (fun w Q=>ZiL Q.1.1.1.1.2 (by rw[B];have:=(jH H r);omega)) (Or.inl (c0 ▸ k0)) (fun w R Q=>yM Zkz (Zkw m0 n n a (n*n) (n*n) G i j (⟨f.s,J,K,L,f.m,f.e⟩:Nb) _ Q.1.1.1.1.2 B qO qO (jH H r) qO)) (fun w w' R Q hF=>⟨⟨Blk.fr Q.1.1.1.1.1.1.1 hF (fun h=>by have h:I=a:=h;omega),Blk.fr Q.1.1.1.1.1.1.2 hF (fun h=>by have h:P=a:=h;omega)⟩,wR.set (wR.nrb Q.1.1.1.1.1.2 (fun i e=>by subst e;exact OwnD.nrb Q.1.1.1.1.2 rfl) hF) (zF.nrb Q.1.2 (fun i e=>by subst e;exact OwnD.nrb Q.1.1.1.1.2 rfl) hF)⟩) fun _=>?_
    refine xr 0 [(0,.v (.pointer (yL I))),(1,.v (.pointer (yL P))),Δ 2,Δ 3,yJ 4 j,yJ 5 i,Δ 6,yJ 14 n,yJ 15 j] [yF 6 99 t.s t.A t.l t.c t.e,(3,75,[Γ n,Γ n,Λ (yL a) (n*n) (n*n)]),(2,75,[Γ 0,Γ 0,Ω])] ?_
    refine yZ (xM (zE (xW (zA (zB (xq 2 [yJ 24 (IntKind.i64.wrap ((i:Int)+1))] [] ?_))))))
    rw[yW ((i:Int)+1) (((i+1:Nat):Int)) qO]
    refine xq 1 [yJ 5 (i+1:Nat)] [] ?_
    refine xe ?_
    exact xK ((1+(n-(i+1)))) qO ⟨(i+1),(G.set (i*n+j) (⟨f.s,J,K,L,f.m,f.e⟩:Nb)),rfl,rfl,qO,H,(by rw[tM];exact B),(ZpL T (show FvOk (nbV (⟨f.s,J,K,L,f.m,f.e⟩:Nb)) from w0)),(by rw[List.map_set,show nbV (⟨f.s,J,K,L,f.m,f.e⟩:Nb)=u from ((iV (Zh2 f0 d0 (Zkx (by rw[B];exact (jH r r)) V))).2.trans (by rw[W];rfl)).symm];have h:=t0;exact h),rfl⟩ (fun w Q=>⟨⟨⟨Q.1.1.1,Q.1.1.2⟩,Q.1.2⟩,Q.2⟩)
   have f0:¬ j<i:=by have:=uD j0;omega
   have D0:i=j:=qO
   refine zJ (zA (zC (yY (xq 1 [(62,.v (yV t.s t.A t.l t.c t.e))] [] ?_))))
   refine xqc 66 [yV t.s t.A t.l t.c t.e] 63 (fun _:Unit=>yI (sgnV (nbV t))) _ (fun w R Q=>yN (ZnL t.s t.A t.l t.c t.m t.e _ Q.2)) fun xx=>?_
   refine xq 1 [yB 64 (decide ((sgnV (nbV t))≤0))] [] ?_
   rw[(show decide (sgnV (nbV t)≤0)=false from uV (ZdH f0 d0).1)]
   refine yZ (xb (zJ (zA ?_)))
   refine yO 9 zM ?_
   refine xqg 4 [(66,.v (.agg #[yI n, yI n,Υ a (n*n)])),yJ 67 j,yJ 68 j,(69,.v (yV t.s t.A t.l t.c t.e))] ?_
   refine xqj 70 (yI b) (fun w Q=>wN (t:=3) (x:=.tmp 1) (g:=P) (off:=0) (Blk.news Q.1.1.1.1.2 0 _ rfl)) ?_
   obtain⟨o,X⟩:=yE (iP (nbV t) b)
   have o0:o.err=0:=by rw[←X];exact (iV (ZdH f0 d0).2).1
   have x0:FvOk (fvR o):=by rw[←X];exact Zku S qO qO (by rw[X];exact o0)
   refine xqd 67 [yV t.s t.A t.l t.c t.e, yI b] 71 (fun q:ShN=>.tuple #[yV o.s q.1 q.2.1 q.2.2 o.e, yI 0]) _ (fun w R Q=>((show Calls _ _ _ _ (wE w o) by rw[←X];exact ZnN t.s t.A t.l t.c t.m t.e b qO qO _ (hg.ext R) Q.1.2 S.wl S.lo S.hi S.2.2.1)).mono (fun _ _ h=>ZdG o0 h)) fun⟨M,N,O⟩=>?_
   refine xqg 2 [(72,.v (yV o.s M N O o.e)),yJ 73 0] ?_
   refine xqd 64 [yV o.s M N O o.e, yI 0] 74 (fun _:Unit=>.agg #[.bool o.s,.slice M N O, yI o.e]) _ (fun w R Q=>yN (ZdF o.s M N O o.e _)) fun xx=>?_
   refine xz ?_
   refine ZbT (b:=a) (d:=75) (j:=0) (c:=.bool G[0]!.s) 63 [.agg #[yI n, yI n,Υ a (n*n)], yI j, yI j, yV o.s M N O o.e] (fun _:Unit=>.tuple #[]) (fun w=>((Blk 75 w I #[yI n, yI n,.slice A (n*n) cap]∧Blk 3 w P #[yI b])∧wR w (G.set (j*n+j) (⟨o.s,M,N,O,o.m,o.e⟩:Nb)))) (fun _ w=>OwnD w m0 99 3 (yL a) (n*n) (n*n) ((G.set (j*n+j) (⟨o.s,M,N,O,o.m,o.e⟩:Nb)).flatMap nbC)) (fun w Q=>ZiL Q.1.1.1.1.2 (by rw[B];have:=(jH r r);omega)) (Or.inl (c0 ▸ k0)) (fun w R Q=>yM Zkz (Zkw m0 n n a (n*n) (n*n) G j j (⟨o.s,M,N,O,o.m,o.e⟩:Nb) _ Q.1.1.1.1.2 B qO qO (jH r r) qO)) (fun w w' R Q hF=>⟨⟨Blk.fr Q.1.1.1.1.1.1.1 hF (fun h=>by have h:I=a:=h;omega),Blk.fr Q.1.1.1.1.1.1.2 hF (fun h=>by have h:P=a:=h;omega)⟩,wR.set (wR.nrb Q.1.1.1.1.1.2 (fun i e=>by subst e;exact OwnD.nrb Q.1.1.1.1.2 rfl) hF) (zF.nrb Q.1.2 (fun i e=>by subst e;exact OwnD.nrb Q.1.1.1.1.2 rfl) hF)⟩) fun _=>?_
   refine xr 0 [(0,.v (.pointer (yL I))),(1,.v (.pointer (yL P))),Δ 2,Δ 3,yJ 4 j,yJ 5 i,yJ 14 n,yJ 15 j] [(3,75,[Γ n,Γ n,Λ (yL a) (n*n) (n*n)]),(2,75,[Γ 0,Γ 0,Ω])] ?_
   refine xe (xR (zA (zB (xq 2 [yJ 24 (IntKind.i64.wrap ((i:Int)+1))] [] ?_))))
   rw[yW ((i:Int)+1) (((i+1:Nat):Int)) qO]
   refine xq 1 [yJ 5 (i+1:Nat)] [] ?_
   refine xe ?_
   exact xK ((1+(n-(i+1)))) qO ⟨(i+1),(G.set (j*n+j) (⟨o.s,M,N,O,o.m,o.e⟩:Nb)),rfl,rfl,qO,H,(by rw[tM];exact B),(ZpL T (show FvOk (nbV (⟨o.s,M,N,O,o.m,o.e⟩:Nb)) from x0)),(by rw[List.map_set,show nbV (⟨o.s,M,N,O,o.m,o.e⟩:Nb)=u from ((iV (ZdH f0 d0).2).2.trans (by rw[X];rfl)).symm];have h:=t0;rw[D0] at h ⊢;exact h),rfl⟩ (fun w Q=>⟨⟨⟨Q.1.1.1,Q.1.1.2⟩,Q.1.2⟩,Q.2⟩)
  have E0:i=n:=by have:=uD h0;omega
  have F0:G.map nbV=L1:=by rw[E0,rZ] at hI;injection hI
  refine xM (zE (zE (xW (xR (zA (zB (xq 1 [yJ 76 (IntKind.i64.wrap ((j:Int)+1))] [] ?_)))))))
  rw[yW ((j:Int)+1) (((j+1:Nat):Int)) qO]
  refine xq 1 [yJ 15 (j+1:Nat)] [] ?_
  refine xe ?_
  exact xK ((1+(n-(j+1)))) qO ⟨(j+1),G,rfl,rfl,r,B,T,(by rw[F0];exact hJ),rfl⟩ (fun w Q=>⟨⟨⟨Q.1.1.1,Q.1.1.2⟩,Q.1.2⟩,Q.2⟩)
 have G0:j=n:=by have:=uD g0;omega
 refine xM (zE (zE (xW (zA (yY (xq 2 [] [(2,75,[Γ n,Γ n,Λ (yL a) (n*n) (n*n)])] ?_))))))
 refine yZ (zH ?_)
 refine yR (.agg #[yI n, yI n,Υ a (n*n)]) fun w' R Q=>?_
 exact⟨a,G,by rw[B],by rw[G0,rZ] at hL;injection hL,by rw[B];exact c0 ▸ Q.2,Q.1.2,R⟩
end Go.Proofs.YtmpffakfhcpjoaaGreatDoor
namespace Go.Proofs.YtmpffakfhcpjoaaGreatDoor
def Bv (E:Int) (v:Fv3):Prop:=blen v.2.1≤65∧(-E≤v.2.2∧v.2.2≤E)∧(v.2.1=0→v.2.2=0)
def kZ {α:Type} (r c:Nat) (V:Nat→Nat→α):List α:=(List.range r).flatMap fun i=>(List.range c).map (V i)
theorem Za6 {α:Type}(r c:Nat)(V:Nat→Nat→α):(kZ r c V).length=r*c:=by
 unfold kZ
 induction r with
 | zero=>simp
 | succ r ih=>rw[mP,nG,vE,ih,mA,vG,List.length_range,rA]
theorem gidx {i j r c:Nat}(hi:i<r)(a:j<c):i*c+j<r*c:=by
 have:=uE c (show i+1≤r by omega)
 rw[rA] at this
 omega
theorem Zp3 {α:Type}{r c:Nat}{V:Nat→Nat→α}{i j:Nat}(hi:i<r)(a:j<c):(kZ r c V)[i*c+j]? = some (V i j):=by
 induction r with
 | zero=>omega
 | succ r ih =>
  have e:kZ (r+1) c V=kZ r c V ++ (List.range c).map (V r):=by
   unfold kZ
   rw[mP,nG,mA]
  rw[e]
  by_cases h:i<r
  ·rw[rP (by rw[Za6];exact gidx h a)]
   exact ih h
  have:i=r:=qO
  subst this
  rw[sN (by rw[Za6];omega),Za6,show i*c+j-i*c=j by omega,nW,List.getElem?_range a]
  rfl
end Go.Proofs.YtmpffakfhcpjoaaGreatDoor
