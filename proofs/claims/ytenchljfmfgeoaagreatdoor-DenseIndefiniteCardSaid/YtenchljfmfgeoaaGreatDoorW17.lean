/-
 My texts.
-/
import Derived.Test.YtenchljfmfgeoaaGreatDoorW15
set_option maxRecDepth 100000
set_option maxHeartbeats 8000000
namespace Go.Proofs.YtenchljfmfgeoaaGreatDoor
open Go.RowKit Tryz
noncomputable def win (o n:Nat) (zs:List Nat):Nat:=val W64 ((zs.drop o).take (n+1))
theorem aL {o n:Nat}{zs:qN}(h:o≤zs.length):val W64 (zs.take (o+n+1))=val W64 (zs.take o)+W64^o*win o n zs:=by
 unfold win
 rw[show o+n+1=o+(n+1) by omega,List.take_add,kN,uP,uV h]
theorem ZmY {o n:Nat}{zs:qN}(a:Dig W64 zs):win o n zs<W64^(n+1):=by
 have:=wA ((a.drop o).take (n+1))
 refine uS this (uW zJ (by rw[uP];exact Nat.min_le_left _ _))
def WinR (o n:Nat) (zs0 zs:List Nat):Prop:=zs.length=zs0.length∧Dig W64 zs∧zs.take o=zs0.take o∧zs.drop (o+n+1)=zs0.drop (o+n+1)
theorem WinR.start {o n:Nat}{zs0:qN}(h:Dig W64 zs0):WinR o n zs0 zs0:=⟨rfl,h,rfl,rfl⟩
theorem Zf1 {o a b c d x:Nat}(h:x+W64^o*a+W64^o*b=x+W64^o*c+W64^o*d):a+b=c+d:=by
 have e:W64^o*(a+b)=W64^o*(c+d):=by rw[uK,uK];omega
 exact Nat.eq_of_mul_eq_mul_left (uU zJ) e
theorem ZdT.win {a c ys zs:qN}{q o b:Nat}(h:ZdT c ys q o zs b)(p:o≤a.length)(k:WinR o ys.length a c):WinR o ys.length a zs∧b≤1∧win o ys.length zs+q*val W64 ys=win o ys.length c+W64^(ys.length+1)*b:=by
 obtain⟨f,g,i,d,j,e⟩:=h
 obtain⟨l,r,m,n⟩:=k
 refine⟨⟨f.trans l,g,d.trans m,j.trans n⟩,i,?_⟩
 rw[aL qO,aL qO,d,show o+ys.length+1=o+(ys.length+1) by omega,uR,uG (W64^o)] at e
 exact Zf1 e
theorem ZdU.win {a b ys zs:qN}{o c:Nat}(h:ZdU b ys o zs c)(p:o≤a.length)(k:WinR o ys.length a b):WinR o ys.length a zs∧c≤1∧win o ys.length zs+W64^(ys.length+1)*c=win o ys.length b+val W64 ys:=by
 obtain⟨f,g,i,d,j,e⟩:=h
 obtain⟨l,q,m,n⟩:=k
 refine⟨⟨f.trans l,g,d.trans m,j.trans n⟩,i,?_⟩
 rw[aL qO,aL qO,d,show o+ys.length+1=o+(ys.length+1) by omega,uR,uG (W64^o)] at e
 exact Zf1 e
theorem Zqf {o n:Nat}{zs:qN}{u0 u1 u2:Nat}(e:2≤n)(f:o+n<zs.length)(c:zs[o+n]?.getD 0=u0)(a:zs[o+(n-1)]?.getD 0=u1)(b:zs[o+(n-2)]?.getD 0=u2)(d:Dig W64 zs) :
 ∃ l,l<W64^(n-2)∧win o n zs=l+W64^(n-2)*(u2+W64*(u1+W64*u0)):=by
 obtain⟨m,rfl⟩:∃ m,n=m+2:=⟨n-2,qO⟩
 refine⟨val W64 ((zs.drop o).take m),?_,?_⟩
 ·have:=wA ((d.drop o).take m)
  rw[uP,tN,uV qO] at this
  exact this
 unfold win
 simp only[show m+2-1=m+1 by omega,show m+2-2=m by omega] at a b ⊢
 have g:∀ j,(zs.drop o)[j]?.getD 0=zs[o+j]?.getD 0:=fun j=>by rw[vJ]
 rw[lI (m+2),lI (m+1),lI m,g,g,g,c,a,b]
 simp only[uN,uK,uG,tZ]
theorem Zqg {n:Nat}{ys:qN}{t v2:Nat}(c:2≤n)(d:ys.length=n)(a:ys[n-1]?.getD 0=t)(b:ys[n-2]?.getD 0=v2):∃ l,val W64 ys=l+W64^(n-2)*(v2+W64*t):=by
 obtain⟨m,rfl⟩:∃ m,n=m+2:=⟨n-2,qO⟩
 refine⟨val W64 (ys.take m),?_⟩
 simp only[show m+2-1=m+1 by omega,show m+2-2=m by omega] at a b ⊢
 have:=lI (B:=W64) (xs:=ys) (m+1)
 rw[uA qO,lI m,a,b,uN] at this
 rw[this]
 simp only[uK,uG,tZ]
theorem ZoK {B l U V a u0 u1 u2 v2 t:Nat}(f:l<B)(g:U=l+B*(u2+W64*(u1+W64*u0)))(b:V=a+B*(v2+W64*t))(h:u2<W64)(c:0<t):U/V≤divQ u0 u1 t:=by
 unfold divQ
 rw[qJ c]
 have i:=qY U V
 generalize U/V=q at *
 have j:q*(B*(W64*t))≤q*V:=uJ _ (by rw[b,uK];omega)
 have d:B*(q*(W64*t))<B*(u2+W64*(u1+W64*u0)+1):=by
  rw[tE,uK B (_+_) 1];omega
 have k:=sJ d
 have e:W64*(q*t)<W64*(u1+W64*u0+1):=by
  rw[tE,uK W64 (_+_) 1];omega
 have m:=sJ e
 rw[uF u0];omega
theorem Zf2 {B l U V b u0 u1 u2 v2 t g r:Nat}(j:l<B)(k:U=l+B*(u2+W64*(u1+W64*u0)))(c:V=b+B*(v2+W64*t))(d:r+g*t=u0*W64+u1)(h:r*W64+u2<g*v2)(a:0<V):U/V+1≤g:=by
 rw[Nat.add_one_le_iff,vM a]
 have f:u2+W64*(u1+W64*u0)+1≤g*(v2+W64*t):=by
  have e:W64*(r+g*t)=W64*(u1+W64*u0):=by rw[d,vR,uF u0]
  rw[uK g,tE g]
  rw[uK W64 r] at e
  rw[uF r] at h
  omega
 have i:B*(u2+W64*(u1+W64*u0)+1)≤g*V:=by
  refine uC (uJ B f) ?_
  rw[tE,c]
  exact uJ _ qO
 rw[uK B (_+_) 1] at i
 omega
theorem ZmZ {U V:Nat}(h:U<W64*V):U/V≤W64-1:=by
 have a:0<V:=sO (fun e=>by subst e;omega)
 have:=(vM a).2 h
 omega
theorem Zky {hi lo r u g v:Nat}(h:lo+W64*hi=g*v)(b:¬ hi<r)(c:hi=r→¬ lo≤u)(d:u<W64):r*W64+u<g*v:=by
 rw[←h,uF r]
 rcases qU hi r with a|a|a
 ·exact absurd a b
 ·have:=c a;subst a;omega
 have:=uJ W64 a
 rw[Nat.mul_succ] at this
 omega
def CorR (U V P:Nat) (g b wn:Nat):Prop:=b≤1∧wn<P∧U/V≤g∧wn+g*V=U+P*b
theorem CorR.pos {U V P g b a:Nat}(h:CorR U V P g b a)(c:b=1)(d:0<V):U/V+1≤g:=by
 obtain⟨_,e,_,f⟩:=h
 subst c
 rw[Nat.add_one_le_iff,vM d]
 omega
theorem CorR.step {U V P g b d wn' c:Nat}(h:CorR U V P g b d)(e:b=1)(i:0<V)(l:c≤1)(j:wn'<P)(f:wn'+P*c=d+V):CorR U V P (g-1) (1-c) wn':=by
 have m:=h.pos e i
 obtain⟨n,o,p,a⟩:=h
 subst e
 unfold CorR
 generalize U/V=q at *
 refine⟨qO,j,qO,?_⟩
 obtain⟨k,rfl⟩:∃ k,g=k+1:=⟨g-1,qO⟩
 rw[tH]
 rw[uT] at a
 rcases (by omega:c=0∨c=1) with rfl|rfl
 ·simp at f a ⊢;omega
 simp at f a ⊢;omega
theorem CorR.done {U V P g a:Nat}(h:CorR U V P g 0 a)(b:0<V):g=U/V∧a=U%V:=by
 obtain⟨d,f,i,c⟩:=h
 rw[tR,tD] at c
 have j:g≤U/V:=by rw[qJ b];omega
 have e:g=U/V:=qO
 refine⟨e,?_⟩
 have:=vX U V
 rw[←e,uF] at this
 omega
theorem ZrW:(18446744073709551615:Int)=((W64-1:Nat):Int):=by rw[zL];rfl
theorem Zpx {a b:Nat}(h:¬ a+b<W64)(ha:a<W64)(c:b<W64):IntKind.u64.wrap ((a:Int)+(b:Int))=((a+b-W64:Nat):Int):=by
 rw[IntKind.wrap_u64]
 rw[zL] at *
 omega
theorem Zqh {c:Nat}(h:c≤1):(!(((c:Nat):Int) == 1))=(((1-c:Nat):Int) == 1):=by
 rcases (by omega:c=0∨c=1) with rfl|rfl<;>rfl
def Zrk (b o:Nat) (zs0 ys:List Nat) (w:World) (e:Ending) (w':World):Prop:=∃ zs,e=.returned (.int .u64 ((win o ys.length zs0/val W64 ys:Nat):Int))∧(WinR o ys.length zs0 zs∧win o ys.length zs=win o ys.length zs0%val W64 ys)∧Fr (fun i=>i=b) w w'∧Own .u64 141 w' b zs
theorem Zf3 (b c o:Nat)(g ys:qN)(A:qA)(c2:Nat)(w:World)(hO:Own .u64 141 w b g)(hY:zD .u64 w A ys)(hA:∀ a,A=some a→a.block≠b)(ho:o+ys.length<g.length)(hl:g.length≤4294967296)(O:Dig W64 g)(hy:Dig W64 ys)(q0:2≤ys.length)(C:0<val W64 ys)(r0:win o ys.length g<W64*val W64 ys) :
 yA 195 #[.slice (some ⟨b,o,none⟩) (ys.length+1) c,.slice A ys.length c2] w (Zrk b o g ys w):=by
 obtain⟨u2,D⟩:=yE (g[o+(ys.length-2)]?.getD 0)
 refine Zao (fun i=>i=b) (Φ:=fun w=>(Own .u64 141 w b g∧zD .u64 w A ys)) func195 rfl qK (fun w' hf=>⟨hO.ext hf,hY.ext hf⟩) ?_
 refine yY (xq 1 [yU 4 0] [] ?_)
 refine yZ (yY (xq 3 [yJ 5 ((ys.length:Nat):Int)] [] ?_))
 refine yZ (yY (xq 3 [eS1 14 A ys.length c2,yJ 16 (IntKind.i64.wrap (((ys.length:Nat):Int)-1))] [] ?_))
 rw[yW (((ys.length:Nat):Int)-1) (((ys.length-1:Nat):Int)) qO]
 refine xqk 17 (atA A (ys.length-1)) (fun w R Q=>wL (t:=107) (e:=141) (x:=.tmp 14) (ix:=.tmp 16) (len:=ys.length) (cap:=c2) (i:=ys.length-1) ((Q.2).ne (j:=ys.length-1) qO) qO) ?_
 obtain⟨x10,q⟩:=yE (ys[ys.length-1]?.getD 0)
 refine xqk 18 (yX (x10:Int)) (fun w R Q=>by rw[←q];exact lG (t:=141) (x:=.tmp 17) (Q.2) (j:=ys.length-1) qO) ?_
 refine xq 1 [yU 6 (x10:Int)] [] ?_
 refine yZ (yY (xq 1 [yU 7 18446744073709551615] [] ?_))
 rw[ZrW]
 refine xe (zA ?_)
 refine Ziv (fun P S=>∃ (f:Nat),P=ofL [eS1 0 (some ⟨b,o,none⟩) (ys.length+1) c,eS1 1 A ys.length c2,yU 7 (f:Int)] []∧S=(fun w=>(Own .u64 141 w b (g)∧zD .u64 w A (ys)))∧(win o ys.length g/val W64 ys≤f)∧(f<W64)) ?_ ?_
 ·refine yY (xq 2 [eS1 19 (some ⟨b,o,none⟩) (ys.length+1) c,yJ 20 ((ys.length:Nat):Int)] [] ?_)
  refine xqk 21 (.pointer (some ⟨b,o+ys.length,none⟩)) (fun w R Q=>jT (t:=107) (e:=141) (x:=.tmp 19) (ix:=.tmp 20) (len:=(ys.length+1)) (cap:=c) (i:=ys.length) qO) ?_
  obtain⟨k,E⟩:=yE (g[o+ys.length]?.getD 0)
  refine xqk 22 (yX (k:Int)) (fun w R Q=>by rw[←E];exact gP (t:=141) (x:=.tmp 21) (Q.1) (j:=o+ys.length) qO) ?_
  refine xq 2 [yB 24 (decide ((k:Int)<(x10:Int)))] [] ?_
  refine xe (zA ?_)
  refine yQ ((decide ((k:Int)<(x10:Int)))) (fun F=>?_) fun F=>?_
  ·have a0:=uB F
   refine yY (xq 1 [yU 8 0] [] ?_)
   refine yZ (zC ?_)
   refine aI 16 [0,0,3,7,0,0,32,112,240,0,1023,2047,4095,4095,8191,32767] qK qK zO ?_
   refine xqf 2 [eS1 26 (some ⟨b,o,none⟩) (ys.length+1) c,yJ 27 ((ys.length:Nat):Int)] [] ?_
   refine xqj 28 (.pointer (some ⟨b,o+ys.length,none⟩)) (fun w Q=>jT (t:=107) (e:=141) (x:=.tmp 26) (ix:=.tmp 27) (len:=(ys.length+1)) (cap:=c) (i:=ys.length) qO) ?_
   obtain⟨l0,T⟩:=yE (g[o+ys.length]?.getD 0)
   refine xqj 29 (yX (l0:Int)) (fun w Q=>by rw[←T];exact gP (t:=141) (x:=.tmp 28) (Q.1) (j:=o+ys.length) qO) ?_
   obtain rfl:k=l0:=by rw[←E,T]
   refine xqf 3 [eS1 30 (some ⟨b,o,none⟩) (ys.length+1) c,yJ 32 (IntKind.i64.wrap (((ys.length:Nat):Int)-1))] [] ?_
   rw[yW (((ys.length:Nat):Int)-1) (((ys.length-1:Nat):Int)) qO]
   refine xqj 33 (.pointer (some ⟨b,o+(ys.length-1),none⟩)) (fun w Q=>jT (t:=107) (e:=141) (x:=.tmp 30) (ix:=.tmp 32) (len:=(ys.length+1)) (cap:=c) (i:=ys.length-1) qO) ?_
   obtain⟨l,B⟩:=yE (g[o+(ys.length-1)]?.getD 0)
   refine xqj 34 (yX (l:Int)) (fun w Q=>by rw[←B];exact gP (t:=141) (x:=.tmp 33) (Q.1) (j:=o+(ys.length-1)) qO) ?_
   refine xqf 1 [yU 35 (x10:Int)] [] ?_
   refine xqd 174 [yX (k:Int), yX (l:Int), yX (x10:Int)] 36 (fun _:Unit=>.tuple #[yX ((divQ k l x10:Nat):Int), yX ((divR k l x10:Nat):Int)]) _ (fun w R Q=>yN (Zhi k l x10 _ qO (by rw[←q];exact hy.getD zJ _) (by rw[←B];exact O.getD zJ _))) fun xx=>?_
   refine xqf 5 [yU 7 ((divQ k l x10:Nat):Int),yU 8 ((divR k l x10:Nat):Int)] [] ?_
   refine xz (yZ (zP ?_))
   obtain⟨lw,b0,hU⟩:=Zqf (o:=o) (n:=ys.length) qO qO E B D O
   obtain⟨y2,c0⟩:=yE (ys[ys.length-2]?.getD 0)
   obtain⟨vl,hV⟩:=Zqg (ys:=ys) q0 rfl q c0
   refine yC [eS1 0 (some ⟨b,o,none⟩) (ys.length+1) c,eS1 1 A ys.length c2,yU 4 0,yJ 5 ((ys.length:Nat):Int),yU 6 (x10:Int),yU 7 (((divQ k l x10):Nat):Int),yU 8 (((divR k l x10):Nat):Int)] [] (fun w=>(Own .u64 141 w b (g)∧zD .u64 w A (ys))) (fun w Q=>⟨Q.1.1,Q.1.2⟩) ?_
   have m0:0<x10:=qO
   refine xU (fun nn P S=>∃ (f h:Nat),P=ofL [eS1 0 (some ⟨b,o,none⟩) (ys.length+1) c,eS1 1 A ys.length c2,yU 4 0,yJ 5 ((ys.length:Nat):Int),yU 6 (x10:Int),yU 7 (f:Int),yU 8 (h:Int)] []∧S=(fun w=>(Own .u64 141 w b (g)∧zD .u64 w A (ys)))∧(win o ys.length g/val W64 ys≤f)∧(f<W64)∧(h+f*x10=k*W64+l)∧(h<W64)∧nn=(1+f)) ((1+(divQ k l x10))) ⟨(divQ k l x10),(divR k l x10),rfl,rfl,(ZoK b0 hU hV (by rw[←D];exact O.getD zJ _) m0),(Zgn qO (by rw[←B];exact O.getD zJ _)),(by rw[vR];exact Zcr _ _ _),(rV (ZbV _ _ m0) (by rw[←q];exact hy.getD zJ _)),rfl⟩ ?_
   rintro nn P S ⟨f,h,rfl,rfl,hq,y,hr,s0,rfl⟩
   refine zP (yY (xq 4 [yU 40 (f:Int),eS1 41 A ys.length c2,yJ 43 (IntKind.i64.wrap (((ys.length:Nat):Int)-2))] [] ?_))
   rw[yW (((ys.length:Nat):Int)-2) (((ys.length-2:Nat):Int)) qO]
   refine xqk 44 (atA A (ys.length-2)) (fun w R Q=>wL (t:=107) (e:=141) (x:=.tmp 41) (ix:=.tmp 43) (len:=ys.length) (cap:=c2) (i:=ys.length-2) ((Q.2).ne (j:=ys.length-2) qO) qO) ?_
   obtain⟨n0,U⟩:=yE (ys[ys.length-2]?.getD 0)
   refine xqk 45 (yX (n0:Int)) (fun w R Q=>by rw[←U];exact lG (t:=141) (x:=.tmp 44) (Q.2) (j:=ys.length-2) qO) ?_
   obtain rfl:y2=n0:=by rw[←c0,U]
   refine xqc 161 [yX (f:Int), yX (y2:Int)] 46 (fun _:Unit=>.tuple #[yX ((wJ f y2:Nat):Int), yX ((xA f y2:Nat):Int)]) _ (fun w R Q=>yN (ZdN f y2 _ y (by rw[←c0];exact hy.getD zJ _))) fun xx=>?_
   refine xq 5 [yU 9 ((wJ f y2:Nat):Int),yU 10 ((xA f y2:Nat):Int)] [] ?_
   refine yZ (zC (yY (xq 4 [yB 52 (decide (((wJ f y2:Nat):Int)<(h:Int)))] [] ?_)))
   rcases bl2 ((decide (((wJ f y2:Nat):Int)<(h:Int)))) with s|s
   ·rw[s]
    have d0:=uB s
    refine xq 13 [yB 65 true] [] ?_
    refine yZ (xa (xO (zH ?_)))
    refine Zeq qK ?_
    refine zH (xY ?_)
    refine yP [eS1 0 (some ⟨b,o,none⟩) (ys.length+1) c,eS1 1 A ys.length c2,yU 7 (f:Int)] [] (fun w=>(Own .u64 141 w b (g)∧zD .u64 w A (ys))) (fun w Q=>⟨Q.1.1,Q.1.2⟩) ?_
    exact dK ⟨f,rfl,rfl,hq,y⟩
   rw[s]
   have d0:=uD s
   refine xq 4 [yB 56 ((((wJ f y2:Nat):Int):Int) == (h:Int))] [] ?_
   rcases bl2 (((((wJ f y2:Nat):Int):Int) == (h:Int))) with u|u
   ·rw[u]
    have G:=sN.1 u
    refine xq 4 [yU 57 ((xA f y2:Nat):Int),eS1 58 (some ⟨b,o,none⟩) (ys.length+1) c,yJ 60 (IntKind.i64.wrap (((ys.length:Nat):Int)-2))] [] ?_
    rw[yW (((ys.length:Nat):Int)-2) (((ys.length-2:Nat):Int)) qO]
    refine xqk 61 (.pointer (some ⟨b,o+(ys.length-2),none⟩)) (fun w R Q=>jT (t:=107) (e:=141) (x:=.tmp 58) (ix:=.tmp 60) (len:=(ys.length+1)) (cap:=c) (i:=ys.length-2) qO) ?_
    obtain⟨o0,V⟩:=yE (g[o+(ys.length-2)]?.getD 0)
    refine xqk 62 (yX (o0:Int)) (fun w R Q=>by rw[←V];exact gP (t:=141) (x:=.tmp 61) (Q.1.1) (j:=o+(ys.length-2)) qO) ?_
    obtain rfl:u2=o0:=by rw[←D,V]
    refine xq 3 [yB 65 (decide (((xA f y2:Nat):Int)≤(u2:Int)))] [] ?_
    refine xe (zA ?_)
    refine yQ ((decide (((xA f y2:Nat):Int)≤(u2:Int)))) (fun H=>?_) fun H=>?_
    ·have e0:=uB H
     refine xO (zH ?_)
     refine Zeq qK ?_
     refine zH (xY ?_)
     refine yP [eS1 0 (some ⟨b,o,none⟩) (ys.length+1) c,eS1 1 A ys.length c2,yU 7 (f:Int)] [] (fun w=>(Own .u64 141 w b (g)∧zD .u64 w A (ys))) (fun w Q=>⟨Q.1.1,Q.1.2⟩) ?_
     exact dK ⟨f,rfl,rfl,hq,y⟩
    have e0:=uD H
    refine zI (zA (zC ?_))
    have f0:h*W64+u2<f*y2:=Zky (eZ f y2) qO (fun _=>qO) (by rw[←D];exact O.getD zJ _)
    have r:=Zf2 b0 hU hV hr f0 C
    have p0:1≤f:=uC (Nat.le_add_left 1 _) r
    by_cases z:h+x10<W64
    ·refine zB (xq 2 [yU 67 (IntKind.u64.wrap ((f:Int)-1))] [] ?_)
     rw[show IntKind.u64.wrap (((f:Int)-1))=((f-1:Nat):Int) by rw[IntKind.wrap_u64];have:=zL;omega]
     refine xq 1 [yU 7 ((f-1:Nat):Int)] [] ?_
     refine yZ (yY (xq 3 [yU 70 (IntKind.u64.wrap ((h:Int)+(x10:Int)))] [] ?_))
     rw[ZfY (a:=h) (b:=x10) z]
     refine xq 1 [yU 8 ((h+x10:Nat):Int)] [] ?_
     refine yZ (yY (xq 3 [yB 73 (decide (((h+x10:Nat):Int)<(x10:Int)))] [] ?_))
     refine xe (zA ?_)
     refine yQ ((decide (((h+x10:Nat):Int)<(x10:Int)))) (fun I=>?_) fun I=>?_
     ·have g0:=uB I
      exfalso;omega
     have g0:=uD I
     refine zI (xR ?_)
     refine yP [eS1 0 (some ⟨b,o,none⟩) (ys.length+1) c,eS1 1 A ys.length c2,yU 4 0,yJ 5 ((ys.length:Nat):Int),yU 6 (x10:Int),yU 7 (((f-1):Nat):Int),yU 8 (((h+x10):Nat):Int)] [] (fun w=>(Own .u64 141 w b (g)∧zD .u64 w A (ys))) (fun w Q=>⟨Q.1.1,Q.1.2⟩) ?_
     exact xG ((1+(f-1))) qO ⟨(f-1),(h+x10),rfl,rfl,(pP r),qO,(by obtain⟨m,rfl⟩:∃ m,f=m+1:=⟨f-1,qO⟩;rw[tH];rw[uT] at hr;omega),z,rfl⟩
    refine zB (xq 2 [yU 67 (IntKind.u64.wrap ((f:Int)-1))] [] ?_)
    rw[show IntKind.u64.wrap (((f:Int)-1))=((f-1:Nat):Int) by rw[IntKind.wrap_u64];have:=zL;omega]
    refine xq 1 [yU 7 ((f-1:Nat):Int)] [] ?_
    refine yZ (yY (xq 3 [yU 70 (IntKind.u64.wrap ((h:Int)+(x10:Int)))] [] ?_))
    rw[Zpx (a:=h) (b:=x10) z qO (by rw[←q];exact hy.getD zJ _)]
    refine xq 1 [yU 8 ((h+x10-W64:Nat):Int)] [] ?_
    refine yZ (yY (xq 3 [yB 73 (decide (((h+x10-W64:Nat):Int)<(x10:Int)))] [] ?_))
    refine xe (zA ?_)
    refine yQ ((decide (((h+x10-W64:Nat):Int)<(x10:Int)))) (fun J=>?_) fun J=>?_
    ·have h0:=uB J
     refine xO ?_
     refine Zeq qK ?_
     refine zH (xY ?_)
     refine yP [eS1 0 (some ⟨b,o,none⟩) (ys.length+1) c,eS1 1 A ys.length c2,yU 7 (((f-1):Nat):Int)] [] (fun w=>(Own .u64 141 w b (g)∧zD .u64 w A (ys))) (fun w Q=>⟨Q.1.1,Q.1.2⟩) ?_
     exact dK ⟨(f-1),rfl,rfl,(pP r),qO⟩
    have h0:=uD J
    exfalso;omega
   rw[u]
   have G:=lJ u
   refine xq 9 [yB 65 false] [] ?_
   refine yZ (xb (zI (zA (zC ?_))))
   have f0:h*W64+u2<f*y2:=Zky (eZ f y2) qO (fun e=>absurd (show (wJ f y2:Int)=h by rw[e]) G) (by rw[←D];exact O.getD zJ _)
   have r:=Zf2 b0 hU hV hr f0 C
   have p0:1≤f:=uC (Nat.le_add_left 1 _) r
   by_cases z:h+x10<W64
   ·refine zB (xq 2 [yU 67 (IntKind.u64.wrap ((f:Int)-1))] [] ?_)
    rw[show IntKind.u64.wrap (((f:Int)-1))=((f-1:Nat):Int) by rw[IntKind.wrap_u64];have:=zL;omega]
    refine xq 1 [yU 7 ((f-1:Nat):Int)] [] ?_
    refine yZ (yY (xq 3 [yU 70 (IntKind.u64.wrap ((h:Int)+(x10:Int)))] [] ?_))
    rw[ZfY (a:=h) (b:=x10) z]
    refine xq 1 [yU 8 ((h+x10:Nat):Int)] [] ?_
    refine yZ (yY (xq 3 [yB 73 (decide (((h+x10:Nat):Int)<(x10:Int)))] [] ?_))
    refine xe (zA ?_)
    refine yQ ((decide (((h+x10:Nat):Int)<(x10:Int)))) (fun K=>?_) fun K=>?_
    ·have i0:=uB K
     exfalso;omega
    have i0:=uD K
    refine zI (xR ?_)
    refine yP [eS1 0 (some ⟨b,o,none⟩) (ys.length+1) c,eS1 1 A ys.length c2,yU 4 0,yJ 5 ((ys.length:Nat):Int),yU 6 (x10:Int),yU 7 (((f-1):Nat):Int),yU 8 (((h+x10):Nat):Int)] [] (fun w=>(Own .u64 141 w b (g)∧zD .u64 w A (ys))) (fun w Q=>⟨Q.1.1,Q.1.2⟩) ?_
    exact xG ((1+(f-1))) qO ⟨(f-1),(h+x10),rfl,rfl,(pP r),qO,(by obtain⟨m,rfl⟩:∃ m,f=m+1:=⟨f-1,qO⟩;rw[tH];rw[uT] at hr;omega),z,rfl⟩
   refine zB (xq 2 [yU 67 (IntKind.u64.wrap ((f:Int)-1))] [] ?_)
   rw[show IntKind.u64.wrap (((f:Int)-1))=((f-1:Nat):Int) by rw[IntKind.wrap_u64];have:=zL;omega]
   refine xq 1 [yU 7 ((f-1:Nat):Int)] [] ?_
   refine yZ (yY (xq 3 [yU 70 (IntKind.u64.wrap ((h:Int)+(x10:Int)))] [] ?_))
   rw[Zpx (a:=h) (b:=x10) z qO (by rw[←q];exact hy.getD zJ _)]
   refine xq 1 [yU 8 ((h+x10-W64:Nat):Int)] [] ?_
   refine yZ (yY (xq 3 [yB 73 (decide (((h+x10-W64:Nat):Int)<(x10:Int)))] [] ?_))
   refine xe (zA ?_)
   refine yQ ((decide (((h+x10-W64:Nat):Int)<(x10:Int)))) (fun L=>?_) fun L=>?_
   ·have j0:=uB L
    refine xO ?_
    refine Zeq qK ?_
    refine zH (xY ?_)
    refine yP [eS1 0 (some ⟨b,o,none⟩) (ys.length+1) c,eS1 1 A ys.length c2,yU 7 (((f-1):Nat):Int)] [] (fun w=>(Own .u64 141 w b (g)∧zD .u64 w A (ys))) (fun w Q=>⟨Q.1.1,Q.1.2⟩) ?_
    exact dK ⟨(f-1),rfl,rfl,(pP r),qO⟩
   have j0:=uD L
   exfalso;omega
  have a0:=uD F
  refine zI ?_
  refine yP [eS1 0 (some ⟨b,o,none⟩) (ys.length+1) c,eS1 1 A ys.length c2,yU 7 (((W64-1):Nat):Int)] [] (fun w=>(Own .u64 141 w b (g)∧zD .u64 w A (ys))) (fun w Q=>⟨Q.1,Q.2⟩) ?_
  exact dK ⟨(W64-1),rfl,rfl,ZmZ r0,(by have:=zJ;omega)⟩
 rintro P S ⟨f,rfl,rfl,hq,y⟩
 refine zC (yY (xq 3 [eS1 74 (some ⟨b,o,none⟩) (ys.length+1) c,eS1 75 A ys.length c2,yU 76 (f:Int)] [] ?_))
 refine ZcC (xs:=g) (α:=List Nat × Nat) 220 [.slice (some ⟨b,o,none⟩) (ys.length+1) c,.slice A ys.length c2, yX (f:Int)] (d:=77) (fun x=>.bool (((x.2:Nat):Int) == 1)) (fun x=>ZdT g ys f o x.1 x.2) (fun x=>x.1) b (fun x w=>(Own .u64 141 w b (x.1)∧zD .u64 w A (ys))) (fun w Q=>Q.1) qO (Or.inr rfl) (fun w R Q=>ZiF b _ o _ ys A _ _ Q.1 Q.2 hA qO hl O hy _ y) (fun x w w' hp Q hF hO=>⟨hO,((Q.2).fr hF (fun a ha _=>hA a ha))⟩) fun x W=>?_
 obtain⟨X,M⟩:=x
 dsimp only at W
 have p:=W.win qO (WinR.start O)
 refine xr 1 [eS1 0 (some ⟨b,o,none⟩) (ys.length+1) c,eS1 1 A ys.length c2,yU 7 (f:Int),yB 11 ((M:Int) == 1)] [] ?_
 refine yZ (zP ?_)
 refine yC [eS1 0 (some ⟨b,o,none⟩) (ys.length+1) c,eS1 1 A ys.length c2,yU 7 (f:Int),yB 11 ((M:Int) == 1)] [] (fun w=>(Own .u64 141 w b (X)∧zD .u64 w A (ys))) (fun w Q=>⟨Q.1,Q.2⟩) ?_
 refine xU (fun nn P S=>∃ (f bb:Nat) (zs:List Nat),P=ofL [eS1 0 (some ⟨b,o,none⟩) (ys.length+1) c,eS1 1 A ys.length c2,yU 7 (f:Int),yB 11 ((bb:Int) == 1)] []∧S=(fun w=>(Own .u64 141 w b (zs)∧zD .u64 w A (ys)))∧(WinR o ys.length g zs)∧(CorR (win o ys.length g) (val W64 ys) (W64^(ys.length+1)) f bb (win o ys.length zs))∧(f<W64)∧nn=(1+f)) ((1+f)) ⟨f,M,X,rfl,rfl,p.1,⟨p.2.1,ZmY p.1.2.1,hq,p.2.2⟩,y,rfl⟩ ?_
 rintro nn P S ⟨f,bb,zs,rfl,rfl,HW,HC,y,rfl⟩
 refine zC (yY (xq 1 [yB 78 ((bb:Int) == 1)] [] ?_))
 refine xe (zA ?_)
 refine yQ (((bb:Int) == 1)) (fun N=>?_) fun N=>?_
 ·have k0:=sN.1 N
  refine zI (zA (zC (zP ?_)))
  have r:=HC.pos qO C
  have p0:1≤f:=uC (Nat.le_add_left 1 _) r
  refine zB (xq 2 [eS1 81 (some ⟨b,o,none⟩) (ys.length+1) c,eS1 82 A ys.length c2] [] ?_)
  refine ZcC (xs:=zs) (α:=List Nat × Nat) 221 [.slice (some ⟨b,o,none⟩) (ys.length+1) c,.slice A ys.length c2] (d:=83) (fun x=>.bool (((x.2:Nat):Int) == 1)) (fun x=>ZdU zs ys o x.1 x.2) (fun x=>x.1) b (fun x w=>(Own .u64 141 w b (x.1)∧zD .u64 w A (ys))) (fun w Q=>Q.1) (by have:=HW.1;omega) (Or.inr rfl) (fun w R Q=>ZiG b _ o _ ys A _ _ Q.1 Q.2 hA (by rw[HW.1];omega) (by rw[HW.1];exact hl) HW.2.1 hy) (fun x w w' hp Q hF hO=>⟨hO,((Q.2).fr hF (fun a ha _=>hA a ha))⟩) fun x Y=>?_
  obtain⟨Z,v⟩:=x
  dsimp only at Y
  have p:=Y.win qO HW
  refine xr 1 [eS1 0 (some ⟨b,o,none⟩) (ys.length+1) c,eS1 1 A ys.length c2,yU 7 (f:Int),yB 11 ((bb:Int) == 1),yB 84 (!((v:Int) == 1))] [] ?_
  rw[Zqh (c:=v) p.2.1]
  refine xq 1 [yB 11 (((1-v:Nat):Int) == 1)] [] ?_
  refine xe (xR (zA (zB (xq 2 [yU 80 (IntKind.u64.wrap ((f:Int)-1))] [] ?_))))
  rw[show IntKind.u64.wrap (((f:Int)-1))=((f-1:Nat):Int) by rw[IntKind.wrap_u64];have:=zL;omega]
  refine xq 1 [yU 7 ((f-1:Nat):Int)] [] ?_
  refine xe ?_
  refine yP [eS1 0 (some ⟨b,o,none⟩) (ys.length+1) c,eS1 1 A ys.length c2,yU 7 (((f-1):Nat):Int),yB 11 ((((1-v):Nat):Int) == 1)] [] (fun w=>(Own .u64 141 w b (Z)∧zD .u64 w A (ys))) (fun w Q=>⟨Q.1,Q.2⟩) ?_
  exact xG ((1+(f-1))) qO ⟨(f-1),(1-v),Z,rfl,rfl,p.1,(HC.step qO C p.2.1 (ZmY p.1.2.1) p.2.2),qO,rfl⟩
 have k0:=lJ N
 obtain rfl:bb=0:=by have:=HC.1;omega
 refine xO (zH (zH (xY (zA (yY (xq 2 [yU 4 (f:Int)] [] ?_))))))
 refine yZ (zG ?_)
 refine yR (yX (f:Int)) fun w' R Q=>?_
 obtain⟨e1,e2⟩:=HC.done C
 exact⟨zs,by rw[e1],⟨HW,e2⟩,R,Q.1⟩
theorem Zqi (w:World)(a:qA)(n c:Nat):(binOp .eql 107 (.slice a n c) (.slice none 0 0)).run prog w=.ok (.bool a.isNone) w :=
 Lib.run_eql_slice_nil w 107 141 a n c 0 0 underlying107
theorem ZlB (A:qA)(xs:qN)(n c:Nat)(w:World)(p:xs.length=n)(q:zD .u64 w A xs)(C:n≤4294967296) :
 yA 145 #[.slice A n c] w (Zh3 w xs):=by
 have r:=zh q
 have s:=zh p
 clear q p
 have t:=Zqi
 cases A with
 | none =>
  have x:Hid (xs=[]):=by
   rcases xs with _|⟨y,D⟩
   ·rfl
   obtain⟨b,z,h,_⟩:=r.out qS;cases h
  go_enter func145,ntmps145
  go_wp2
  go_ret
  rw[x.out]
  exact⟨none,0,rfl,Buf.nil,Fr.refl _ _,fun b d=>by obtain⟨a,ha,_⟩:=d;cases ha⟩
 | some ad =>
  go_enter func145,ntmps145
  go_wp2_with (
   at_builtin
   refine wY rfl _ _ _ rfl _ .u64 8 underlying107 eF (some ⟨w.heap.size,0,none⟩) (some ad) 0 n 0 c rfl rfl [] xs rfl s.out ?_ (r.out.alloc _) (by simp only[maxLen];omega) qO ?_
   ·exact Or.inr ⟨_,rfl,Own.new w _ _ [] [],⟨#[],heap_alloc_new w _,rfl⟩,uH _,by simp only[maxLen];omega⟩
   intro B e E f g j
   have k:=zh f
   have l:=zh g
   have o:=zh j
   clear f g j)
  go_ret
  refine⟨B,e,?_,by simpa using k.out,?_,?_⟩
  ·rw[s.out];simp
  ·refine ((Fr.refl (fun _=>False) w).alloc _).next l.out fun i hi d=>?_
   obtain⟨a,ha,d⟩:=d
   injection ha with ha
   subst ha
   simp at d;omega
  intro b d
  rcases o.out b d with ⟨a,ha,h⟩|h
  ·injection ha with ha;subst ha;simp at h;omega
  simp at h;omega
theorem Zf4 (A:qA)(xs:qN)(c:Nat)(w:World)(f:zD .u64 w A xs)(g:xs.length≤4294967296)(d:0<xs.length) :
 yA 145 #[.slice A xs.length c] w (fun i w'=>∃ b c,i=.returned (.slice (some ⟨b,0,none⟩) xs.length c)∧w.heap.size≤b∧xs.length≤c∧Ext w w'∧Own .u64 141 w' b xs):=by
 refine (ZlB A xs xs.length c w rfl f g).mono ?_
 rintro e w' ⟨p,a,rfl,j,Q,k⟩
 rcases j with ⟨_,h,_⟩|⟨b,rfl,l,_,o,_⟩
 ·rw[h] at d;simp at d
 exact⟨b,a,rfl,k b ⟨_,rfl,rfl⟩,o,Q,l⟩
def OvR (N V n L k:Nat) (zs qs:List Nat):Prop:=zs.length=n∧Dig W64 zs∧qs.length=L∧Dig W64 qs∧val W64 zs+V*(W64^k*val W64 (qs.drop k))=N∧val W64 zs<V*W64^k
theorem OvR.start {N V n L:Nat}{zs:qN}(c:zs.length=n)(d:Dig W64 zs)(b:val W64 zs=N)(a:N<V*W64^L):OvR N V n L L zs (List.replicate L 0) :=
 ⟨c,d,qS,Dig.replicate zJ _,by rw[uX qS];simpa using b,by rw[b];exact a⟩
theorem ZoL {o n:Nat}{zs:qN}(c:o+n+1≤zs.length)(h:val W64 zs<W64^(o+n+1)):val W64 zs=val W64 (zs.take o)+W64^o*win o n zs∧val W64 (zs.drop (o+n+1))=0:=by
 have a:=xS (B:=W64) (xs:=zs) (o+n+1)
 rw[uV c] at a
 have b:val W64 (zs.drop (o+n+1))=0:=by
  refine Nat.eq_zero_of_not_pos fun d=>?_
  have:=uJ (W64^(o+n+1)) d
  omega
 rw[b,tR,tD,aL qO] at a
 exact⟨a,b⟩
theorem OvR.ready {N V n L j m:Nat}{zs a:qN}(h:OvR N V n L (j+1) zs a)(b:V<W64^m)(i:j+m+1≤n):val W64 zs=val W64 (zs.take j)+W64^j*win j m zs∧val W64 (zs.drop (j+m+1))=0∧win j m zs<W64*V:=by
 obtain⟨k,l,o,p,q,c⟩:=h
 have d:val W64 zs<W64^(j+m+1):=by
  refine uS c ?_
  rw[show j+m+1=m+(j+1) by omega,uR W64 m]
  exact uE _ (rW b)
 obtain⟨f,g⟩:=ZoL qO d
 refine⟨f,g,?_⟩
 have:W64^j*win j m zs<W64^j*(W64*V):=by
  have e:V*W64^(j+1)=W64^j*(W64*V):=by rw[uN,uF V,uG]
  omega
 exact sJ this
theorem OvR.step {N V n L j m:Nat}{zs b a:qN}(h:OvR N V n L (j+1) zs b)(f:V<W64^m)(c:0<V)(g:j+m+1≤n)(i:j<L)(k:WinR j m zs a)(l:win j m a=win j m zs%V) :
 OvR N V n L j a (b.set j (win j m zs/V)):=by
 obtain⟨H,o,p⟩:=h.ready f g
 obtain⟨q,r,s,t,x,I⟩:=h
 obtain⟨y,z,A,C⟩:=k
 have D:win j m zs/V<W64:=by rw[vM c];exact p
 have d:=xS (B:=W64) (xs:=a) (j+m+1)
 rw[C,o,tR,tD,aL qO,A,l] at d
 have e:=vX (win j m zs) V
 have J:W64^j*win j m zs=V*(W64^j*(win j m zs/V))+W64^j*(win j m zs%V):=by
  conv=>lhs;rw[←e]
  rw[uK,tE]
 refine⟨y.trans q,z,by simpa using s,t.set j D,?_,?_⟩
 ·have E:(b.set j (win j m zs/V))[j]?.getD 0=win j m zs/V:=by rw[tX qO];rfl
  rw[xT j (by simp;omega),E,tC qO,d]
  rw[uN] at x
  have K:V*(W64^j*(win j m zs/V+W64*val W64 (b.drop (j+1))))=V*(W64^j*(win j m zs/V))+V*(W64^j*W64*val W64 (b.drop (j+1))):=by
   rw[uK (W64^j),uK V,uG (W64^j)]
  omega
 rw[d]
 have F:=wA (r.take j)
 rw[uP,uV qO] at F
 have G:=uJ (W64^j) (uM (win j m zs) c)
 rw[Nat.mul_succ] at G
 rw[uF V]
 omega
theorem OvR.done {N V n L:Nat}{zs b:qN}(h:OvR N V n L 0 zs b)(d:0<V):val W64 b=N/V∧val W64 zs=N%V:=by
 obtain⟨e,f,g,i,c,a⟩:=h
 rw[vV,tU] at a
 rw[vV,rO,tW] at c
 rw[←c]
 rw[Nat.add_mul_div_left _ _ d,tM a,rP,vC a]
 exact⟨qO,rfl⟩
theorem Zrl {ys:qN}{k t:Nat}(d:Dig W64 ys)(e:ys.length=k+1)(f:Trim ys)(a:ys[k]?.getD 0=t):wl (val W64 ys*2^(64-blen t))=ys.length:=by
 have g:0<t:=sO (by rw[←a];exact f k e)
 have i:=ZeO d e f a
 have b:t<2^64:=by have:=a ▸ d.getD zJ k;rw[zL] at this;exact this
 have j:=xW.2 b
 have c:0<val W64 ys:=by have:=zS (B:=W64) k (show k<ys.length by omega);rw[uA qO,a] at this;have:=uJ (W64^k) g;have:=uU (n:=k) zJ;omega
 have l:blen (val W64 ys*2^(64-blen t))=64*(k+1):=by rw[Zam c,i];omega
 have o:wl (val W64 ys*2^(64-blen t))≤k+1:=kD.2 (by rw[dH];exact xW.1 qO)
 have p:¬ wl (val W64 ys*2^(64-blen t))≤k:=fun h=>by
  have:=kD.1 h
  rw[dH] at this
  have:=xW.2 this
  omega
 omega
theorem ZrX {xs ys:qN}{s:Nat}(a:Dig W64 xs)(b:Trim ys)(g:0<ys.length)(h:ys.length≤xs.length):val W64 xs*2^s<val W64 ys*2^s*W64^(xs.length-ys.length+1):=by
 obtain⟨k,c⟩:∃ k,ys.length=k+1:=⟨ys.length-1,qO⟩
 have d:=wA a
 have e:=Zdn (B:=W64) b c
 have f:W64^xs.length≤val W64 ys*W64^(xs.length-ys.length+1):=by
  rw[show xs.length=k+(xs.length-ys.length+1) by omega,uR]
  rw[show k+(xs.length-ys.length+1)-ys.length+1=xs.length-ys.length+1 by omega]
  exact uE _ e
 rw[Nat.mul_right_comm]
 exact (qV (p2 s)).2 (uS d f)
theorem ZoM {ws:qN}{n:Nat}(b:Dig W64 ws)(c:ws.length≤n):let a:=ws.take n ++ (List.replicate n 0).drop ws.length;a.length=n∧Dig W64 a∧val W64 a=val W64 ws:=by
 intro a
 have e:a=ws ++ List.replicate (n-ws.length) 0:=by show ws.take n ++ (List.replicate n 0).drop ws.length=_;rw[uA c,List.drop_replicate]
 rw[e]
 exact⟨by simp;omega,b.append (Dig.replicate zJ _),by rw[kN,kW];simp⟩
theorem Zrm {xs:qN}{s:Nat}(a:Dig W64 xs)(b:s≤64):wl (val W64 xs*2^s)≤xs.length+1:=kD.2 (by
 have c:=wA a
 rw[uN]
 have d:2^s≤W64:=by rw[zL];exact uW (n:=2) qD b
 exact uS ((qV (p2 s)).2 c) (uJ _ d))
theorem Zrn {x y s:Nat}:x*2^s%(y*2^s)/2^s=x%y:=by rw[sW,pE _ (p2 s)]
theorem Zro {x y s:Nat}:x*2^s/(y*2^s)=x/y:=rR _ _ (p2 s)
theorem Zbu {b n c v:Nat}{xs:qN}{w:World}(a:Own .u64 141 w b xs)(f:Dig W64 xs)(g:xs.length=n)(h:val W64 xs=v)(i:n≤1099511627776)(d:n≤c):yA 144 #[.slice (some ⟨b,0,none⟩) n c] w (lA w v):=by
 subst g h
 refine (ZdO _ xs _ w a.shows0 i d).mono ?_
 rintro e w' ⟨rfl,Q⟩
 exact⟨_,rfl,(zF.of_own a f d).ext Q,Q⟩
theorem Zqj {ys:qN}{y:Nat}(h:ys.length=1)(e:ys[0]?.getD 0=y):val W64 ys=y:=by
 obtain⟨z,rfl⟩:=oN.1 h
 simp at e
 simp[e]
theorem Blk.own1 {w:World}{b r:Nat}(h:Blk 141 w b #[.int .u64 ((r:Nat):Int)]):Own .u64 141 w b [r]:=⟨[],qS,h⟩
section
variable {u v:Value} {m n:Nat} {w:World}
theorem jQ (f:zF w u m)(g:zF w v n)(a:wl m≤4294967296)(b:wl n≤4294967296):yA 135 #[u,v] w (lA w (m+n)):=by
 obtain⟨A,h,c,rfl,s,i,d,j,rfl⟩:=f
 obtain⟨k,l,o,rfl,p,q,e,r,rfl⟩:=g
 rw[←xP d j] at a
 rw[←xP e r] at b
 exact ZmH A k h l c o w i q a b d e
theorem Zaz (g:zF w u m)(h:zF w v n)(d:wl m≤4294967296)(a:n≤m):yA 137 #[u,v] w (lA w (m-n)):=by
 obtain⟨A,i,c,rfl,t,j,e,k,rfl⟩:=g
 obtain⟨l,o,p,rfl,q,r,f,s,rfl⟩:=h
 have b:=wT a
 rw[←xP e k] at d b
 rw[←xP f s] at b
 exact Zlr A l i o c p w j r d qO e f b a
theorem ZcG (f:zF w u m)(g:zF w v n)(a:wl m≤4294967296)(b:wl n≤4294967296):yA 143 #[u,v] w (lA w (m*n)):=by
 obtain⟨A,h,c,rfl,s,i,d,j,rfl⟩:=f
 obtain⟨k,l,o,rfl,p,q,e,r,rfl⟩:=g
 rw[←xP d j] at a
 rw[←xP e r] at b
 exact Zls A k h l c o w i q a b d e
theorem jL (k:Nat)(b:zF w u m)(d:wl m≤4294967296)(f:k≤274877906944):yA 101 #[u,.int .i64 ((k:Nat):Int)] w (lA w (m*2^k)):=by
 have a:=b
 obtain⟨A,g,c,rfl,j,h,e,i,rfl⟩:=b
 rw[←xP e i] at d
 exact Zp3 A g c k w a h d e f
theorem iY (k:Nat)(b:zF w u m)(d:wl m≤4294967296)(f:k≤274877906944):yA 140 #[u,.int .i64 ((k:Nat):Int)] w (lA w (m/2^k)):=by
 have a:=b
 obtain⟨A,g,c,rfl,j,h,e,i,rfl⟩:=b
 rw[←xP e i] at d
 exact ZmI A g c k w a h d e f
theorem kV (e:zF w u m)(a:wl m≤4294967296):yA 139 #[u] w (RetV w (.int .i64 ((blen m:Nat):Int))):=by
 obtain⟨A,f,c,rfl,h,g,b,d,rfl⟩:=e
 rw[←xP b d] at a
 exact ZjO A f c w g a b d
theorem ZaA (d:Glob w)(e:zF w u m)(a:wl m≤4294967296)(f:0<m):yA 171 #[u] w (RetV w (.int .i64 ((tzn m:Nat):Int))):=by
 obtain⟨A,g,c,rfl,j,h,b,i,rfl⟩:=e
 rw[←xP b i] at a
 exact ZlA A g c w h a b d f
theorem aM (i:Nat)(a:zF w u m)(hi:i≤274877906944):yA 170 #[u,.int .i64 ((i:Nat):Int)] w (RetV w (.bool (decide (m/2^i%2=1)))):=by
 obtain⟨A,b,c,rfl,f,d,e,g,rfl⟩:=a
 exact ZoJ A b c w d e i hi
theorem fR (e:zF w u m)(f:zF w v n)(a:wl m≤4294967296):yA 136 #[u,v] w (RetV w (.int .i64 (cmpI ((m:Nat):Int) ((n:Nat):Int)))):=by
 obtain⟨A,g,c,rfl,r,h,b,d,rfl⟩:=e
 obtain⟨i,j,k,rfl,l,o,p,q,rfl⟩:=f
 rw[←xP b d] at a
 exact ZiE A i g j c k w h o a b p d q
end
theorem Zm0 (A f:qA)(xs ys:qN)(c c2:Nat)(w:World)(hX:zD .u64 w A xs)(hY:zD .u64 w f ys)(hl:xs.length≤4294967295)(D0:ys.length≤4294967296)(hx:Dig W64 xs)(hy:Dig W64 ys)(hN:zF w (.slice A xs.length c) (val W64 xs))(hM:zF w (.slice f ys.length c2) (val W64 ys))(tx:Trim xs)(ty:Trim ys)(e0:0<val W64 ys) :
 yA 158 #[.slice A xs.length c,.slice f ys.length c2] w (ZbX w (val W64 xs/val W64 ys) (val W64 xs%val W64 ys)):=by
 have hw:wl (val W64 xs)≤4294967296:=by rw[←xP hx tx];omega
 have E0:wl (val W64 ys)≤4294967296:=by rw[←xP hy ty];exact D0
 refine zQ (Φ:=fun w=>(((zF w (.slice A xs.length c) (val W64 xs)∧zD .u64 w A xs)∧zF w (.slice f ys.length c2) (val W64 ys))∧zD .u64 w f ys)) func158 rfl qK (fun w' hf=>⟨⟨⟨hN.ext hf,hX.ext hf⟩,hM.ext hf⟩,hY.ext hf⟩) ?_
 refine yY (xq 2 [eS1 4 none 0 0,eS1 5 none 0 0] [] ?_)
 refine yZ (zC (yY (xq 2 [eS1 13 A xs.length c,eS1 14 f ys.length c2] [] ?_)))
 refine xqc 136 [.slice A xs.length c,.slice f ys.length c2] 15 (fun _:Unit=>yI (cmpI ((val W64 xs:Nat):Int) ((val W64 ys:Nat):Int))) _ (fun w R Q=>yN (fR Q.1.1.1 Q.1.2 hw)) fun xx=>?_
 refine xq 1 [(16,.v (.bool (decide ((cmpI ((val W64 xs:Nat):Int) ((val W64 ys:Nat):Int))<0))))] [] ?_
 refine xe (zA ?_)
 refine yQ ((decide ((cmpI ((val W64 xs:Nat):Int) ((val W64 ys:Nat):Int))<0))) (fun F=>?_) fun F=>?_
 ·have O:=fF.1 (uB F)
  refine yY (xq 3 [eS1 4 none 0 0,eS1 5 A xs.length c] [] ?_)
  refine yZ (zG (zM ?_))
  refine yR (.tuple #[.slice none 0 0,.slice A xs.length c]) fun w' R Q=>?_
  exact⟨_,_,rfl,by rw[tM O];exact zF.zero _,by rw[vC O];exact Q.1.1.1.1,R⟩
 have F0:val W64 ys≤val W64 xs:=Nat.le_of_not_lt (fun h'=>uD F (fF.2 h'))
 have M0:ys.length≤xs.length:=by have:=wT F0;rwa [←xP hy ty,← xP hx tx] at this
 have N0:0<ys.length:=rG.2 (fun e=>by rw[e] at e0;simp at e0)
 refine zI (zA (zC (yY (xq 3 [yB 20 ((((ys.length:Nat):Int):Int) == 1)] [] ?_))))
 refine xe (zA ?_)
 refine yQ (((((ys.length:Nat):Int):Int) == 1)) (fun G=>?_) fun G=>?_
 ·have U:=sN.1 G
  refine yY (xq 1 [eS1 21 A xs.length c] [] ?_)
  refine Zon 145 [.slice A xs.length c] (d:=22) (k:=.u64) (e:=141) xs (fun w R Q=>Zf4 A xs c w Q.1.1.1.2 qO qO) fun q cc f0 K0 _=>?_
  refine xr 1 [eS1 0 A xs.length c,eS1 1 f ys.length c2,eS1 4 none 0 0,eS1 5 none 0 0,eS1 6 (yL q) xs.length cc] [] ?_
  refine yZ (yY (xq 2 [eS1 23 (yL q) xs.length cc,eS1 24 f ys.length c2] [] ?_))
  refine xqk 25 (atA f 0) (fun w R Q=>wL (t:=107) (e:=141) (x:=.tmp 24) (ix:=(Operand.const (Value.int IntKind.i64 0))) (len:=ys.length) (cap:=c2) (i:=0) (((Q.1).self.1.2).ne (j:=0) qO) qO) ?_
  obtain⟨r,C⟩:=yE (ys[0]?.getD 0)
  refine xqk 26 (yX (r:Int)) (fun w R Q=>by rw[←C];exact lG (t:=141) (x:=.tmp 25) ((Q.1).self.1.2) (j:=0) qO) ?_
  have g0:=Zqj qO C
  refine ZcC (xs:=xs) (α:=List Nat) 146 [.slice (yL q) xs.length cc, yX (r:Int)] (d:=27) (fun x=>yX ((val W64 xs%r:Nat):Int)) (fun x=>x.length=xs.length∧Dig W64 x∧val W64 x=val W64 xs/r) (fun x=>x) q (fun x w=>(Box (fun j=>q≤j) w (fun w=>((((zF w (.slice A xs.length c) (val W64 xs)∧zD .u64 w A (xs))∧zF w (.slice f ys.length c2) (val W64 ys))∧zD .u64 w f (ys))∧True))∧Own .u64 141 w q (x))) (fun w Q=>Q.2) qO (Or.inl f0) (fun w R Q=>Zbt q _ _ _ _ Q.2 qO hx qO (by rw[←C];exact hy.getD zJ _)) (fun x w w' hp Q M V=>⟨((Q.1).fr (M.mono (fun _ _ e=>by rw[e];exact uH _))),V⟩) fun x H=>?_
  obtain⟨L0,rfl⟩:∃ y,y=x:=⟨_,rfl⟩
  refine xr 1 [eS1 0 A xs.length c,eS1 1 f ys.length c2,eS1 4 none 0 0,eS1 5 none 0 0,eS1 6 (yL q) xs.length cc,yU 7 ((val W64 xs%r:Nat):Int)] [] ?_
  refine yZ (yY (xq 1 [eS1 28 (yL q) xs.length cc] [] ?_))
  refine xqc 144 [.slice (yL q) xs.length cc] 29 xI _ (fun w R Q=>yM xC (Zbu Q.2 H.2.1 H.1 H.2.2 qO qO)) fun⟨W,X,Y⟩=>?_
  refine xq 1 [yU 30 ((val W64 xs%r:Nat):Int)] [] ?_
  refine yD (d:=31) (fun zb:Nat=>.slice (yL zb) 1 1) (fun zb zw=>Blk 141 zw zb #[yX ((val W64 xs%r:Nat):Int)]) (fun w R Q=>lX (t:=107) (e:=141) (n:=1) (sz:=1) (z:=yX 0) (parts:=#[(0,Operand.tmp 30)]) qK qK qK qK qK qK) fun h0=>?_
  refine xr 0 [eS1 0 A xs.length c,eS1 1 f ys.length c2,eS1 4 none 0 0,eS1 5 none 0 0,eS1 29 W X Y,eS1 31 (yL h0) 1 1] [] ?_
  refine xqc 144 [.slice (yL h0) 1 1] 32 xI _ (fun w R Q=>yM xC (Zbu (Q.2).own1 (Dig.nil.cons (rV (uM _ qO) (by rw[←C];exact hy.getD zJ _))) (show [val W64 xs%r].length=1 from rfl) (show val W64 [val W64 xs%r]=val W64 xs%r by simp) qO qO)) fun⟨i0,j0,k0⟩=>?_
  refine xq 2 [eS1 4 W X Y,eS1 5 i0 j0 k0] [] ?_
  refine yZ (zG (zM ?_))
  refine yR (.tuple #[.slice W X Y,.slice i0 j0 k0]) fun w' R Q=>?_
  exact⟨_,_,rfl,by rw[g0];exact Q.1.1.2,by rw[g0];exact Q.2,R⟩
 have U:=lJ G
 refine zI (zA (yY (xq 4 [eS1 33 f ys.length c2,yJ 36 (IntKind.i64.wrap (((ys.length:Nat):Int)-1))] [] ?_)))
 rw[yW (((ys.length:Nat):Int)-1) (((ys.length-1:Nat):Int)) qO]
 refine xqk 37 (atA f (ys.length-1)) (fun w R Q=>wL (t:=107) (e:=141) (x:=.tmp 33) (ix:=.tmp 36) (len:=ys.length) (cap:=c2) (i:=ys.length-1) ((Q.1.2).ne (j:=ys.length-1) qO) qO) ?_
 obtain⟨l0,I⟩:=yE (ys[ys.length-1]?.getD 0)
 refine xqk 38 (yX (l0:Int)) (fun w R Q=>by rw[←I];exact lG (t:=141) (x:=.tmp 37) (Q.1.2) (j:=ys.length-1) qO) ?_
 obtain⟨t,rfl⟩:∃ t,t=l0:=⟨_,rfl⟩
 refine xqc 194 [yX (t:Int)] 39 (fun _:Unit=>yI ((64-blen t:Nat):Int)) _ (fun w R Q=>yN (Zlz t _ (by rw[←I];exact hy.getD zJ _))) fun xx=>?_
 refine xq 1 [yJ 8 ((64-blen t:Nat):Int)] [] ?_
 refine yZ (yY (xq 2 [eS1 40 f ys.length c2,yJ 41 ((64-blen t:Nat):Int)] [] ?_))
 refine xqc 101 [.slice f ys.length c2, yI ((64-blen t:Nat):Int)] 42 xI _ (fun w R Q=>yM xC (jL (64-blen t) Q.1.1.1.2 E0 qO)) fun⟨g,m0,o⟩=>?_
 refine xq 1 [eS1 9 g m0 o] [] ?_
 refine yZ (zC ?_)
 refine SXc.know (p:=m0=(wds (val W64 ys*2^(64-blen t))).length∧(wds (val W64 ys*2^(64-blen t))).length≤o) (fun w _ Q=>(Q.2).lens) fun N=>?_
 obtain⟨dd,B⟩:∃ dd,dd=wds (val W64 ys*2^(64-blen t)):=⟨_,rfl⟩
 rw[←B] at N
 obtain⟨rfl,O0⟩:=N
 have Z:Dig W64 dd:=by rw[B];exact (eA _).1
 have n0:Trim dd:=by rw[B];exact Zfb _
 have a0:val W64 dd=val W64 ys*2^(64-blen t):=by rw[B];exact (eA _).2
 have b0:dd.length=ys.length:=by rw[B,Zkm];exact Zrl (k:=ys.length-1) hy qO ty I
 have J:0<val W64 dd:=bN n0 zJ (fun e=>by rw[e] at b0;simp at b0;omega)
 have o0:=wA Z
 refine zB (xq 3 [yJ 45 (IntKind.i64.wrap (((xs.length:Nat):Int)+1))] [] ?_)
 rw[yW (((xs.length:Nat):Int)+1) (((xs.length+1:Nat):Int)) qO]
 refine ZcD (d:=46) (t:=107) (e:=141) (k:=.u64) (kl:=.i64) (kc:=.i64) (l:=.tmp 45) (c:=.tmp 45) (xs.length+1) 8 qO qD fun b P p0=>?_
 have hA:∀ a,g=some a→a.block≠b:=fun a ha=>Nat.ne_of_lt (p0 a.block (fun w Q=>(Q.2).shows.lt (by rw[←B,b0];omega) ha))
 refine xr 1 [eS1 0 A xs.length c,eS1 1 f ys.length c2,eS1 4 none 0 0,eS1 5 none 0 0,yJ 8 ((64-blen t:Nat):Int),eS1 9 g dd.length o,eS1 10 (yL b) (xs.length+1) (xs.length+1)] [] ?_
 refine yZ (yY (xq 3 [eS1 47 (yL b) (xs.length+1) (xs.length+1),eS1 48 A xs.length c,yJ 49 ((64-blen t:Nat):Int)] [] ?_))
 refine xqc 101 [.slice A xs.length c, yI ((64-blen t:Nat):Int)] 50 xI _ (fun w R Q=>yM xC (jL (64-blen t) (Q.1).self.1.1.1.1.1.1 hw qO)) fun⟨G0,q0,r0⟩=>?_
 refine SXi.know (p:=q0=(wds (val W64 xs*2^(64-blen t))).length∧(wds (val W64 xs*2^(64-blen t))).length≤r0) (fun w _ Q=>(Q.2).lens) fun N=>?_
 have S:=Zrm (s:=64-blen t) hx qO
 rw[←Zkm] at S
 obtain⟨s0,t0,c0⟩:=ZoM (n:=xs.length+1) (eA (val W64 xs*2^(64-blen t))).1 S
 rw[(eA _).2] at c0
 obtain⟨zz,u0⟩:=yE ((wds (val W64 xs*2^(64-blen t))).take (xs.length+1) ++ (List.replicate (xs.length+1) 0).drop (wds (val W64 xs*2^(64-blen t))).length)
 rw[u0] at s0 t0 c0
 refine Zp1 (d:=51) (dx:=Operand.tmp 47) (sx:=Operand.tmp 50) (dT:=107) (sT:=107) (e:=141) (k:=.u64) (sp:=G0) (mid:=List.replicate (xs.length+1) 0) (ys:=wds (val W64 xs*2^(64-blen t))) (n:=xs.length+1) (m:=q0) (dc:=xs.length+1) (sc:=r0) b (fun w=>((Box (fun j=>b≤j) w (fun w=>((((((zF w (.slice A xs.length c) (val W64 xs)∧zD .u64 w A (xs))∧zF w (.slice f ys.length c2) (val W64 ys))∧zD .u64 w f (ys))∧True)∧True)∧zF w (.slice g dd.length o) (val W64 ys*2^(64-blen t))))∧Own .u64 141 w b (zz))∧True)) qS N.1.symm qS (fun w Q=>Q.1.2) (fun w Q=>(Q.2).shows) (Or.inl P) (fun w w' Q M V=>⟨⟨((Q.1.1).fr (M.mono (fun _ _ e=>by rw[e];exact uH _))),(by rw[←u0];rwa [sG] at V)⟩,trivial⟩) ?_
 refine xr 0 [eS1 0 A xs.length c,eS1 1 f ys.length c2,eS1 4 none 0 0,eS1 5 none 0 0,yJ 8 ((64-blen t:Nat):Int),eS1 9 g dd.length o,eS1 10 (yL b) (xs.length+1) (xs.length+1)] [] ?_
 refine yZ (yY (xq 5 [yJ 56 (IntKind.i64.wrap (((xs.length:Nat):Int)-((ys.length:Nat):Int)))] [] ?_))
 rw[yW (((xs.length:Nat):Int)-((ys.length:Nat):Int)) (((xs.length-(ys.length):Nat):Int)) qO]
 refine xq 1 [(57,.v (yI (IntKind.i64.wrap (((xs.length-(ys.length):Nat):Int)+1))))] [] ?_
 rw[show IntKind.i64.wrap ((((xs.length-(ys.length):Nat):Int)+1))=((xs.length-(ys.length)+1:Nat):Int) by rw[IntKind.wrap_i64];omega]
 refine ZcD (d:=58) (t:=107) (e:=141) (k:=.u64) (kl:=.i64) (kc:=.i64) (l:=.tmp 57) (c:=.tmp 57) (xs.length-(ys.length)+1) 8 qO qD fun r22 v0 w0=>?_
 have P0:b<r22:=w0 b (fun w Q=>(Q.1.2).lt)
 refine xr 1 [eS1 1 f ys.length c2,eS1 4 none 0 0,eS1 5 none 0 0,yJ 8 ((64-blen t:Nat):Int),eS1 9 g dd.length o,eS1 10 (yL b) (xs.length+1) (xs.length+1),eS1 11 (yL r22) (xs.length-(ys.length)+1) (xs.length-(ys.length)+1)] [] ?_
 refine yZ (zC (yY (xq 3 [(61,.v (yI (IntKind.i64.wrap (((xs.length-(ys.length)+1:Nat):Int)-1))))] [] ?_)))
 rw[yW (((xs.length-ys.length+1:Nat):Int)-1) (((xs.length-ys.length+1:Nat):Int)-1) qO]
 refine xq 1 [yJ 12 (((xs.length-ys.length+1:Nat):Int)-1)] [] ?_
 refine yZ (zP ?_)
 refine SXc.weak [eS1 1 f ys.length c2,eS1 4 none 0 0,eS1 5 none 0 0,yJ 8 ((64-blen t:Nat):Int),eS1 9 g dd.length o,eS1 10 (yL b) (xs.length+1) (xs.length+1),eS1 11 (yL r22) (xs.length-(ys.length)+1) (xs.length-(ys.length)+1),yJ 12 ((((xs.length-ys.length+1):Nat):Int)-1)] [] (Ψ:=fun w=>((Box (fun j=>b≤j) w (fun w=>((((((zF w (.slice A xs.length c) (val W64 xs)∧zD .u64 w A (xs))∧zF w (.slice f ys.length c2) (val W64 ys))∧zD .u64 w f (ys))∧True)∧True)∧zF w (.slice g dd.length o) (val W64 ys*2^(64-blen t))))∧Own .u64 141 w b (zz))∧Own .u64 141 w r22 ((List.replicate (xs.length-(ys.length)+1) 0)))) (zY.of qK) qK (fun w Q=>⟨⟨(Q.1).self.1.1,(Q.1).self.1.2⟩,Q.2⟩) ?_
 refine xU (fun nn ss ff=>∃ (k:Nat) (D qs:List Nat),ss=ofL [eS1 1 f ys.length c2,eS1 4 none 0 0,eS1 5 none 0 0,yJ 8 ((64-blen t:Nat):Int),eS1 9 g dd.length o,eS1 10 (yL b) (xs.length+1) (xs.length+1),eS1 11 (yL r22) (xs.length-(ys.length)+1) (xs.length-(ys.length)+1),yJ 12 ((k:Int)-1)] []∧ff=(fun w=>((Box (fun j=>b≤j) w (fun w=>((((((zF w (.slice A xs.length c) (val W64 xs)∧zD .u64 w A (xs))∧zF w (.slice f ys.length c2) (val W64 ys))∧zD .u64 w f (ys))∧True)∧True)∧zF w (.slice g dd.length o) (val W64 ys*2^(64-blen t))))∧Own .u64 141 w b (D))∧Own .u64 141 w r22 (qs)))∧(OvR (val W64 xs*2^(64-blen t)) (val W64 dd) (xs.length+1) (xs.length-ys.length+1) k D qs)∧(k≤xs.length-ys.length+1)∧nn=(1+k)) ((1+(xs.length-ys.length+1))) ⟨(xs.length-ys.length+1),zz,(List.replicate (xs.length-(ys.length)+1) 0),rfl,rfl,(OvR.start s0 t0 c0 (by rw[a0];exact ZrX hx ty qO qO)),uH _,rfl⟩ ?_
 rintro nn ss ff ⟨k,D,qs,rfl,rfl,E,hk,rfl⟩
 refine zC (yY (xq 2 [(63,.v (.bool (decide (((k:Int)-1)≥0))))] [] ?_))
 refine xe (zA ?_)
 refine yQ ((decide (((k:Int)-1)≥0))) (fun K=>?_) fun K=>?_
 ·have d0:=uB K
  obtain⟨j,rfl⟩:∃ j,k=j+1:=⟨k-1,qO⟩
  rw[show ((((j+1):Nat):Int)-1)=(j:Int) by omega]
  refine zI (zA (zC (zP (zB (xq 8 [eS1 66 (yL r22) (xs.length-(ys.length)+1) (xs.length-(ys.length)+1),yJ 67 (j:Int),eS1 68 (yL b) (xs.length+1) (xs.length+1),yJ 69 (j:Int),yJ 73 (IntKind.i64.wrap ((j:Int)+((ys.length:Nat):Int)))] [] ?_)))))
  rw[yW ((j:Int)+((ys.length:Nat):Int)) (((j+(ys.length):Nat):Int)) qO]
  refine xq 1 [(74,.v (yI (IntKind.i64.wrap (((j+(ys.length):Nat):Int)+1))))] [] ?_
  rw[show IntKind.i64.wrap ((((j+(ys.length):Nat):Int)+1))=((j+(ys.length)+1:Nat):Int) by rw[IntKind.wrap_i64];omega]
  refine xqk 75 (.slice (some ⟨b,j,none⟩) (dd.length+1) (xs.length+1-j)) (fun w R Q=>Zoo (t:=107) (e:=141) (x:=.tmp 68) (len:=(xs.length+1)) (cap:=(xs.length+1)) (l:=j) (h:=j+(ys.length)+1) (n:=dd.length+1) (m:=xs.length+1-j) (lo:=.tmp 69) (hi:=.tmp 74) qO qO qO qO qO) ?_
  refine xq 1 [eS1 76 g dd.length o] [] ?_
  refine ZcC (xs:=D) (α:=List Nat) 195 [.slice (some ⟨b,j,none⟩) (dd.length+1) (xs.length+1-j),.slice g dd.length o] (d:=77) (fun x=>yX ((win j dd.length D/val W64 dd:Nat):Int)) (fun x=>WinR j dd.length D x∧win j dd.length x=win j dd.length D%val W64 dd) (fun x=>x) b (fun x w=>((Box (fun j=>b≤j) w (fun w=>((((((zF w (.slice A xs.length c) (val W64 xs)∧zD .u64 w A (xs))∧zF w (.slice f ys.length c2) (val W64 ys))∧zD .u64 w f (ys))∧True)∧True)∧zF w (.slice g dd.length o) (val W64 ys*2^(64-blen t))))∧Own .u64 141 w b (x))∧Own .u64 141 w r22 (qs))) (fun w Q=>Q.1.2) (by have:=E.1;omega) (Or.inl P) (fun w R Q=>Zf3 b _ j D dd _ _ _ Q.1.2 (by rw[B];exact ((Q.1.1).self.2).shows) hA (by rw[E.1];omega) (by rw[E.1];omega) E.2.1 Z qO J (E.ready o0 qO).2.2) (fun x w w' hp Q M V=>⟨⟨((Q.1.1).fr (M.mono (fun _ _ e=>by rw[e];exact uH _))),V⟩,((Q.2).fr M (show ¬ (r22=b) by omega))⟩) fun x T=>?_
  obtain⟨L,rfl⟩:∃ y,y=x:=⟨_,rfl⟩
  have HS:=E.step o0 J qO qO T.1 T.2
  have Q0:=E.2.2.1
  refine xr 0 [eS1 1 f ys.length c2,eS1 4 none 0 0,eS1 5 none 0 0,yJ 8 ((64-blen t:Nat):Int),eS1 9 g dd.length o,eS1 10 (yL b) (xs.length+1) (xs.length+1),eS1 11 (yL r22) (xs.length-(ys.length)+1) (xs.length-(ys.length)+1),yJ 12 (j:Int),eS1 66 (yL r22) (xs.length-(ys.length)+1) (xs.length-(ys.length)+1),yJ 67 (j:Int),yU 77 ((win j dd.length D/val W64 dd:Nat):Int)] [] ?_
  refine xqk 78 (.pointer (some ⟨r22,j,none⟩)) (fun w R Q=>kI (t:=107) (e:=141) (x:=.tmp 66) (ix:=.tmp 67) (len:=(xs.length-(ys.length)+1)) (cap:=(xs.length-(ys.length)+1)) (i:=j) qO) ?_
  refine jX (t:=141) (x:=.tmp 78) (y:=.tmp 77) r22 (j) (win j dd.length D/val W64 dd) (fun w=>((Box (fun j=>b≤j) w (fun w=>((((((zF w (.slice A xs.length c) (val W64 xs)∧zD .u64 w A (xs))∧zF w (.slice f ys.length c2) (val W64 ys))∧zD .u64 w f (ys))∧True)∧True)∧zF w (.slice g dd.length o) (val W64 ys*2^(64-blen t))))∧Own .u64 141 w b (L))∧Own .u64 141 w r22 ((qs).set (j) (win j dd.length D/val W64 dd)))) (fun w Q=>Q.2) qO (Or.inl v0) (fun w w' Q M V=>⟨⟨((Q.1.1).fr (M.mono (fun _ _ e=>by rw[e];omega))),((Q.1.2).fr M (show ¬ (b=r22) by omega))⟩,V⟩) ?_
  refine xe (xR (zA (zB (xq 2 [yJ 65 (IntKind.i64.wrap ((j:Int)-1))] [] ?_))))
  rw[yW ((j:Int)-1) ((j:Int)-1) qO]
  refine xq 1 [yJ 12 ((j:Int)-1)] [] ?_
  refine xe ?_
  refine SXq.weak [eS1 1 f ys.length c2,eS1 4 none 0 0,eS1 5 none 0 0,yJ 8 ((64-blen t:Nat):Int),eS1 9 g dd.length o,eS1 10 (yL b) (xs.length+1) (xs.length+1),eS1 11 (yL r22) (xs.length-(ys.length)+1) (xs.length-(ys.length)+1),yJ 12 ((j:Int)-1)] [] (Ψ:=fun w=>((Box (fun j=>b≤j) w (fun w=>((((((zF w (.slice A xs.length c) (val W64 xs)∧zD .u64 w A (xs))∧zF w (.slice f ys.length c2) (val W64 ys))∧zD .u64 w f (ys))∧True)∧True)∧zF w (.slice g dd.length o) (val W64 ys*2^(64-blen t))))∧Own .u64 141 w b (L))∧Own .u64 141 w r22 (((qs).set (j) (win j dd.length D/val W64 dd))))) (zY.of qK) qK (fun w Q=>⟨⟨Q.1.1,Q.1.2⟩,Q.2⟩) ?_
  exact xG ((1+j)) qO ⟨j,L,((qs).set (j) (win j dd.length D/val W64 dd)),rfl,rfl,HS,qO,rfl⟩
 have d0:=uD K
 obtain rfl:k=0:=qO
 refine xO (zH (zH (xY (zA (yY (xq 1 [eS1 79 (yL r22) (xs.length-(ys.length)+1) (xs.length-(ys.length)+1)] [] ?_))))))
 refine xqc 144 [.slice (yL r22) (xs.length-(ys.length)+1) (xs.length-(ys.length)+1)] 80 xI _ (fun w R Q=>yM xC (Zbu Q.2 E.2.2.2.1 E.2.2.1 ((E.done J).1.trans (by rw[a0,Zro])) qO qO)) fun⟨x0,y0,z0⟩=>?_
 refine xq 1 [eS1 81 (yL b) (xs.length+1) (xs.length+1)] [] ?_
 refine xqc 144 [.slice (yL b) (xs.length+1) (xs.length+1)] 82 xI _ (fun w R Q=>yM xC (Zbu Q.1.1.2 E.2.1 E.1 (E.done J).2 qO qO)) fun⟨H0,I0,J0⟩=>?_
 refine xq 1 [yJ 83 ((64-blen t:Nat):Int)] [] ?_
 refine xqc 140 [.slice H0 I0 J0, yI ((64-blen t:Nat):Int)] 84 xI _ (fun w R Q=>(iY (64-blen t) Q.2 (uC (wT (rW (uM _ J))) (by rw[←xP Z n0];omega)) qO).mono (fun _ _ h=>xC (by rw[show (val W64 xs*2^(64-blen t)%val W64 dd)/2^(64-blen t)=val W64 xs%val W64 ys by rw[a0,Zrn]] at h;exact h))) fun⟨A0,B0,C0⟩=>?_
 refine xq 2 [eS1 4 x0 y0 z0,eS1 5 A0 B0 C0] [] ?_
 refine yZ (zG ?_)
 refine yR (.tuple #[.slice x0 y0 z0,.slice A0 B0 C0]) fun w' R Q=>?_
 exact⟨_,_,rfl,Q.1.1.2,Q.2,R⟩
def shNb (r:FR) (x:ShN):Value:=.tuple #[yV r.s x.1 x.2.1 x.2.2 r.e,.int .i64 r.err]
def xX (w:World) (r:FR) (e:Ending) (w':World):Prop:=∃ x:ShN,e=.returned (shNb r x)∧zF w' (xI x) r.m∧Ext w w'
theorem wC {w w':World}{e:Ending}{r:FR}(h:xX w r e w'):lQ (shNb r) (fun x w=>zF w (xI x) r.m) w e w':=by
 obtain⟨x,rfl,a,Q⟩:=h
 exact⟨x,rfl,Q,boxn Q (fun S b c d=>a.nrb c d)⟩
theorem ZlC (s:Bool)(e:Int):wP s 0 e=⟨false,0,0,0⟩:=rfl
theorem ZoN {n:Nat}(s:Bool){e:Int}(a:0<n)(b:¬ e+tzn n < -1048576)(c:¬ e+tzn n>1048576):wP s n e=⟨s,oddM n,e+tzn n,0⟩:=by
 unfold wP
 rw[uL qO,uQ ⟨qO,qO⟩]
theorem Zhj {n:Nat}(s:Bool){e:Int}(a:0<n)(h:e+tzn n < -1048576∨e+tzn n>1048576):wP s n e=⟨false,0,0,2⟩:=by
 unfold wP
 rw[uL qO,uL (by rintro⟨b,c⟩;omega)];rfl
theorem fS (n:Nat):blen n≤64*wl n:=by
 rw[xW,qR]
 have:=Zej n
 rwa [zL] at this
theorem Zrp {n:Nat}(h:wl n≤4294967296):tzn n≤274877906944:=by
 rcases uI n with rfl|a
 ·rw[tzn,dif_pos (Or.inl rfl)];omega
 obtain⟨c,b⟩:=kJ a
 have d:blen n=blen (oddM n)+tzn n:=by
  have:=Zam (show 0<oddM n by omega) (tzn n)
  rwa [←b] at this
 have:=fS n
 omega
theorem Zf5 {n:Nat}(h:wl n≤4294967296):blen n≤274877906944:=by have:=fS n;omega
theorem ZcH {s:Bool}{n bits:Nat}{e:Int}{m:Bool}(h:blen n≤bits):lC s n e bits m=wP s n e:=by unfold lC;rw[uQ h]
theorem gZ {s:Bool}{n bits j:Nat}{e:Int}{m:Bool}(h:blen n=bits+(j+1))(a:n/2^j%2=1)(b:tzn n<j∨n/2^(j+1)%2=1∨m=true)(c:0<n) :
 lC s n e bits m=wP s (n/2^(j+1)+1) (e+((j+1:Nat):Int)):=by
 unfold lC iP
 rw[uL qO,h,show bits+(j+1)-bits-1=j by omega,show bits+(j+1)-bits=j+1 by omega,uQ ⟨a,by rw[←ZmS c];exact b⟩]
theorem eM {s:Bool}{n bits j:Nat}{e:Int}{m:Bool}(h:blen n=bits+(j+1))(a:0<n)(b:¬ (n/2^j%2=1∧(tzn n<j∨n/2^(j+1)%2=1∨m=true))) :
 lC s n e bits m=wP s (n/2^(j+1)) (e+((j+1:Nat):Int)):=by
 unfold lC iP
 rw[uL qO,h,show bits+(j+1)-bits-1=j by omega,show bits+(j+1)-bits=j+1 by omega,uL (by rw[←ZmS a];exact b)]
theorem Zrq:Trim [1]:=by
 intro k a
 have:k=0:=by simp at a;omega
 subst this
 simp
theorem wl_1:wl 1≤4294967296:=uC (bP.2 (by rw[zL];decide)) qD
theorem gR {w:World}{b:Nat}(h:Blk 141 w b #[.int .u64 1]):zF w (.slice (some ⟨b,0,none⟩) 1 1) 1 :=
 ⟨_,[1],1,rfl,uH _,(Blk.own1 (r:=1) h).shows0,Dig.nil.cons (by rw[zL];decide),Zrq,rfl⟩
def ZcI (w:World) (Q:Nat) (v:Value):Prop:=Q<w.heap.size∧w.cell? ⟨Q,0,none⟩=some v
theorem ZcI.ext {w w':World}{Q:Nat}{v:Value}(h:ZcI w Q v)(a:Ext w w'):ZcI w' Q v:=⟨uS h.1 a.size,(a.cell (p:=⟨Q,0,none⟩) h.1 (fun f=>f)).trans h.2⟩
theorem Zm1 (Q:Nat)(A:qA)(l c:Nat)(w:World)(h:ZcI w Q (.slice A l c)):yA 159 #[.pointer (some ⟨Q,0,none⟩)] w (RetV w (.bool (decide (0<l)))):=by
 have a:=h.2
 go_enter func159,ntmps159
 go_wp2
 go_ret
 exact⟨vK Ending.returned (vK Value.bool (pC.2 qO)),Fr.refl _ _⟩
theorem Zm2 (w:World):yA 133 #[] w (RetV w (.bool false)):=by
 go_enter func133,ntmps133
 go_wp2
 go_ret
 exact⟨rfl,Fr.refl _ _⟩
theorem lY (s:Bool)(A:qA)(l c n:Nat)(e:Int)(w:World)(t:Glob w)(q:zF w (.slice A l c) n)(o:wl n≤4294967296)(u : -1152921504606846976≤e)(x:e≤1152921504606846976) :
 yA 138 #[.bool s,.slice A l c,.int .i64 e] w (xX w (wP s n e)):=by
 refine zQ (Φ:=fun w=>(Glob w∧zF w (.slice A l c) (n))) func138 rfl qK (fun w' r=>⟨t.ext r,q.ext r⟩) ?_
 refine zC ?_
 have y:=q.len0
 have z:=Zrp o
 have B:=@lK n
 refine zB (xq 2 [(6,.p 6 0),yJ 7 0] [yF 6 109 false none 0 0 0] ?_)
 refine yZ (zC (yY (xq 3 [yB 11 (((l:Int):Int) == 0)] [] ?_)))
 refine xe (zA ?_)
 refine yQ ((((l:Int):Int) == 0)) (fun b=>?_) fun b=>?_
 ·have f:=sN.1 b
  have m:n=0:=qO
  refine yY (xq 3 [yJ 7 0] [] ?_)
  refine yZ (zG (zM ?_))
  refine yR (.tuple #[yV false none 0 0 0, yI 0]) fun w' R Q=>?_
  rw[m,ZlC]
  exact⟨(none,0,0),rfl,zF.zero _,R⟩
 have f:=lJ b
 have m:0<n:=qO
 refine zI (zA (yY (xq 1 [eS1 13 A l c] [] ?_)))
 refine xqc 171 [.slice A l c] 14 (fun _:Unit=>yI ((tzn n:Nat):Int)) _ (fun w R Q=>yN (ZaA Q.1 Q.2 o m)) fun C=>?_
 refine xq 1 [yJ 8 ((tzn n:Nat):Int)] [] ?_
 refine yZ (yY (xq 3 [yJ 17 (IntKind.i64.wrap (e+((tzn n:Nat):Int)))] [] ?_))
 rw[yW (e+((tzn n:Nat):Int)) (e+((tzn n:Nat):Int)) qO]
 refine xq 1 [yJ 2 (e+((tzn n:Nat):Int))] [] ?_
 refine yZ (zC (yY (xq 3 [(20,.v (.bool (decide ((e+((tzn n:Nat):Int))<(-1048576)))))] [] ?_)))
 rcases bl2 ((decide ((e+((tzn n:Nat):Int))<(-1048576)))) with a|a
 ·rw[a]
  have g:=uB a
  refine xq 3 [yB 23 true] [] ?_
  refine yZ (xa (yY (xq 3 [yJ 7 2] [] ?_)))
  refine yZ (zG (zM ?_))
  refine yR (.tuple #[yV false none 0 0 0, yI 2]) fun w' R Q=>?_
  rw[Zhj s m qO]
  exact⟨(none,0,0),rfl,zF.zero _,R⟩
 rw[a]
 have g:=uD a
 refine xq 3 [(23,.v (.bool (decide ((e+((tzn n:Nat):Int))>1048576))))] [] ?_
 refine xe (zA ?_)
 refine yQ ((decide ((e+((tzn n:Nat):Int))>1048576))) (fun d=>?_) fun d=>?_
 ·have h:=uB d
  refine yY (xq 3 [yJ 7 2] [] ?_)
  refine yZ (zG (zM ?_))
  refine yR (.tuple #[yV false none 0 0 0, yI 2]) fun w' R Q=>?_
  rw[Zhj s m qO]
  exact⟨(none,0,0),rfl,zF.zero _,R⟩
 have h:=uD d
 refine zI (zA (yY (xq 3 [yB 25 s,eS1 26 A l c,yJ 27 ((tzn n:Nat):Int)] [] ?_)))
 refine xqc 140 [.slice A l c, yI ((tzn n:Nat):Int)] 28 xI _ (fun w R Q=>yM xC (iY (tzn n) Q.1.2 o qO)) fun⟨i,j,k⟩=>?_
 refine xq 4 [yJ 7 0] [yF 6 109 s i j k (e+((tzn n:Nat):Int))] ?_
 refine yZ (zG ?_)
 refine yR (.tuple #[yV s i j k (e+((tzn n:Nat):Int)), yI 0]) fun w' R Q=>?_
 rw[ZoN s m qO qO]
 exact⟨(i,j,k),rfl,Q.2,R⟩
theorem iR (s:Bool)(A:qA)(l c n:Nat)(e:Int)(bits:Nat)(w:World)(hg:Glob w)(hN:zF w (.slice A l c) n)(E:wl n≤4294967296)(y0 : -576460752303423488≤e)(z0:e≤576460752303423488)(hb:bits≤4294967296) :
 yA 132 #[.bool s,.slice A l c,.int .i64 e,.int .i64 ((bits:Nat):Int),.func (.func 133) #[] #[]] w (xX w (lC s n e bits false)):=by
 refine zQ (Φ:=fun w=>(Glob w∧zF w (.slice A l c) (n))) func132 rfl qK (fun w' hf=>⟨hg.ext hf,hN.ext hf⟩) ?_
 refine zC ?_
 have A0:=Zf5 E
 by_cases F:blen n≤bits
 ·obtain⟨k,hk⟩:∃ k,bits=blen n+k:=⟨bits-blen n,qO⟩
  refine zB (xq 2 [(10,.p 10 0),yJ 11 0] [yF 10 109 false none 0 0 0] ?_)
  refine yZ (yY (xq 1 [eS1 14 A l c] [] ?_))
  refine xqc 139 [.slice A l c] 15 (fun _:Unit=>yI ((blen n:Nat):Int)) _ (fun w R Q=>yN (kV Q.2 E)) fun xx=>?_
  refine xq 2 [yJ 17 (IntKind.i64.wrap (((blen n:Nat):Int)-(bits:Int)))] [] ?_
  rw[show IntKind.i64.wrap (((blen n:Nat):Int)-(bits:Int)) = -(k:Int) by rw[IntKind.wrap_i64];omega]
  refine xq 1 [yJ 12 (-(k:Int))] [] ?_
  refine yZ (zC (yY (xq 2 [(19,.v (.bool (decide ((-(k:Int))≤0))))] [] ?_)))
  rw[show decide (-(k:Int)≤0)=true from vS qO]
  refine yZ (xa (yY (xq 3 [yB 20 s,eS1 21 A l c,yJ 22 e] [] ?_)))
  obtain⟨g,G⟩:=yE (wP s (n) (e))
  refine xqc 138 [.bool s,.slice A l c, yI e] 23 (shNb g) _ (fun w R Q=>yM wC ((show Calls _ _ _ _ (xX w g) by rw[←G];exact lY s _ _ _ _ _ _ Q.1.1 Q.1.2 E qO qO))) fun⟨L,M,N⟩=>?_
  refine xq 4 [yJ 11 g.err] [yF 10 109 g.s L M N g.e] ?_
  refine yZ (zG (zM ?_))
  refine yR (.tuple #[yV g.s L M N g.e, yI g.err]) fun w' R Q=>?_
  rw[ZcH F,G]
  exact⟨(L,M,N),rfl,Q.2,R⟩
 obtain⟨j,hj⟩:∃ j,blen n=bits+(j+1):=⟨blen n-bits-1,qO⟩
 have O:0<n:=sO (fun e=>by rw[e,iW] at F;omega)
 have B:wl (n/2^(j+1))≤4294967296:=uC (wT (vG _ _)) E
 have P:wl (n/2^(j+1)+1)≤4294967296:=uC (wT (pG O (Nat.one_lt_two_pow qO))) E
 obtain⟨b1,S⟩:=yE (decide (n/2^j%2=1))
 obtain⟨b2,T⟩:=yE (decide (n/2^(j+1)/2^0%2=1))
 obtain⟨b3,U⟩:=yE false
 refine zB (xq 2 [(10,.p 10 0),yJ 11 0] [yF 10 109 false none 0 0 0] ?_)
 refine yZ (yY (xq 1 [eS1 14 A l c] [] ?_))
 refine xqc 139 [.slice A l c] 15 (fun _:Unit=>yI ((blen n:Nat):Int)) _ (fun w R Q=>yN (kV Q.2 E)) fun xx=>?_
 refine xq 2 [yJ 17 (IntKind.i64.wrap (((blen n:Nat):Int)-(bits:Int)))] [] ?_
 rw[yW (((blen n:Nat):Int)-(bits:Int)) (((j+1:Nat):Int)) qO]
 refine xq 1 [yJ 12 ((j+1:Nat):Int)] [] ?_
 refine yZ (zC (yY (xq 2 [yB 19 (decide (((j+1:Nat):Int)≤0))] [] ?_)))
 rw[show decide (((j+1:Nat):Int)≤0)=false from uZ qO]
 refine yZ (xb (zI (zA (yY (xq 2 [eS1 26 A l c,yJ 27 ((j+1:Nat):Int)] [] ?_)))))
 refine xqc 140 [.slice A l c, yI ((j+1:Nat):Int)] 28 xI _ (fun w R Q=>yM xC (iY (j+1) Q.1.2 E qO)) fun⟨a,b,f⟩=>?_
 refine xq 1 [eS1 13 a b f] [] ?_
 refine yZ (zC (yY (xq 3 [eS1 29 A l c,yJ 31 (IntKind.i64.wrap (((j+1:Nat):Int)-1))] [] ?_)))
 rw[yW (((j+1:Nat):Int)-1) ((j:Int)) qO]
 refine xqc 170 [.slice A l c, yI (j:Int)] 32 (fun _:Unit=>.bool b1) _ (fun w R Q=>yN ((show Calls _ _ _ _ (RetV w (.bool b1)) by rw[←S];exact aM (j) Q.1.1.2 qO))) fun xx=>?_
 refine xq 1 [yB 33 b1] [] ?_
 rcases bl2 (b1) with i|i
 ·rw[i]
  have k1:=uB (S.trans i)
  refine xq 1 [eS1 34 A l c] [] ?_
  refine xqc 171 [.slice A l c] 35 (fun _:Unit=>yI ((tzn n:Nat):Int)) _ (fun w R Q=>yN (ZaA Q.1.1.1.1 Q.1.1.1.2 E O)) fun xx=>?_
  refine xq 2 [yJ 37 (IntKind.i64.wrap (((j+1:Nat):Int)-1))] [] ?_
  rw[yW (((j+1:Nat):Int)-1) ((j:Int)) qO]
  refine xq 2 [yB 39 (decide (((tzn n:Nat):Int)<(j:Int)))] [] ?_
  rcases bl2 ((decide (((tzn n:Nat):Int)<(j:Int)))) with m|m
  ·rw[m]
   have V:=uB m
   have k4:tzn n<j:=qO
   refine xr 8 [yB 0 s,yJ 2 e,(10,.p 10 0),yJ 11 0,yJ 12 ((j+1:Nat):Int),eS1 13 a b f,yB 47 true] [yF 10 109 false none 0 0 0] ?_
   refine yZ (xa (zB (xq 1 [eS1 48 a b f] [] ?_)))
   refine yD (d:=49) (fun C:Nat=>.slice (yL C) 1 1) (fun C zw=>Blk 141 zw C #[yX 1]) (fun w R Q=>lX (t:=107) (e:=141) (n:=1) (sz:=1) (z:=yX 0) (parts:=#[(0,Operand.const (Value.int IntKind.u64 1))]) qK qK qK qK qK qK) fun v0=>?_
   refine xr 0 [yB 0 s,yJ 2 e,(10,.p 10 0),yJ 11 0,yJ 12 ((j+1:Nat):Int),eS1 13 a b f,eS1 48 a b f,eS1 49 (yL v0) 1 1] [yF 10 109 false none 0 0 0] ?_
   refine xqc 135 [.slice a b f,.slice (yL v0) 1 1] 50 xI _ (fun w R Q=>yM xC (jQ Q.1.1.1.2 (gR Q.2) B wl_1)) fun⟨W,X,Y⟩=>?_
   refine xq 1 [eS1 13 W X Y] [] ?_
   refine yZ (yY (xq 5 [yB 51 s,eS1 52 W X Y,yJ 55 (IntKind.i64.wrap (e+((j+1:Nat):Int)))] [] ?_))
   rw[yW (e+((j+1:Nat):Int)) (e+((j+1:Nat):Int)) qO]
   obtain⟨o,H⟩:=yE (wP s (n/2^(j+1)+1) ((e+((j+1:Nat):Int))))
   refine xqc 138 [.bool s,.slice W X Y, yI (e+((j+1:Nat):Int))] 56 (shNb o) _ (fun w R Q=>yM wC ((show Calls _ _ _ _ (xX w o) by rw[←H];exact lY s _ _ _ _ _ _ Q.1.1.1.1.1.1.1 Q.2 P qO qO))) fun⟨Z,a0,b0⟩=>?_
   refine xq 4 [yJ 11 o.err] [yF 10 109 o.s Z a0 b0 o.e] ?_
   refine yZ (zG ?_)
   refine yR (.tuple #[yV o.s Z a0 b0 o.e, yI o.err]) fun w' R Q=>?_
   rw[gZ hj k1 (Or.inl k4) O,H]
   exact⟨(Z,a0,b0),rfl,Q.2,R⟩
  rw[m]
  have V:=uD m
  have k4:¬ tzn n<j:=qO
  refine xr 1 [yB 0 s,yJ 2 e,(4,.v (.func (.func 133) #[] #[])),(10,.p 10 0),yJ 11 0,yJ 12 ((j+1:Nat):Int),eS1 13 a b f,yB 33 true,yB 39 false,eS1 40 a b f] [yF 10 109 false none 0 0 0] ?_
  refine xqc 170 [.slice a b f, yI 0] 41 (fun _:Unit=>.bool b2) _ (fun w R Q=>yN ((show Calls _ _ _ _ (RetV w (.bool b2)) by rw[←T];exact aM (0) Q.1.1.2 qO))) fun xx=>?_
  refine xq 2 [yB 43 b2] [] ?_
  rcases bl2 (b2) with q|q
  ·rw[q]
   have k2:=uB (T.trans q)
   rw[vV,rM] at k2
   refine xq 4 [yB 47 true] [] ?_
   refine yZ (xa (zB (xq 1 [eS1 48 a b f] [] ?_)))
   refine yD (d:=49) (fun C:Nat=>.slice (yL C) 1 1) (fun C zw=>Blk 141 zw C #[yX 1]) (fun w R Q=>lX (t:=107) (e:=141) (n:=1) (sz:=1) (z:=yX 0) (parts:=#[(0,Operand.const (Value.int IntKind.u64 1))]) qK qK qK qK qK qK) fun w0=>?_
   refine xr 0 [yB 0 s,yJ 2 e,(10,.p 10 0),yJ 11 0,yJ 12 ((j+1:Nat):Int),eS1 13 a b f,eS1 48 a b f,eS1 49 (yL w0) 1 1] [yF 10 109 false none 0 0 0] ?_
   refine xqc 135 [.slice a b f,.slice (yL w0) 1 1] 50 xI _ (fun w R Q=>yM xC (jQ Q.1.1.1.1.2 (gR Q.2) B wl_1)) fun⟨c0,d0,e0⟩=>?_
   refine xq 1 [eS1 13 c0 d0 e0] [] ?_
   refine yZ (yY (xq 5 [yB 51 s,eS1 52 c0 d0 e0,yJ 55 (IntKind.i64.wrap (e+((j+1:Nat):Int)))] [] ?_))
   rw[yW (e+((j+1:Nat):Int)) (e+((j+1:Nat):Int)) qO]
   obtain⟨r,I⟩:=yE (wP s (n/2^(j+1)+1) ((e+((j+1:Nat):Int))))
   refine xqc 138 [.bool s,.slice c0 d0 e0, yI (e+((j+1:Nat):Int))] 56 (shNb r) _ (fun w R Q=>yM wC ((show Calls _ _ _ _ (xX w r) by rw[←I];exact lY s _ _ _ _ _ _ Q.1.1.1.1.1.1.1.1 Q.2 P qO qO))) fun⟨f0,g0,i0⟩=>?_
   refine xq 4 [yJ 11 r.err] [yF 10 109 r.s f0 g0 i0 r.e] ?_
   refine yZ (zG ?_)
   refine yR (.tuple #[yV r.s f0 g0 i0 r.e, yI r.err]) fun w' R Q=>?_
   rw[gZ hj k1 (Or.inr (Or.inl k2)) O,I]
   exact⟨(f0,g0,i0),rfl,Q.2,R⟩
  rw[q]
  have k2:=uD (T.trans q)
  rw[vV,rM] at k2
  refine xq 1 [(44,.v (.func (.func 133) #[] #[]))] [] ?_
  refine xqc 133 [] 45 (fun _:Unit=>.bool b3) _ (fun w R Q=>yN ((show Calls _ _ _ _ (RetV w (.bool b3)) by rw[←U];exact Zm2 _))) fun xx=>?_
  refine xq 2 [yB 47 b3] [] ?_
  refine xe (zA ?_)
  refine yQ (b3) (fun D=>?_) fun D=>?_
  ·have k3:=U.trans D
   refine zB (xq 1 [eS1 48 a b f] [] ?_)
   refine yD (d:=49) (fun C:Nat=>.slice (yL C) 1 1) (fun C zw=>Blk 141 zw C #[yX 1]) (fun w R Q=>lX (t:=107) (e:=141) (n:=1) (sz:=1) (z:=yX 0) (parts:=#[(0,Operand.const (Value.int IntKind.u64 1))]) qK qK qK qK qK qK) fun x0=>?_
   refine xr 0 [yB 0 s,yJ 2 e,(10,.p 10 0),yJ 11 0,yJ 12 ((j+1:Nat):Int),eS1 13 a b f,eS1 48 a b f,eS1 49 (yL x0) 1 1] [yF 10 109 false none 0 0 0] ?_
   refine xqc 135 [.slice a b f,.slice (yL x0) 1 1] 50 xI _ (fun w R Q=>yM xC (jQ Q.1.1.1.1.1.2 (gR Q.2) B wl_1)) fun⟨j0,k0,l0⟩=>?_
   refine xq 1 [eS1 13 j0 k0 l0] [] ?_
   refine yZ (yY (xq 5 [yB 51 s,eS1 52 j0 k0 l0,yJ 55 (IntKind.i64.wrap (e+((j+1:Nat):Int)))] [] ?_))
   rw[yW (e+((j+1:Nat):Int)) (e+((j+1:Nat):Int)) qO]
   obtain⟨u,J⟩:=yE (wP s (n/2^(j+1)+1) ((e+((j+1:Nat):Int))))
   refine xqc 138 [.bool s,.slice j0 k0 l0, yI (e+((j+1:Nat):Int))] 56 (shNb u) _ (fun w R Q=>yM wC ((show Calls _ _ _ _ (xX w u) by rw[←J];exact lY s _ _ _ _ _ _ Q.1.1.1.1.1.1.1.1.1 Q.2 P qO qO))) fun⟨m0,n0,o0⟩=>?_
   refine xq 4 [yJ 11 u.err] [yF 10 109 u.s m0 n0 o0 u.e] ?_
   refine yZ (zG ?_)
   refine yR (.tuple #[yV u.s m0 n0 o0 u.e, yI u.err]) fun w' R Q=>?_
   rw[gZ hj k1 (Or.inr (Or.inr k3)) O,J]
   exact⟨(m0,n0,o0),rfl,Q.2,R⟩
  have k3:=U.trans D
  refine zI (zA (yY (xq 5 [yB 51 s,eS1 52 a b f,yJ 55 (IntKind.i64.wrap (e+((j+1:Nat):Int)))] [] ?_)))
  rw[yW (e+((j+1:Nat):Int)) (e+((j+1:Nat):Int)) qO]
  obtain⟨x,hr25⟩:=yE (wP s (n/2^(j+1)) ((e+((j+1:Nat):Int))))
  refine xqc 138 [.bool s,.slice a b f, yI (e+((j+1:Nat):Int))] 56 (shNb x) _ (fun w R Q=>yM wC ((show Calls _ _ _ _ (xX w x) by rw[←hr25];exact lY s _ _ _ _ _ _ Q.1.1.1.1.1.1.1 Q.1.1.1.1.2 B qO qO))) fun⟨p0,q0,r0⟩=>?_
  refine xq 4 [yJ 11 x.err] [yF 10 109 x.s p0 q0 r0 x.e] ?_
  refine yZ (zG ?_)
  refine yR (.tuple #[yV x.s p0 q0 r0 x.e, yI x.err]) fun w' R Q=>?_
  rw[eM hj O (fun h=>by rcases h.2 with h|h|h;exact k4 h;exact k2 h;rw[k3] at h;cases h),hr25]
  exact⟨(p0,q0,r0),rfl,Q.2,R⟩
 rw[i]
 have k1:=uD (S.trans i)
 refine xq 14 [yB 47 false] [] ?_
 refine yZ (xb (zI (zA (yY (xq 5 [yB 51 s,eS1 52 a b f,yJ 55 (IntKind.i64.wrap (e+((j+1:Nat):Int)))] [] ?_)))))
 rw[yW (e+((j+1:Nat):Int)) (e+((j+1:Nat):Int)) qO]
 obtain⟨y,K⟩:=yE (wP s (n/2^(j+1)) ((e+((j+1:Nat):Int))))
 refine xqc 138 [.bool s,.slice a b f, yI (e+((j+1:Nat):Int))] 56 (shNb y) _ (fun w R Q=>yM wC ((show Calls _ _ _ _ (xX w y) by rw[←K];exact lY s _ _ _ _ _ _ Q.1.1.1.1 Q.1.2 B qO qO))) fun⟨s0,t0,u0⟩=>?_
 refine xq 4 [yJ 11 y.err] [yF 10 109 y.s s0 t0 u0 y.e] ?_
 refine yZ (zG ?_)
 refine yR (.tuple #[yV y.s s0 t0 u0 y.e, yI y.err]) fun w' R Q=>?_
 rw[eM hj O (fun h=>k1 h.1),K]
 exact⟨(s0,t0,u0),rfl,Q.2,R⟩
theorem ZlD (s:Bool)(A:qA)(l c n:Nat)(e:Int)(bits:Nat)(Q:Nat)(A2:qA)(l2 c2:Nat)(w:World)(hg:Glob w)(hN:zF w (.slice A l c) n)(E:wl n≤4294967296)(z0 : -576460752303423488≤e)(A0:e≤576460752303423488)(hb:bits≤4294967296)(hQ:ZcI w Q (.slice A2 l2 c2)) :
 yA 132 #[.bool s,.slice A l c,.int .i64 e,.int .i64 ((bits:Nat):Int),.func (.func 159) #[] #[.pointer (some ⟨Q,0,none⟩)]] w (xX w (lC s n e bits (decide (0<l2)))):=by
 refine zQ (Φ:=fun w=>((Glob w∧zF w (.slice A l c) (n))∧ZcI w Q (.slice A2 l2 c2))) func132 rfl qK (fun w' hf=>⟨⟨hg.ext hf,hN.ext hf⟩,hQ.ext hf⟩) ?_
 refine zC ?_
 have B0:=Zf5 E
 by_cases F:blen n≤bits
 ·obtain⟨k,hk⟩:∃ k,bits=blen n+k:=⟨bits-blen n,qO⟩
  refine zB (xq 2 [(10,.p 10 0),yJ 11 0] [yF 10 109 false none 0 0 0] ?_)
  refine yZ (yY (xq 1 [eS1 14 A l c] [] ?_))
  refine xqc 139 [.slice A l c] 15 (fun _:Unit=>yI ((blen n:Nat):Int)) _ (fun w S R=>(kV R.1.2 E).mono (fun _ _ h=>zK h rfl)) fun xx=>?_
  refine xq 2 [yJ 17 (IntKind.i64.wrap (((blen n:Nat):Int)-(bits:Int)))] [] ?_
  rw[show IntKind.i64.wrap (((blen n:Nat):Int)-(bits:Int)) = -(k:Int) by rw[IntKind.wrap_i64];omega]
  refine xq 1 [yJ 12 (-(k:Int))] [] ?_
  refine yZ (zC (yY (xq 2 [(19,.v (.bool (decide ((-(k:Int))≤0))))] [] ?_)))
  rw[show decide (-(k:Int)≤0)=true from vS qO]
  refine yZ (xa (yY (xq 3 [yB 20 s,eS1 21 A l c,yJ 22 e] [] ?_)))
  obtain⟨g,G⟩:=yE (wP s (n) (e))
  refine xqc 138 [.bool s,.slice A l c, yI e] 23 (shNb g) _ (fun w S R=>((show Calls _ _ _ _ (xX w g) by rw[←G];exact lY s _ _ _ _ _ _ R.1.1.1 R.1.1.2 E qO qO)).mono (fun _ _=>wC)) fun⟨L,M,N⟩=>?_
  refine xq 4 [yJ 11 g.err] [yF 10 109 g.s L M N g.e] ?_
  refine yZ (zG (zM ?_))
  refine yR (.tuple #[yV g.s L M N g.e, yI g.err]) fun w' S R=>?_
  rw[ZcH F,G]
  exact⟨(L,M,N),rfl,R.2,S⟩
 obtain⟨j,hj⟩:∃ j,blen n=bits+(j+1):=⟨blen n-bits-1,qO⟩
 have O:0<n:=sO (fun e=>by rw[e,iW] at F;omega)
 have B:wl (n/2^(j+1))≤4294967296:=uC (wT (vG _ _)) E
 have P:wl (n/2^(j+1)+1)≤4294967296:=uC (wT (pG O (Nat.one_lt_two_pow qO))) E
 obtain⟨b1,T⟩:=yE (decide (n/2^j%2=1))
 obtain⟨b2,U⟩:=yE (decide (n/2^(j+1)/2^0%2=1))
 obtain⟨b3,V⟩:=yE (decide (0<l2))
 refine zB (xq 2 [(10,.p 10 0),yJ 11 0] [yF 10 109 false none 0 0 0] ?_)
 refine yZ (yY (xq 1 [eS1 14 A l c] [] ?_))
 refine xqc 139 [.slice A l c] 15 (fun _:Unit=>yI ((blen n:Nat):Int)) _ (fun w S R=>(kV R.1.2 E).mono (fun _ _ h=>zK h rfl)) fun xx=>?_
 refine xq 2 [yJ 17 (IntKind.i64.wrap (((blen n:Nat):Int)-(bits:Int)))] [] ?_
 rw[yW (((blen n:Nat):Int)-(bits:Int)) (((j+1:Nat):Int)) qO]
 refine xq 1 [yJ 12 ((j+1:Nat):Int)] [] ?_
 refine yZ (zC (yY (xq 2 [yB 19 (decide (((j+1:Nat):Int)≤0))] [] ?_)))
 rw[show decide (((j+1:Nat):Int)≤0)=false from uZ qO]
 refine yZ (xb (zI (zA (yY (xq 2 [eS1 26 A l c,yJ 27 ((j+1:Nat):Int)] [] ?_)))))
 refine xqc 140 [.slice A l c, yI ((j+1:Nat):Int)] 28 xI _ (fun w S R=>(iY (j+1) R.1.1.2 E qO).mono (fun _ _=>xC)) fun⟨a,b,f⟩=>?_
 refine xq 1 [eS1 13 a b f] [] ?_
 refine yZ (zC (yY (xq 3 [eS1 29 A l c,yJ 31 (IntKind.i64.wrap (((j+1:Nat):Int)-1))] [] ?_)))
 rw[yW (((j+1:Nat):Int)-1) ((j:Int)) qO]
 refine xqc 170 [.slice A l c, yI (j:Int)] 32 (fun _:Unit=>.bool b1) _ (fun w S R=>((show Calls _ _ _ _ (RetV w (.bool b1)) by rw[←T];exact aM (j) R.1.1.1.2 qO)).mono (fun _ _ h=>zK h rfl)) fun xx=>?_
 refine xq 1 [yB 33 b1] [] ?_
 rcases bl2 (b1) with i|i
 ·rw[i]
  have k1:=uB (T.trans i)
  refine xq 1 [eS1 34 A l c] [] ?_
  refine xqc 171 [.slice A l c] 35 (fun _:Unit=>yI ((tzn n:Nat):Int)) _ (fun w S R=>(ZaA R.1.1.1.1.1 R.1.1.1.1.2 E O).mono (fun _ _ h=>zK h rfl)) fun xx=>?_
  refine xq 2 [yJ 37 (IntKind.i64.wrap (((j+1:Nat):Int)-1))] [] ?_
  rw[yW (((j+1:Nat):Int)-1) ((j:Int)) qO]
  refine xq 2 [yB 39 (decide (((tzn n:Nat):Int)<(j:Int)))] [] ?_
  rcases bl2 ((decide (((tzn n:Nat):Int)<(j:Int)))) with m|m
  ·rw[m]
   have W:=uB m
   have k4:tzn n<j:=qO
   refine xr 8 [yB 0 s,yJ 2 e,(10,.p 10 0),yJ 11 0,yJ 12 ((j+1:Nat):Int),eS1 13 a b f,yB 47 true] [yF 10 109 false none 0 0 0] ?_
   refine yZ (xa (zB (xq 1 [eS1 48 a b f] [] ?_)))
   refine yD (d:=49) (fun C:Nat=>.slice (yL C) 1 1) (fun C zw=>Blk 141 zw C #[yX 1]) (fun w S R=>lX (t:=107) (e:=141) (n:=1) (sz:=1) (z:=yX 0) (parts:=#[(0,Operand.const (Value.int IntKind.u64 1))]) qK qK qK qK qK qK) fun w0=>?_
   refine xr 0 [yB 0 s,yJ 2 e,(10,.p 10 0),yJ 11 0,yJ 12 ((j+1:Nat):Int),eS1 13 a b f,eS1 48 a b f,eS1 49 (yL w0) 1 1] [yF 10 109 false none 0 0 0] ?_
   refine xqc 135 [.slice a b f,.slice (yL w0) 1 1] 50 xI _ (fun w S R=>(jQ R.1.1.1.2 (gR R.2) B wl_1).mono (fun _ _=>xC)) fun⟨X,Y,Z⟩=>?_
   refine xq 1 [eS1 13 X Y Z] [] ?_
   refine yZ (yY (xq 5 [yB 51 s,eS1 52 X Y Z,yJ 55 (IntKind.i64.wrap (e+((j+1:Nat):Int)))] [] ?_))
   rw[yW (e+((j+1:Nat):Int)) (e+((j+1:Nat):Int)) qO]
   obtain⟨o,H⟩:=yE (wP s (n/2^(j+1)+1) ((e+((j+1:Nat):Int))))
   refine xqc 138 [.bool s,.slice X Y Z, yI (e+((j+1:Nat):Int))] 56 (shNb o) _ (fun w S R=>((show Calls _ _ _ _ (xX w o) by rw[←H];exact lY s _ _ _ _ _ _ R.1.1.1.1.1.1.1.1 R.2 P qO qO)).mono (fun _ _=>wC)) fun⟨a0,b0,c0⟩=>?_
   refine xq 4 [yJ 11 o.err] [yF 10 109 o.s a0 b0 c0 o.e] ?_
   refine yZ (zG ?_)
   refine yR (.tuple #[yV o.s a0 b0 c0 o.e, yI o.err]) fun w' S R=>?_
   rw[gZ hj k1 (Or.inl k4) O,H]
   exact⟨(a0,b0,c0),rfl,R.2,S⟩
  rw[m]
  have W:=uD m
  have k4:¬ tzn n<j:=qO
  refine xr 1 [yB 0 s,yJ 2 e,(4,.v (.func (.func 159) #[] #[.pointer (yL Q)])),(10,.p 10 0),yJ 11 0,yJ 12 ((j+1:Nat):Int),eS1 13 a b f,yB 33 true,yB 39 false,eS1 40 a b f] [yF 10 109 false none 0 0 0] ?_
  refine xqc 170 [.slice a b f, yI 0] 41 (fun _:Unit=>.bool b2) _ (fun w S R=>((show Calls _ _ _ _ (RetV w (.bool b2)) by rw[←U];exact aM (0) R.1.1.2 qO)).mono (fun _ _ h=>zK h rfl)) fun xx=>?_
  refine xq 2 [yB 43 b2] [] ?_
  rcases bl2 (b2) with q|q
  ·rw[q]
   have k2:=uB (U.trans q)
   rw[vV,rM] at k2
   refine xq 4 [yB 47 true] [] ?_
   refine yZ (xa (zB (xq 1 [eS1 48 a b f] [] ?_)))
   refine yD (d:=49) (fun C:Nat=>.slice (yL C) 1 1) (fun C zw=>Blk 141 zw C #[yX 1]) (fun w S R=>lX (t:=107) (e:=141) (n:=1) (sz:=1) (z:=yX 0) (parts:=#[(0,Operand.const (Value.int IntKind.u64 1))]) qK qK qK qK qK qK) fun x0=>?_
   refine xr 0 [yB 0 s,yJ 2 e,(10,.p 10 0),yJ 11 0,yJ 12 ((j+1:Nat):Int),eS1 13 a b f,eS1 48 a b f,eS1 49 (yL x0) 1 1] [yF 10 109 false none 0 0 0] ?_
   refine xqc 135 [.slice a b f,.slice (yL x0) 1 1] 50 xI _ (fun w S R=>(jQ R.1.1.1.1.2 (gR R.2) B wl_1).mono (fun _ _=>xC)) fun⟨d0,e0,f0⟩=>?_
   refine xq 1 [eS1 13 d0 e0 f0] [] ?_
   refine yZ (yY (xq 5 [yB 51 s,eS1 52 d0 e0 f0,yJ 55 (IntKind.i64.wrap (e+((j+1:Nat):Int)))] [] ?_))
   rw[yW (e+((j+1:Nat):Int)) (e+((j+1:Nat):Int)) qO]
   obtain⟨r,I⟩:=yE (wP s (n/2^(j+1)+1) ((e+((j+1:Nat):Int))))
   refine xqc 138 [.bool s,.slice d0 e0 f0, yI (e+((j+1:Nat):Int))] 56 (shNb r) _ (fun w S R=>((show Calls _ _ _ _ (xX w r) by rw[←I];exact lY s _ _ _ _ _ _ R.1.1.1.1.1.1.1.1.1 R.2 P qO qO)).mono (fun _ _=>wC)) fun⟨g0,i0,j0⟩=>?_
   refine xq 4 [yJ 11 r.err] [yF 10 109 r.s g0 i0 j0 r.e] ?_
   refine yZ (zG ?_)
   refine yR (.tuple #[yV r.s g0 i0 j0 r.e, yI r.err]) fun w' S R=>?_
   rw[gZ hj k1 (Or.inr (Or.inl k2)) O,I]
   exact⟨(g0,i0,j0),rfl,R.2,S⟩
  rw[q]
  have k2:=uD (U.trans q)
  rw[vV,rM] at k2
  refine xq 1 [(44,.v (.func (.func 159) #[] #[.pointer (yL Q)]))] [] ?_
  refine xqc 159 [.pointer (yL Q)] 45 (fun _:Unit=>.bool b3) _ (fun w S R=>((show Calls _ _ _ _ (RetV w (.bool b3)) by rw[←V];exact Zm1 Q A2 l2 c2 _ R.1.1.1.1.1.2)).mono (fun _ _ h=>zK h rfl)) fun xx=>?_
  refine xq 2 [yB 47 b3] [] ?_
  refine xe (zA ?_)
  refine yQ (b3) (fun D=>?_) fun D=>?_
  ·have k3:=V.trans D
   refine zB (xq 1 [eS1 48 a b f] [] ?_)
   refine yD (d:=49) (fun C:Nat=>.slice (yL C) 1 1) (fun C zw=>Blk 141 zw C #[yX 1]) (fun w S R=>lX (t:=107) (e:=141) (n:=1) (sz:=1) (z:=yX 0) (parts:=#[(0,Operand.const (Value.int IntKind.u64 1))]) qK qK qK qK qK qK) fun y0=>?_
   refine xr 0 [yB 0 s,yJ 2 e,(10,.p 10 0),yJ 11 0,yJ 12 ((j+1:Nat):Int),eS1 13 a b f,eS1 48 a b f,eS1 49 (yL y0) 1 1] [yF 10 109 false none 0 0 0] ?_
   refine xqc 135 [.slice a b f,.slice (yL y0) 1 1] 50 xI _ (fun w S R=>(jQ R.1.1.1.1.1.2 (gR R.2) B wl_1).mono (fun _ _=>xC)) fun⟨k0,l0,m0⟩=>?_
   refine xq 1 [eS1 13 k0 l0 m0] [] ?_
   refine yZ (yY (xq 5 [yB 51 s,eS1 52 k0 l0 m0,yJ 55 (IntKind.i64.wrap (e+((j+1:Nat):Int)))] [] ?_))
   rw[yW (e+((j+1:Nat):Int)) (e+((j+1:Nat):Int)) qO]
   obtain⟨u,J⟩:=yE (wP s (n/2^(j+1)+1) ((e+((j+1:Nat):Int))))
   refine xqc 138 [.bool s,.slice k0 l0 m0, yI (e+((j+1:Nat):Int))] 56 (shNb u) _ (fun w S R=>((show Calls _ _ _ _ (xX w u) by rw[←J];exact lY s _ _ _ _ _ _ R.1.1.1.1.1.1.1.1.1.1 R.2 P qO qO)).mono (fun _ _=>wC)) fun⟨n0,o0,p0⟩=>?_
   refine xq 4 [yJ 11 u.err] [yF 10 109 u.s n0 o0 p0 u.e] ?_
   refine yZ (zG ?_)
   refine yR (.tuple #[yV u.s n0 o0 p0 u.e, yI u.err]) fun w' S R=>?_
   rw[gZ hj k1 (Or.inr (Or.inr k3)) O,J]
   exact⟨(n0,o0,p0),rfl,R.2,S⟩
  have k3:=V.trans D
  refine zI (zA (yY (xq 5 [yB 51 s,eS1 52 a b f,yJ 55 (IntKind.i64.wrap (e+((j+1:Nat):Int)))] [] ?_)))
  rw[yW (e+((j+1:Nat):Int)) (e+((j+1:Nat):Int)) qO]
  obtain⟨x,hr25⟩:=yE (wP s (n/2^(j+1)) ((e+((j+1:Nat):Int))))
  refine xqc 138 [.bool s,.slice a b f, yI (e+((j+1:Nat):Int))] 56 (shNb x) _ (fun w S R=>((show Calls _ _ _ _ (xX w x) by rw[←hr25];exact lY s _ _ _ _ _ _ R.1.1.1.1.1.1.1.1 R.1.1.1.1.2 B qO qO)).mono (fun _ _=>wC)) fun⟨q0,r0,s0⟩=>?_
  refine xq 4 [yJ 11 x.err] [yF 10 109 x.s q0 r0 s0 x.e] ?_
  refine yZ (zG ?_)
  refine yR (.tuple #[yV x.s q0 r0 s0 x.e, yI x.err]) fun w' S R=>?_
  rw[eM hj O (fun h=>by rcases h.2 with h|h|h;exact k4 h;exact k2 h;rw[k3] at h;cases h),hr25]
  exact⟨(q0,r0,s0),rfl,R.2,S⟩
 rw[i]
 have k1:=uD (T.trans i)
 refine xq 14 [yB 47 false] [] ?_
 refine yZ (xb (zI (zA (yY (xq 5 [yB 51 s,eS1 52 a b f,yJ 55 (IntKind.i64.wrap (e+((j+1:Nat):Int)))] [] ?_)))))
 rw[yW (e+((j+1:Nat):Int)) (e+((j+1:Nat):Int)) qO]
 obtain⟨y,K⟩:=yE (wP s (n/2^(j+1)) ((e+((j+1:Nat):Int))))
 refine xqc 138 [.bool s,.slice a b f, yI (e+((j+1:Nat):Int))] 56 (shNb y) _ (fun w S R=>((show Calls _ _ _ _ (xX w y) by rw[←K];exact lY s _ _ _ _ _ _ R.1.1.1.1.1 R.1.2 B qO qO)).mono (fun _ _=>wC)) fun⟨t0,u0,v0⟩=>?_
 refine xq 4 [yJ 11 y.err] [yF 10 109 y.s t0 u0 v0 y.e] ?_
 refine yZ (zG ?_)
 refine yR (.tuple #[yV y.s t0 u0 v0 y.e, yI y.err]) fun w' S R=>?_
 rw[eM hj O (fun h=>k1 h.1),K]
 exact⟨(t0,u0,v0),rfl,R.2,S⟩
theorem Zhk {u v:Value}{m n:Nat}{w:World}(d:zF w u m)(e:zF w v n)(f:wl m≤4294967295)(g:wl n≤4294967296)(l:0<n):yA 158 #[u,v] w (ZbX w (m/n) (m%n)):=by
 have a:=d
 have b:=e
 obtain⟨A,o,c,rfl,y,p,h,i,rfl⟩:=d
 obtain⟨q,r,s,rfl,t,x,j,k,rfl⟩:=e
 rw[←xP h i] at f
 rw[←xP j k] at g
 exact Zm0 A q o r c s w p x f g h j a b i k l
theorem ZoO {s:Bool}{A:qA}{l c:Nat}{e:Int}:Zkk #[.bool s,.slice A l c,.int .i64 e]:=by
 intro i k;rcases i with _|_|_|i<;>simp
theorem Blk.cell3n {t:TypeId}{w:World}{g:Nat}{x y z:Value}(h:Blk t w g #[x,y,z]):w.cell? ⟨g,0,none⟩=some x∧w.cell? ⟨g,1,none⟩=some y∧w.cell? ⟨g,2,none⟩=some z∧w.frozen? ⟨g,0,none⟩=false∧w.frozen? ⟨g,1,none⟩=false∧w.frozen? ⟨g,2,none⟩=false :=
 ⟨h.cell 0,h.cell 1,h.cell 2,h.frozen 0,h.frozen 1,h.frozen 2⟩
theorem Zrr {fn:Func}{t t2:Tmp}{a:Array Value}{w g b:World}{r:Nat}{x:FR}{A u:qA}{l c y c0:Nat}{s0:Bool}{z:Int}(d:fn.results=#[.cell t 109,.tmp t2])(B:a[t]? = some (.pointer (some ⟨r,0,none⟩)))(h:a[t2]? = some (.int .i64 x.err))(j:w.heap.size≤r)(C:Ext w g)(D:Blk 109 g r #[.bool s0,.slice u y c0,.int .i64 z])(q:Ext g b)(E:zF b (.slice A l c) x.m) :
 bodyPost prog fn (xX w x) .ret ⟨a,[]⟩ (((b.setCell ⟨r,0,none⟩ (.bool x.s)).setCell ⟨r,1,none⟩ (.slice A l c)).setCell ⟨r,2,none⟩ (.int .i64 x.e)):=by
 have f:=D.ext q
 have k:Blk 109 (((b.setCell ⟨r,0,none⟩ (.bool x.s)).setCell ⟨r,1,none⟩ (.slice A l c)).setCell ⟨r,2,none⟩ (.int .i64 x.e)) r #[.bool x.s,.slice A l c,.int .i64 x.e]:=((f.set_ 0 _).set_ 1 _).set_ 2 _
 obtain⟨F,G,H,_⟩:=k.cell3n
 have I:Fr (fun i=>i=r) b (((b.setCell ⟨r,0,none⟩ (.bool x.s)).setCell ⟨r,1,none⟩ (.slice A l c)).setCell ⟨r,2,none⟩ (.int .i64 x.e)):=(((show Fr (fun i=>i=r) b b from Fr.refl _ _).setCell (p:=⟨r,0,none⟩) (Or.inl rfl) _).setCell (p:=⟨r,1,none⟩) (Or.inl rfl) _).setCell (p:=⟨r,2,none⟩) (Or.inl rfl) _
 have n:=E.other f ZoO I
 have o:Ext w (((b.setCell ⟨r,0,none⟩ (.bool x.s)).setCell ⟨r,1,none⟩ (.slice A l c)).setCell ⟨r,2,none⟩ (.int .i64 x.e)):=(((C.trans q).setCell (p:=⟨r,0,none⟩) (Or.inr j) _).setCell (p:=⟨r,1,none⟩) (Or.inr j) _).setCell (p:=⟨r,2,none⟩) (Or.inr j) _
 generalize ((b.setCell ⟨r,0,none⟩ (.bool x.s)).setCell ⟨r,1,none⟩ (.slice A l c)).setCell ⟨r,2,none⟩ (.int .i64 x.e)=W at *
 exact bodyPost_ret (v:=shNb x (A,l,c)) (by simp[results,d,B,h,go_sem,F,G,H,shNb]) rfl ⟨(A,l,c),rfl,n,o⟩
theorem Za5 {a b:Nat}(h:a<64*b):wl (2^a)≤b:=kD.2 (by rw[show W64=2^64 by rw[zL],← qR];exact Nat.pow_lt_pow_right qD h)
theorem ZdV (s:Bool)(A:qA)(l c n:Nat)(B:qA)(m d k:Nat)(e:Int)(bits:Nat)(w:World)(hg:Glob w)(hN:zF w (.slice A l c) n)(hK:zF w (.slice B m d) k)(h0:wl n≤1000000)(i0:wl k≤1000000)(D:0<k)(j0 : -288230376151711744≤e)(k0:e≤288230376151711744)(P:0<bits)(hb:bits≤1000000) :
 yA 110 #[.bool s,.slice A l c,.slice B m d,.int .i64 e,.int .i64 ((bits:Nat):Int)] w (xX w (wK s n k e bits)):=by
 have l0:=fS n
 have m0:=fS k
 obtain⟨a1,E⟩:∃ a,a=(rk0 n k bits-1).toNat:=⟨_,rfl⟩
 obtain⟨a2,j⟩:∃ a,a=(-(rk0 n k bits-1)).toNat:=⟨_,rfl⟩
 obtain⟨b,Q⟩:∃ x:Int,x=(bits:Int)+1+(blen k:Nat)-(blen n:Nat):=⟨_,rfl⟩
 have f:rk0 n k bits-1 = -b:=by unfold rk0;omega
 rw[f] at E j
 rw[Int.neg_neg] at j
 have n0 : -100000000≤b:=qO
 have o0:b≤100000000:=qO
 have F:fa n (rk0 n k bits-1)=n*2^a2:=by unfold fa;rw[f,Int.neg_neg,← j]
 have G:fb k (rk0 n k bits-1)=k*2^a1:=by unfold fb;rw[f,← E]
 have p0:wl (n*2^a2)≤4000000:=by
  refine uC (Zah _ _) ?_
  have:wl (2^a2)≤2000001:=Za5 qO
  omega
 have q0:wl (k*2^a1)≤4000000:=by
  refine uC (Zah _ _) ?_
  have:wl (2^a1)≤2000001:=Za5 qO
  omega
 have r0:(if (0:Int)>b then (0:Int) else b)=(a2:Int):=by split<;>omega
 have s0:(if (0:Int) > -b then (0:Int) else -b)=(a1:Int):=by split<;>omega
 have HG:=zh hg
 have HN:=zh hN
 have HK:=zh hK
 clear hg hN hK
 obtain⟨x,R⟩:=yE (wK s n k e bits)
 rw[R]
 have HX:=zh R
 clear R
 go_enter func110,ntmps110
 go_wp2_with fail
 refine (kV (HK.out.ext ((Fr.refl _ _).alloc _)) qO).mono ?_
 rintro H w1 ⟨rfl,o⟩
 have I:Hid (Ext w w1):=((Fr.refl _ _).alloc _).trans o
 have S:Hid (Blk 109 w1 w.heap.size #[.bool false,.slice none 0 0,.int .i64 0]):=(show Blk 109 (w.alloc (.cells #[.bool false,.slice none 0 0,.int .i64 0] 109)) w.heap.size #[.bool false,.slice none 0 0,.int .i64 0] from heap_alloc_new w _).ext o
 clear o
 go_wp2_with fail
 refine (kV (HN.out.ext I.out) qO).mono ?_
 rintro H w2 ⟨rfl,p⟩
 have J:=zh (I.out.trans p)
 have T:=zh (S.out.ext p)
 clear p
 go_wp2_with fail
 rw[show max ((bits:Int)+1+(blen k:Nat)-(blen n:Nat)) 0=(a2:Int) by omega]
 refine (jL a2 (HN.out.ext J.out) qO qO).mono ?_
 rintro H w3 ⟨v3,rfl,q,r⟩
 obtain⟨A3,l3,c3,rfl⟩:=q.slice
 have K:=zh (J.out.trans r)
 have U:=zh (T.out.ext r)
 have V:=zh q
 clear q r
 go_wp2_with fail
 rw[show max (-((bits:Int)+1+(blen k:Nat)-(blen n:Nat))) 0=(a1:Int) by omega]
 refine (jL a1 (HK.out.ext K.out) qO qO).mono ?_
 rintro H w4 ⟨v4,rfl,t,g⟩
 obtain⟨A4,l4,c4,rfl⟩:=t.slice
 have W:=zh (K.out.trans g)
 have X:=zh (U.out.ext g)
 have L:=zh (V.out.ext g)
 have Y:=zh t
 clear t g
 go_wp2_with fail
 refine (Zhk L.out Y.out qO qO (sH D (p2 a1))).mono ?_
 rintro H Z ⟨v5,v6,rfl,u,v,y⟩
 obtain⟨A5,l5,c5,rfl⟩:=u.slice
 obtain⟨A6,O,c6,rfl⟩:=v.slice
 have M:=zh (W.out.trans y)
 have a0:=zh (X.out.ext y)
 have b0:=zh u
 have c0:=zh v
 clear u v y
 go_wp2_with fail
 have i:ZcI (Z.alloc (.cells #[.slice A6 O c6] 107)) Z.heap.size (.slice A6 O c6):=⟨qS,by rw[Lib.cell_of_heap (heap_alloc_new Z _)];rfl⟩
 have d0:wl (n*2^a2/(k*2^a1))≤4294967296:=uC (wT (vG _ _)) qO
 refine (ZlD s A5 l5 c5 _ _ bits _ A6 O c6 _ (HG.out.ext (M.out.alloc _)) (b0.out.ext ((Fr.refl _ _).alloc _)) d0 qO qO qO i).mono ?_
 rintro H w6 ⟨⟨A7,l7,c7⟩,rfl,z,C⟩
 have hr:lC s (n*2^a2/(k*2^a1)) (e-((bits:Int)+1+(blen k:Nat)-(blen n:Nat))) bits (decide (0<O))=x:=by
  rw[←HX.out,← Q]
  rcases uI n with rfl|hn
  ·rw[tY,Nat.zero_div,ZeN,iQ]
  have h:=ZjN s (n:=n) (d:=k) e (bits:=bits) hn D P
  have hq:fq n k (rk0 n k bits-1)=n*2^a2/(k*2^a1):=by unfold fq;rw[F,G]
  rw[hq,F,G,f] at h
  rw[←h,show e + -b=e-b by omega]
  congr 1
  have e0:=c0.out.len0
  exact pC.2 (by rw[e0];have:=@lK (n*2^a2%(k*2^a1));omega)
 rw[hr] at z
 rw[hr]
 clear hr
 have f0:=zh z
 have g0:Hid (Ext w w6):=(M.out.alloc _).trans C
 have N:=zh ((a0.out.ext ((Fr.refl _ _).alloc _)).ext C)
 obtain⟨z0,z1,z2,z3,z4,z5⟩:=N.out.cell3n
 clear z C i
 simp only[shNb]
 go_wp2
 exact Zrr rfl rfl rfl (uH _) g0.out N.out (Fr.refl _ _) f0.out
theorem ZgI {a b:Int}:(if b<a then b else a)=min a b:=qO
def Zbv (s:Bool) (m n:Nat) (e:Int) (bits:Nat):FR:=if n=0 then ⟨false,0,0,5⟩ else wK s m n e bits
def sumR (sx:Bool) (xm:Nat) (xe:Int) (sy:Bool) (ym:Nat) (ye:Int) (bits:Nat):FR :=
 if xm=0 then wK sy ym 1 ye bits else if ym=0 then wK sx xm 1 xe bits else addR sx xm xe sy ym ye bits
theorem Zbw {n a:Nat}(c:wl n≤1000000)(ha:a≤100000000):wl (n*2^a)≤4000000:=by
 have:=Zah n (2^a)
 have:wl (2^a)≤2000001:=Za5 qO
 omega
section
variable {s t:Bool} {a b bits:Nat} {low:Int}
theorem Zhl (ha:0<a)(h:s=t):wK (decide (sg s a+sg t b<0)) (sg s a+sg t b).natAbs 1 low bits=wK s (a+b) 1 low bits:=by
 subst h
 have c:decide (sg s a+sg s b<0)=s:=by cases s<;>simp[sg]<;>omega
 have d:(sg s a+sg s b).natAbs=a+b:=by cases s<;>simp[sg]<;>omega
 rw[c,d]
theorem Zf6 (h:¬ s=t)(f:b≤a):wK (decide (sg s a+sg t b<0)) (sg s a+sg t b).natAbs 1 low bits=wK s (a-b) 1 low bits:=by
 have c:(sg s a+sg t b).natAbs=a-b:=by cases s<;>cases t<;>simp[sg] at h ⊢<;>omega
 rw[c]
 by_cases e:a-b=0
 ·rw[e,iQ,iQ]
 have d:decide (sg s a+sg t b<0)=s:=by cases s<;>cases t<;>simp[sg] at h ⊢<;>omega
 rw[d]
theorem ZeQ (h:¬ s=t)(e:a<b):wK (decide (sg s a+sg t b<0)) (sg s a+sg t b).natAbs 1 low bits=wK t (b-a) 1 low bits:=by
 have c:(sg s a+sg t b).natAbs=b-a:=by cases s<;>cases t<;>simp[sg] at h ⊢<;>omega
 rw[c]
 have d:decide (sg s a+sg t b<0)=t:=by cases s<;>cases t<;>simp[sg] at h ⊢<;>omega
 rw[d]
end
theorem ZiH {sx:Bool}{c:Nat}{xe:Int}{d:Bool}{ym:Nat}{e:Int}{bits u1 u2:Nat}{low:Int}(f:min xe e=low)(g:xe-low=u1)(h:e-low=u2) :
 addR sx c xe d ym e bits=wK (decide (sg sx (c*2^u1)+sg d (ym*2^u2)<0)) (sg sx (c*2^u1)+sg d (ym*2^u2)).natAbs 1 low bits:=by
 unfold addR
 rw[f,g,h]
 rfl
theorem ZaL {a b:Nat}:cmpI a b≥0↔b≤a:=by
 have:=@fF a b
 omega
theorem Zbx (s:Bool)(A:qA)(l c x:Nat)(e:Int)(w:World)(f:zF w (.slice A l c) x)(d:wl x≤4294967296)(g : -1152921504606846976≤e)(h:e≤1152921504606846976) :
 yA 134 #[yV s A l c e] w (RetV w (.int .i64 (((blen x:Nat):Int)+e))):=by
 refine zQ (Φ:=fun w=>zF w (.slice A l c) (x)) func134 rfl qK (fun w' i=>f.ext i) ?_
 refine zC ?_
 have j:=Zf5 d
 refine zB (xq 2 [(1,.p 1 0),yJ 2 0] [yF 1 109 s A l c e] ?_)
 refine yZ (zC ?_)
 refine yO 7 zO ?_
 refine xqg 2 [eS1 4 A l c] ?_
 refine xqd 139 [.slice A l c] 5 (fun _:Unit=>yI ((blen x:Nat):Int)) _ (fun w R Q=>yN (kV Q d)) fun k=>?_
 refine xqg 3 [yJ 8 (IntKind.i64.wrap (((blen x:Nat):Int)+e))] ?_
 rw[yW (((blen x:Nat):Int)+e) (((blen x:Nat):Int)+e) qO]
 refine xqg 1 [yJ 2 (((blen x:Nat):Int)+e)] ?_
 refine xz (yZ (zG ?_))
 refine yR (yI (((blen x:Nat):Int)+e)) fun w' R Q=>?_
 exact⟨rfl,R⟩
theorem Zm3 (s:Bool)(A:qA)(l c x:Nat)(e:Int)(t:Bool)(B:qA)(m d y:Nat)(f:Int)(bits:Nat)(C:0<bits)(W:bits≤4096)(w:World)(J:Glob w)(H:zF w (.slice A l c) x)(K:wl x≤100000)(L : -1073741824≤e)(M:e≤1073741824)(I:zF w (.slice B m d) y)(N:wl y≤100000)(O : -1073741824≤f)(P:f≤1073741824) :
 yA 130 #[yV s A l c e, yV t B m d f,.int .i64 ((bits:Nat):Int)] w (xX w (wK (s != t) (x*y) 1 (e+f) bits)):=by
 refine zQ (Φ:=fun w=>((Glob w∧zF w (.slice A l c) (x))∧zF w (.slice B m d) (y))) func130 rfl qK (fun w' D=>⟨⟨J.ext D,H.ext D⟩,I.ext D⟩) ?_
 refine zC ?_
 have S:=H.len0
 have T:=I.len0
 have U:=@lK x
 have V:=@lK y
 refine zB (xq 4 [(3,.p 3 0),(4,.p 4 0),(6,.p 6 0),yJ 7 0] [yF 6 109 false none 0 0 0,yF 4 109 t B m d f,yF 3 109 s A l c e] ?_)
 refine yZ (zC (yY (xq 5 [yB 12 (((l:Int):Int) == 0)] [] ?_)))
 rcases bl2 ((((l:Int):Int) == 0)) with h|h
 ·rw[h]
  have q:=sN.1 h
  have u:x=0:=qO
  refine xq 5 [yB 17 true] [] ?_
  refine yZ (xa (yY (xq 3 [yJ 7 0] [] ?_)))
  refine yZ (zG (zM ?_))
  refine yR (.tuple #[yV false none 0 0 0, yI 0]) fun w' R Q=>?_
  rw[u,tY,iQ]
  exact⟨(none,0,0),rfl,zF.zero _,R⟩
 rw[h]
 have q:=lJ h
 have u:¬ x=0:=qO
 refine xq 5 [yB 17 (((m:Int):Int) == 0)] [] ?_
 refine xe (zA ?_)
 refine yQ ((((m:Int):Int) == 0)) (fun i=>?_) fun i=>?_
 ·have r:=sN.1 i
  have z:y=0:=qO
  refine yY (xq 3 [yJ 7 0] [] ?_)
  refine yZ (zG (zM ?_))
  refine yR (.tuple #[yV false none 0 0 0, yI 0]) fun w' R Q=>?_
  rw[z,tR,iQ]
  exact⟨(none,0,0),rfl,zF.zero _,R⟩
 have r:=lJ i
 have z:¬ y=0:=qO
 refine zI (zA (zC ?_))
 refine yO 19 zO ?_
 refine xqg 9 [yB 23 (s != t),eS1 25 A l c,eS1 27 B m d] ?_
 refine xqd 143 [.slice A l c,.slice B m d] 28 xI _ (fun w R Q=>yM xC (ZcG Q.1.2 Q.2 qO qO)) fun⟨E,F,G⟩=>?_
 refine xqg 5 [yJ 33 (IntKind.i64.wrap (e+f))] ?_
 rw[yW (e+f) (e+f) qO]
 refine xqg 1 [yJ 34 (bits:Int)] ?_
 obtain⟨g,o⟩:=yE (lC ((s != t)) (x*y) ((e+f)) bits false)
 refine xqd 132 [.bool (s != t),.slice E F G, yI (e+f), yI (bits:Int),.func (.func 133) #[] #[]] 35 (shNb g) _ (fun w R Q=>yM wC ((show Calls _ _ _ _ (xX w g) by rw[←o];exact iR ((s != t)) _ _ _ _ ((e+f)) _ _ Q.1.1.1 Q.2 (by have:=Zah x y;omega) qO qO qO))) fun⟨j,k,n⟩=>?_
 refine xqg 2 [(36,.v (yV g.s j k n g.e)),yJ 37 g.err] ?_
 refine xz (xq 2 [yJ 7 g.err] [yF 6 109 g.s j k n g.e] ?_)
 refine yZ (zG ?_)
 refine yR (.tuple #[yV g.s j k n g.e, yI g.err]) fun w' R Q=>?_
 rw[←kU _ _ _ C,o]
 exact⟨(j,k,n),rfl,Q.2,R⟩
theorem Zhm (s:Bool)(A:qA)(l c x:Nat)(e:Int)(t:Bool)(B:qA)(m d y:Nat)(f:Int)(bits:Nat)(r:0<bits)(N:bits≤4096)(w:World)(C:Glob w)(v:zF w (.slice A l c) x)(D:wl x≤100000)(E : -1073741824≤e)(F:e≤1073741824)(z:zF w (.slice B m d) y)(G:wl y≤100000)(H : -1073741824≤f)(I:f≤1073741824) :
 yA 96 #[yV s A l c e, yV t B m d f,.int .i64 ((bits:Nat):Int)] w (xX w (Zbv (s != t) x y (e-f) bits)):=by
 refine zQ (Φ:=fun w=>((Glob w∧zF w (.slice A l c) (x))∧zF w (.slice B m d) (y))) func96 rfl qK (fun w' u=>⟨⟨C.ext u,v.ext u⟩,z.ext u⟩) ?_
 refine zC ?_
 have J:=v.len0
 have K:=z.len0
 have L:=@lK x
 have M:=@lK y
 refine zB (xq 4 [(3,.p 3 0),(4,.p 4 0),(6,.p 6 0),yJ 7 0] [yF 6 109 false none 0 0 0,yF 4 109 t B m d f,yF 3 109 s A l c e] ?_)
 refine yZ (zC (yY (xq 4 [yB 11 (((m:Int):Int) == 0)] [] ?_)))
 refine xe (zA ?_)
 refine yQ ((((m:Int):Int) == 0)) (fun h=>?_) fun h=>?_
 ·have j:=sN.1 h
  have k:y=0:=qO
  refine yY (xq 3 [yJ 7 5] [] ?_)
  refine yZ (zG (zM ?_))
  refine yR (.tuple #[yV false none 0 0 0, yI 5]) fun w' R Q=>?_
  rw[show Zbv (s != t) x y (e-f) bits=⟨false,0,0,5⟩ from uQ k]
  exact⟨(none,0,0),rfl,zF.zero _,R⟩
 have j:=lJ h
 have k:¬ y=0:=qO
 refine zI (zA (yY (xq 14 [yB 17 (s != t),eS1 19 A l c,eS1 21 B m d,yJ 26 (IntKind.i64.wrap (e-f))] [] ?_)))
 rw[yW (e-f) (e-f) qO]
 refine xq 1 [yJ 27 (bits:Int)] [] ?_
 obtain⟨g,i⟩:=yE (wK (s != t) x y ((e-f)) bits)
 refine xqc 110 [.bool (s != t),.slice A l c,.slice B m d, yI (e-f), yI (bits:Int)] 28 (shNb g) _ (fun w R Q=>yM wC ((show Calls _ _ _ _ (xX w g) by rw[←i];exact ZdV (s != t) _ _ _ x _ _ _ y _ bits _ Q.1.1 Q.1.2 Q.2 qO qO qO qO qO r qO))) fun⟨n,o,q⟩=>?_
 refine xq 4 [yJ 7 g.err] [yF 6 109 g.s n o q g.e] ?_
 refine yZ (zG ?_)
 refine yR (.tuple #[yV g.s n o q g.e, yI g.err]) fun w' R Q=>?_
 rw[show Zbv (s != t) x y (e-f) bits=wK (s != t) x y (e-f) bits from uL k,i]
 exact⟨(n,o,q),rfl,Q.2,R⟩
theorem Zhn (s:Bool)(A:qA)(l c x:Nat)(e:Int)(t:Bool)(B:qA)(m d y:Nat)(f:Int)(bits:Nat)(H:0<bits)(hb:bits≤4096)(w:World)(hg:Glob w)(hX:zF w (.slice A l c) x)(E1:wl x≤100000)(F1 : -1073741824≤e)(G1:e≤1073741824)(hY:zF w (.slice B m d) y)(H1:wl y≤100000)(I1 : -1073741824≤f)(J1:f≤1073741824) :
 yA 91 #[yV s A l c e, yV t B m d f,.int .i64 ((bits:Nat):Int)] w (xX w (sumR s x e t y f bits)):=by
 refine zQ (Φ:=fun w=>((Glob w∧zF w (.slice A l c) (x))∧zF w (.slice B m d) (y))) func91 rfl qK (fun w' hf=>⟨⟨hg.ext hf,hX.ext hf⟩,hY.ext hf⟩) ?_
 refine zC ?_
 have K1:=hX.len0
 have L1:=hY.len0
 have M1:=@lK x
 have N1:=@lK y
 have O1:=fS x
 have R1:=fS y
 refine zB (xq 4 [(3,.p 3 0),(4,.p 4 0),(6,.p 6 0),yJ 7 0] [yF 6 109 false none 0 0 0,yF 4 109 t B m d f,yF 3 109 s A l c e] ?_)
 refine yZ (zC (yY (xq 4 [yB 15 (((l:Int):Int) == 0)] [] ?_)))
 refine xe (zA ?_)
 refine yQ ((((l:Int):Int) == 0)) (fun b0=>?_) fun b0=>?_
 ·have N0:=sN.1 b0
  have O0:x=0:=qO
  refine zB (xq 4 [] [yF 4 109 s A l c e,yF 3 109 t B m d f] ?_)
  refine yZ (zC (yY (xq 4 [yB 21 (((l:Int):Int) == 0)] [] ?_)))
  rw[b0]
  refine yZ (xa (yY (xq 7 [yB 23 t,eS1 25 B m d,yJ 27 f,yJ 28 (bits:Int)] [] ?_)))
  obtain⟨X,E0⟩:=yE (lC t (y) (f) bits false)
  refine xqc 132 [.bool t,.slice B m d, yI f, yI (bits:Int),.func (.func 133) #[] #[]] 29 (shNb X) _ (fun w R Q=>yM wC ((show Calls _ _ _ _ (xX w X) by rw[←E0];exact iR t _ _ _ _ f _ _ Q.1.1 Q.2 qO qO qO qO))) fun⟨P0,Q0,R0⟩=>?_
  refine xq 4 [yJ 7 X.err] [yF 6 109 X.s P0 Q0 R0 X.e] ?_
  refine yZ (zG (zM ?_))
  refine yR (.tuple #[yV X.s P0 Q0 R0 X.e, yI X.err]) fun w' R Q=>?_
  rw[show sumR s x e t y f bits=wK t y 1 f bits from uQ O0,← kU _ _ _ H,E0]
  exact⟨(P0,Q0,R0),rfl,Q.2,R⟩
 have N0:=lJ b0
 have O0:¬ x=0:=qO
 refine zI (zA (zC (yY (xq 4 [yB 21 (((m:Int):Int) == 0)] [] ?_))))
 refine xe (zA ?_)
 refine yQ ((((m:Int):Int) == 0)) (fun e0=>?_) fun e0=>?_
 ·have S0:=sN.1 e0
  have g1:y=0:=qO
  refine yY (xq 7 [yB 23 s,eS1 25 A l c,yJ 27 e,yJ 28 (bits:Int)] [] ?_)
  obtain⟨Y,F0⟩:=yE (lC s (x) (e) bits false)
  refine xqc 132 [.bool s,.slice A l c, yI e, yI (bits:Int),.func (.func 133) #[] #[]] 29 (shNb Y) _ (fun w R Q=>yM wC ((show Calls _ _ _ _ (xX w Y) by rw[←F0];exact iR s _ _ _ _ e _ _ Q.1.1 Q.1.2 qO qO qO qO))) fun⟨T0,U0,V0⟩=>?_
  refine xq 4 [yJ 7 Y.err] [yF 6 109 Y.s T0 U0 V0 Y.e] ?_
  refine yZ (zG (zM ?_))
  refine yR (.tuple #[yV Y.s T0 U0 V0 Y.e, yI Y.err]) fun w' R Q=>?_
  rw[show sumR s x e t y f bits=wK s x 1 e bits by unfold sumR;rw[uL O0,uQ g1],← kU _ _ _ H,F0]
  exact⟨(T0,U0,V0),rfl,Q.2,R⟩
 have S0:=lJ e0
 have g1:¬ y=0:=qO
 refine zI (zA ?_)
 refine Ziv (fun ss ff=>∃ (j:Bool) (P1:Option Addr) (pl pc p:Nat) (i:Int) (o:Bool) (Q1:Option Addr) (ql qc q:Nat) (k:Int),ss=ofL [yJ 2 (bits:Int),(3,.p 3 0),(4,.p 4 0),(6,.p 6 0),yJ 7 0] [yF 6 109 false none 0 0 0,yF 3 109 j P1 pl pc i,yF 4 109 o Q1 ql qc k]∧ff=(fun w=>((Glob w∧zF w (.slice P1 pl pc) (p))∧zF w (.slice Q1 ql qc) (q)))∧(0<p)∧(0<q)∧(wl p≤100000)∧(wl q≤100000)∧(-1073741824≤i)∧(i≤1073741824)∧(-1073741824≤k)∧(k≤1073741824)∧(((blen q:Nat):Int)+k≤((blen p:Nat):Int)+i)∧(addR s x e t y f bits=addR j p i o q k bits)) ?_ ?_
 ·refine zC ?_
  refine yO 5 zO ?_
  refine xqg 1 [(32,.v (yV s A l c e))] ?_
  refine xqd 134 [yV s A l c e] 33 (fun _:Unit=>yI (((blen x:Nat):Int)+e)) _ (fun w R Q=>yN (Zbx _ _ _ _ _ _ _ Q.1.2 qO qO qO)) fun xx=>?_
  refine xqg 1 [(34,.v (yV t B m d f))] ?_
  refine xqd 134 [yV t B m d f] 35 (fun _:Unit=>yI (((blen y:Nat):Int)+f)) _ (fun w R Q=>yN (Zbx _ _ _ _ _ _ _ Q.1.2 qO qO qO)) fun xx=>?_
  refine xqg 1 [(36,.v (.bool (decide ((((blen x:Nat):Int)+e)<(((blen y:Nat):Int)+f)))))] ?_
  refine xz (xe (zA ?_))
  refine yQ ((decide ((((blen x:Nat):Int)+e)<(((blen y:Nat):Int)+f)))) (fun f0=>?_) fun f0=>?_
  ·have W0:=uB f0
   refine zB (xq 4 [] [yF 4 109 s A l c e,yF 3 109 t B m d f] ?_)
   refine xe ?_
   refine yP [yJ 2 (bits:Int),(3,.p 3 0),(4,.p 4 0),(6,.p 6 0),yJ 7 0] [yF 6 109 false none 0 0 0,yF 3 109 t B m d f,yF 4 109 s A l c e] (fun w=>((Glob w∧zF w (.slice B m d) (y))∧zF w (.slice A l c) (x))) (fun w Q=>⟨⟨Q.1.1.1.1,Q.1.1.2⟩,Q.1.1.1.2⟩) ?_
   exact dK ⟨t,B,m,d,y,f,s,A,l,c,x,e,rfl,rfl,qO,qO,qO,qO,qO,qO,qO,qO,qO,(ZmV _ _ _ _ _ _ _)⟩
  have W0:=uD f0
  refine zI ?_
  refine yP [yJ 2 (bits:Int),(3,.p 3 0),(4,.p 4 0),(6,.p 6 0),yJ 7 0] [yF 6 109 false none 0 0 0,yF 3 109 s A l c e,yF 4 109 t B m d f] (fun w=>((Glob w∧zF w (.slice A l c) (x))∧zF w (.slice B m d) (y))) (fun w Q=>⟨⟨Q.1.1.1.1,Q.1.1.1.2⟩,Q.1.1.2⟩) ?_
  exact dK ⟨s,A,l,c,x,e,t,B,m,d,y,f,rfl,rfl,qO,qO,qO,qO,qO,qO,qO,qO,qO,rfl⟩
 rintro ss ff ⟨j,P1,pl,pc,p,i,o,Q1,ql,qc,q,k,rfl,rfl,l0,h1,S1,T1,U1,V1,W1,X1,D1,G0⟩
 refine zC (zC ?_)
 have Y1:=fS p
 have Z1:=fS q
 have a2:=cL l0
 have b2:=cL h1
 obtain⟨z,hz⟩:=yE (min i (((blen p:Nat):Int)+i-(bits:Int)-2))
 refine yO 9 zO ?_
 refine xqg 3 [yJ 40 i,(41,.v (yV j P1 pl pc i))] ?_
 refine xqd 134 [yV j P1 pl pc i] 42 (fun _:Unit=>yI (((blen p:Nat):Int)+i)) _ (fun w R Q=>yN (Zbx _ _ _ _ _ _ _ Q.1.2 qO qO qO)) fun xx=>?_
 refine xqg 2 [(44,.v (yI (IntKind.i64.wrap ((((blen p:Nat):Int)+i)-(bits:Int)))))] ?_
 rw[yW (((blen p:Nat):Int)+i-(bits:Int)) (((blen p:Nat):Int)+i-(bits:Int)) qO]
 refine xqg 1 [(45,.v (yI (IntKind.i64.wrap ((((blen p:Nat):Int)+i-(bits:Int))-2))))] ?_
 rw[yW (((blen p:Nat):Int)+i-(bits:Int)-2) (((blen p:Nat):Int)+i-(bits:Int)-2) qO]
 refine xqg 1 [yJ 46 (if (((blen p:Nat):Int)+i-(bits:Int)-2)<i then (((blen p:Nat):Int)+i-(bits:Int)-2) else i)] ?_
 rw[(show (if ((blen p:Nat):Int)+i-(bits:Int)-2<i then ((blen p:Nat):Int)+i-(bits:Int)-2 else i)=z from ZgI.trans hz)]
 refine xqg 1 [yJ 8 z] ?_
 refine xz (yZ (yY (xq 1 [(47,.v (yV o Q1 ql qc k))] [] ?_)))
 refine xqc 134 [yV o Q1 ql qc k] 48 (fun _:Unit=>yI (((blen q:Nat):Int)+k)) _ (fun w R Q=>yN (Zbx _ _ _ _ _ _ _ Q.1.2 qO qO qO)) fun xx=>?_
 refine xq 2 [(50,.v (.bool (decide ((((blen q:Nat):Int)+k)≤z))))] [] ?_
 refine xe (zA ?_)
 refine yQ ((decide ((((blen q:Nat):Int)+k)≤z))) (fun g0=>?_) fun g0=>?_
 ·have X0:=uB g0
  refine zB (xq 2 [yB 52 o] [] ?_)
  refine yD (d:=53) (fun zb:Nat=>.slice (yL zb) 1 1) (fun zb zw=>Blk 141 zw zb #[yX 1]) (fun w R Q=>lX (t:=107) (e:=141) (n:=1) (sz:=1) (z:=yX 0) (parts:=#[(0,Operand.const (Value.int IntKind.u64 1))]) qK qK qK qK qK qK) fun h0=>?_
  refine xr 2 [yJ 2 (bits:Int),(3,.p 3 0),(4,.p 4 0),(6,.p 6 0),yJ 7 0,yB 52 o,eS1 53 (yL h0) 1 1,yJ 55 (IntKind.i64.wrap (z-1))] [yF 6 109 false none 0 0 0,yF 3 109 j P1 pl pc i,yF 4 109 o Q1 ql qc k] ?_
  rw[yW (z-1) (z-1) qO]
  refine xq 2 [] [yF 4 109 o (yL h0) 1 1 (z-1)] ?_
  refine yZ (zC ?_)
  obtain⟨g,Z⟩:=yE (min i (z-1))
  obtain⟨u1,Y0⟩:∃ u:Nat,i-g=u:=vA qO
  obtain⟨u2,Z0⟩:∃ u:Nat,(z-1)-g=u:=vA qO
  have hS:addR s x e t y f bits=addR j p i o 1 (z-1) bits:=G0.trans (Zly _ _ _ _ H l0 h1 qO qO qO)
  rw[ZiH Z Y0 Z0] at hS
  have a1:u1≤100000000:=qO
  have b1:u2≤100000000:=qO
  have i1 : -4294967296≤g:=qO
  have j1:g≤4294967296:=qO
  obtain⟨a,ha⟩:=yE (p*2^u1)
  obtain⟨b,a0⟩:=yE (1*2^u2)
  have c1:wl a≤4000000:=by rw[←ha];exact Zbw qO a1
  have d1:wl b≤4000000:=by rw[←a0];exact Zbw (uC (bP.2 (by rw[zL];decide)) qD) b1
  have e1:0<a:=by rw[←ha];exact sH l0 (p2 u1)
  rw[ha,a0] at hS
  refine zB (xq 5 [yJ 61 (if (z-1)<i then (z-1) else i)] [] ?_)
  rw[(show (if (z-1)<i then (z-1) else i)=g from ZgI.trans Z)]
  refine xq 1 [yJ 9 g] [] ?_
  refine yZ (zC ?_)
  refine SXc.weak [yJ 2 (bits:Int),(3,.p 3 0),(4,.p 4 0),(6,.p 6 0),yJ 7 0,yJ 9 g] [yF 4 109 o (yL h0) 1 1 (z-1),yF 6 109 false none 0 0 0,yF 3 109 j P1 pl pc i] (zY.of qK) qK (fun _ h=>h) ?_
  refine yO 16 zO ?_
  refine xqg 6 [eS1 63 P1 pl pc,yJ 67 (IntKind.i64.wrap (i-g))] ?_
  rw[yW (i-g) ((u1:Int)) qO]
  refine xqd 101 [.slice P1 pl pc, yI (u1:Int)] 68 xI _ (fun w R Q=>(jL u1 Q.1.1.1.1.2 qO qO).mono (fun _ _ h=>xC (by rw[ha] at h;exact h))) fun⟨I,J,K⟩=>?_
  refine xqg 6 [eS1 70 (yL h0) 1 1,yJ 74 (IntKind.i64.wrap ((z-1)-g))] ?_
  rw[yW ((z-1)-g) ((u2:Int)) qO]
  refine xqd 101 [.slice (yL h0) 1 1, yI (u2:Int)] 75 xI _ (fun w R Q=>(jL u2 (gR Q.1.2) wl_1 qO).mono (fun _ _ h=>xC (by rw[a0] at h;exact h))) fun⟨L,M,N⟩=>?_
  refine xqg 2 [eS1 10 I J K,eS1 11 L M N] ?_
  refine xz (yZ (zC (zP (yY (xq 6 [yB 76 (j == o)] [] ?_)))))
  refine xe (zA ?_)
  refine yQ ((j == o)) (fun c0=>?_) fun c0=>?_
  ·have O:j=o:=eq_of_beq c0
   refine zC ?_
   refine yO 10 zO ?_
   refine xqg 4 [yB 83 j,eS1 84 I J K,eS1 85 L M N] ?_
   refine xqd 135 [.slice I J K,.slice L M N] 86 xI _ (fun w R Q=>yM xC (jQ Q.1.2 Q.2 qO qO)) fun⟨k1,l1,m1⟩=>?_
   refine xqg 2 [yJ 87 g,yJ 88 (bits:Int)] ?_
   obtain⟨r,H0⟩:=yE (lC j (a+b) (g) bits false)
   refine xqd 132 [.bool j,.slice k1 l1 m1, yI g, yI (bits:Int),.func (.func 133) #[] #[]] 89 (shNb r) _ (fun w R Q=>yM wC ((show Calls _ _ _ _ (xX w r) by rw[←H0];exact iR j _ _ _ _ g _ _ Q.1.1.1.1.1.1.1.1 Q.2 (by have:=Zh2 c1 d1;omega) qO qO qO))) fun⟨m0,n0,o0⟩=>?_
   refine xqg 2 [(90,.v (yV r.s m0 n0 o0 r.e)),yJ 91 r.err] ?_
   refine xz (xq 2 [yJ 7 r.err] [yF 6 109 r.s m0 n0 o0 r.e] ?_)
   refine yZ (zG (wO (zM ?_)))
   refine yR (.tuple #[yV r.s m0 n0 o0 r.e, yI r.err]) fun w' R Q=>?_
   rw[show sumR s x e t y f bits=addR s x e t y f bits by unfold sumR;rw[uL qO,uL qO],hS]
   rw[Zhl e1 O,← kU _ _ _ H,H0]
   exact⟨(m0,n0,o0),rfl,Q.2,R⟩
  have O:¬ j=o:=fun e'=>by rw[e'] at c0;simp at c0
  refine yY (xq 2 [eS1 93 I J K,eS1 94 L M N] [] ?_)
  refine xqc 136 [.slice I J K,.slice L M N] 95 (fun _:Unit=>yI (cmpI (a:Int) (b:Int))) _ (fun w R Q=>yN (fR Q.1.2 Q.2 qO)) fun xx=>?_
  refine xq 2 [(92,.v (.bool (decide ((cmpI (a:Int) (b:Int))≥0))))] [] ?_
  refine xe (zA ?_)
  refine yQ ((decide ((cmpI (a:Int) (b:Int))≥0))) (fun i0=>?_) fun i0=>?_
  ·have j0:b≤a:=by have:=ZaL.1 (uB i0);omega
   refine zC ?_
   refine yO 10 zO ?_
   refine xqg 4 [yB 98 j,eS1 99 I J K,eS1 100 L M N] ?_
   refine xqd 137 [.slice I J K,.slice L M N] 101 xI _ (fun w R Q=>yM xC (Zaz Q.1.1.2 Q.1.2 qO j0)) fun⟨n1,o1,p1⟩=>?_
   refine xqg 2 [yJ 102 g,yJ 103 (bits:Int)] ?_
   obtain⟨C,I0⟩:=yE (lC j (a-b) (g) bits false)
   refine xqd 132 [.bool j,.slice n1 o1 p1, yI g, yI (bits:Int),.func (.func 133) #[] #[]] 104 (shNb C) _ (fun w R Q=>yM wC ((show Calls _ _ _ _ (xX w C) by rw[←I0];exact iR j _ _ _ _ g _ _ Q.1.1.1.1.1.1.1.1.1 Q.2 (uC (wT (Nat.sub_le _ _)) qO) qO qO qO))) fun⟨p0,q0,r0⟩=>?_
   refine xqg 2 [(105,.v (yV C.s p0 q0 r0 C.e)),yJ 106 C.err] ?_
   refine xz (xq 2 [yJ 7 C.err] [yF 6 109 C.s p0 q0 r0 C.e] ?_)
   refine yZ (zG (wO (zM ?_)))
   refine yR (.tuple #[yV C.s p0 q0 r0 C.e, yI C.err]) fun w' R Q=>?_
   rw[show sumR s x e t y f bits=addR s x e t y f bits by unfold sumR;rw[uL qO,uL qO],hS]
   rw[Zf6 O j0,← kU _ _ _ H,I0]
   exact⟨(p0,q0,r0),rfl,Q.2,R⟩
  have f1:a<b:=by have:=mt ZaL.2 (uD i0);omega
  refine zI (xR (zA (zC ?_)))
  refine yO 10 zO ?_
  refine xqg 4 [yB 108 o,eS1 109 L M N,eS1 110 I J K] ?_
  refine xqd 137 [.slice L M N,.slice I J K] 111 xI _ (fun w R Q=>yM xC (Zaz Q.1.2 Q.1.1.2 qO qO)) fun⟨q1,r1,s1⟩=>?_
  refine xqg 2 [yJ 112 g,yJ 113 (bits:Int)] ?_
  obtain⟨D,J0⟩:=yE (lC o (b-a) (g) bits false)
  refine xqd 132 [.bool o,.slice q1 r1 s1, yI g, yI (bits:Int),.func (.func 133) #[] #[]] 114 (shNb D) _ (fun w R Q=>yM wC ((show Calls _ _ _ _ (xX w D) by rw[←J0];exact iR o _ _ _ _ g _ _ Q.1.1.1.1.1.1.1.1.1 Q.2 (uC (wT (Nat.sub_le _ _)) qO) qO qO qO))) fun⟨s0,t0,u0⟩=>?_
  refine xqg 2 [(115,.v (yV D.s s0 t0 u0 D.e)),yJ 116 D.err] ?_
  refine xz (xq 2 [yJ 7 D.err] [yF 6 109 D.s s0 t0 u0 D.e] ?_)
  refine yZ (zG ?_)
  refine yR (.tuple #[yV D.s s0 t0 u0 D.e, yI D.err]) fun w' R Q=>?_
  rw[show sumR s x e t y f bits=addR s x e t y f bits by unfold sumR;rw[uL qO,uL qO],hS]
  rw[ZeQ O f1,← kU _ _ _ H,J0]
  exact⟨(s0,t0,u0),rfl,Q.2,R⟩
 have X0:=uD g0
 refine zI (zA (zC ?_))
 obtain⟨g,Z⟩:=yE (min i k)
 obtain⟨u1,Y0⟩:∃ u:Nat,i-g=u:=vA qO
 obtain⟨u2,Z0⟩:∃ u:Nat,k-g=u:=vA qO
 have hS:=G0
 rw[ZiH Z Y0 Z0] at hS
 have a1:u1≤100000000:=qO
 have b1:u2≤100000000:=qO
 have i1 : -4294967296≤g:=qO
 have j1:g≤4294967296:=qO
 obtain⟨a,ha⟩:=yE (p*2^u1)
 obtain⟨b,a0⟩:=yE (q*2^u2)
 have c1:wl a≤4000000:=by rw[←ha];exact Zbw qO a1
 have d1:wl b≤4000000:=by rw[←a0];exact Zbw qO b1
 have e1:0<a:=by rw[←ha];exact sH l0 (p2 u1)
 rw[ha,a0] at hS
 refine zB (xq 5 [yJ 61 (if k<i then k else i)] [] ?_)
 rw[(show (if k<i then k else i)=g from ZgI.trans Z)]
 refine xq 1 [yJ 9 g] [] ?_
 refine yZ (zC ?_)
 refine SXc.weak [yJ 2 (bits:Int),(3,.p 3 0),(4,.p 4 0),(6,.p 6 0),yJ 7 0,yJ 9 g] [yF 6 109 false none 0 0 0,yF 3 109 j P1 pl pc i,yF 4 109 o Q1 ql qc k] (zY.of qK) qK (fun _ h=>h) ?_
 refine yO 16 zO ?_
 refine xqg 6 [eS1 63 P1 pl pc,yJ 67 (IntKind.i64.wrap (i-g))] ?_
 rw[yW (i-g) ((u1:Int)) qO]
 refine xqd 101 [.slice P1 pl pc, yI (u1:Int)] 68 xI _ (fun w R Q=>(jL u1 Q.1.1.1.2 qO qO).mono (fun _ _ h=>xC (by rw[ha] at h;exact h))) fun⟨P,S,T⟩=>?_
 refine xqg 6 [eS1 70 Q1 ql qc,yJ 74 (IntKind.i64.wrap (k-g))] ?_
 rw[yW (k-g) ((u2:Int)) qO]
 refine xqd 101 [.slice Q1 ql qc, yI (u2:Int)] 75 xI _ (fun w R Q=>(jL u2 Q.1.1.1.2 qO qO).mono (fun _ _ h=>xC (by rw[a0] at h;exact h))) fun⟨U,V,W⟩=>?_
 refine xqg 2 [eS1 10 P S T,eS1 11 U V W] ?_
 refine xz (yZ (zC (zP (yY (xq 6 [yB 76 (j == o)] [] ?_)))))
 refine xe (zA ?_)
 refine yQ ((j == o)) (fun d0=>?_) fun d0=>?_
 ·have O:j=o:=eq_of_beq d0
  refine zC ?_
  refine yO 10 zO ?_
  refine xqg 4 [yB 83 j,eS1 84 P S T,eS1 85 U V W] ?_
  refine xqd 135 [.slice P S T,.slice U V W] 86 xI _ (fun w R Q=>yM xC (jQ Q.1.2 Q.2 qO qO)) fun⟨t1,v1,w1⟩=>?_
  refine xqg 2 [yJ 87 g,yJ 88 (bits:Int)] ?_
  obtain⟨E,K0⟩:=yE (lC j (a+b) (g) bits false)
  refine xqd 132 [.bool j,.slice t1 v1 w1, yI g, yI (bits:Int),.func (.func 133) #[] #[]] 89 (shNb E) _ (fun w R Q=>yM wC ((show Calls _ _ _ _ (xX w E) by rw[←K0];exact iR j _ _ _ _ g _ _ Q.1.1.1.1.1.1.1 Q.2 (by have:=Zh2 c1 d1;omega) qO qO qO))) fun⟨v0,w0,x0⟩=>?_
  refine xqg 2 [(90,.v (yV E.s v0 w0 x0 E.e)),yJ 91 E.err] ?_
  refine xz (xq 2 [yJ 7 E.err] [yF 6 109 E.s v0 w0 x0 E.e] ?_)
  refine yZ (zG (wO (zM ?_)))
  refine yR (.tuple #[yV E.s v0 w0 x0 E.e, yI E.err]) fun w' R Q=>?_
  rw[show sumR s x e t y f bits=addR s x e t y f bits by unfold sumR;rw[uL qO,uL qO],hS]
  rw[Zhl e1 O,← kU _ _ _ H,K0]
  exact⟨(v0,w0,x0),rfl,Q.2,R⟩
 have O:¬ j=o:=fun e'=>by rw[e'] at d0;simp at d0
 refine yY (xq 2 [eS1 93 P S T,eS1 94 U V W] [] ?_)
 refine xqc 136 [.slice P S T,.slice U V W] 95 (fun _:Unit=>yI (cmpI (a:Int) (b:Int))) _ (fun w R Q=>yN (fR Q.1.2 Q.2 qO)) fun xx=>?_
 refine xq 2 [(92,.v (.bool (decide ((cmpI (a:Int) (b:Int))≥0))))] [] ?_
 refine xe (zA ?_)
 refine yQ ((decide ((cmpI (a:Int) (b:Int))≥0))) (fun k0=>?_) fun k0=>?_
 ·have j0:b≤a:=by have:=ZaL.1 (uB k0);omega
  refine zC ?_
  refine yO 10 zO ?_
  refine xqg 4 [yB 98 j,eS1 99 P S T,eS1 100 U V W] ?_
  refine xqd 137 [.slice P S T,.slice U V W] 101 xI _ (fun w R Q=>yM xC (Zaz Q.1.1.2 Q.1.2 qO j0)) fun⟨x1,y1,z1⟩=>?_
  refine xqg 2 [yJ 102 g,yJ 103 (bits:Int)] ?_
  obtain⟨F,L0⟩:=yE (lC j (a-b) (g) bits false)
  refine xqd 132 [.bool j,.slice x1 y1 z1, yI g, yI (bits:Int),.func (.func 133) #[] #[]] 104 (shNb F) _ (fun w R Q=>yM wC ((show Calls _ _ _ _ (xX w F) by rw[←L0];exact iR j _ _ _ _ g _ _ Q.1.1.1.1.1.1.1.1 Q.2 (uC (wT (Nat.sub_le _ _)) qO) qO qO qO))) fun⟨y0,z0,A0⟩=>?_
  refine xqg 2 [(105,.v (yV F.s y0 z0 A0 F.e)),yJ 106 F.err] ?_
  refine xz (xq 2 [yJ 7 F.err] [yF 6 109 F.s y0 z0 A0 F.e] ?_)
  refine yZ (zG (wO (zM ?_)))
  refine yR (.tuple #[yV F.s y0 z0 A0 F.e, yI F.err]) fun w' R Q=>?_
  rw[show sumR s x e t y f bits=addR s x e t y f bits by unfold sumR;rw[uL qO,uL qO],hS]
  rw[Zf6 O j0,← kU _ _ _ H,L0]
  exact⟨(y0,z0,A0),rfl,Q.2,R⟩
 have f1:a<b:=by have:=mt ZaL.2 (uD k0);omega
 refine zI (xR (zA (zC ?_)))
 refine yO 10 zO ?_
 refine xqg 4 [yB 108 o,eS1 109 U V W,eS1 110 P S T] ?_
 refine xqd 137 [.slice U V W,.slice P S T] 111 xI _ (fun w R Q=>yM xC (Zaz Q.1.2 Q.1.1.2 qO qO)) fun⟨A1,B1,C1⟩=>?_
 refine xqg 2 [yJ 112 g,yJ 113 (bits:Int)] ?_
 obtain⟨G,M0⟩:=yE (lC o (b-a) (g) bits false)
 refine xqd 132 [.bool o,.slice A1 B1 C1, yI g, yI (bits:Int),.func (.func 133) #[] #[]] 114 (shNb G) _ (fun w R Q=>yM wC ((show Calls _ _ _ _ (xX w G) by rw[←M0];exact iR o _ _ _ _ g _ _ Q.1.1.1.1.1.1.1.1 Q.2 (uC (wT (Nat.sub_le _ _)) qO) qO qO qO))) fun⟨B0,C0,D0⟩=>?_
 refine xqg 2 [(115,.v (yV G.s B0 C0 D0 G.e)),yJ 116 G.err] ?_
 refine xz (xq 2 [yJ 7 G.err] [yF 6 109 G.s B0 C0 D0 G.e] ?_)
 refine yZ (zG ?_)
 refine yR (.tuple #[yV G.s B0 C0 D0 G.e, yI G.err]) fun w' R Q=>?_
 rw[show sumR s x e t y f bits=addR s x e t y f bits by unfold sumR;rw[uL qO,uL qO],hS]
 rw[ZeQ O f1,← kU _ _ _ H,M0]
 exact⟨(B0,C0,D0),rfl,Q.2,R⟩
theorem Zev {x:Int}(h:0≤x):Lib.itoa x=Lib.decDigits x.natAbs:=by
 unfold Lib.itoa
 rw[uL qO]
 congr 1;omega
theorem ZcJ {n:Nat}(h:10≤n):Lib.decDigits n=Lib.decDigits (n/10) ++ [UInt8.ofNat (48+n%10)]:=by
 rw[Lib.decDigits,dif_neg qO]
theorem fT {n:Nat}(h:n<10):Lib.decDigits n=[UInt8.ofNat (48+n)]:=Lib.decDigits_one h
theorem Zad {n:Nat}(h:n<10):(UInt8.ofNat (48+n)).toNat=48+n:=by
 rw[UInt8.toNat_ofNat'];omega
theorem ZeR {n:Nat}(h:n<10):xD (UInt8.ofNat (48+n))=true:=by
 unfold xD;rw[Zad h];simp;omega
theorem gS:∀ n,(Lib.decDigits n).all xD=true:=by
 intro n
 induction n using Nat.strongRecOn with
 | _ n ih =>
  rcases vL n 10 with h|h
  ·rw[fT h,rK,ZeR h];rfl
  rw[ZcJ h,pH,ih (n/10) qO,rK,ZeR (uM n (by omega:0<10))];rfl
theorem fU:∀ n,zN (Lib.decDigits n)=n:=by
 intro n
 induction n using Nat.strongRecOn with
 | _ n ih =>
  rcases vL n 10 with h|h
  ·rw[fT h];simp only[zN,List.foldl_cons,List.foldl_nil];rw[Zad h];omega
  rw[ZcJ h,dY,ih (n/10) qO,Zad (uM n (by omega:0<10))];omega
theorem cO:∀ n,0<n→(Lib.decDigits n).head? ≠ some 48:=by
 intro n
 induction n using Nat.strongRecOn with
 | _ n ih =>
  intro b
  rcases vL n 10 with h|h
  ·rw[fT h]
   intro e
   simp only[List.head?_cons,Option.some.injEq] at e
   have:=vK UInt8.toNat e
   rw[Zad h] at this
   simp at this;omega
  have a:=ih (n/10) qO qO
  rw[ZcJ h,List.head?_append]
  cases hc:(Lib.decDigits (n/10)).head? with
  | none=>exact absurd (oP.1 hc) (kE _)
  | some c=>rw[hc] at a;exact a
theorem cG {p:UInt8→Bool}{l:List UInt8}(h:l.all p=true):l.takeWhile p=l∧l.dropWhile p=[]:=by
 induction l with
 | nil=>exact⟨rfl,rfl⟩
 | cons x xs ih =>
  simp only[rK,sA] at h
  obtain⟨a,b⟩:=ih h.2
  rw[oC,List.dropWhile_cons,h.1]
  simp[a,b]
theorem ZlE {l:List UInt8}(h:l.all xD=true):xH l=(false,l):=by
 unfold xH
 rw[uL]
 intro e
 cases l with
 | nil=>cases e
 | cons x xs =>
  simp only[List.head?_cons,Option.some.injEq] at e
  subst e
  simp only[rK,sA] at h
  exact absurd h.1 qD
theorem Zm4 (n:Nat):wW (Lib.decDigits n)=(false,Lib.decDigits n,[],true):=by
 obtain⟨c,d⟩:=cG (gS n)
 unfold wW
 rw[ZlE (gS n)]
 simp only[]
 rw[c,d]
 rcases uI n with a|a
 ·subst a;rw[fT qO];rfl
 have b:Lib.decDigits n≠[48]:=fun e=>cO n a (by rw[e];rfl)
 rw[uL b,uL (fun e=>e.elim (kE n) (cO n a)),uQ rfl]
theorem Zm5 {n:Nat}(h:0<n):wW ([45] ++ Lib.decDigits n)=(true,Lib.decDigits n,[],true):=by
 obtain⟨b,c⟩:=cG (gS n)
 unfold wW
 have e:xH ([45] ++ Lib.decDigits n)=(true,Lib.decDigits n):=rfl
 rw[e]
 simp only[]
 rw[b,c]
 have a:Lib.decDigits n≠[48]:=fun e=>cO n h (by rw[e];rfl)
 rw[uL a,uL (fun e=>e.elim (kE n) (cO n h)),uQ rfl]
theorem ZcK {z:Int}(h:z<0):Lib.itoa z=[45] ++ Lib.decDigits z.natAbs:=by
 unfold Lib.itoa
 rw[uQ h]
 rfl
theorem ZlF (z:Int):wW (Lib.itoa z)=(decide (z<0),Lib.decDigits z.natAbs,[],true):=by
 by_cases h:z<0
 ·rw[ZcK h,Zm5 qO,vS h]
 rw[Zev qO,Zm4,uZ h]
theorem Zm6 (z:Int):wX (Lib.itoa z)=some (z:Rat):=by
 unfold wX
 rw[ZlF]
 simp only[]
 rw[uQ trivial,fU]
 congr 2
 unfold sg
 split
 ·rename_i h;have:=uB h;omega
 rename_i h;have:¬ z<0:=fun k=>h (vS k);omega
def xK (q:Rat):List UInt8:=if q.den=1 then Lib.itoa q.num else Lib.itoa q.num ++ [47] ++ Lib.itoa (q.den:Int)
theorem ZiI {x y:Int}(c:0<y):(Rat.divInt x y).num=x.tdiv (Int.gcd x y:Int)∧((Rat.divInt x y).den:Int)=y.tdiv (Int.gcd x y:Int):=by
 have a:(Int.gcd x y:Int)∣x:=Int.gcd_dvd_left _ _
 have b:(Int.gcd x y:Int)∣y:=Int.gcd_dvd_right _ _
 rw[Rat.num_divInt,Rat.den_divInt,uL qO,Int.sign_eq_one_of_pos c,Int.one_mul,Int.gcd_comm y x,Int.tdiv_eq_ediv_of_dvd a,Int.tdiv_eq_ediv_of_dvd b]
 refine⟨rfl,?_⟩
 rw[tI]
 congr 1
 omega
theorem ZdW {x y:Int}(a:0<y)(h:((Int.gcd x y:Nat):Int)=1):(Rat.divInt x y).num=x∧((Rat.divInt x y).den:Int)=y:=by
 have:=ZiI (x:=x) a
 rwa [h,Int.tdiv_one,Int.tdiv_one] at this
theorem Zf7 {c:UInt8}(h:xD c=true):UInt8.ofNat (48+(c.toNat-48))=c:=by
 have:=dF h
 apply UInt8.toNat.inj
 rw[UInt8.toNat_ofNat']
 have:=c.toNat_lt
 omega
theorem ZiJ:∀ (k:Nat) (l:List UInt8),l.length=k→l.all xD=true→l≠[]→l.head? ≠ some 48→Lib.decDigits (zN l)=l:=by
 intro k
 induction k with
 | zero=>intro l d _ g;exact absurd (vY.1 d) g
 | succ k ih =>
  intro l d f g b
  obtain⟨l',c,rfl⟩:∃ l' c,l=l' ++ [c]:=by
   rcases List.eq_nil_or_concat l with h|⟨l',c,h⟩
   ·exact absurd h g
   exact⟨l',c,by simpa using h⟩
  rw[pH,sA] at f
  have i:xD c=true:=by simpa using f.2
  have m:=dF i
  rw[dY]
  by_cases a:l'=[]
  ·subst a
   have e:zN []=0:=rfl
   rw[e,tR,vW,fT qO,Zf7 i];rfl
  have j:l'.head? ≠ some 48:=by
   rw[List.head?_append] at b
   cases hx:l'.head? with
   | none=>exact absurd (oP.1 hx) a
   | some x=>rw[hx] at b;exact b
  have n:=ih l' (by simp at d;exact d) f.1 a j
  have o:=(Zcz f.1 a j).1
  rw[ZcJ qO,show (10*zN l'+(c.toNat-48))/10=zN l' by omega,show (10*zN l'+(c.toNat-48))%10=c.toNat-48 by omega,n,Zf7 i]
theorem ZjP (n:Nat):(Lib.decDigits n).head? ≠ some 45:=by
 intro e
 cases h:Lib.decDigits n with
 | nil=>exact kE n h
 | cons x xs =>
  rw[h] at e
  simp only[List.head?_cons,Option.some.injEq] at e
  subst e
  have:=gS n
  rw[h] at this
  simp only[rK,sA] at this
  exact absurd this.1 qD
theorem Zca {p:UInt8→Bool}{l r:List UInt8}{c:UInt8}(h:l.all p=true)(a:p c=false):(l ++ c :: r).takeWhile p=l∧(l ++ c :: r).dropWhile p=c :: r:=by
 induction l with
 | nil=>simp[a]
 | cons x xs ih =>
  simp only[rK,sA] at h
  obtain⟨b,d⟩:=ih h.2
  rw[oX,oC,List.dropWhile_cons,h.1]
  simp[b,d]
theorem ZeS (z:Int)(r:List UInt8):xH (Lib.itoa z ++ r)=(decide (z<0),Lib.decDigits z.natAbs ++ r):=by
 by_cases h:z<0
 ·rw[ZcK h,vS h]
  unfold xH
  rw[uQ qS]
  rfl
 rw[Zev qO,uZ h]
 unfold xH
 rw[uL]
 intro e
 rw[List.head?_append] at e
 cases hx:(Lib.decDigits z.natAbs).head? with
 | none=>exact absurd (oP.1 hx) (kE _)
 | some c =>
  rw[hx] at e
  exact ZjP _ (hx.trans e)
theorem Zm7 (z:Int):sg (decide (z<0)) z.natAbs=z:=by
 unfold sg
 split
 ·rename_i h;have:=uB h;omega
 rename_i h;have:¬ z<0:=fun k=>h (vS k);omega
theorem ZlG {q:Rat}(h:q.den=1):((q.num:Int):Rat)=q:=by
 apply Rat.ext<;>simp[h]
theorem Zrs {q:Rat}(h:q.den≠1):q.num≠0:=by
 intro e
 have:=q.reduced
 rw[e] at this
 simp[Nat.Coprime] at this
 exact h this
theorem fI (n:Nat):Lib.itoa (n:Int)=Lib.decDigits n:=by
 rw[Zev qO,sZ]
theorem ZlH {q:Rat}(h:q.den≠1):wW (xK q)=(decide (q.num<0),Lib.decDigits q.num.natAbs,Lib.decDigits q.den,true):=by
 have l:=Zrs h
 have m:=q.den_nz
 unfold xK
 rw[uL h,fI,vT]
 unfold wW
 rw[ZeS]
 simp only[]
 obtain⟨g,i⟩:=Zca (p:=xD) (r:=Lib.decDigits q.den) (c:=47) (gS q.num.natAbs) qD
 have e:Lib.decDigits q.num.natAbs ++ ([47] ++ Lib.decDigits q.den)=Lib.decDigits q.num.natAbs ++ 47 :: Lib.decDigits q.den:=rfl
 rw[e,g,i]
 have f:=cO q.num.natAbs qO
 rw[uL (fun e=>f (by rw[e];rfl)),uL (fun e=>e.elim (kE _) f),uL qS,uL qS]
 simp only[List.tail_cons]
 obtain⟨j,k⟩:=cG (gS q.den)
 rw[j,k]
 have a:=cO q.den qO
 have b:Lib.decDigits q.den≠[49]:=fun e=>by
  have:=fU q.den
  rw[e] at this
  exact h (by rw[←this];rfl)
 have d:=kE q.den
 simp[a,b,d]
theorem Zm8 (q:Rat):wX (xK q)=some q:=by
 by_cases h:q.den=1
 ·unfold xK
  rw[uQ h,Zm6,ZlG h]
 unfold wX
 rw[ZlH h]
 simp only[]
 rw[uL (kE _),fU,fU,uQ q.reduced,Zm7,Rat.mkRat_self]
theorem Zho {neg:Bool}{a:Nat}(h:a=0→neg=false):(sg neg a<0↔neg=true)∧(sg neg a).natAbs=a:=by
 cases neg with
 | false=>simp[sg]
 | true =>
  have:a≠0:=fun e=>by cases h e
  simp[sg];omega
theorem ZaM {neg:Bool}{a:Nat}(h:a=0→neg=false):Lib.itoa (sg neg a)=(if neg then [45] else []) ++ Lib.decDigits a:=by
 obtain⟨c,b⟩:=Zho h
 cases neg with
 | false=>rw[Zev (by simp[sg]),b];rfl
 | true=>rw[ZcK (c.2 rfl),b];rfl
theorem ZeT {l r:List UInt8}{neg:Bool}(h:xH l=(neg,r)):l=(if neg then [45] else []) ++ r:=by
 unfold xH at h
 split at h
 ·rename_i hh
  injection h with h1 h2
  subst h1 h2
  cases l with
  | nil=>cases hh
  | cons x xs=>simp at hh;subst hh;rfl
 injection h with h1 h2
 subst h1 h2
 rfl
theorem bZ {l:List UInt8}{q:Rat}(h:wX l=some q):xK q=l:=by
 unfold wX at h
 cases hs:wW l with
 | mk neg r =>
  obtain⟨num,den,ok⟩:=r
  rw[hs] at h
  cases ok with
  | false=>cases h
  | true =>
   simp only[] at h
   have k:=cF hs
   obtain⟨A,m⟩:=ZfU hs
   cases hu:xH l with
   | mk neg' t =>
    have j:=ZeT hu
    have a:t.takeWhile xD ++ t.dropWhile xD=t:=qX
    unfold wW at hs
    rw[hu] at hs
    simp only[] at hs
    split at hs
    ·-- zero
     rename_i f
     injection hs with e1 hs;injection hs with e2 hs;injection hs with e3 e4
     subst e1 e2 e3
     simp at e4
     rw[uQ rfl,f] at h
     have B:zN [48]=0:=rfl
     rw[B] at h
     injection h with h
     rw[e4.1] at h j
     rw[←h,j,← a,f,e4.2]
     simp only[sg]
     unfold xK
     rw[uQ qS]
     have:Lib.itoa ((0:Nat):Int)=[48]:=by rw[fI,fT qO];rfl
     simpa using this
    split at hs
    ·injection hs with _ hs;injection hs with _ hs;injection hs with _ hs;cases hs
    rename_i z
    have n:t.takeWhile xD≠[]:=fun e=>z (Or.inl e)
    have o:(t.takeWhile xD).head? ≠ some 48:=fun e=>z (Or.inr e)
    have g:=ZiJ _ _ rfl (jP (p:=xD) t) n o
    split at hs
    ·rename_i s
     injection hs with e1 hs;injection hs with e2 hs;injection hs with e3 _
     subst e1 e2 e3
     rw[uQ rfl] at h
     injection h with h
     rw[←h]
     unfold xK
     rw[uQ qS]
     have i:(((sg neg' (zN (t.takeWhile xD)):Int)):Rat).num=sg neg' (zN (t.takeWhile xD)):=rfl
     rw[i,ZaM (fun e=>(m e).1),g,j]
     rw[s,qM] at a
     rw[a]
    split at hs
    ·injection hs with _ hs;injection hs with _ hs;injection hs with _ hs;cases hs
    rename_i s b
    injection hs with e1 hs;injection hs with e2 hs;injection hs with e3 e4
    subst e1 e2
    rw[e3] at e4
    simp at e4
    obtain⟨⟨⟨u,v⟩,C⟩,E⟩:=e4
    rw[uL v] at h
    split at h
    ·rename_i D
     injection h with h
     have F:=A v
     have w:q.num=sg neg' (zN (t.takeWhile xD))∧q.den=zN den:=by
      have:=ZdW (x:=sg neg' (zN (t.takeWhile xD))) (y:=(zN den:Int)) qO (by
       unfold Int.gcd
       rw[(Zho (fun e=>(m e).1)).2,sZ,D];rfl)
      rw[Rat.divInt_ofNat,h] at this
      exact⟨this.1,by have:=this.2;omega⟩
     unfold xK
     rw[uL (by rw[w.2];omega),w.1,w.2,ZaM (fun e=>(m e).1),g,fI,ZiJ _ _ rfl k.2.1 v C,j]
     have d:t.dropWhile xD=47 :: den:=by
      cases hx:t.dropWhile xD with
      | nil=>exact absurd hx s
      | cons c r =>
       rw[hx] at b u e3
       simp at b u e3
       subst b
       have:=qX (p:=xD) (l:=r)
       rw[e3,u,qM] at this
       rw[this]
     rw[d] at a
     rw[vT,vT]
     congr 1
    cases h
theorem Za6 {l:List UInt8}{q:Rat}:wX l=some q↔xK q=l :=
 ⟨bZ,fun h=>by rw[←h];exact Zm8 q⟩
def fvB (s:List UInt8) (e:Int):Bool :=
 if s=[48] then decide (e=0)
 else decide ((xH s).2≠[]∧(xH s).2.head? ≠ some 48∧okE e∧(xH s).2.all xD=true∧zN (xH s).2%2=1)
def flM (s:List UInt8):Int:=sg (xH s).1 (zN (xH s).2)
theorem ZdX:Lib.itoa 0=[48]:=by
 rw[show (0:Int)=((0:Nat):Int) from rfl,fI,fT qO];rfl
theorem ZiK:flM [48]=0:=qD
theorem Zrt {neg:Bool}{a:Nat}(h:a%2=1):sg neg a%2=1:=by unfold sg;split<;>omega
theorem Zqk {s:List UInt8}{e:Int}(h:fvB s e=true):s=Lib.itoa (flM s)∧((flM s=0∧e=0)∨(flM s%2=1∧okE e)):=by
 unfold fvB at h
 by_cases a:s=[48]
 ·rw[uQ a] at h
  subst a
  rw[ZiK]
  exact⟨ZdX.symm,Or.inl ⟨rfl,uB h⟩⟩
 rw[uL a] at h
 obtain⟨b,c,d,f,g⟩:=uB h
 unfold flM
 refine⟨?_,Or.inr ⟨Zrt g,d⟩⟩
 rw[ZaM (fun h=>qO),ZiJ _ _ rfl f b c]
 exact ZeT rfl
theorem dZ (z:Int):xH (Lib.itoa z)=(decide (z<0),Lib.decDigits z.natAbs):=by
 have:=ZeS z []
 rwa [qM,qM] at this
theorem ZoP (z:Int):flM (Lib.itoa z)=z:=by
 unfold flM;rw[dZ,fU];exact Zm7 z
theorem Zkz (z e:Int):fvB (Lib.itoa z) e=decide ((z=0∧e=0)∨(z%2=1∧okE e)):=by
 unfold fvB
 by_cases a:z=0
 ·subst a
  rw[ZdX,uQ rfl]
  by_cases b:e=0
  ·subst b;rfl
  rw[uZ b]
  symm
  exact uZ (fun h=>by rcases h with h|h<;>omega)
 have c:¬ Lib.itoa z=[48]:=fun h=>a (by rw[←ZoP z,h,ZiK])
 rw[uL c,dZ]
 refine pC.2 ⟨fun⟨_,_,d,_,f⟩=>Or.inr ⟨?_,d⟩,fun h=>?_⟩
 ·rw[fU] at f;omega
 rcases h with ⟨h,_⟩|⟨i,g⟩
 ·exact absurd h a
 exact⟨kE _,cO _ qO,g,gS _,by rw[fU];omega⟩
theorem ZoQ {l:List UInt8}{c:UInt8}(h:(l ++ [c]).all xD=true):zN (l ++ [c])%2=c.toNat % 2:=by
 rw[dY]
 have a:xD c=true:=by rw[pH] at h;simp at h;exact h.2
 have:=dF a
 omega
noncomputable def valF (l:List UInt8):Rat:=(wX l).getD 0
theorem fit {x:Int}{k:Nat}(h:wl x.natAbs≤k)(a:k≤1048576):Fits x:=uC h a
theorem Zm9 {l:List UInt8}(b:l.all xD=true)(f:l.length≤570):wl (zN l)≤30:=by
 rw[kD]
 have c:=jW l b
 obtain⟨k,d⟩:∃ k,k=30:=⟨_,rfl⟩
 have a:10^l.length≤10^(19*k):=uW qO qO
 rw[←d]
 rw[qR] at a
 have e:(10^19)^k≤W64^k:=rI (by rw[zL];decide) k
 exact uS c (uC a e)
theorem Zf8:∀ (k u:Nat),1≤k→u<10^k→Lib.nDigits u≤k
 | 0,_,h,_=>qO
 | k+1,u,_,h=>by
  by_cases a:u<10
  ·rw[Lib.nDigits_small a];omega
  rw[Lib.nDigits_big a]
  have b:1≤k:=by
   rcases uI k with e|e
   ·subst e;simp at h;omega
   exact e
  have c:u/10<10^k:=by
   rw[uN] at h
   exact sR (by rw[uF];exact h)
  have:=Zf8 k (u/10) b c
  omega
theorem ZkA {z:Int}{k:Nat}(a:1≤k)(h:z.natAbs<10^k):(Lib.itoa z).length≤k+1:=by
 have b:=Zf8 k z.natAbs a h
 have e:0≤z→z.toNat=z.natAbs:=fun h=>qO
 unfold Lib.itoa
 split
 ·simp only[sL,Lib.decDigits_length]
  omega
 rename_i c
 rw[Lib.decDigits_length]
 first
  | omega
  | (rw[e qO];omega)
theorem Zna {l:List UInt8}(h:wX l=none):valF l=0:=by unfold valF;rw[h];rfl
theorem bG {l:List UInt8}{q:Rat}(h:wX l=some q):valF l=q:=by unfold valF;rw[h];rfl
theorem gI (l:List UInt8):bytes ⟨l.toArray⟩=l:=by simp[bytes]
theorem ZlJ {w w':World}{e:Ending}{l:List UInt8}(h:Zfd w l e w'):lQ (fun x:Int×Int×Bool=>.tuple #[.agg #[.int .i64 x.1,.int .i64 x.2.1],.bool x.2.2]) (fun x _=>ZaN l x.1 x.2.1 x.2.2) w e w':=by
 obtain⟨a,b,c,rfl,d,Q⟩:=h
 exact⟨(a,b,c),rfl,Q,BoxN.pure d⟩
abbrev ShSp:=Bool×ByteArray×ByteArray×Bool
theorem ZlK {w w':World}{e:Ending}{s:ByteArray}(h:Ze9 s w e w'):lQ (fun x:ShSp=>.tuple #[.agg #[.bool x.1,.string x.2.1,.string x.2.2.1],.bool x.2.2.2]) (fun x _=>wW (bytes s)=(x.1,bytes x.2.1,bytes x.2.2.1,x.2.2.2)) w e w':=by
 obtain⟨neg,t,d,a,rfl,b,Q⟩:=h
 exact⟨(neg,t,d,a),rfl,Q,BoxN.pure b⟩
theorem ZkB {x:ByteArray}(h:bytes x=[]):(x.toList == (⟨#[]⟩:ByteArray).toList)=true:=by
 rw[Lib.toList_data,Lib.toList_data,show x.data.toList=[] from h];rfl
theorem ZkC {x:ByteArray}(h:¬ bytes x=[]):(x.toList == (⟨#[]⟩:ByteArray).toList)=false:=by
 rw[Lib.toList_data,Lib.toList_data]
 exact qB.2 h
theorem Znc {l:List UInt8}{neg:Bool}{t d:List UInt8}(h:wW l=(neg,t,d,false)):wX l=none:=by unfold wX;rw[h]
theorem Znd {l:List UInt8}{neg:Bool}{t d:List UInt8}(h:wW l=(neg,t,d,true))(a:d=[]):(wX l).isSome=true:=by unfold wX;rw[h];simp[a]
theorem Zne {l:List UInt8}{neg:Bool}{t d:List UInt8}(h:wW l=(neg,t,d,true))(b:¬ d=[]):(wX l).isSome=decide (((Int.gcd (zN t:Int) (zN d:Int):Nat):Int)=1):=by
 unfold wX
 rw[h]
 have e:Int.gcd (zN t:Int) (zN d:Int)=Nat.gcd (zN t) (zN d):=rfl
 rw[e]
 simp only[uL b]
 by_cases a:Nat.gcd (zN t) (zN d)=1
 ·rw[uQ a,a];rfl
 rw[uL a];simp;omega
theorem ZlL {l:List UInt8}{a b:Int}(h:ZaN l a b true):(wX l).isSome=true:=by
 rcases h with ⟨_,q,h,_⟩|⟨h,_⟩
 ·rw[h];rfl
 cases h
theorem bI (s:ByteArray)(w:World)(H:Glob w)(I:(bytes s).length≤570) :
 yA 61 #[.string s] w (RetV w (.bool (wX (bytes s)).isSome)):=by
 have l:s.size≤1099511627776:=by rw[zW] at I;omega
 refine zQ (Φ:=fun w=>Glob w) func61 rfl qK (fun w' J=>H.ext J) ?_
 refine yY (xr 1 [yT 0 s,yB 2 false] [] ?_)
 refine yZ (zC (yY (xr 1 [yT 0 s,yB 2 false,yT 8 s] [] ?_)))
 refine xc 103 [.string s] 9 (fun x:Int×Int×Bool=>.tuple #[.agg #[yI x.1, yI x.2.1],.bool x.2.2]) _ (fun w R Q=>yM ZlJ (ZhK s _ l)) fun⟨L,M,B⟩=>?_
 rcases B with _|_
 ·refine xr 6 [yT 0 s,yB 2 false,yB 4 false] [] ?_
  refine yZ (yY (xr 1 [yT 0 s,yB 2 false,yB 12 false] [] ?_))
  refine yZ (xb (zI (zA (yY (xr 1 [yB 2 false,yT 14 s] [] ?_)))))
  refine xc 104 [.string s] 15 (fun x:ShSp=>.tuple #[.agg #[.bool x.1,.string x.2.1,.string x.2.2.1],.bool x.2.2.2]) _ (fun w R Q=>yM ZlK (Zhb s _ l)) fun⟨a,c,b,C⟩=>?_
  rcases C with _|_
  ·refine xr 6 [yB 2 false,(5,.p 5 0),yB 6 false] [(5,156,[.v (.bool a),.v (.string c),.v (.string b)])] ?_
   refine yZ (zC (zC ?_))
   refine SXc.know (p:=wW (bytes s)=(a,bytes c,bytes b,false)) (fun w _ Q=>Q.2) fun m=>?_
   refine zB (xr 7 [yB 2 false,(5,.p 5 0),yB 6 false,yB 24 true] [(5,156,[.v (.bool a),.v (.string c),.v (.string b)])] ?_)
   refine yZ (xa (yY (xr 2 [yB 2 false,(5,.p 5 0)] [(5,156,[.v (.bool a),.v (.string c),.v (.string b)])] ?_)))
   refine yZ (zG (zM ?_))
   refine yR (.bool false) fun w' R Q=>?_
   exact⟨by rw[Znc m];rfl,R⟩
  refine xr 6 [yB 2 false,(5,.p 5 0),yB 6 true] [(5,156,[.v (.bool a),.v (.string c),.v (.string b)])] ?_
  refine yZ (zC (zC ?_))
  refine SXc.know (p:=wW (bytes s)=(a,bytes c,bytes b,true)) (fun w _ Q=>Q.2) fun m=>?_
  by_cases A:bytes b=[]
  ·refine zB (xr 6 [yB 2 false,(5,.p 5 0),yB 6 true,yB 20 false,yB 23 ((b:ByteArray).toList == (⟨#[]⟩:ByteArray).toList)] [(5,156,[.v (.bool a),.v (.string c),.v (.string b)])] ?_)
   rw[ZkB A]
   refine xr 1 [yB 2 false,(5,.p 5 0),yB 6 true,yB 24 true] [(5,156,[.v (.bool a),.v (.string c),.v (.string b)])] ?_
   refine yZ (xa (yY (xr 2 [yB 2 true,(5,.p 5 0)] [(5,156,[.v (.bool a),.v (.string c),.v (.string b)])] ?_)))
   refine yZ (zG (zM ?_))
   refine yR (.bool true) fun w' R Q=>?_
   exact⟨by rw[Znd m A],R⟩
  refine zB (xr 6 [yB 2 false,(5,.p 5 0),yB 6 true,yB 20 false,yB 23 ((b:ByteArray).toList == (⟨#[]⟩:ByteArray).toList)] [(5,156,[.v (.bool a),.v (.string c),.v (.string b)])] ?_)
  rw[ZkC A]
  refine xr 1 [yB 2 false,(5,.p 5 0),yB 6 true,yB 24 false] [(5,156,[.v (.bool a),.v (.string c),.v (.string b)])] ?_
  refine yZ (xb (zI (zA (zC ?_))))
  obtain⟨d,e,K⟩:=cF m
  have f:Zcy c.size:=by unfold Zcy;rw[←zW];omega
  have g:Zcy b.size:=by unfold Zcy;rw[←zW];omega
  have D:wl ((zN (bytes c):Nat):Int).natAbs≤79:=by rw[sZ];exact uC (Zm9 d qO) qD
  have E:wl ((zN (bytes b):Nat):Int).natAbs≤79:=by rw[sZ];exact uC (Zm9 e qO) qD
  have F:Fits ((zN (bytes c):Nat):Int):=by unfold Fits;omega
  have G:Fits ((zN (bytes b):Nat):Int):=by unfold Fits;omega
  refine yO 9 zO ?_
  refine xf 2 [yB 2 false,(5,.p 5 0),yT 27 c] [(5,156,[.v (.bool a),.v (.string c),.v (.string b)])] ?_
  refine xd 105 [.string c] 28 wR _ (fun w R Q=>yM Zfa (ZdI c _ d f)) fun⟨h,i,j,k⟩=>?_
  refine xf 2 [yB 2 false,eI2 28 h i j k,yT 30 b] [(5,156,[.v (.bool a),.v (.string c),.v (.string b)])] ?_
  refine xd 105 [.string b] 31 wR _ (fun w R Q=>yM Zfa (ZdI b _ e g)) fun⟨n,o,q,r⟩=>?_
  refine xf 0 [yB 2 false,eI2 28 h i j k,eI2 31 n o q r] [(5,156,[.v (.bool a),.v (.string c),.v (.string b)])] ?_
  refine xd 106 [vI2 h i j k,vI2 n o q r] 32 wR _ (fun w R Q=>yM Zfa (ZpQ _ _ ((zN (bytes c):Int)) ((zN (bytes b):Int)) _ Q.1.1.1.1 Q.1.2 Q.2 F G (ZhR.words D E))) fun⟨t,u,y,z⟩=>?_
  refine xf 0 [yB 2 false,eI2 32 t u y z] [(5,156,[.v (.bool a),.v (.string c),.v (.string b)])] ?_
  refine xd 107 [vI2 t u y z] 33 (fun _:Unit=>.bool (decide ((((Int.gcd ((zN (bytes c):Int)) ((zN (bytes b):Int)):Nat):Int))=1))) _ (fun w R Q=>yN (Zmr _ (((Int.gcd ((zN (bytes c):Int)) ((zN (bytes b):Int)):Nat):Int)) _ Q.2)) fun N=>?_
  refine xf 1 [(2,.v (.bool (decide ((((Int.gcd ((zN (bytes c):Int)) ((zN (bytes b):Int)):Nat):Int))=1))))] [(5,156,[.v (.bool a),.v (.string c),.v (.string b)])] ?_
  refine xz (yZ (zG ?_))
  refine zE (v:=.bool (decide ((((Int.gcd ((zN (bytes c):Int)) ((zN (bytes b):Int)):Nat):Int))=1))) qK fun w' R Q=>?_
  exact⟨by rw[Zne m A],R⟩
 refine xr 6 [yT 0 s,yB 2 false,yB 4 true] [] ?_
 refine yZ (yY (xr 1 [yT 0 s,yB 2 false,yB 12 true] [] ?_))
 refine yZ (xa (yY (xr 1 [yT 0 s,yB 2 true] [] ?_)))
 refine yZ (zG (zM ?_))
 refine yR (.bool true) fun w' R Q=>?_
 exact⟨by rw[ZlL Q.2],R⟩
theorem aN {n:Nat}(h:n<10):Lib.itoa (n:Int)=[UInt8.ofNat (48+n)]:=by
 unfold Lib.itoa
 rw[uL qO,oO,Lib.decDigits,dif_pos h]
theorem cS {q:Rat}{n:Nat}(h:n<10)(d:q.num=(n:Int))(e:q.den=1):xK q=[UInt8.ofNat (48+n)]:=by
 unfold xK;rw[uQ e,d,aN h]
theorem ZkD {q:Rat}{n d:Nat}(h:n<10)(e:d<10)(f:q.num=(n:Int))(g:q.den=d)(i:d≠1):xK q=[UInt8.ofNat (48+n),47,UInt8.ofNat (48+d)]:=by
 unfold xK;rw[g,uL i,f,aN h,aN e];rfl
theorem t1:xK (mkRat 1 1)=[49]:=cS (n:=1) qD qD qD
theorem t3:xK (mkRat 3 1)=[51]:=cS (n:=3) qD qD qD
theorem t13:xK (mkRat 1 3)=[49,47,51]:=ZkD (n:=1) (d:=3) qD qD qD qD qD
theorem t12:xK (mkRat 1 2)=[49,47,50]:=ZkD (n:=1) (d:=2) qD qD qD qD qD
section
variable {w w':World} {e:Ending} {s:ByteArray}
theorem ZlM (h:Zit s w e w'):lQ (fun x:ByteArray×Bool=>.tuple #[.string x.1,.bool x.2]) (fun x _=>xH (bytes s)=(x.2,bytes x.1)) w e w':=by
 obtain⟨r,neg,rfl,h,rfl⟩:=h
 exact⟨(r,neg),rfl,Fr.refl _ _,BoxN.pure h⟩
end
theorem ZgJ {a b:ByteArray}(h:bytes a=bytes b):a=b:=by
 cases a with|mk a=>cases b with|mk b=>simp only[bytes] at h;rw[Array.toList_inj.1 h]
def e4:Nat:=400
theorem ZkE {s:ByteArray}(h:bytes s=[48]):(s.toList == (⟨#[48]⟩:ByteArray).toList)=true:=by
 rw[Lib.toList_data,Lib.toList_data,show s.data.toList=[48] from h];rfl
theorem ZkF {s:ByteArray}(h:¬ bytes s=[48]):(s.toList == (⟨#[48]⟩:ByteArray).toList)=false:=by
 rw[Lib.toList_data,Lib.toList_data];exact qB.2 h
theorem zt:xK 0=[48]:=cS (n:=0) qD qD qD
theorem cC {P:Program}{o:Oper}{ρ:Operand→Value}{w:World}{t:TypeId}{x i:Operand}{b:ByteArray}{k:Nat}{c:UInt8}(a:o.op=Op.index t x i)(d:P.underlying t=some .string)(e:ρ x=.string b)(hi:ρ i=.int .i64 (k:Int))(f:b[k]? = some c):(execOp ρ o).run P w=.ok (.value (.int .u8 (c.toNat:Int))) w:=by
 simp[execOp,a,Instr.index,asIntOf,underlying,d,e,hi,f,Result.andThen]
theorem wU.le {x y:Int}(h:wU x)(a:y.natAbs≤x.natAbs):wU y:=uC (ZaI a) h
theorem wU.gcd {x y:Int}(h:wU y)(a:y≠0):wU (Int.gcd x y:Int):=h.le (by
 have:Int.gcd x y≤y.natAbs:=pU _ qO
 omega)
theorem wU.tdiv {x y:Int}(h:wU x):wU (x.tdiv y):=h.le (by rw[Int.natAbs_tdiv];exact vG _ _)
theorem ZcL {x y:Int}(h:0<y):0<Int.gcd x y:=by
 rcases uI (Int.gcd x y) with e|e
 ·have:=(Int.gcd_eq_zero_iff.1 e).2;omega
 exact e
def gL (q:Rat):Prop:=ml q.num.natAbs≤100000∧ml q.den≤100000
theorem mlm {x y:Int}{a b:Nat}(c:ml x.natAbs≤a)(d:ml y.natAbs≤b):ml (x*y).natAbs≤a+b:=by
 have h:=Zra x.natAbs y.natAbs
 rw[←Int.natAbs_mul] at h
 omega
theorem mla {x y:Int}{a:Nat}(b:ml x.natAbs≤a)(c:ml y.natAbs≤a):ml (x+y).natAbs≤a+1 :=
 uC (ZaI (Int.natAbs_add_le x y)) (Zrb b c)
theorem Zbz {w w':World}{e:Ending}{a b:Int}(h:ZgG w a b e w'):lQ ZdJ (fun x w=>zZ w (wR x.1) a∧zZ w (wR x.2) b) w e w':=by
 obtain⟨u,v,rfl,d,f,Q⟩:=h
 obtain⟨s,A,l,c,rfl⟩:=d.shp
 obtain⟨j,k,m,n,rfl⟩:=f.shp
 exact⟨((s,A,l,c),(j,k,m,n)),rfl,Q,boxn Q (fun S o g i=>⟨d.nrb g i,f.nrb g i⟩)⟩
theorem nfit {z:Int}{k:Nat}(h:ml z.natAbs≤k)(a:Nat.ble k 17592186044416=true):wU z:=uC h (tJ a)
theorem mlc {n k:Nat}(h:ml n≤k):ml ((n:Nat):Int).natAbs≤k:=by rw[sZ];exact h
theorem Zhq {x y:Int}{q:Rat}(a:Rat.divInt x y=q)(b:0<y)(_:1<((Int.gcd x y:Nat):Int).natAbs):q.num=x.tdiv ((Int.gcd x y:Nat):Int)∧(q.den:Int)=y.tdiv ((Int.gcd x y:Nat):Int):=by
 rw[←a];exact ZiI b
theorem Zhr {x y:Int}{q:Rat}(b:Rat.divInt x y=q)(a:0<y)(h:¬ 1<((Int.gcd x y:Nat):Int).natAbs):q.num=x∧(q.den:Int)=y:=by
 have c:=ZcL (x:=x) a
 rw[←b];exact ZdW a qO
theorem Zae {n:Nat}(h:(((n:Nat):Int) == 1)=true):n=1:=by have:=eq_of_beq h;omega
theorem Zaf {n:Nat}(h:(((n:Nat):Int) == 1)=false):n≠1:=fun e=>by subst e;cases h
theorem Znf (a b:Value)(x y:Int)(q:Rat)(w:World)(ha:zZ w a x)(X:zZ w b y)(hx:wU x)(hy:wU y)(h0:y<0)(hq:Rat.divInt x y=q) :
 yA 73 #[a,b] w (jE w q):=by
 obtain⟨K,L,M,N,rfl⟩:=ha.shp
 obtain⟨s1,O,P,S,rfl⟩:=X.shp
 obtain rfl:s1=true:=X.sneg h0
 have V:wU (-(x)):=hx.neg
 have F:wU (-(y)):=hy.neg
 have Y:0 < -(y):=qO
 have T:wU ((Int.gcd (-(x)) (-(y)):Nat):Int):=wU.gcd F qO
 have W:((Int.gcd (-(x)) (-(y)):Nat):Int)≠0:=by have:=ZcL (x := -(x)) Y;omega
 have Z:Rat.divInt (-(x)) (-(y))=q:=by rw[Rat.neg_divInt_neg];exact hq
 refine zQ (Φ:=fun w=>(zZ w (.agg #[.bool K,.slice L M N]) (x)∧zZ w (.agg #[.bool true,.slice O P S]) (y))) func73 rfl qK (fun w' hf=>⟨ha.ext hf,X.ext hf⟩) ?_
 refine zC (zB (xr 3 [(2,.p 2 0),(3,.p 3 0),(4,.p 4 0)] [bR4 4 59 false none 0 0 false none 0 0,bI2 3 57 true O P S,bI2 2 57 K L M N] ?_))
 refine xe (zA (zC (zC (zB (xr 2 [(2,.p 2 0),(3,.p 3 0),(4,.p 4 0),yB 7 true] [bR4 4 59 false none 0 0 false none 0 0,bI2 3 57 true O P S,bI2 2 57 K L M N] ?_)))))
 refine xe (zA (xa ?_))
 refine xN 6 qK qK zO ?_
 refine xf 1 [(2,.p 2 0),(3,.p 3 0),(4,.p 4 0),eI2 8 K L M N] [bR4 4 59 false none 0 0 false none 0 0,bI2 3 57 true O P S,bI2 2 57 K L M N] ?_
 refine xd 55 [vI2 K L M N] 9 wR _ (fun w R Q=>yM wE (Zfc _ (x) _ Q.1)) fun⟨c,d,e,f⟩=>?_
 refine xf 1 [(2,.p 2 0),(3,.p 3 0),(4,.p 4 0),eI2 9 c d e f,eI2 10 true O P S] [bR4 4 59 false none 0 0 false none 0 0,bI2 3 57 true O P S,bI2 2 57 K L M N] ?_
 refine xd 55 [vI2 true O P S] 11 wR _ (fun w R Q=>yM wE (Zfc _ (y) _ Q.1.2)) fun⟨g,i,j,k⟩=>?_
 refine xf 2 [(2,.p 2 0),(3,.p 3 0),(4,.p 4 0)] [bI2 3 57 g i j k,bI2 2 57 c d e f,bR4 4 59 false none 0 0 false none 0 0,bI2 3 57 true O P S,bI2 2 57 K L M N] ?_
 refine xz (xe (zA (zC (zB (xr 2 [(2,.p 2 0),(3,.p 3 0),(4,.p 4 0),eI2 12 c d e f,eI2 13 g i j k] [bI2 3 57 g i j k,bI2 2 57 c d e f,bR4 4 59 false none 0 0 false none 0 0] ?_)))))
 refine xc 124 [vI2 c d e f,vI2 g i j k] 14 wR _ (fun w R Q=>yM wE (ZiB _ _ (-(x)) (-(y)) _ Q.1.2 Q.2 V F)) fun⟨l,m,n,o⟩=>?_
 refine xr 2 [(2,.p 2 0),(3,.p 3 0),(4,.p 4 0),(5,.p 5 0)] [bI2 5 57 l m n o,bI2 3 57 g i j k,bI2 2 57 c d e f,bR4 4 59 false none 0 0 false none 0 0] ?_
 refine xe (zA (zC (zC (zB (xr 1 [(2,.p 2 0),(3,.p 3 0),(4,.p 4 0),(5,.p 5 0),eI2 15 l m n o] [bI2 5 57 l m n o,bI2 3 57 g i j k,bI2 2 57 c d e f,bR4 4 59 false none 0 0 false none 0 0] ?_)))))
 refine xc 114 [vI2 l m n o] 16 (fun _:Unit=>yI ((blen (((Int.gcd (-(x)) (-(y)):Nat):Int)).natAbs:Nat):Int)) _ (fun w R Q=>yN (bE _ (((Int.gcd (-(x)) (-(y)):Nat):Int)) _ Q.2 T)) fun U=>?_
 refine xr 1 [(2,.p 2 0),(3,.p 3 0),(4,.p 4 0),(5,.p 5 0),(17,.v (.bool (decide (((blen (((Int.gcd (-(x)) (-(y)):Nat):Int)).natAbs:Nat):Int)>1))))] [bI2 5 57 l m n o,bI2 3 57 g i j k,bI2 2 57 c d e f,bR4 4 59 false none 0 0 false none 0 0] ?_
 refine xe (zA ?_)
 refine zR ((decide (((blen (((Int.gcd (-(x)) (-(y)):Nat):Int)).natAbs:Nat):Int)>1))) qK (fun G=>?_) fun G=>?_
 ·have H:=Zhq Z Y (Zab.1 (by have:=uB G;omega))
  refine zC (zB (xr 2 [(2,.p 2 0),(3,.p 3 0),(4,.p 4 0),(5,.p 5 0),eI2 19 c d e f,eI2 20 l m n o] [bI2 5 57 l m n o,bI2 3 57 g i j k,bI2 2 57 c d e f,bR4 4 59 false none 0 0 false none 0 0] ?_))
  refine xc 116 [vI2 c d e f,vI2 l m n o] 21 ZdJ _ (fun w R Q=>yM Zbz (Zaa _ _ (-(x)) (((Int.gcd (-(x)) (-(y)):Nat):Int)) _ Q.1.1.1.2 Q.1.2 V T W)) fun U=>?_
  obtain⟨⟨r,s,t,u⟩,⟨a0,b0,d0,e0⟩⟩:=U
  refine xr 4 [(2,.p 2 0),(3,.p 3 0),(4,.p 4 0),(5,.p 5 0)] [bI2 5 57 l m n o,bI2 3 57 g i j k,bI2 2 57 r s t u,bR4 4 59 false none 0 0 false none 0 0] ?_
  refine xe (zA (zB (xr 2 [(2,.p 2 0),(3,.p 3 0),(4,.p 4 0),eI2 25 g i j k,eI2 26 l m n o] [bI2 3 57 g i j k,bI2 2 57 r s t u,bR4 4 59 false none 0 0 false none 0 0] ?_)))
  refine xc 116 [vI2 g i j k,vI2 l m n o] 27 ZdJ _ (fun w R Q=>yM Zbz (Zaa _ _ (-(y)) (((Int.gcd (-(x)) (-(y)):Nat):Int)) _ Q.1.1.1.2 Q.1.1.2 F T W)) fun U=>?_
  obtain⟨⟨B,C,D,E⟩,⟨f0,g0,i0,j0⟩⟩:=U
  refine xr 4 [(2,.p 2 0),(3,.p 3 0),(4,.p 4 0)] [bI2 3 57 B C D E,bI2 2 57 r s t u,bR4 4 59 false none 0 0 false none 0 0] ?_
  refine xe (zA (zC (zC (zB (xr 1 [(2,.p 2 0),(3,.p 3 0),(4,.p 4 0),eI2 30 B C D E] [bI2 3 57 B C D E,bI2 2 57 r s t u,bR4 4 59 false none 0 0 false none 0 0] ?_)))))
  refine xc 114 [vI2 B C D E] 31 (fun _:Unit=>yI ((blen ((-(y)).tdiv (((Int.gcd (-(x)) (-(y)):Nat):Int))).natAbs:Nat):Int)) _ (fun w R Q=>yN (bE _ ((-(y)).tdiv (((Int.gcd (-(x)) (-(y)):Nat):Int))) _ Q.2.1 (wU.tdiv F))) fun U=>?_
  refine xr 1 [(2,.p 2 0),(3,.p 3 0),(4,.p 4 0),(32,.v (.bool ((((blen ((-(y)).tdiv (((Int.gcd (-(x)) (-(y)):Nat):Int))).natAbs:Nat):Int):Int) == 1)))] [bI2 3 57 B C D E,bI2 2 57 r s t u,bR4 4 59 false none 0 0 false none 0 0] ?_
  refine xe (zA ?_)
  refine zR (((((blen ((-(y)).tdiv (((Int.gcd (-(x)) (-(y)):Nat):Int))).natAbs:Nat):Int):Int) == 1)) qK (fun I=>?_) fun I=>?_
  ·have z:=iX.1 (Zae I)
   refine zB (xr 2 [(2,.p 2 0),(3,.p 3 0),(4,.p 4 0)] [bI2 3 57 false none 0 0,bI2 2 57 r s t u,bR4 4 59 false none 0 0 false none 0 0] ?_)
   refine xe (zA (zC (zB (xr 4 [(4,.p 4 0)] [bR4 4 59 r s t u false none 0 0] ?_))))
   refine xe (zA (zG ?_))
   refine zE (v:=.agg #[.bool r,.slice s t u,.bool false,.slice none 0 0]) qK fun w' R Q=>?_
   exact⟨_,rfl,zU.of (by rw[H.1];exact Q.1.1.2.1) (by rw[jC (by have:=z;have:=H.2;have:=q.den_nz;omega)];exact (zZ.nil _)),R⟩
  have z:=fun h=>Zaf I (iX.2 h)
  refine zI (zA (zC (zB (xr 4 [(4,.p 4 0)] [bR4 4 59 r s t u B C D E] ?_))))
  refine xe (zA (zG ?_))
  refine zE (v:=.agg #[.bool r,.slice s t u,.bool B,.slice C D E]) qK fun w' R Q=>?_
  exact⟨_,rfl,zU.of (by rw[H.1];exact Q.1.1.2.1) (by rw[fH (fun h=>z (by have:=H.2;omega)),H.2];exact Q.1.2.1),R⟩
 have H:=Zhr Z Y (fun h=>absurd (Zab.2 h) (by have:=uD G;omega))
 refine zI (zA (zC (zC (zB (xr 1 [(2,.p 2 0),(3,.p 3 0),(4,.p 4 0),eI2 30 g i j k] [bI2 3 57 g i j k,bI2 2 57 c d e f,bR4 4 59 false none 0 0 false none 0 0] ?_)))))
 refine xc 114 [vI2 g i j k] 31 (fun _:Unit=>yI ((blen (-(y)).natAbs:Nat):Int)) _ (fun w R Q=>yN (bE _ (-(y)) _ Q.1.1.2 F)) fun U=>?_
 refine xr 1 [(2,.p 2 0),(3,.p 3 0),(4,.p 4 0),(32,.v (.bool ((((blen (-(y)).natAbs:Nat):Int):Int) == 1)))] [bI2 3 57 g i j k,bI2 2 57 c d e f,bR4 4 59 false none 0 0 false none 0 0] ?_
 refine xe (zA ?_)
 refine zR (((((blen (-(y)).natAbs:Nat):Int):Int) == 1)) qK (fun J=>?_) fun J=>?_
 ·have A:=iX.1 (Zae J)
  refine zB (xr 2 [(2,.p 2 0),(3,.p 3 0),(4,.p 4 0)] [bI2 3 57 false none 0 0,bI2 2 57 c d e f,bR4 4 59 false none 0 0 false none 0 0] ?_)
  refine xe (zA (zC (zB (xr 4 [(4,.p 4 0)] [bR4 4 59 c d e f false none 0 0] ?_))))
  refine xe (zA (zG ?_))
  refine zE (v:=.agg #[.bool c,.slice d e f,.bool false,.slice none 0 0]) qK fun w' R Q=>?_
  exact⟨_,rfl,zU.of (by rw[H.1];exact Q.1.1.1.1.2) (by rw[jC (by have:=A;have:=H.2;have:=q.den_nz;omega)];exact (zZ.nil _)),R⟩
 have A:=fun h=>Zaf J (iX.2 h)
 refine zI (zA (zC (zB (xr 4 [(4,.p 4 0)] [bR4 4 59 c d e f g i j k] ?_))))
 refine xe (zA (zG ?_))
 refine zE (v:=.agg #[.bool c,.slice d e f,.bool g,.slice i j k]) qK fun w' R Q=>?_
 exact⟨_,rfl,zU.of (by rw[H.1];exact Q.1.1.1.1.2) (by rw[fH (fun h=>A (by have:=H.2;omega)),H.2];exact Q.1.1.1.2),R⟩
theorem Zng (a b:Value)(x y:Int)(q:Rat)(w:World)(ha:zZ w a x)(N:zZ w b y)(T:wU x)(U:wU y)(h0:0<y)(V:Rat.divInt x y=q) :
 yA 73 #[a,b] w (jE w q):=by
 obtain⟨o,r,s,t,rfl⟩:=ha.shp
 obtain⟨W,l,m,n,rfl⟩:=N.shp
 obtain rfl:W=false:=N.spos qO
 have L:wU (x):=T
 have E:wU (y):=U
 have O:0<y:=qO
 have J:wU ((Int.gcd (x) (y):Nat):Int):=wU.gcd E qO
 have M:((Int.gcd (x) (y):Nat):Int)≠0:=by have:=ZcL (x:=x) O;omega
 have P:Rat.divInt (x) (y)=q:=V
 refine zQ (Φ:=fun w=>(zZ w (.agg #[.bool o,.slice r s t]) (x)∧zZ w (.agg #[.bool false,.slice l m n]) (y))) func73 rfl qK (fun w' S=>⟨ha.ext S,N.ext S⟩) ?_
 refine zC (zB (xr 3 [(2,.p 2 0),(3,.p 3 0),(4,.p 4 0)] [bR4 4 59 false none 0 0 false none 0 0,bI2 3 57 false l m n,bI2 2 57 o r s t] ?_))
 refine xe (zA (zC (zC (zB (xr 2 [(2,.p 2 0),(3,.p 3 0),(4,.p 4 0),yB 7 false] [bR4 4 59 false none 0 0 false none 0 0,bI2 3 57 false l m n,bI2 2 57 o r s t] ?_)))))
 refine xe (zA (xb (zI (zA (zC (zB (xr 2 [(2,.p 2 0),(3,.p 3 0),(4,.p 4 0),eI2 12 o r s t,eI2 13 false l m n] [bR4 4 59 false none 0 0 false none 0 0,bI2 3 57 false l m n,bI2 2 57 o r s t] ?_)))))))
 refine xc 124 [vI2 o r s t,vI2 false l m n] 14 wR _ (fun w R Q=>yM wE (ZiB _ _ (x) (y) _ Q.1 Q.2 L E)) fun⟨c,d,e,f⟩=>?_
 refine xr 2 [(2,.p 2 0),(3,.p 3 0),(4,.p 4 0),(5,.p 5 0)] [bI2 5 57 c d e f,bR4 4 59 false none 0 0 false none 0 0,bI2 3 57 false l m n,bI2 2 57 o r s t] ?_
 refine xe (zA (zC (zC (zB (xr 1 [(2,.p 2 0),(3,.p 3 0),(4,.p 4 0),(5,.p 5 0),eI2 15 c d e f] [bI2 5 57 c d e f,bR4 4 59 false none 0 0 false none 0 0,bI2 3 57 false l m n,bI2 2 57 o r s t] ?_)))))
 refine xc 114 [vI2 c d e f] 16 (fun _:Unit=>yI ((blen (((Int.gcd (x) (y):Nat):Int)).natAbs:Nat):Int)) _ (fun w R Q=>yN (bE _ (((Int.gcd (x) (y):Nat):Int)) _ Q.2 J)) fun K=>?_
 refine xr 1 [(2,.p 2 0),(3,.p 3 0),(4,.p 4 0),(5,.p 5 0),(17,.v (.bool (decide (((blen (((Int.gcd (x) (y):Nat):Int)).natAbs:Nat):Int)>1))))] [bI2 5 57 c d e f,bR4 4 59 false none 0 0 false none 0 0,bI2 3 57 false l m n,bI2 2 57 o r s t] ?_
 refine xe (zA ?_)
 refine zR ((decide (((blen (((Int.gcd (x) (y):Nat):Int)).natAbs:Nat):Int)>1))) qK (fun F=>?_) fun F=>?_
 ·have G:=Zhq P O (Zab.1 (by have:=uB F;omega))
  refine zC (zB (xr 2 [(2,.p 2 0),(3,.p 3 0),(4,.p 4 0),(5,.p 5 0),eI2 19 o r s t,eI2 20 c d e f] [bI2 5 57 c d e f,bR4 4 59 false none 0 0 false none 0 0,bI2 3 57 false l m n,bI2 2 57 o r s t] ?_))
  refine xc 116 [vI2 o r s t,vI2 c d e f] 21 ZdJ _ (fun w R Q=>yM Zbz (Zaa _ _ (x) (((Int.gcd (x) (y):Nat):Int)) _ Q.1.1.1 Q.1.2 L J M)) fun K=>?_
  obtain⟨⟨g,i,j,k⟩,⟨X,Y,Z,a0⟩⟩:=K
  refine xr 4 [(2,.p 2 0),(3,.p 3 0),(4,.p 4 0),(5,.p 5 0)] [bI2 5 57 c d e f,bR4 4 59 false none 0 0 false none 0 0,bI2 3 57 false l m n,bI2 2 57 g i j k] ?_
  refine xe (zA (zB (xr 2 [(2,.p 2 0),(3,.p 3 0),(4,.p 4 0),eI2 25 false l m n,eI2 26 c d e f] [bR4 4 59 false none 0 0 false none 0 0,bI2 3 57 false l m n,bI2 2 57 g i j k] ?_)))
  refine xc 116 [vI2 false l m n,vI2 c d e f] 27 ZdJ _ (fun w R Q=>yM Zbz (Zaa _ _ (y) (((Int.gcd (x) (y):Nat):Int)) _ Q.1.1.1.2 Q.1.1.2 E J M)) fun K=>?_
  obtain⟨⟨A,B,C,D⟩,⟨b0,d0,e0,f0⟩⟩:=K
  refine xr 4 [(2,.p 2 0),(3,.p 3 0),(4,.p 4 0)] [bR4 4 59 false none 0 0 false none 0 0,bI2 3 57 A B C D,bI2 2 57 g i j k] ?_
  refine xe (zA (zC (zC (zB (xr 1 [(2,.p 2 0),(3,.p 3 0),(4,.p 4 0),eI2 30 A B C D] [bR4 4 59 false none 0 0 false none 0 0,bI2 3 57 A B C D,bI2 2 57 g i j k] ?_)))))
  refine xc 114 [vI2 A B C D] 31 (fun _:Unit=>yI ((blen ((y).tdiv (((Int.gcd (x) (y):Nat):Int))).natAbs:Nat):Int)) _ (fun w R Q=>yN (bE _ ((y).tdiv (((Int.gcd (x) (y):Nat):Int))) _ Q.2.1 (wU.tdiv E))) fun K=>?_
  refine xr 1 [(2,.p 2 0),(3,.p 3 0),(4,.p 4 0),(32,.v (.bool ((((blen ((y).tdiv (((Int.gcd (x) (y):Nat):Int))).natAbs:Nat):Int):Int) == 1)))] [bR4 4 59 false none 0 0 false none 0 0,bI2 3 57 A B C D,bI2 2 57 g i j k] ?_
  refine xe (zA ?_)
  refine zR (((((blen ((y).tdiv (((Int.gcd (x) (y):Nat):Int))).natAbs:Nat):Int):Int) == 1)) qK (fun H=>?_) fun H=>?_
  ·have u:=iX.1 (Zae H)
   refine zB (xr 2 [(2,.p 2 0),(3,.p 3 0),(4,.p 4 0)] [bR4 4 59 false none 0 0 false none 0 0,bI2 3 57 false none 0 0,bI2 2 57 g i j k] ?_)
   refine xe (zA (zC (zB (xr 4 [(4,.p 4 0)] [bR4 4 59 g i j k false none 0 0] ?_))))
   refine xe (zA (zG ?_))
   refine zE (v:=.agg #[.bool g,.slice i j k,.bool false,.slice none 0 0]) qK fun w' R Q=>?_
   exact⟨_,rfl,zU.of (by rw[G.1];exact Q.1.1.2.1) (by rw[jC (by have:=u;have:=G.2;have:=q.den_nz;omega)];exact (zZ.nil _)),R⟩
  have u:=fun h=>Zaf H (iX.2 h)
  refine zI (zA (zC (zB (xr 4 [(4,.p 4 0)] [bR4 4 59 g i j k A B C D] ?_))))
  refine xe (zA (zG ?_))
  refine zE (v:=.agg #[.bool g,.slice i j k,.bool A,.slice B C D]) qK fun w' R Q=>?_
  exact⟨_,rfl,zU.of (by rw[G.1];exact Q.1.1.2.1) (by rw[fH (fun h=>u (by have:=G.2;omega)),G.2];exact Q.1.2.1),R⟩
 have G:=Zhr P O (fun h=>absurd (Zab.2 h) (by have:=uD F;omega))
 refine zI (zA (zC (zC (zB (xr 1 [(2,.p 2 0),(3,.p 3 0),(4,.p 4 0),eI2 30 false l m n] [bR4 4 59 false none 0 0 false none 0 0,bI2 3 57 false l m n,bI2 2 57 o r s t] ?_)))))
 refine xc 114 [vI2 false l m n] 31 (fun _:Unit=>yI ((blen (y).natAbs:Nat):Int)) _ (fun w R Q=>yN (bE _ (y) _ Q.1.1.2 E)) fun K=>?_
 refine xr 1 [(2,.p 2 0),(3,.p 3 0),(4,.p 4 0),(32,.v (.bool ((((blen (y).natAbs:Nat):Int):Int) == 1)))] [bR4 4 59 false none 0 0 false none 0 0,bI2 3 57 false l m n,bI2 2 57 o r s t] ?_
 refine xe (zA ?_)
 refine zR (((((blen (y).natAbs:Nat):Int):Int) == 1)) qK (fun I=>?_) fun I=>?_
 ·have z:=iX.1 (Zae I)
  refine zB (xr 2 [(2,.p 2 0),(3,.p 3 0),(4,.p 4 0)] [bR4 4 59 false none 0 0 false none 0 0,bI2 3 57 false none 0 0,bI2 2 57 o r s t] ?_)
  refine xe (zA (zC (zB (xr 4 [(4,.p 4 0)] [bR4 4 59 o r s t false none 0 0] ?_))))
  refine xe (zA (zG ?_))
  refine zE (v:=.agg #[.bool o,.slice r s t,.bool false,.slice none 0 0]) qK fun w' R Q=>?_
  exact⟨_,rfl,zU.of (by rw[G.1];exact Q.1.1.1.1) (by rw[jC (by have:=z;have:=G.2;have:=q.den_nz;omega)];exact (zZ.nil _)),R⟩
 have z:=fun h=>Zaf I (iX.2 h)
 refine zI (zA (zC (zB (xr 4 [(4,.p 4 0)] [bR4 4 59 o r s t false l m n] ?_))))
 refine xe (zA (zG ?_))
 refine zE (v:=.agg #[.bool o,.slice r s t,.bool false,.slice l m n]) qK fun w' R Q=>?_
 exact⟨_,rfl,zU.of (by rw[G.1];exact Q.1.1.1.1) (by rw[fH (fun h=>z (by have:=G.2;omega)),G.2];exact Q.1.1.1.2),R⟩
theorem ZbA (a b:Value)(x y:Int)(w:World)(ha:zZ w a x)(c:zZ w b y)(d:wU x)(e:wU y)(f:y≠0):yA 73 #[a,b] w (jE w (Rat.divInt x y)):=by
 rcases Int.lt_or_gt_of_ne f with h|h
 ·exact Znf a b x y _ w ha c d e h rfl
 exact Zng a b x y _ w ha c d e h rfl
theorem Znh (a:Value)(q:Rat)(w:World)(ha:zU w a q) :
 yA 32 #[a] w (jE w (-q)):=by
 obtain⟨b,c,d,e,f,g,h,i,rfl⟩:=ha.shp
 refine zQ (Φ:=fun w=>zU w (.agg #[.bool b,.slice c d e,.bool f,.slice g h i]) (q)) func32 rfl qK (fun w' n=>ha.ext n) ?_
 refine zC (zB (xr 2 [(1,.p 1 0),(2,.p 2 0)] [bR4 2 59 false none 0 0 false none 0 0,bR4 1 59 b c d e f g h i] ?_))
 refine xe (zA (zC ?_))
 refine xN 7 qK qK zO ?_
 refine xf 2 [(1,.p 1 0),(2,.p 2 0),eI2 4 b c d e] [bR4 2 59 false none 0 0 false none 0 0,bR4 1 59 b c d e f g h i] ?_
 refine xd 55 [vI2 b c d e] 5 wR _ (fun w R Q=>yM wE (Zfc _ ((q).num) _ Q.num)) fun⟨j,k,l,m⟩=>?_
 refine xf 4 [(2,.p 2 0)] [bR4 2 59 j k l m f g h i,bR4 2 59 false none 0 0 false none 0 0,bR4 1 59 b c d e f g h i] ?_
 refine xz (xe (zA (zG ?_)))
 refine zE (v:=.agg #[.bool j,.slice k l m,.bool f,.slice g h i]) qK fun w' R Q=>?_
 exact⟨_,rfl,zU.of (by rw[Zov];exact Q.2) (by rw[Zox];exact Q.1.den),R⟩
theorem Zf9 (a:Value)(q:Rat)(w:World)(ha:zU w a q) :
 yA 45 #[a] w (RetV w (.int .i64 q.num.sign)):=by
 obtain⟨b,c,d,e,f,g,h,i,rfl⟩:=ha.shp
 refine zQ (Φ:=fun w=>zU w (.agg #[.bool b,.slice c d e,.bool f,.slice g h i]) (q)) func45 rfl qK (fun w' j=>ha.ext j) ?_
 refine zC (zB (xr 2 [(1,.p 1 0),yJ 2 0] [bR4 1 59 b c d e f g h i] ?_))
 refine xe (zA (zC (zB (xr 2 [yJ 2 0,eI2 4 b c d e] [] ?_))))
 refine xc 71 [vI2 b c d e] 5 (fun _:Unit=>yI ((q).num).sign) _ (fun w R Q=>yN (ZmP _ ((q).num) _ Q.num)) fun k=>?_
 refine xr 1 [(2,.v (yI ((q).num).sign))] [] ?_
 refine xe (zA (zG ?_))
 refine zE (v:=yI ((q).num).sign) qK fun w' R Q=>?_
 exact⟨rfl,R⟩
theorem ZjS (a b:Value)(p q:Rat)(w:World)(ha:zU w a p)(x:zU w b q)(A:gL p)(B:gL q)(y:p.den=1)(z:q.den=1) :
 yA 46 #[a,b] w (jE w (p+q)):=by
 obtain⟨c,d,e,f,k,l,D,m,rfl⟩:=ha.shp
 obtain rfl:D=0:=ha.den.len0 (jC y)
 obtain⟨g,h,i,j,t1,n,E,o,rfl⟩:=x.shp
 obtain rfl:E=0:=x.den.len0 (jC z)
 have F:ml p.num.natAbs≤100000:=A.1
 have G:ml q.num.natAbs≤100000:=B.1
 have H:ml ((p.den:Nat):Int).natAbs≤100000:=mlc A.2
 have I:ml ((q.den:Nat):Int).natAbs≤100000:=mlc B.2
 refine zQ (Φ:=fun w=>(zU w (.agg #[.bool c,.slice d e f,.bool k,.slice l 0 m]) (p)∧zU w (.agg #[.bool g,.slice h i j,.bool t1,.slice n 0 o]) (q))) func46 rfl qK (fun w' C=>⟨ha.ext C,x.ext C⟩) ?_
 refine zC (zB (xr 3 [(2,.p 2 0),(3,.p 3 0),(4,.p 4 0)] [bR4 4 59 false none 0 0 false none 0 0,bR4 3 59 g h i j t1 n 0 o,bR4 2 59 c d e f k l 0 m] ?_))
 refine xe (zA (zC (zC (zB (xr 12 [(2,.p 2 0),(3,.p 3 0),(4,.p 4 0),yB 16 true] [bR4 4 59 false none 0 0 false none 0 0,bR4 3 59 g h i j t1 n 0 o,bR4 2 59 c d e f k l 0 m] ?_)))))
 refine xe (zA (xa (zC (zB (xr 4 [(2,.p 2 0),(3,.p 3 0),(4,.p 4 0),eI2 18 c d e f,eI2 20 g h i j] [bR4 4 59 false none 0 0 false none 0 0,bR4 3 59 g h i j t1 n 0 o,bR4 2 59 c d e f k l 0 m] ?_)))))
 refine xc 72 [vI2 c d e f,vI2 g h i j] 21 wR _ (fun w R Q=>yM wE (Ze7 _ _ ((p).num) ((q).num) _ Q.1.num Q.2.num (nfit F qD) (nfit G qD))) fun⟨r,s,t,u⟩=>?_
 refine xr 2 [(2,.p 2 0),(3,.p 3 0),(4,.p 4 0)] [bR4 4 59 r s t u false none 0 0,bR4 3 59 g h i j t1 n 0 o,bR4 2 59 c d e f k l 0 m] ?_
 refine xe (zA (zG (zM ?_)))
 refine zE (v:=.agg #[.bool r,.slice s t u,.bool false,.slice none 0 0]) qK fun w' R Q=>?_
 exact⟨_,rfl,zU.of (by rw[(Zdg y z).1];exact Q.2) (by rw[jC (Zdg y z).2];exact (zZ.nil _)),R⟩
theorem ZjT (a b:Value)(p q:Rat)(w:World)(ha:zU w a p)(hb:zU w b q)(hp:gL p)(hq:gL q)(h1:¬ p.den=1) :
 yA 46 #[a,b] w (jE w (p+q)):=by
 obtain⟨c,d,e,f,m,n,m0,o,rfl⟩:=ha.shp
 obtain⟨r,rfl⟩:∃ k,m0=k+1:=⟨m0-1,by have:=ha.den.lenp (aK h1);omega⟩
 obtain⟨g,i,j,l,t1,s,t,u,rfl⟩:=hb.shp
 have S1:ml p.num.natAbs≤100000:=hp.1
 have S2:ml q.num.natAbs≤100000:=hq.1
 have J:ml ((p.den:Nat):Int).natAbs≤100000:=mlc hp.2
 have K:ml ((q.den:Nat):Int).natAbs≤100000:=mlc hq.2
 refine zQ (Φ:=fun w=>(zU w (.agg #[.bool c,.slice d e f,.bool m,.slice n (r+1) o]) (p)∧zU w (.agg #[.bool g,.slice i j l,.bool t1,.slice s t u]) (q))) func46 rfl qK (fun w' hf=>⟨ha.ext hf,hb.ext hf⟩) ?_
 refine zC (zB (xr 3 [(2,.p 2 0),(3,.p 3 0),(4,.p 4 0)] [bR4 4 59 false none 0 0 false none 0 0,bR4 3 59 g i j l t1 s t u,bR4 2 59 c d e f m n (r+1) o] ?_))
 refine xe (zA (zC (zC (zB (xr 12 [(2,.p 2 0),(3,.p 3 0),(4,.p 4 0),yB 16 false] [bR4 4 59 false none 0 0 false none 0 0,bR4 3 59 g i j l t1 s t u,bR4 2 59 c d e f m n (r+1) o] ?_)))))
 refine xe (zA (xb (zI (zA (zC ?_)))))
 refine xN 18 qK qK zO ?_
 refine xf 3 [(2,.p 2 0),(3,.p 3 0),(4,.p 4 0),eI2 24 c d e f,eR4 25 g i j l t1 s t u] [bR4 4 59 false none 0 0 false none 0 0,bR4 3 59 g i j l t1 s t u,bR4 2 59 c d e f m n (r+1) o] ?_
 refine xd 75 [vR4 g i j l t1 s t u] 26 wR _ (fun w R Q=>yM wE (iH _ (q) _ Q.2)) fun⟨L,M,N,O⟩=>?_
 refine xf 0 [(2,.p 2 0),(3,.p 3 0),(4,.p 4 0),eI2 24 c d e f,eI2 26 L M N O] [bR4 4 59 false none 0 0 false none 0 0,bR4 3 59 g i j l t1 s t u,bR4 2 59 c d e f m n (r+1) o] ?_
 refine xd 74 [vI2 c d e f,vI2 L M N O] 27 wR _ (fun w R Q=>yM wE (gH _ _ ((p).num) (((q).den:Int)) _ Q.1.1.num Q.2 (nfit S1 qD) (nfit K qD))) fun⟨B,C,D,E⟩=>?_
 refine xf 3 [(2,.p 2 0),(3,.p 3 0),(4,.p 4 0),eI2 27 B C D E,eI2 29 g i j l,eR4 30 c d e f m n (r+1) o] [bR4 4 59 false none 0 0 false none 0 0,bR4 3 59 g i j l t1 s t u,bR4 2 59 c d e f m n (r+1) o] ?_
 refine xd 75 [vR4 c d e f m n (r+1) o] 31 wR _ (fun w R Q=>yM wE (iH _ (p) _ Q.1.1.1)) fun⟨P,S,T,U⟩=>?_
 refine xf 0 [(2,.p 2 0),(3,.p 3 0),(4,.p 4 0),eI2 27 B C D E,eI2 29 g i j l,eI2 31 P S T U] [bR4 4 59 false none 0 0 false none 0 0,bR4 3 59 g i j l t1 s t u,bR4 2 59 c d e f m n (r+1) o] ?_
 refine xd 74 [vI2 g i j l,vI2 P S T U] 32 wR _ (fun w R Q=>yM wE (gH _ _ ((q).num) (((p).den:Int)) _ Q.1.1.1.2.num Q.2 (nfit S2 qD) (nfit J qD))) fun⟨V,W,X,Y⟩=>?_
 refine xf 0 [(2,.p 2 0),(3,.p 3 0),(4,.p 4 0),eI2 27 B C D E,eI2 32 V W X Y] [bR4 4 59 false none 0 0 false none 0 0,bR4 3 59 g i j l t1 s t u,bR4 2 59 c d e f m n (r+1) o] ?_
 refine xd 72 [vI2 B C D E,vI2 V W X Y] 33 wR _ (fun w R Q=>yM wE (Ze7 _ _ (((p).num)*(((q).den:Int))) (((q).num)*(((p).den:Int))) _ Q.1.1.2 Q.2 (nfit (mlm S1 K) qD) (nfit (mlm S2 J) qD))) fun⟨x,y,z,A⟩=>?_
 refine xf 1 [(3,.p 3 0),(4,.p 4 0),eI2 33 x y z A,eR4 34 c d e f m n (r+1) o] [bR4 4 59 false none 0 0 false none 0 0,bR4 3 59 g i j l t1 s t u,bR4 2 59 c d e f m n (r+1) o] ?_
 refine xd 75 [vR4 c d e f m n (r+1) o] 35 wR _ (fun w R Q=>yM wE (iH _ (p) _ Q.1.1.1.1.1.1)) fun⟨F,G,H,I⟩=>?_
 refine xf 1 [(4,.p 4 0),eI2 33 x y z A,eI2 35 F G H I,eR4 36 g i j l t1 s t u] [bR4 4 59 false none 0 0 false none 0 0,bR4 3 59 g i j l t1 s t u,bR4 2 59 c d e f m n (r+1) o] ?_
 refine xd 75 [vR4 g i j l t1 s t u] 37 wR _ (fun w R Q=>yM wE (iH _ (q) _ Q.1.1.1.1.1.1.2)) fun⟨Z,a0,b0,e0⟩=>?_
 refine xf 0 [(4,.p 4 0),eI2 33 x y z A,eI2 35 F G H I,eI2 37 Z a0 b0 e0] [bR4 4 59 false none 0 0 false none 0 0,bR4 3 59 g i j l t1 s t u,bR4 2 59 c d e f m n (r+1) o] ?_
 refine xd 74 [vI2 F G H I,vI2 Z a0 b0 e0] 38 wR _ (fun w R Q=>yM wE (gH _ _ (((p).den:Int)) (((q).den:Int)) _ Q.1.2 Q.2 (nfit J qD) (nfit K qD))) fun⟨f0,g0,h0,i0⟩=>?_
 refine xf 0 [(4,.p 4 0),eI2 33 x y z A,eI2 38 f0 g0 h0 i0] [bR4 4 59 false none 0 0 false none 0 0,bR4 3 59 g i j l t1 s t u,bR4 2 59 c d e f m n (r+1) o] ?_
 refine xd 73 [vI2 x y z A,vI2 f0 g0 h0 i0] 39 iO _ (fun w R Q=>(ZbA _ _ ((((p).num)*(((q).den:Int)))+(((q).num)*(((p).den:Int)))) ((((p).den:Int))*(((q).den:Int))) _ Q.1.1.1.2 Q.2 (nfit (mla (a:=200000) (mlm S1 K) (mlm S2 J)) qD) (nfit (mlm J K) qD) (nC (denI p) (denI q))).mono (fun _ _ h=>gY (by rw[ZdP] at h;exact h))) fun⟨j0,n0,o0,p0,q0,r0,u0,v0⟩=>?_
 refine xf 1 [(4,.p 4 0)] [bR4 4 59 j0 n0 o0 p0 q0 r0 u0 v0,bR4 4 59 false none 0 0 false none 0 0,bR4 3 59 g i j l t1 s t u,bR4 2 59 c d e f m n (r+1) o] ?_
 refine xz (xe (zA (zG ?_)))
 refine zE (v:=.agg #[.bool j0,.slice n0 o0 p0,.bool q0,.slice r0 u0 v0]) qK fun w' R Q=>?_
 exact⟨_,rfl,Q.2,R⟩
theorem ZjU (a b:Value)(p q:Rat)(w:World)(ha:zU w a p)(hb:zU w b q)(hp:gL p)(hq:gL q)(h1:p.den=1)(h2:¬ q.den=1) :
 yA 46 #[a,b] w (jE w (p+q)):=by
 obtain⟨c,d,e,f,m,n,m0,o,rfl⟩:=ha.shp
 obtain rfl:m0=0:=ha.den.len0 (jC h1)
 obtain⟨g,i,j,l,t1,r,m1,s,rfl⟩:=hb.shp
 obtain⟨t,rfl⟩:∃ k,m1=k+1:=⟨m1-1,by have:=hb.den.lenp (aK h2);omega⟩
 have S1:ml p.num.natAbs≤100000:=hp.1
 have S2:ml q.num.natAbs≤100000:=hq.1
 have I:ml ((p.den:Nat):Int).natAbs≤100000:=mlc hp.2
 have J:ml ((q.den:Nat):Int).natAbs≤100000:=mlc hq.2
 refine zQ (Φ:=fun w=>(zU w (.agg #[.bool c,.slice d e f,.bool m,.slice n 0 o]) (p)∧zU w (.agg #[.bool g,.slice i j l,.bool t1,.slice r (t+1) s]) (q))) func46 rfl qK (fun w' hf=>⟨ha.ext hf,hb.ext hf⟩) ?_
 refine zC (zB (xr 3 [(2,.p 2 0),(3,.p 3 0),(4,.p 4 0)] [bR4 4 59 false none 0 0 false none 0 0,bR4 3 59 g i j l t1 r (t+1) s,bR4 2 59 c d e f m n 0 o] ?_))
 refine xe (zA (zC (zC (zB (xr 12 [(2,.p 2 0),(3,.p 3 0),(4,.p 4 0),yB 16 false] [bR4 4 59 false none 0 0 false none 0 0,bR4 3 59 g i j l t1 r (t+1) s,bR4 2 59 c d e f m n 0 o] ?_)))))
 refine xe (zA (xb (zI (zA (zC ?_)))))
 refine xN 18 qK qK zO ?_
 refine xf 3 [(2,.p 2 0),(3,.p 3 0),(4,.p 4 0),eI2 24 c d e f,eR4 25 g i j l t1 r (t+1) s] [bR4 4 59 false none 0 0 false none 0 0,bR4 3 59 g i j l t1 r (t+1) s,bR4 2 59 c d e f m n 0 o] ?_
 refine xd 75 [vR4 g i j l t1 r (t+1) s] 26 wR _ (fun w R Q=>yM wE (iH _ (q) _ Q.2)) fun⟨K,L,M,N⟩=>?_
 refine xf 0 [(2,.p 2 0),(3,.p 3 0),(4,.p 4 0),eI2 24 c d e f,eI2 26 K L M N] [bR4 4 59 false none 0 0 false none 0 0,bR4 3 59 g i j l t1 r (t+1) s,bR4 2 59 c d e f m n 0 o] ?_
 refine xd 74 [vI2 c d e f,vI2 K L M N] 27 wR _ (fun w R Q=>yM wE (gH _ _ ((p).num) (((q).den:Int)) _ Q.1.1.num Q.2 (nfit S1 qD) (nfit J qD))) fun⟨A,B,C,D⟩=>?_
 refine xf 3 [(2,.p 2 0),(3,.p 3 0),(4,.p 4 0),eI2 27 A B C D,eI2 29 g i j l,eR4 30 c d e f m n 0 o] [bR4 4 59 false none 0 0 false none 0 0,bR4 3 59 g i j l t1 r (t+1) s,bR4 2 59 c d e f m n 0 o] ?_
 refine xd 75 [vR4 c d e f m n 0 o] 31 wR _ (fun w R Q=>yM wE (iH _ (p) _ Q.1.1.1)) fun⟨O,P,S,T⟩=>?_
 refine xf 0 [(2,.p 2 0),(3,.p 3 0),(4,.p 4 0),eI2 27 A B C D,eI2 29 g i j l,eI2 31 O P S T] [bR4 4 59 false none 0 0 false none 0 0,bR4 3 59 g i j l t1 r (t+1) s,bR4 2 59 c d e f m n 0 o] ?_
 refine xd 74 [vI2 g i j l,vI2 O P S T] 32 wR _ (fun w R Q=>yM wE (gH _ _ ((q).num) (((p).den:Int)) _ Q.1.1.1.2.num Q.2 (nfit S2 qD) (nfit I qD))) fun⟨U,V,W,X⟩=>?_
 refine xf 0 [(2,.p 2 0),(3,.p 3 0),(4,.p 4 0),eI2 27 A B C D,eI2 32 U V W X] [bR4 4 59 false none 0 0 false none 0 0,bR4 3 59 g i j l t1 r (t+1) s,bR4 2 59 c d e f m n 0 o] ?_
 refine xd 72 [vI2 A B C D,vI2 U V W X] 33 wR _ (fun w R Q=>yM wE (Ze7 _ _ (((p).num)*(((q).den:Int))) (((q).num)*(((p).den:Int))) _ Q.1.1.2 Q.2 (nfit (mlm S1 J) qD) (nfit (mlm S2 I) qD))) fun⟨u,x,y,z⟩=>?_
 refine xf 1 [(3,.p 3 0),(4,.p 4 0),eI2 33 u x y z,eR4 34 c d e f m n 0 o] [bR4 4 59 false none 0 0 false none 0 0,bR4 3 59 g i j l t1 r (t+1) s,bR4 2 59 c d e f m n 0 o] ?_
 refine xd 75 [vR4 c d e f m n 0 o] 35 wR _ (fun w R Q=>yM wE (iH _ (p) _ Q.1.1.1.1.1.1)) fun⟨E,F,G,H⟩=>?_
 refine xf 1 [(4,.p 4 0),eI2 33 u x y z,eI2 35 E F G H,eR4 36 g i j l t1 r (t+1) s] [bR4 4 59 false none 0 0 false none 0 0,bR4 3 59 g i j l t1 r (t+1) s,bR4 2 59 c d e f m n 0 o] ?_
 refine xd 75 [vR4 g i j l t1 r (t+1) s] 37 wR _ (fun w R Q=>yM wE (iH _ (q) _ Q.1.1.1.1.1.1.2)) fun⟨Y,Z,a0,b0⟩=>?_
 refine xf 0 [(4,.p 4 0),eI2 33 u x y z,eI2 35 E F G H,eI2 37 Y Z a0 b0] [bR4 4 59 false none 0 0 false none 0 0,bR4 3 59 g i j l t1 r (t+1) s,bR4 2 59 c d e f m n 0 o] ?_
 refine xd 74 [vI2 E F G H,vI2 Y Z a0 b0] 38 wR _ (fun w R Q=>yM wE (gH _ _ (((p).den:Int)) (((q).den:Int)) _ Q.1.2 Q.2 (nfit I qD) (nfit J qD))) fun⟨e0,f0,g0,h0⟩=>?_
 refine xf 0 [(4,.p 4 0),eI2 33 u x y z,eI2 38 e0 f0 g0 h0] [bR4 4 59 false none 0 0 false none 0 0,bR4 3 59 g i j l t1 r (t+1) s,bR4 2 59 c d e f m n 0 o] ?_
 refine xd 73 [vI2 u x y z,vI2 e0 f0 g0 h0] 39 iO _ (fun w R Q=>(ZbA _ _ ((((p).num)*(((q).den:Int)))+(((q).num)*(((p).den:Int)))) ((((p).den:Int))*(((q).den:Int))) _ Q.1.1.1.2 Q.2 (nfit (mla (a:=200000) (mlm S1 J) (mlm S2 I)) qD) (nfit (mlm I J) qD) (nC (denI p) (denI q))).mono (fun _ _ h=>gY (by rw[ZdP] at h;exact h))) fun⟨i0,j0,k0,n0,o0,p0,q0,r0⟩=>?_
 refine xf 1 [(4,.p 4 0)] [bR4 4 59 i0 j0 k0 n0 o0 p0 q0 r0,bR4 4 59 false none 0 0 false none 0 0,bR4 3 59 g i j l t1 r (t+1) s,bR4 2 59 c d e f m n 0 o] ?_
 refine xz (xe (zA (zG ?_)))
 refine zE (v:=.agg #[.bool i0,.slice j0 k0 n0,.bool o0,.slice p0 q0 r0]) qK fun w' R Q=>?_
 exact⟨_,rfl,Q.2,R⟩
theorem Zni (a b:Value)(p q:Rat)(w:World)(ha:zU w a p)(c:zU w b q)(d:gL p)(e:gL q):yA 46 #[a,b] w (jE w (p+q)):=by
 by_cases f:p.den=1
 ·by_cases g:q.den=1
  ·exact ZjS a b p q w ha c d e f g
  exact ZjU a b p q w ha c d e f g
 exact ZjT a b p q w ha c d e f
theorem ZjV (a b:Value)(p q:Rat)(w:World)(ha:zU w a p)(x:zU w b q)(A:gL p)(B:gL q)(y:p.den=1)(z:q.den=1) :
 yA 47 #[a,b] w (jE w (p*q)):=by
 obtain⟨c,d,e,f,k,l,D,m,rfl⟩:=ha.shp
 obtain rfl:D=0:=ha.den.len0 (jC y)
 obtain⟨g,h,i,j,t1,n,E,o,rfl⟩:=x.shp
 obtain rfl:E=0:=x.den.len0 (jC z)
 have F:ml p.num.natAbs≤100000:=A.1
 have G:ml q.num.natAbs≤100000:=B.1
 have H:ml ((p.den:Nat):Int).natAbs≤100000:=mlc A.2
 have I:ml ((q.den:Nat):Int).natAbs≤100000:=mlc B.2
 refine zQ (Φ:=fun w=>(zU w (.agg #[.bool c,.slice d e f,.bool k,.slice l 0 m]) (p)∧zU w (.agg #[.bool g,.slice h i j,.bool t1,.slice n 0 o]) (q))) func47 rfl qK (fun w' C=>⟨ha.ext C,x.ext C⟩) ?_
 refine zC (zB (xr 3 [(2,.p 2 0),(3,.p 3 0),(4,.p 4 0)] [bR4 4 59 false none 0 0 false none 0 0,bR4 3 59 g h i j t1 n 0 o,bR4 2 59 c d e f k l 0 m] ?_))
 refine xe (zA (zC (zC (zB (xr 12 [(2,.p 2 0),(3,.p 3 0),(4,.p 4 0),yB 16 true] [bR4 4 59 false none 0 0 false none 0 0,bR4 3 59 g h i j t1 n 0 o,bR4 2 59 c d e f k l 0 m] ?_)))))
 refine xe (zA (xa (zC (zB (xr 4 [(2,.p 2 0),(3,.p 3 0),(4,.p 4 0),eI2 18 c d e f,eI2 20 g h i j] [bR4 4 59 false none 0 0 false none 0 0,bR4 3 59 g h i j t1 n 0 o,bR4 2 59 c d e f k l 0 m] ?_)))))
 refine xc 74 [vI2 c d e f,vI2 g h i j] 21 wR _ (fun w R Q=>yM wE (gH _ _ ((p).num) ((q).num) _ Q.1.num Q.2.num (nfit F qD) (nfit G qD))) fun⟨r,s,t,u⟩=>?_
 refine xr 2 [(2,.p 2 0),(3,.p 3 0),(4,.p 4 0)] [bR4 4 59 r s t u false none 0 0,bR4 3 59 g h i j t1 n 0 o,bR4 2 59 c d e f k l 0 m] ?_
 refine xe (zA (zG (zM ?_)))
 refine zE (v:=.agg #[.bool r,.slice s t u,.bool false,.slice none 0 0]) qK fun w' R Q=>?_
 exact⟨_,rfl,zU.of (by rw[(Zdh y z).1];exact Q.2) (by rw[jC (Zdh y z).2];exact (zZ.nil _)),R⟩
theorem ZjW (a b:Value)(p q:Rat)(w:World)(ha:zU w a p)(X:zU w b q)(Y:gL p)(Z:gL q)(h1:¬ p.den=1) :
 yA 47 #[a,b] w (jE w (p*q)):=by
 obtain⟨c,d,e,f,m,n,m0,o,rfl⟩:=ha.shp
 obtain⟨r,rfl⟩:∃ k,m0=k+1:=⟨m0-1,by have:=ha.den.lenp (aK h1);omega⟩
 obtain⟨g,i,j,l,t1,s,t,u,rfl⟩:=X.shp
 have S1:ml p.num.natAbs≤100000:=Y.1
 have S2:ml q.num.natAbs≤100000:=Z.1
 have S3:ml ((p.den:Nat):Int).natAbs≤100000:=mlc Y.2
 have S4:ml ((q.den:Nat):Int).natAbs≤100000:=mlc Z.2
 refine zQ (Φ:=fun w=>(zU w (.agg #[.bool c,.slice d e f,.bool m,.slice n (r+1) o]) (p)∧zU w (.agg #[.bool g,.slice i j l,.bool t1,.slice s t u]) (q))) func47 rfl qK (fun w' hf=>⟨ha.ext hf,X.ext hf⟩) ?_
 refine zC (zB (xr 3 [(2,.p 2 0),(3,.p 3 0),(4,.p 4 0)] [bR4 4 59 false none 0 0 false none 0 0,bR4 3 59 g i j l t1 s t u,bR4 2 59 c d e f m n (r+1) o] ?_))
 refine xe (zA (zC (zC (zB (xr 12 [(2,.p 2 0),(3,.p 3 0),(4,.p 4 0),yB 16 false] [bR4 4 59 false none 0 0 false none 0 0,bR4 3 59 g i j l t1 s t u,bR4 2 59 c d e f m n (r+1) o] ?_)))))
 refine xe (zA (xb (zI (zA (zC ?_)))))
 refine xN 12 qK qK zO ?_
 refine xf 4 [(2,.p 2 0),(3,.p 3 0),(4,.p 4 0),eI2 24 c d e f,eI2 26 g i j l] [bR4 4 59 false none 0 0 false none 0 0,bR4 3 59 g i j l t1 s t u,bR4 2 59 c d e f m n (r+1) o] ?_
 refine xd 74 [vI2 c d e f,vI2 g i j l] 27 wR _ (fun w R Q=>yM wE (gH _ _ ((p).num) ((q).num) _ Q.1.num Q.2.num (nfit S1 qD) (nfit S2 qD))) fun⟨x,y,z,A⟩=>?_
 refine xf 1 [(3,.p 3 0),(4,.p 4 0),eI2 27 x y z A,eR4 28 c d e f m n (r+1) o] [bR4 4 59 false none 0 0 false none 0 0,bR4 3 59 g i j l t1 s t u,bR4 2 59 c d e f m n (r+1) o] ?_
 refine xd 75 [vR4 c d e f m n (r+1) o] 29 wR _ (fun w R Q=>yM wE (iH _ (p) _ Q.1.1)) fun⟨B,C,D,E⟩=>?_
 refine xf 1 [(4,.p 4 0),eI2 27 x y z A,eI2 29 B C D E,eR4 30 g i j l t1 s t u] [bR4 4 59 false none 0 0 false none 0 0,bR4 3 59 g i j l t1 s t u,bR4 2 59 c d e f m n (r+1) o] ?_
 refine xd 75 [vR4 g i j l t1 s t u] 31 wR _ (fun w R Q=>yM wE (iH _ (q) _ Q.1.1.2)) fun⟨F,G,H,I⟩=>?_
 refine xf 0 [(4,.p 4 0),eI2 27 x y z A,eI2 29 B C D E,eI2 31 F G H I] [bR4 4 59 false none 0 0 false none 0 0,bR4 3 59 g i j l t1 s t u,bR4 2 59 c d e f m n (r+1) o] ?_
 refine xd 74 [vI2 B C D E,vI2 F G H I] 32 wR _ (fun w R Q=>yM wE (gH _ _ (((p).den:Int)) (((q).den:Int)) _ Q.1.2 Q.2 (nfit S3 qD) (nfit S4 qD))) fun⟨J,K,L,M⟩=>?_
 refine xf 0 [(4,.p 4 0),eI2 27 x y z A,eI2 32 J K L M] [bR4 4 59 false none 0 0 false none 0 0,bR4 3 59 g i j l t1 s t u,bR4 2 59 c d e f m n (r+1) o] ?_
 refine xd 73 [vI2 x y z A,vI2 J K L M] 33 iO _ (fun w R Q=>(ZbA _ _ (((p).num)*((q).num)) ((((p).den:Int))*(((q).den:Int))) _ Q.1.1.1.2 Q.2 (nfit (mlm S1 S2) qD) (nfit (mlm S3 S4) qD) (nC (denI p) (denI q))).mono (fun _ _ h=>gY (by rw[ZdQ] at h;exact h))) fun⟨N,O,P,S,T,U,V,W⟩=>?_
 refine xf 1 [(4,.p 4 0)] [bR4 4 59 N O P S T U V W,bR4 4 59 false none 0 0 false none 0 0,bR4 3 59 g i j l t1 s t u,bR4 2 59 c d e f m n (r+1) o] ?_
 refine xz (xe (zA (zG ?_)))
 refine zE (v:=.agg #[.bool N,.slice O P S,.bool T,.slice U V W]) qK fun w' R Q=>?_
 exact⟨_,rfl,Q.2,R⟩
theorem ZjX (a b:Value)(p q:Rat)(w:World)(ha:zU w a p)(W:zU w b q)(X:gL p)(Y:gL q)(h1:p.den=1)(h2:¬ q.den=1) :
 yA 47 #[a,b] w (jE w (p*q)):=by
 obtain⟨c,d,e,f,m,n,m0,o,rfl⟩:=ha.shp
 obtain rfl:m0=0:=ha.den.len0 (jC h1)
 obtain⟨g,i,j,l,t1,r,Z,s,rfl⟩:=W.shp
 obtain⟨t,rfl⟩:∃ k,Z=k+1:=⟨Z-1,by have:=W.den.lenp (aK h2);omega⟩
 have S1:ml p.num.natAbs≤100000:=X.1
 have S2:ml q.num.natAbs≤100000:=Y.1
 have S3:ml ((p.den:Nat):Int).natAbs≤100000:=mlc X.2
 have S4:ml ((q.den:Nat):Int).natAbs≤100000:=mlc Y.2
 refine zQ (Φ:=fun w=>(zU w (.agg #[.bool c,.slice d e f,.bool m,.slice n 0 o]) (p)∧zU w (.agg #[.bool g,.slice i j l,.bool t1,.slice r (t+1) s]) (q))) func47 rfl qK (fun w' hf=>⟨ha.ext hf,W.ext hf⟩) ?_
 refine zC (zB (xr 3 [(2,.p 2 0),(3,.p 3 0),(4,.p 4 0)] [bR4 4 59 false none 0 0 false none 0 0,bR4 3 59 g i j l t1 r (t+1) s,bR4 2 59 c d e f m n 0 o] ?_))
 refine xe (zA (zC (zC (zB (xr 12 [(2,.p 2 0),(3,.p 3 0),(4,.p 4 0),yB 16 false] [bR4 4 59 false none 0 0 false none 0 0,bR4 3 59 g i j l t1 r (t+1) s,bR4 2 59 c d e f m n 0 o] ?_)))))
 refine xe (zA (xb (zI (zA (zC ?_)))))
 refine xN 12 qK qK zO ?_
 refine xf 4 [(2,.p 2 0),(3,.p 3 0),(4,.p 4 0),eI2 24 c d e f,eI2 26 g i j l] [bR4 4 59 false none 0 0 false none 0 0,bR4 3 59 g i j l t1 r (t+1) s,bR4 2 59 c d e f m n 0 o] ?_
 refine xd 74 [vI2 c d e f,vI2 g i j l] 27 wR _ (fun w R Q=>yM wE (gH _ _ ((p).num) ((q).num) _ Q.1.num Q.2.num (nfit S1 qD) (nfit S2 qD))) fun⟨u,x,y,z⟩=>?_
 refine xf 1 [(3,.p 3 0),(4,.p 4 0),eI2 27 u x y z,eR4 28 c d e f m n 0 o] [bR4 4 59 false none 0 0 false none 0 0,bR4 3 59 g i j l t1 r (t+1) s,bR4 2 59 c d e f m n 0 o] ?_
 refine xd 75 [vR4 c d e f m n 0 o] 29 wR _ (fun w R Q=>yM wE (iH _ (p) _ Q.1.1)) fun⟨A,B,C,D⟩=>?_
 refine xf 1 [(4,.p 4 0),eI2 27 u x y z,eI2 29 A B C D,eR4 30 g i j l t1 r (t+1) s] [bR4 4 59 false none 0 0 false none 0 0,bR4 3 59 g i j l t1 r (t+1) s,bR4 2 59 c d e f m n 0 o] ?_
 refine xd 75 [vR4 g i j l t1 r (t+1) s] 31 wR _ (fun w R Q=>yM wE (iH _ (q) _ Q.1.1.2)) fun⟨E,F,G,H⟩=>?_
 refine xf 0 [(4,.p 4 0),eI2 27 u x y z,eI2 29 A B C D,eI2 31 E F G H] [bR4 4 59 false none 0 0 false none 0 0,bR4 3 59 g i j l t1 r (t+1) s,bR4 2 59 c d e f m n 0 o] ?_
 refine xd 74 [vI2 A B C D,vI2 E F G H] 32 wR _ (fun w R Q=>yM wE (gH _ _ (((p).den:Int)) (((q).den:Int)) _ Q.1.2 Q.2 (nfit S3 qD) (nfit S4 qD))) fun⟨I,J,K,L⟩=>?_
 refine xf 0 [(4,.p 4 0),eI2 27 u x y z,eI2 32 I J K L] [bR4 4 59 false none 0 0 false none 0 0,bR4 3 59 g i j l t1 r (t+1) s,bR4 2 59 c d e f m n 0 o] ?_
 refine xd 73 [vI2 u x y z,vI2 I J K L] 33 iO _ (fun w R Q=>(ZbA _ _ (((p).num)*((q).num)) ((((p).den:Int))*(((q).den:Int))) _ Q.1.1.1.2 Q.2 (nfit (mlm S1 S2) qD) (nfit (mlm S3 S4) qD) (nC (denI p) (denI q))).mono (fun _ _ h=>gY (by rw[ZdQ] at h;exact h))) fun⟨M,N,O,P,S,T,U,V⟩=>?_
 refine xf 1 [(4,.p 4 0)] [bR4 4 59 M N O P S T U V,bR4 4 59 false none 0 0 false none 0 0,bR4 3 59 g i j l t1 r (t+1) s,bR4 2 59 c d e f m n 0 o] ?_
 refine xz (xe (zA (zG ?_)))
 refine zE (v:=.agg #[.bool M,.slice N O P,.bool S,.slice T U V]) qK fun w' R Q=>?_
 exact⟨_,rfl,Q.2,R⟩
theorem Znj (a b:Value)(p q:Rat)(w:World)(ha:zU w a p)(c:zU w b q)(d:gL p)(e:gL q):yA 47 #[a,b] w (jE w (p*q)):=by
 by_cases f:p.den=1
 ·by_cases g:q.den=1
  ·exact ZjV a b p q w ha c d e f g
  exact ZjX a b p q w ha c d e f g
 exact ZjW a b p q w ha c d e f
end Go.Proofs.YtenchljfmfgeoaaGreatDoor
