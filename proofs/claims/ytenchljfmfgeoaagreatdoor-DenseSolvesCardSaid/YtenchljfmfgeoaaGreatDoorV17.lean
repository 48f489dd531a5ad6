/-
 My texts.
-/
import Derived.Test.YtenchljfmfgeoaaGreatDoorV15
set_option maxRecDepth 100000
set_option maxHeartbeats 8000000
namespace Go.Proofs.YtenchljfmfgeoaaGreatDoor
open Go.RowKit Tryz
noncomputable def win (o n:Nat) (zs:List Nat):Nat:=val W64 ((zs.drop o).take (n+1))
theorem aK {o n:Nat}{zs:qN}(h:o≤zs.length):val W64 (zs.take (o+n+1))=val W64 (zs.take o)+W64^o*win o n zs:=by
 unfold win
 rw[show o+n+1=o+(n+1) by omega,List.take_add,kM,uQ,uY h]
theorem Zm3 {o n:Nat}{zs:qN}(a:Dig W64 zs):win o n zs<W64^(n+1):=by
 have:=wA ((a.drop o).take (n+1))
 refine uT this (vA zJ (by rw[uQ];exact Nat.min_le_left _ _))
def WinR (o n:Nat) (zs0 zs:List Nat):Prop:=zs.length=zs0.length∧Dig W64 zs∧zs.take o=zs0.take o∧zs.drop (o+n+1)=zs0.drop (o+n+1)
theorem WinR.start {o n:Nat}{zs0:qN}(h:Dig W64 zs0):WinR o n zs0 zs0:=⟨rfl,h,rfl,rfl⟩
theorem Zf4 {o a b c d x:Nat}(h:x+W64^o*a+W64^o*b=x+W64^o*c+W64^o*d):a+b=c+d:=by
 have e:W64^o*(a+b)=W64^o*(c+d):=by rw[uL,uL];omega
 exact Nat.eq_of_mul_eq_mul_left (uX zJ) e
theorem ZdQ.win {a c ys zs:qN}{q o b:Nat}(h:ZdQ c ys q o zs b)(p:o≤a.length)(k:WinR o ys.length a c):WinR o ys.length a zs∧b≤1∧win o ys.length zs+q*val W64 ys=win o ys.length c+W64^(ys.length+1)*b:=by
 obtain⟨f,g,i,d,j,e⟩:=h
 obtain⟨l,r,m,n⟩:=k
 refine⟨⟨f.trans l,g,d.trans m,j.trans n⟩,i,?_⟩
 rw[aK qO,aK qO,d,show o+ys.length+1=o+(ys.length+1) by omega,uR,uH (W64^o)] at e
 exact Zf4 e
theorem ZdR.win {a b ys zs:qN}{o c:Nat}(h:ZdR b ys o zs c)(p:o≤a.length)(k:WinR o ys.length a b):WinR o ys.length a zs∧c≤1∧win o ys.length zs+W64^(ys.length+1)*c=win o ys.length b+val W64 ys:=by
 obtain⟨f,g,i,d,j,e⟩:=h
 obtain⟨l,q,m,n⟩:=k
 refine⟨⟨f.trans l,g,d.trans m,j.trans n⟩,i,?_⟩
 rw[aK qO,aK qO,d,show o+ys.length+1=o+(ys.length+1) by omega,uR,uH (W64^o)] at e
 exact Zf4 e
theorem Zqb {o n:Nat}{zs:qN}{u0 u1 u2:Nat}(e:2≤n)(f:o+n<zs.length)(c:zs[o+n]?.getD 0=u0)(a:zs[o+(n-1)]?.getD 0=u1)(b:zs[o+(n-2)]?.getD 0=u2)(d:Dig W64 zs) :
 ∃ l,l<W64^(n-2)∧win o n zs=l+W64^(n-2)*(u2+W64*(u1+W64*u0)):=by
 obtain⟨m,rfl⟩:∃ m,n=m+2:=⟨n-2,qO⟩
 refine⟨val W64 ((zs.drop o).take m),?_,?_⟩
 ·have:=wA ((d.drop o).take m)
  rw[uQ,tL,uY qO] at this
  exact this
 unfold win
 simp only[show m+2-1=m+1 by omega,show m+2-2=m by omega] at a b ⊢
 have g:∀ j,(zs.drop o)[j]?.getD 0=zs[o+j]?.getD 0:=fun j=>by rw[vN]
 rw[lJ (m+2),lJ (m+1),lJ m,g,g,g,c,a,b]
 simp only[uP,uL,uH,tY]
theorem Zqc {n:Nat}{ys:qN}{t v2:Nat}(c:2≤n)(d:ys.length=n)(a:ys[n-1]?.getD 0=t)(b:ys[n-2]?.getD 0=v2):∃ l,val W64 ys=l+W64^(n-2)*(v2+W64*t):=by
 obtain⟨m,rfl⟩:∃ m,n=m+2:=⟨n-2,qO⟩
 refine⟨val W64 (ys.take m),?_⟩
 simp only[show m+2-1=m+1 by omega,show m+2-2=m by omega] at a b ⊢
 have:=lJ (B:=W64) (xs:=ys) (m+1)
 rw[uA qO,lJ m,a,b,uP] at this
 rw[this]
 simp only[uL,uH,tY]
theorem ZoG {B l U V a u0 u1 u2 v2 t:Nat}(f:l<B)(g:U=l+B*(u2+W64*(u1+W64*u0)))(b:V=a+B*(v2+W64*t))(h:u2<W64)(c:0<t):U/V≤divQ u0 u1 t:=by
 unfold divQ
 rw[qM c]
 have i:=pC U V
 generalize U/V=q at *
 have j:q*(B*(W64*t))≤q*V:=uI _ (by rw[b,uL];omega)
 have d:B*(q*(W64*t))<B*(u2+W64*(u1+W64*u0)+1):=by
  rw[tE,uL B (_+_) 1];omega
 have k:=sI d
 have e:W64*(q*t)<W64*(u1+W64*u0+1):=by
  rw[tE,uL W64 (_+_) 1];omega
 have m:=sI e
 rw[uF u0];omega
theorem Zf5 {B l U V b u0 u1 u2 v2 t g r:Nat}(j:l<B)(k:U=l+B*(u2+W64*(u1+W64*u0)))(c:V=b+B*(v2+W64*t))(d:r+g*t=u0*W64+u1)(h:r*W64+u2<g*v2)(a:0<V):U/V+1≤g:=by
 rw[Nat.add_one_le_iff,vR a]
 have f:u2+W64*(u1+W64*u0)+1≤g*(v2+W64*t):=by
  have e:W64*(r+g*t)=W64*(u1+W64*u0):=by rw[d,vU,uF u0]
  rw[uL g,tE g]
  rw[uL W64 r] at e
  rw[uF r] at h
  omega
 have i:B*(u2+W64*(u1+W64*u0)+1)≤g*V:=by
  refine uB (uI B f) ?_
  rw[tE,c]
  exact uI _ qO
 rw[uL B (_+_) 1] at i
 omega
theorem Zm4 {U V:Nat}(h:U<W64*V):U/V≤W64-1:=by
 have a:0<V:=sR (fun e=>by subst e;omega)
 have:=(vR a).2 h
 omega
theorem ZkC {hi lo r u g v:Nat}(h:lo+W64*hi=g*v)(b:¬ hi<r)(c:hi=r→¬ lo≤u)(d:u<W64):r*W64+u<g*v:=by
 rw[←h,uF r]
 rcases qW hi r with a|a|a
 ·exact absurd a b
 ·have:=c a;subst a;omega
 have:=uI W64 a
 rw[Nat.mul_succ] at this
 omega
def CorR (U V P:Nat) (g b wn:Nat):Prop:=b≤1∧wn<P∧U/V≤g∧wn+g*V=U+P*b
theorem CorR.pos {U V P g b a:Nat}(h:CorR U V P g b a)(c:b=1)(d:0<V):U/V+1≤g:=by
 obtain⟨_,e,_,f⟩:=h
 subst c
 rw[Nat.add_one_le_iff,vR d]
 omega
theorem CorR.step {U V P g b d wn' c:Nat}(h:CorR U V P g b d)(e:b=1)(i:0<V)(l:c≤1)(j:wn'<P)(f:wn'+P*c=d+V):CorR U V P (g-1) (1-c) wn':=by
 have m:=h.pos e i
 obtain⟨n,o,p,a⟩:=h
 subst e
 unfold CorR
 generalize U/V=q at *
 refine⟨qO,j,qO,?_⟩
 obtain⟨k,rfl⟩:∃ k,g=k+1:=⟨g-1,qO⟩
 rw[tG]
 rw[uW] at a
 rcases (by omega:c=0∨c=1) with rfl|rfl
 ·simp at f a ⊢;omega
 simp at f a ⊢;omega
theorem CorR.done {U V P g a:Nat}(h:CorR U V P g 0 a)(b:0<V):g=U/V∧a=U%V:=by
 obtain⟨d,f,i,c⟩:=h
 rw[tP,tD] at c
 have j:g≤U/V:=by rw[qM b];omega
 have e:g=U/V:=qO
 refine⟨e,?_⟩
 have:=vW U V
 rw[←e,uF] at this
 omega
theorem ZrM:(18446744073709551615:Int)=((W64-1:Nat):Int):=by rw[zK];rfl
theorem Zpw {a b:Nat}(h:¬ a+b<W64)(ha:a<W64)(c:b<W64):IntKind.u64.wrap ((a:Int)+(b:Int))=((a+b-W64:Nat):Int):=by
 rw[IntKind.wrap_u64]
 rw[zK] at *
 omega
theorem Zqd {c:Nat}(h:c≤1):(!(((c:Nat):Int) == 1))=(((1-c:Nat):Int) == 1):=by
 rcases (by omega:c=0∨c=1) with rfl|rfl<;>rfl
def Zra (b o:Nat) (zs0 ys:List Nat) (w:World) (e:Ending) (w':World):Prop:=∃ zs,e=.returned (.int .u64 ((win o ys.length zs0/val W64 ys:Nat):Int))∧(WinR o ys.length zs0 zs∧win o ys.length zs=win o ys.length zs0%val W64 ys)∧Fr (fun i=>i=b) w w'∧Own .u64 141 w' b zs
theorem Zf6 (b c o:Nat)(g ys:qN)(A:qA)(c2:Nat)(w:World)(hO:Own .u64 141 w b g)(hY:zE .u64 w A ys)(hA:∀ a,A=some a→a.block≠b)(ho:o+ys.length<g.length)(hl:g.length≤4294967296)(O:Dig W64 g)(hy:Dig W64 ys)(q0:2≤ys.length)(C:0<val W64 ys)(r0:win o ys.length g<W64*val W64 ys) :
 yA 195 #[.slice (some ⟨b,o,none⟩) (ys.length+1) c,.slice A ys.length c2] w (Zra b o g ys w):=by
 obtain⟨u2,D⟩:=yE (g[o+(ys.length-2)]?.getD 0)
 refine Zan (fun i=>i=b) (Φ:=fun w=>(Own .u64 141 w b g∧zE .u64 w A ys)) func195 rfl qK (fun w' hf=>⟨hO.ext hf,hY.ext hf⟩) ?_
 refine yY (xq 1 [yU 4 0] [] ?_)
 refine yZ (yY (xq 3 [yJ 5 ((ys.length:Nat):Int)] [] ?_))
 refine yZ (yY (xq 3 [eS1 14 A ys.length c2,yJ 16 (IntKind.i64.wrap (((ys.length:Nat):Int)-1))] [] ?_))
 rw[yW (((ys.length:Nat):Int)-1) (((ys.length-1:Nat):Int)) qO]
 refine xqk 17 (atA A (ys.length-1)) (fun w R Q=>wJ (t:=107) (e:=141) (x:=.tmp 14) (ix:=.tmp 16) (len:=ys.length) (cap:=c2) (i:=ys.length-1) ((Q.2).ne (j:=ys.length-1) qO) qO) ?_
 obtain⟨x10,q⟩:=yE (ys[ys.length-1]?.getD 0)
 refine xqk 18 (yX (x10:Int)) (fun w R Q=>by rw[←q];exact lG (t:=141) (x:=.tmp 17) (Q.2) (j:=ys.length-1) qO) ?_
 refine xq 1 [yU 6 (x10:Int)] [] ?_
 refine yZ (yY (xq 1 [yU 7 18446744073709551615] [] ?_))
 rw[ZrM]
 refine xe (zA ?_)
 refine ZiH (fun P S=>∃ (f:Nat),P=ofL [eS1 0 (some ⟨b,o,none⟩) (ys.length+1) c,eS1 1 A ys.length c2,yU 7 (f:Int)] []∧S=(fun w=>(Own .u64 141 w b (g)∧zE .u64 w A (ys)))∧(win o ys.length g/val W64 ys≤f)∧(f<W64)) ?_ ?_
 ·refine yY (xq 2 [eS1 19 (some ⟨b,o,none⟩) (ys.length+1) c,yJ 20 ((ys.length:Nat):Int)] [] ?_)
  refine xqk 21 (.pointer (some ⟨b,o+ys.length,none⟩)) (fun w R Q=>jV (t:=107) (e:=141) (x:=.tmp 19) (ix:=.tmp 20) (len:=(ys.length+1)) (cap:=c) (i:=ys.length) qO) ?_
  obtain⟨k,E⟩:=yE (g[o+ys.length]?.getD 0)
  refine xqk 22 (yX (k:Int)) (fun w R Q=>by rw[←E];exact gP (t:=141) (x:=.tmp 21) (Q.1) (j:=o+ys.length) qO) ?_
  refine xq 2 [yB 24 (decide ((k:Int)<(x10:Int)))] [] ?_
  refine xe (zA ?_)
  refine yQ ((decide ((k:Int)<(x10:Int)))) (fun F=>?_) fun F=>?_
  ·have a0:=uC F
   refine yY (xq 1 [yU 8 0] [] ?_)
   refine yZ (zC ?_)
   refine dM 16 [0,0,3,7,0,0,32,112,240,0,1023,2047,4095,4095,8191,32767] qK qK zL ?_
   refine xqf 2 [eS1 26 (some ⟨b,o,none⟩) (ys.length+1) c,yJ 27 ((ys.length:Nat):Int)] [] ?_
   refine xqj 28 (.pointer (some ⟨b,o+ys.length,none⟩)) (fun w Q=>jV (t:=107) (e:=141) (x:=.tmp 26) (ix:=.tmp 27) (len:=(ys.length+1)) (cap:=c) (i:=ys.length) qO) ?_
   obtain⟨l0,T⟩:=yE (g[o+ys.length]?.getD 0)
   refine xqj 29 (yX (l0:Int)) (fun w Q=>by rw[←T];exact gP (t:=141) (x:=.tmp 28) (Q.1) (j:=o+ys.length) qO) ?_
   obtain rfl:k=l0:=by rw[←E,T]
   refine xqf 3 [eS1 30 (some ⟨b,o,none⟩) (ys.length+1) c,yJ 32 (IntKind.i64.wrap (((ys.length:Nat):Int)-1))] [] ?_
   rw[yW (((ys.length:Nat):Int)-1) (((ys.length-1:Nat):Int)) qO]
   refine xqj 33 (.pointer (some ⟨b,o+(ys.length-1),none⟩)) (fun w Q=>jV (t:=107) (e:=141) (x:=.tmp 30) (ix:=.tmp 32) (len:=(ys.length+1)) (cap:=c) (i:=ys.length-1) qO) ?_
   obtain⟨l,B⟩:=yE (g[o+(ys.length-1)]?.getD 0)
   refine xqj 34 (yX (l:Int)) (fun w Q=>by rw[←B];exact gP (t:=141) (x:=.tmp 33) (Q.1) (j:=o+(ys.length-1)) qO) ?_
   refine xqf 1 [yU 35 (x10:Int)] [] ?_
   refine xqd 174 [yX (k:Int), yX (l:Int), yX (x10:Int)] 36 (fun _:Unit=>.tuple #[yX ((divQ k l x10:Nat):Int), yX ((divR k l x10:Nat):Int)]) _ (fun w R Q=>yN (Zhw k l x10 _ qO (by rw[←q];exact hy.getD zJ _) (by rw[←B];exact O.getD zJ _))) fun xx=>?_
   refine xqf 5 [yU 7 ((divQ k l x10:Nat):Int),yU 8 ((divR k l x10:Nat):Int)] [] ?_
   refine xz (yZ (zP ?_))
   obtain⟨lw,b0,hU⟩:=Zqb (o:=o) (n:=ys.length) qO qO E B D O
   obtain⟨y2,c0⟩:=yE (ys[ys.length-2]?.getD 0)
   obtain⟨vl,hV⟩:=Zqc (ys:=ys) q0 rfl q c0
   refine yC [eS1 0 (some ⟨b,o,none⟩) (ys.length+1) c,eS1 1 A ys.length c2,yU 4 0,yJ 5 ((ys.length:Nat):Int),yU 6 (x10:Int),yU 7 (((divQ k l x10):Nat):Int),yU 8 (((divR k l x10):Nat):Int)] [] (fun w=>(Own .u64 141 w b (g)∧zE .u64 w A (ys))) (fun w Q=>⟨Q.1.1,Q.1.2⟩) ?_
   have m0:0<x10:=qO
   refine xU (fun nn P S=>∃ (f h:Nat),P=ofL [eS1 0 (some ⟨b,o,none⟩) (ys.length+1) c,eS1 1 A ys.length c2,yU 4 0,yJ 5 ((ys.length:Nat):Int),yU 6 (x10:Int),yU 7 (f:Int),yU 8 (h:Int)] []∧S=(fun w=>(Own .u64 141 w b (g)∧zE .u64 w A (ys)))∧(win o ys.length g/val W64 ys≤f)∧(f<W64)∧(h+f*x10=k*W64+l)∧(h<W64)∧nn=(1+f)) ((1+(divQ k l x10))) ⟨(divQ k l x10),(divR k l x10),rfl,rfl,(ZoG b0 hU hV (by rw[←D];exact O.getD zJ _) m0),(Zgx qO (by rw[←B];exact O.getD zJ _)),(by rw[vU];exact Zcq _ _ _),(rY (ZbY _ _ m0) (by rw[←q];exact hy.getD zJ _)),rfl⟩ ?_
   rintro nn P S ⟨f,h,rfl,rfl,hq,y,hr,s0,rfl⟩
   refine zP (yY (xq 4 [yU 40 (f:Int),eS1 41 A ys.length c2,yJ 43 (IntKind.i64.wrap (((ys.length:Nat):Int)-2))] [] ?_))
   rw[yW (((ys.length:Nat):Int)-2) (((ys.length-2:Nat):Int)) qO]
   refine xqk 44 (atA A (ys.length-2)) (fun w R Q=>wJ (t:=107) (e:=141) (x:=.tmp 41) (ix:=.tmp 43) (len:=ys.length) (cap:=c2) (i:=ys.length-2) ((Q.2).ne (j:=ys.length-2) qO) qO) ?_
   obtain⟨n0,U⟩:=yE (ys[ys.length-2]?.getD 0)
   refine xqk 45 (yX (n0:Int)) (fun w R Q=>by rw[←U];exact lG (t:=141) (x:=.tmp 44) (Q.2) (j:=ys.length-2) qO) ?_
   obtain rfl:y2=n0:=by rw[←c0,U]
   refine xqc 161 [yX (f:Int), yX (y2:Int)] 46 (fun _:Unit=>.tuple #[yX ((wI f y2:Nat):Int), yX ((xA f y2:Nat):Int)]) _ (fun w R Q=>yN (ZdJ f y2 _ y (by rw[←c0];exact hy.getD zJ _))) fun xx=>?_
   refine xq 5 [yU 9 ((wI f y2:Nat):Int),yU 10 ((xA f y2:Nat):Int)] [] ?_
   refine yZ (zC (yY (xq 4 [yB 52 (decide (((wI f y2:Nat):Int)<(h:Int)))] [] ?_)))
   rcases bl2 ((decide (((wI f y2:Nat):Int)<(h:Int)))) with s|s
   ·rw[s]
    have d0:=uC s
    refine xq 13 [yB 65 true] [] ?_
    refine yZ (xa (xO (zG ?_)))
    refine Zeh qK ?_
    refine zG (xW ?_)
    refine yP [eS1 0 (some ⟨b,o,none⟩) (ys.length+1) c,eS1 1 A ys.length c2,yU 7 (f:Int)] [] (fun w=>(Own .u64 141 w b (g)∧zE .u64 w A (ys))) (fun w Q=>⟨Q.1.1,Q.1.2⟩) ?_
    exact dU ⟨f,rfl,rfl,hq,y⟩
   rw[s]
   have d0:=uD s
   refine xq 4 [yB 56 ((((wI f y2:Nat):Int):Int) == (h:Int))] [] ?_
   rcases bl2 (((((wI f y2:Nat):Int):Int) == (h:Int))) with u|u
   ·rw[u]
    have G:=sO.1 u
    refine xq 4 [yU 57 ((xA f y2:Nat):Int),eS1 58 (some ⟨b,o,none⟩) (ys.length+1) c,yJ 60 (IntKind.i64.wrap (((ys.length:Nat):Int)-2))] [] ?_
    rw[yW (((ys.length:Nat):Int)-2) (((ys.length-2:Nat):Int)) qO]
    refine xqk 61 (.pointer (some ⟨b,o+(ys.length-2),none⟩)) (fun w R Q=>jV (t:=107) (e:=141) (x:=.tmp 58) (ix:=.tmp 60) (len:=(ys.length+1)) (cap:=c) (i:=ys.length-2) qO) ?_
    obtain⟨o0,V⟩:=yE (g[o+(ys.length-2)]?.getD 0)
    refine xqk 62 (yX (o0:Int)) (fun w R Q=>by rw[←V];exact gP (t:=141) (x:=.tmp 61) (Q.1.1) (j:=o+(ys.length-2)) qO) ?_
    obtain rfl:u2=o0:=by rw[←D,V]
    refine xq 3 [yB 65 (decide (((xA f y2:Nat):Int)≤(u2:Int)))] [] ?_
    refine xe (zA ?_)
    refine yQ ((decide (((xA f y2:Nat):Int)≤(u2:Int)))) (fun H=>?_) fun H=>?_
    ·have e0:=uC H
     refine xO (zG ?_)
     refine Zeh qK ?_
     refine zG (xW ?_)
     refine yP [eS1 0 (some ⟨b,o,none⟩) (ys.length+1) c,eS1 1 A ys.length c2,yU 7 (f:Int)] [] (fun w=>(Own .u64 141 w b (g)∧zE .u64 w A (ys))) (fun w Q=>⟨Q.1.1,Q.1.2⟩) ?_
     exact dU ⟨f,rfl,rfl,hq,y⟩
    have e0:=uD H
    refine zI (zA (zC ?_))
    have f0:h*W64+u2<f*y2:=ZkC (dG f y2) qO (fun _=>qO) (by rw[←D];exact O.getD zJ _)
    have r:=Zf5 b0 hU hV hr f0 C
    have p0:1≤f:=uB (Nat.le_add_left 1 _) r
    by_cases z:h+x10<W64
    ·refine zB (xq 2 [yU 67 (IntKind.u64.wrap ((f:Int)-1))] [] ?_)
     rw[show IntKind.u64.wrap (((f:Int)-1))=((f-1:Nat):Int) by rw[IntKind.wrap_u64];have:=zK;omega]
     refine xq 1 [yU 7 ((f-1:Nat):Int)] [] ?_
     refine yZ (yY (xq 3 [yU 70 (IntKind.u64.wrap ((h:Int)+(x10:Int)))] [] ?_))
     rw[Zf1 (a:=h) (b:=x10) z]
     refine xq 1 [yU 8 ((h+x10:Nat):Int)] [] ?_
     refine yZ (yY (xq 3 [yB 73 (decide (((h+x10:Nat):Int)<(x10:Int)))] [] ?_))
     refine xe (zA ?_)
     refine yQ ((decide (((h+x10:Nat):Int)<(x10:Int)))) (fun I=>?_) fun I=>?_
     ·have g0:=uC I
      exfalso;omega
     have g0:=uD I
     refine zI (xS ?_)
     refine yP [eS1 0 (some ⟨b,o,none⟩) (ys.length+1) c,eS1 1 A ys.length c2,yU 4 0,yJ 5 ((ys.length:Nat):Int),yU 6 (x10:Int),yU 7 (((f-1):Nat):Int),yU 8 (((h+x10):Nat):Int)] [] (fun w=>(Own .u64 141 w b (g)∧zE .u64 w A (ys))) (fun w Q=>⟨Q.1.1,Q.1.2⟩) ?_
     exact xH ((1+(f-1))) qO ⟨(f-1),(h+x10),rfl,rfl,(pS r),qO,(by obtain⟨m,rfl⟩:∃ m,f=m+1:=⟨f-1,qO⟩;rw[tG];rw[uW] at hr;omega),z,rfl⟩
    refine zB (xq 2 [yU 67 (IntKind.u64.wrap ((f:Int)-1))] [] ?_)
    rw[show IntKind.u64.wrap (((f:Int)-1))=((f-1:Nat):Int) by rw[IntKind.wrap_u64];have:=zK;omega]
    refine xq 1 [yU 7 ((f-1:Nat):Int)] [] ?_
    refine yZ (yY (xq 3 [yU 70 (IntKind.u64.wrap ((h:Int)+(x10:Int)))] [] ?_))
    rw[Zpw (a:=h) (b:=x10) z qO (by rw[←q];exact hy.getD zJ _)]
    refine xq 1 [yU 8 ((h+x10-W64:Nat):Int)] [] ?_
    refine yZ (yY (xq 3 [yB 73 (decide (((h+x10-W64:Nat):Int)<(x10:Int)))] [] ?_))
    refine xe (zA ?_)
    refine yQ ((decide (((h+x10-W64:Nat):Int)<(x10:Int)))) (fun J=>?_) fun J=>?_
    ·have h0:=uC J
     refine xO ?_
     refine Zeh qK ?_
     refine zG (xW ?_)
     refine yP [eS1 0 (some ⟨b,o,none⟩) (ys.length+1) c,eS1 1 A ys.length c2,yU 7 (((f-1):Nat):Int)] [] (fun w=>(Own .u64 141 w b (g)∧zE .u64 w A (ys))) (fun w Q=>⟨Q.1.1,Q.1.2⟩) ?_
     exact dU ⟨(f-1),rfl,rfl,(pS r),qO⟩
    have h0:=uD J
    exfalso;omega
   rw[u]
   have G:=lK u
   refine xq 9 [yB 65 false] [] ?_
   refine yZ (xb (zI (zA (zC ?_))))
   have f0:h*W64+u2<f*y2:=ZkC (dG f y2) qO (fun e=>absurd (show (wI f y2:Int)=h by rw[e]) G) (by rw[←D];exact O.getD zJ _)
   have r:=Zf5 b0 hU hV hr f0 C
   have p0:1≤f:=uB (Nat.le_add_left 1 _) r
   by_cases z:h+x10<W64
   ·refine zB (xq 2 [yU 67 (IntKind.u64.wrap ((f:Int)-1))] [] ?_)
    rw[show IntKind.u64.wrap (((f:Int)-1))=((f-1:Nat):Int) by rw[IntKind.wrap_u64];have:=zK;omega]
    refine xq 1 [yU 7 ((f-1:Nat):Int)] [] ?_
    refine yZ (yY (xq 3 [yU 70 (IntKind.u64.wrap ((h:Int)+(x10:Int)))] [] ?_))
    rw[Zf1 (a:=h) (b:=x10) z]
    refine xq 1 [yU 8 ((h+x10:Nat):Int)] [] ?_
    refine yZ (yY (xq 3 [yB 73 (decide (((h+x10:Nat):Int)<(x10:Int)))] [] ?_))
    refine xe (zA ?_)
    refine yQ ((decide (((h+x10:Nat):Int)<(x10:Int)))) (fun K=>?_) fun K=>?_
    ·have i0:=uC K
     exfalso;omega
    have i0:=uD K
    refine zI (xS ?_)
    refine yP [eS1 0 (some ⟨b,o,none⟩) (ys.length+1) c,eS1 1 A ys.length c2,yU 4 0,yJ 5 ((ys.length:Nat):Int),yU 6 (x10:Int),yU 7 (((f-1):Nat):Int),yU 8 (((h+x10):Nat):Int)] [] (fun w=>(Own .u64 141 w b (g)∧zE .u64 w A (ys))) (fun w Q=>⟨Q.1.1,Q.1.2⟩) ?_
    exact xH ((1+(f-1))) qO ⟨(f-1),(h+x10),rfl,rfl,(pS r),qO,(by obtain⟨m,rfl⟩:∃ m,f=m+1:=⟨f-1,qO⟩;rw[tG];rw[uW] at hr;omega),z,rfl⟩
   refine zB (xq 2 [yU 67 (IntKind.u64.wrap ((f:Int)-1))] [] ?_)
   rw[show IntKind.u64.wrap (((f:Int)-1))=((f-1:Nat):Int) by rw[IntKind.wrap_u64];have:=zK;omega]
   refine xq 1 [yU 7 ((f-1:Nat):Int)] [] ?_
   refine yZ (yY (xq 3 [yU 70 (IntKind.u64.wrap ((h:Int)+(x10:Int)))] [] ?_))
   rw[Zpw (a:=h) (b:=x10) z qO (by rw[←q];exact hy.getD zJ _)]
   refine xq 1 [yU 8 ((h+x10-W64:Nat):Int)] [] ?_
   refine yZ (yY (xq 3 [yB 73 (decide (((h+x10-W64:Nat):Int)<(x10:Int)))] [] ?_))
   refine xe (zA ?_)
   refine yQ ((decide (((h+x10-W64:Nat):Int)<(x10:Int)))) (fun L=>?_) fun L=>?_
   ·have j0:=uC L
    refine xO ?_
    refine Zeh qK ?_
    refine zG (xW ?_)
    refine yP [eS1 0 (some ⟨b,o,none⟩) (ys.length+1) c,eS1 1 A ys.length c2,yU 7 (((f-1):Nat):Int)] [] (fun w=>(Own .u64 141 w b (g)∧zE .u64 w A (ys))) (fun w Q=>⟨Q.1.1,Q.1.2⟩) ?_
    exact dU ⟨(f-1),rfl,rfl,(pS r),qO⟩
   have j0:=uD L
   exfalso;omega
  have a0:=uD F
  refine zI ?_
  refine yP [eS1 0 (some ⟨b,o,none⟩) (ys.length+1) c,eS1 1 A ys.length c2,yU 7 (((W64-1):Nat):Int)] [] (fun w=>(Own .u64 141 w b (g)∧zE .u64 w A (ys))) (fun w Q=>⟨Q.1,Q.2⟩) ?_
  exact dU ⟨(W64-1),rfl,rfl,Zm4 r0,(by have:=zJ;omega)⟩
 rintro P S ⟨f,rfl,rfl,hq,y⟩
 refine zC (yY (xq 3 [eS1 74 (some ⟨b,o,none⟩) (ys.length+1) c,eS1 75 A ys.length c2,yU 76 (f:Int)] [] ?_))
 refine ZcB (xs:=g) (α:=List Nat × Nat) 220 [.slice (some ⟨b,o,none⟩) (ys.length+1) c,.slice A ys.length c2, yX (f:Int)] (d:=77) (fun x=>.bool (((x.2:Nat):Int) == 1)) (fun x=>ZdQ g ys f o x.1 x.2) (fun x=>x.1) b (fun x w=>(Own .u64 141 w b (x.1)∧zE .u64 w A (ys))) (fun w Q=>Q.1) qO (Or.inr rfl) (fun w R Q=>ZiS b _ o _ ys A _ _ Q.1 Q.2 hA qO hl O hy _ y) (fun x w w' hp Q hF hO=>⟨hO,((Q.2).fr hF (fun a ha _=>hA a ha))⟩) fun x W=>?_
 obtain⟨X,M⟩:=x
 dsimp only at W
 have p:=W.win qO (WinR.start O)
 refine xr 1 [eS1 0 (some ⟨b,o,none⟩) (ys.length+1) c,eS1 1 A ys.length c2,yU 7 (f:Int),yB 11 ((M:Int) == 1)] [] ?_
 refine yZ (zP ?_)
 refine yC [eS1 0 (some ⟨b,o,none⟩) (ys.length+1) c,eS1 1 A ys.length c2,yU 7 (f:Int),yB 11 ((M:Int) == 1)] [] (fun w=>(Own .u64 141 w b (X)∧zE .u64 w A (ys))) (fun w Q=>⟨Q.1,Q.2⟩) ?_
 refine xU (fun nn P S=>∃ (f bb:Nat) (zs:List Nat),P=ofL [eS1 0 (some ⟨b,o,none⟩) (ys.length+1) c,eS1 1 A ys.length c2,yU 7 (f:Int),yB 11 ((bb:Int) == 1)] []∧S=(fun w=>(Own .u64 141 w b (zs)∧zE .u64 w A (ys)))∧(WinR o ys.length g zs)∧(CorR (win o ys.length g) (val W64 ys) (W64^(ys.length+1)) f bb (win o ys.length zs))∧(f<W64)∧nn=(1+f)) ((1+f)) ⟨f,M,X,rfl,rfl,p.1,⟨p.2.1,Zm3 p.1.2.1,hq,p.2.2⟩,y,rfl⟩ ?_
 rintro nn P S ⟨f,bb,zs,rfl,rfl,HW,HC,y,rfl⟩
 refine zC (yY (xq 1 [yB 78 ((bb:Int) == 1)] [] ?_))
 refine xe (zA ?_)
 refine yQ (((bb:Int) == 1)) (fun N=>?_) fun N=>?_
 ·have k0:=sO.1 N
  refine zI (zA (zC (zP ?_)))
  have r:=HC.pos qO C
  have p0:1≤f:=uB (Nat.le_add_left 1 _) r
  refine zB (xq 2 [eS1 81 (some ⟨b,o,none⟩) (ys.length+1) c,eS1 82 A ys.length c2] [] ?_)
  refine ZcB (xs:=zs) (α:=List Nat × Nat) 221 [.slice (some ⟨b,o,none⟩) (ys.length+1) c,.slice A ys.length c2] (d:=83) (fun x=>.bool (((x.2:Nat):Int) == 1)) (fun x=>ZdR zs ys o x.1 x.2) (fun x=>x.1) b (fun x w=>(Own .u64 141 w b (x.1)∧zE .u64 w A (ys))) (fun w Q=>Q.1) (by have:=HW.1;omega) (Or.inr rfl) (fun w R Q=>ZiT b _ o _ ys A _ _ Q.1 Q.2 hA (by rw[HW.1];omega) (by rw[HW.1];exact hl) HW.2.1 hy) (fun x w w' hp Q hF hO=>⟨hO,((Q.2).fr hF (fun a ha _=>hA a ha))⟩) fun x Y=>?_
  obtain⟨Z,v⟩:=x
  dsimp only at Y
  have p:=Y.win qO HW
  refine xr 1 [eS1 0 (some ⟨b,o,none⟩) (ys.length+1) c,eS1 1 A ys.length c2,yU 7 (f:Int),yB 11 ((bb:Int) == 1),yB 84 (!((v:Int) == 1))] [] ?_
  rw[Zqd (c:=v) p.2.1]
  refine xq 1 [yB 11 (((1-v:Nat):Int) == 1)] [] ?_
  refine xe (xS (zA (zB (xq 2 [yU 80 (IntKind.u64.wrap ((f:Int)-1))] [] ?_))))
  rw[show IntKind.u64.wrap (((f:Int)-1))=((f-1:Nat):Int) by rw[IntKind.wrap_u64];have:=zK;omega]
  refine xq 1 [yU 7 ((f-1:Nat):Int)] [] ?_
  refine xe ?_
  refine yP [eS1 0 (some ⟨b,o,none⟩) (ys.length+1) c,eS1 1 A ys.length c2,yU 7 (((f-1):Nat):Int),yB 11 ((((1-v):Nat):Int) == 1)] [] (fun w=>(Own .u64 141 w b (Z)∧zE .u64 w A (ys))) (fun w Q=>⟨Q.1,Q.2⟩) ?_
  exact xH ((1+(f-1))) qO ⟨(f-1),(1-v),Z,rfl,rfl,p.1,(HC.step qO C p.2.1 (Zm3 p.1.2.1) p.2.2),qO,rfl⟩
 have k0:=lK N
 obtain rfl:bb=0:=by have:=HC.1;omega
 refine xO (zG (zG (xW (zA (yY (xq 2 [yU 4 (f:Int)] [] ?_))))))
 refine yZ (zH ?_)
 refine yR (yX (f:Int)) fun w' R Q=>?_
 obtain⟨e1,e2⟩:=HC.done C
 exact⟨zs,by rw[e1],⟨HW,e2⟩,R,Q.1⟩
theorem Zqe (w:World)(a:qA)(n c:Nat):(binOp .eql 107 (.slice a n c) (.slice none 0 0)).run prog w=.ok (.bool a.isNone) w :=
 Lib.run_eql_slice_nil w 107 141 a n c 0 0 underlying107
theorem ZlF (A:qA)(xs:qN)(n c:Nat)(w:World)(p:xs.length=n)(q:zE .u64 w A xs)(C:n≤4294967296) :
 yA 145 #[.slice A n c] w (Zif w xs):=by
 have r:=zh q
 have s:=zh p
 clear q p
 have t:=Zqe
 cases A with
 | none =>
  have x:Hid (xs=[]):=by
   rcases xs with _|⟨y,D⟩
   ·rfl
   obtain⟨b,z,h,_⟩:=r.out qS;cases h
  go_enter func145,ntmps145
  go_wp2
  go_ret
  rw[x.out]
  exact⟨none,0,rfl,Buf.nil,Fr.refl _ _,fun b d=>by obtain⟨a,ha,_⟩:=d;cases ha⟩
 | some ad =>
  go_enter func145,ntmps145
  go_wp2_with (
   at_builtin
   refine wY rfl _ _ _ rfl _ .u64 8 underlying107 eN (some ⟨w.heap.size,0,none⟩) (some ad) 0 n 0 c rfl rfl [] xs rfl s.out ?_ (r.out.alloc _) (by simp only[maxLen];omega) qO ?_
   ·exact Or.inr ⟨_,rfl,Own.new w _ _ [] [],⟨#[],heap_alloc_new w _,rfl⟩,uG _,by simp only[maxLen];omega⟩
   intro B e E f g j
   have k:=zh f
   have l:=zh g
   have o:=zh j
   clear f g j)
  go_ret
  refine⟨B,e,?_,by simpa using k.out,?_,?_⟩
  ·rw[s.out];simp
  ·refine ((Fr.refl (fun _=>False) w).alloc _).next l.out fun i hi d=>?_
   obtain⟨a,ha,d⟩:=d
   injection ha with ha
   subst ha
   simp at d;omega
  intro b d
  rcases o.out b d with ⟨a,ha,h⟩|h
  ·injection ha with ha;subst ha;simp at h;omega
  simp at h;omega
theorem Zf7 (A:qA)(xs:qN)(c:Nat)(w:World)(f:zE .u64 w A xs)(g:xs.length≤4294967296)(d:0<xs.length) :
 yA 145 #[.slice A xs.length c] w (fun i w'=>∃ b c,i=.returned (.slice (some ⟨b,0,none⟩) xs.length c)∧w.heap.size≤b∧xs.length≤c∧Ext w w'∧Own .u64 141 w' b xs):=by
 refine (ZlF A xs xs.length c w rfl f g).mono ?_
 rintro e w' ⟨p,a,rfl,j,Q,k⟩
 rcases j with ⟨_,h,_⟩|⟨b,rfl,l,_,o,_⟩
 ·rw[h] at d;simp at d
 exact⟨b,a,rfl,k b ⟨_,rfl,rfl⟩,o,Q,l⟩
def OvR (N V n L k:Nat) (zs qs:List Nat):Prop:=zs.length=n∧Dig W64 zs∧qs.length=L∧Dig W64 qs∧val W64 zs+V*(W64^k*val W64 (qs.drop k))=N∧val W64 zs<V*W64^k
theorem OvR.start {N V n L:Nat}{zs:qN}(c:zs.length=n)(d:Dig W64 zs)(b:val W64 zs=N)(a:N<V*W64^L):OvR N V n L L zs (List.replicate L 0) :=
 ⟨c,d,qS,Dig.replicate zJ _,by rw[vC qS];simpa using b,by rw[b];exact a⟩
theorem ZoH {o n:Nat}{zs:qN}(c:o+n+1≤zs.length)(h:val W64 zs<W64^(o+n+1)):val W64 zs=val W64 (zs.take o)+W64^o*win o n zs∧val W64 (zs.drop (o+n+1))=0:=by
 have a:=xX (B:=W64) (xs:=zs) (o+n+1)
 rw[uY c] at a
 have b:val W64 (zs.drop (o+n+1))=0:=by
  refine Nat.eq_zero_of_not_pos fun d=>?_
  have:=uI (W64^(o+n+1)) d
  omega
 rw[b,tP,tD,aK qO] at a
 exact⟨a,b⟩
theorem OvR.ready {N V n L j m:Nat}{zs a:qN}(h:OvR N V n L (j+1) zs a)(b:V<W64^m)(i:j+m+1≤n):val W64 zs=val W64 (zs.take j)+W64^j*win j m zs∧val W64 (zs.drop (j+m+1))=0∧win j m zs<W64*V:=by
 obtain⟨k,l,o,p,q,c⟩:=h
 have d:val W64 zs<W64^(j+m+1):=by
  refine uT c ?_
  rw[show j+m+1=m+(j+1) by omega,uR W64 m]
  exact uE _ (qF b)
 obtain⟨f,g⟩:=ZoH qO d
 refine⟨f,g,?_⟩
 have:W64^j*win j m zs<W64^j*(W64*V):=by
  have e:V*W64^(j+1)=W64^j*(W64*V):=by rw[uP,uF V,uH]
  omega
 exact sI this
theorem OvR.step {N V n L j m:Nat}{zs b a:qN}(h:OvR N V n L (j+1) zs b)(f:V<W64^m)(c:0<V)(g:j+m+1≤n)(i:j<L)(k:WinR j m zs a)(l:win j m a=win j m zs%V) :
 OvR N V n L j a (b.set j (win j m zs/V)):=by
 obtain⟨H,o,p⟩:=h.ready f g
 obtain⟨q,r,s,t,x,I⟩:=h
 obtain⟨y,z,A,C⟩:=k
 have D:win j m zs/V<W64:=by rw[vR c];exact p
 have d:=xX (B:=W64) (xs:=a) (j+m+1)
 rw[C,o,tP,tD,aK qO,A,l] at d
 have e:=vW (win j m zs) V
 have J:W64^j*win j m zs=V*(W64^j*(win j m zs/V))+W64^j*(win j m zs%V):=by
  conv=>lhs;rw[←e]
  rw[uL,tE]
 refine⟨y.trans q,z,by simpa using s,t.set j D,?_,?_⟩
 ·have E:(b.set j (win j m zs/V))[j]?.getD 0=win j m zs/V:=by rw[tW qO];rfl
  rw[xY j (by simp;omega),E,tC qO,d]
  rw[uP] at x
  have K:V*(W64^j*(win j m zs/V+W64*val W64 (b.drop (j+1))))=V*(W64^j*(win j m zs/V))+V*(W64^j*W64*val W64 (b.drop (j+1))):=by
   rw[uL (W64^j),uL V,uH (W64^j)]
  omega
 rw[d]
 have F:=wA (r.take j)
 rw[uQ,uY qO] at F
 have G:=uI (W64^j) (uO (win j m zs) c)
 rw[Nat.mul_succ] at G
 rw[uF V]
 omega
theorem OvR.done {N V n L:Nat}{zs b:qN}(h:OvR N V n L 0 zs b)(d:0<V):val W64 b=N/V∧val W64 zs=N%V:=by
 obtain⟨e,f,g,i,c,a⟩:=h
 rw[tA,tT] at a
 rw[tA,rP,tV] at c
 rw[←c]
 rw[Nat.add_mul_div_left _ _ d,tK a,rR,vF a]
 exact⟨qO,rfl⟩
theorem Zrb {ys:qN}{k t:Nat}(d:Dig W64 ys)(e:ys.length=k+1)(f:Trim ys)(a:ys[k]?.getD 0=t):wl (val W64 ys*2^(64-blen t))=ys.length:=by
 have g:0<t:=sR (by rw[←a];exact f k e)
 have i:=ZeO d e f a
 have b:t<2^64:=by have:=a ▸ d.getD zJ k;rw[zK] at this;exact this
 have j:=lA.2 b
 have c:0<val W64 ys:=by have:=zU (B:=W64) k (show k<ys.length by omega);rw[uA qO,a] at this;have:=uI (W64^k) g;have:=uX (n:=k) zJ;omega
 have l:blen (val W64 ys*2^(64-blen t))=64*(k+1):=by rw[Zal c,i];omega
 have o:wl (val W64 ys*2^(64-blen t))≤k+1:=kE.2 (by rw[dQ];exact lA.1 qO)
 have p:¬ wl (val W64 ys*2^(64-blen t))≤k:=fun h=>by
  have:=kE.1 h
  rw[dQ] at this
  have:=lA.2 this
  omega
 omega
theorem ZrN {xs ys:qN}{s:Nat}(a:Dig W64 xs)(b:Trim ys)(g:0<ys.length)(h:ys.length≤xs.length):val W64 xs*2^s<val W64 ys*2^s*W64^(xs.length-ys.length+1):=by
 obtain⟨k,c⟩:∃ k,ys.length=k+1:=⟨ys.length-1,qO⟩
 have d:=wA a
 have e:=Zdj (B:=W64) b c
 have f:W64^xs.length≤val W64 ys*W64^(xs.length-ys.length+1):=by
  rw[show xs.length=k+(xs.length-ys.length+1) by omega,uR]
  rw[show k+(xs.length-ys.length+1)-ys.length+1=xs.length-ys.length+1 by omega]
  exact uE _ e
 rw[Nat.mul_right_comm]
 exact (qX (p2 s)).2 (uT d f)
theorem ZoI {ws:qN}{n:Nat}(b:Dig W64 ws)(c:ws.length≤n):let a:=ws.take n ++ (List.replicate n 0).drop ws.length;a.length=n∧Dig W64 a∧val W64 a=val W64 ws:=by
 intro a
 have e:a=ws ++ List.replicate (n-ws.length) 0:=by show ws.take n ++ (List.replicate n 0).drop ws.length=_;rw[uA c,List.drop_replicate]
 rw[e]
 exact⟨by simp;omega,b.append (Dig.replicate zJ _),by rw[kM,kV];simp⟩
theorem Zrc {xs:qN}{s:Nat}(a:Dig W64 xs)(b:s≤64):wl (val W64 xs*2^s)≤xs.length+1:=kE.2 (by
 have c:=wA a
 rw[uP]
 have d:2^s≤W64:=by rw[zK];exact vA (n:=2) qD b
 exact uT ((qX (p2 s)).2 c) (uI _ d))
theorem Zrd {x y s:Nat}:x*2^s%(y*2^s)/2^s=x%y:=by rw[sV,pI _ (p2 s)]
theorem Zre {x y s:Nat}:x*2^s/(y*2^s)=x/y:=rU _ _ (p2 s)
theorem Zby {b n c v:Nat}{xs:qN}{w:World}(a:Own .u64 141 w b xs)(f:Dig W64 xs)(g:xs.length=n)(h:val W64 xs=v)(i:n≤1099511627776)(d:n≤c):yA 144 #[.slice (some ⟨b,0,none⟩) n c] w (lB w v):=by
 subst g h
 refine (ZdK _ xs _ w a.shows0 i d).mono ?_
 rintro e w' ⟨rfl,Q⟩
 exact⟨_,rfl,(zF.of_own a f d).ext Q,Q⟩
theorem Zqf {ys:qN}{y:Nat}(h:ys.length=1)(e:ys[0]?.getD 0=y):val W64 ys=y:=by
 obtain⟨z,rfl⟩:=oO.1 h
 simp at e
 simp[e]
theorem Blk.own1 {w:World}{b r:Nat}(h:Blk 141 w b #[.int .u64 ((r:Nat):Int)]):Own .u64 141 w b [r]:=⟨[],qS,h⟩
section
variable {u v:Value} {m n:Nat} {w:World}
theorem jQ (f:zF w u m)(g:zF w v n)(a:wl m≤4294967296)(b:wl n≤4294967296):yA 135 #[u,v] w (lB w (m+n)):=by
 obtain⟨A,h,c,rfl,s,i,d,j,rfl⟩:=f
 obtain⟨k,l,o,rfl,p,q,e,r,rfl⟩:=g
 rw[←xT d j] at a
 rw[←xT e r] at b
 exact ZmM A k h l c o w i q a b d e
theorem ZaA (g:zF w u m)(h:zF w v n)(d:wl m≤4294967296)(a:n≤m):yA 137 #[u,v] w (lB w (m-n)):=by
 obtain⟨A,i,c,rfl,t,j,e,k,rfl⟩:=g
 obtain⟨l,o,p,rfl,q,r,f,s,rfl⟩:=h
 have b:=wP a
 rw[←xT e k] at d b
 rw[←xT f s] at b
 exact Zlv A l i o c p w j r d qO e f b a
theorem ZcG (f:zF w u m)(g:zF w v n)(a:wl m≤4294967296)(b:wl n≤4294967296):yA 143 #[u,v] w (lB w (m*n)):=by
 obtain⟨A,h,c,rfl,s,i,d,j,rfl⟩:=f
 obtain⟨k,l,o,rfl,p,q,e,r,rfl⟩:=g
 rw[←xT d j] at a
 rw[←xT e r] at b
 exact Zlw A k h l c o w i q a b d e
theorem jL (k:Nat)(b:zF w u m)(d:wl m≤4294967296)(f:k≤274877906944):yA 101 #[u,.int .i64 ((k:Nat):Int)] w (lB w (m*2^k)):=by
 have a:=b
 obtain⟨A,g,c,rfl,j,h,e,i,rfl⟩:=b
 rw[←xT e i] at d
 exact Zp1 A g c k w a h d e f
theorem iZ (k:Nat)(b:zF w u m)(d:wl m≤4294967296)(f:k≤274877906944):yA 140 #[u,.int .i64 ((k:Nat):Int)] w (lB w (m/2^k)):=by
 have a:=b
 obtain⟨A,g,c,rfl,j,h,e,i,rfl⟩:=b
 rw[←xT e i] at d
 exact ZmN A g c k w a h d e f
theorem kT (e:zF w u m)(a:wl m≤4294967296):yA 139 #[u] w (RetV w (.int .i64 ((blen m:Nat):Int))):=by
 obtain⟨A,f,c,rfl,h,g,b,d,rfl⟩:=e
 rw[←xT b d] at a
 exact ZjS A f c w g a b d
theorem ZaB (d:Glob w)(e:zF w u m)(a:wl m≤4294967296)(f:0<m):yA 171 #[u] w (RetV w (.int .i64 ((tzn m:Nat):Int))):=by
 obtain⟨A,g,c,rfl,j,h,b,i,rfl⟩:=e
 rw[←xT b i] at a
 exact ZlE A g c w h a b d f
theorem aL (i:Nat)(a:zF w u m)(hi:i≤274877906944):yA 170 #[u,.int .i64 ((i:Nat):Int)] w (RetV w (.bool (decide (m/2^i%2=1)))):=by
 obtain⟨A,b,c,rfl,f,d,e,g,rfl⟩:=a
 exact ZoF A b c w d e i hi
theorem fT (e:zF w u m)(f:zF w v n)(a:wl m≤4294967296):yA 136 #[u,v] w (RetV w (.int .i64 (cmpI ((m:Nat):Int) ((n:Nat):Int)))):=by
 obtain⟨A,g,c,rfl,r,h,b,d,rfl⟩:=e
 obtain⟨i,j,k,rfl,l,o,p,q,rfl⟩:=f
 rw[←xT b d] at a
 exact ZiR A i g j c k w h o a b p d q
end
theorem Zm5 (A f:qA)(xs ys:qN)(c c2:Nat)(w:World)(hX:zE .u64 w A xs)(hY:zE .u64 w f ys)(hl:xs.length≤4294967295)(D0:ys.length≤4294967296)(hx:Dig W64 xs)(hy:Dig W64 ys)(hN:zF w (.slice A xs.length c) (val W64 xs))(hM:zF w (.slice f ys.length c2) (val W64 ys))(tx:Trim xs)(ty:Trim ys)(e0:0<val W64 ys) :
 yA 158 #[.slice A xs.length c,.slice f ys.length c2] w (Zb0 w (val W64 xs/val W64 ys) (val W64 xs%val W64 ys)):=by
 have hw:wl (val W64 xs)≤4294967296:=by rw[←xT hx tx];omega
 have E0:wl (val W64 ys)≤4294967296:=by rw[←xT hy ty];exact D0
 refine zQ (Φ:=fun w=>(((zF w (.slice A xs.length c) (val W64 xs)∧zE .u64 w A xs)∧zF w (.slice f ys.length c2) (val W64 ys))∧zE .u64 w f ys)) func158 rfl qK (fun w' hf=>⟨⟨⟨hN.ext hf,hX.ext hf⟩,hM.ext hf⟩,hY.ext hf⟩) ?_
 refine yY (xq 2 [eS1 4 none 0 0,eS1 5 none 0 0] [] ?_)
 refine yZ (zC (yY (xq 2 [eS1 13 A xs.length c,eS1 14 f ys.length c2] [] ?_)))
 refine xqc 136 [.slice A xs.length c,.slice f ys.length c2] 15 (fun _:Unit=>yI (cmpI ((val W64 xs:Nat):Int) ((val W64 ys:Nat):Int))) _ (fun w R Q=>yN (fT Q.1.1.1 Q.1.2 hw)) fun xx=>?_
 refine xq 1 [(16,.v (.bool (decide ((cmpI ((val W64 xs:Nat):Int) ((val W64 ys:Nat):Int))<0))))] [] ?_
 refine xe (zA ?_)
 refine yQ ((decide ((cmpI ((val W64 xs:Nat):Int) ((val W64 ys:Nat):Int))<0))) (fun F=>?_) fun F=>?_
 ·have O:=fF.1 (uC F)
  refine yY (xq 3 [eS1 4 none 0 0,eS1 5 A xs.length c] [] ?_)
  refine yZ (zH (zN ?_))
  refine yR (.tuple #[.slice none 0 0,.slice A xs.length c]) fun w' R Q=>?_
  exact⟨_,_,rfl,by rw[tK O];exact zF.zero _,by rw[vF O];exact Q.1.1.1.1,R⟩
 have F0:val W64 ys≤val W64 xs:=Nat.le_of_not_lt (fun h'=>uD F (fF.2 h'))
 have M0:ys.length≤xs.length:=by have:=wP F0;rwa [←xT hy ty,← xT hx tx] at this
 have N0:0<ys.length:=rE.2 (fun e=>by rw[e] at e0;simp at e0)
 refine zI (zA (zC (yY (xq 3 [yB 20 ((((ys.length:Nat):Int):Int) == 1)] [] ?_))))
 refine xe (zA ?_)
 refine yQ (((((ys.length:Nat):Int):Int) == 1)) (fun G=>?_) fun G=>?_
 ·have U:=sO.1 G
  refine yY (xq 1 [eS1 21 A xs.length c] [] ?_)
  refine Zon 145 [.slice A xs.length c] (d:=22) (k:=.u64) (e:=141) xs (fun w R Q=>Zf7 A xs c w Q.1.1.1.2 qO qO) fun q cc f0 K0 _=>?_
  refine xr 1 [eS1 0 A xs.length c,eS1 1 f ys.length c2,eS1 4 none 0 0,eS1 5 none 0 0,eS1 6 (yL q) xs.length cc] [] ?_
  refine yZ (yY (xq 2 [eS1 23 (yL q) xs.length cc,eS1 24 f ys.length c2] [] ?_))
  refine xqk 25 (atA f 0) (fun w R Q=>wJ (t:=107) (e:=141) (x:=.tmp 24) (ix:=(Operand.const (Value.int IntKind.i64 0))) (len:=ys.length) (cap:=c2) (i:=0) (((Q.1).self.1.2).ne (j:=0) qO) qO) ?_
  obtain⟨r,C⟩:=yE (ys[0]?.getD 0)
  refine xqk 26 (yX (r:Int)) (fun w R Q=>by rw[←C];exact lG (t:=141) (x:=.tmp 25) ((Q.1).self.1.2) (j:=0) qO) ?_
  have g0:=Zqf qO C
  refine ZcB (xs:=xs) (α:=List Nat) 146 [.slice (yL q) xs.length cc, yX (r:Int)] (d:=27) (fun x=>yX ((val W64 xs%r:Nat):Int)) (fun x=>x.length=xs.length∧Dig W64 x∧val W64 x=val W64 xs/r) (fun x=>x) q (fun x w=>(Box (fun j=>q≤j) w (fun w=>((((zF w (.slice A xs.length c) (val W64 xs)∧zE .u64 w A (xs))∧zF w (.slice f ys.length c2) (val W64 ys))∧zE .u64 w f (ys))∧True))∧Own .u64 141 w q (x))) (fun w Q=>Q.2) qO (Or.inl f0) (fun w R Q=>Zbx q _ _ _ _ Q.2 qO hx qO (by rw[←C];exact hy.getD zJ _)) (fun x w w' hp Q M V=>⟨((Q.1).fr (M.mono (fun _ _ e=>by rw[e];exact uG _))),V⟩) fun x H=>?_
  obtain⟨L0,rfl⟩:∃ y,y=x:=⟨_,rfl⟩
  refine xr 1 [eS1 0 A xs.length c,eS1 1 f ys.length c2,eS1 4 none 0 0,eS1 5 none 0 0,eS1 6 (yL q) xs.length cc,yU 7 ((val W64 xs%r:Nat):Int)] [] ?_
  refine yZ (yY (xq 1 [eS1 28 (yL q) xs.length cc] [] ?_))
  refine xqc 144 [.slice (yL q) xs.length cc] 29 xK _ (fun w R Q=>yM xC (Zby Q.2 H.2.1 H.1 H.2.2 qO qO)) fun⟨W,X,Y⟩=>?_
  refine xq 1 [yU 30 ((val W64 xs%r:Nat):Int)] [] ?_
  refine yD (d:=31) (fun zb:Nat=>.slice (yL zb) 1 1) (fun zb zw=>Blk 141 zw zb #[yX ((val W64 xs%r:Nat):Int)]) (fun w R Q=>lY (t:=107) (e:=141) (n:=1) (sz:=1) (z:=yX 0) (parts:=#[(0,Operand.tmp 30)]) qK qK qK qK qK qK) fun h0=>?_
  refine xr 0 [eS1 0 A xs.length c,eS1 1 f ys.length c2,eS1 4 none 0 0,eS1 5 none 0 0,eS1 29 W X Y,eS1 31 (yL h0) 1 1] [] ?_
  refine xqc 144 [.slice (yL h0) 1 1] 32 xK _ (fun w R Q=>yM xC (Zby (Q.2).own1 (Dig.nil.cons (rY (uO _ qO) (by rw[←C];exact hy.getD zJ _))) (show [val W64 xs%r].length=1 from rfl) (show val W64 [val W64 xs%r]=val W64 xs%r by simp) qO qO)) fun⟨i0,j0,k0⟩=>?_
  refine xq 2 [eS1 4 W X Y,eS1 5 i0 j0 k0] [] ?_
  refine yZ (zH (zN ?_))
  refine yR (.tuple #[.slice W X Y,.slice i0 j0 k0]) fun w' R Q=>?_
  exact⟨_,_,rfl,by rw[g0];exact Q.1.1.2,by rw[g0];exact Q.2,R⟩
 have U:=lK G
 refine zI (zA (yY (xq 4 [eS1 33 f ys.length c2,yJ 36 (IntKind.i64.wrap (((ys.length:Nat):Int)-1))] [] ?_)))
 rw[yW (((ys.length:Nat):Int)-1) (((ys.length-1:Nat):Int)) qO]
 refine xqk 37 (atA f (ys.length-1)) (fun w R Q=>wJ (t:=107) (e:=141) (x:=.tmp 33) (ix:=.tmp 36) (len:=ys.length) (cap:=c2) (i:=ys.length-1) ((Q.1.2).ne (j:=ys.length-1) qO) qO) ?_
 obtain⟨l0,I⟩:=yE (ys[ys.length-1]?.getD 0)
 refine xqk 38 (yX (l0:Int)) (fun w R Q=>by rw[←I];exact lG (t:=141) (x:=.tmp 37) (Q.1.2) (j:=ys.length-1) qO) ?_
 obtain⟨t,rfl⟩:∃ t,t=l0:=⟨_,rfl⟩
 refine xqc 194 [yX (t:Int)] 39 (fun _:Unit=>yI ((64-blen t:Nat):Int)) _ (fun w R Q=>yN (ZlD t _ (by rw[←I];exact hy.getD zJ _))) fun xx=>?_
 refine xq 1 [yJ 8 ((64-blen t:Nat):Int)] [] ?_
 refine yZ (yY (xq 2 [eS1 40 f ys.length c2,yJ 41 ((64-blen t:Nat):Int)] [] ?_))
 refine xqc 101 [.slice f ys.length c2, yI ((64-blen t:Nat):Int)] 42 xK _ (fun w R Q=>yM xC (jL (64-blen t) Q.1.1.1.2 E0 qO)) fun⟨g,m0,o⟩=>?_
 refine xq 1 [eS1 9 g m0 o] [] ?_
 refine yZ (zC ?_)
 refine SXc.know (p:=m0=(wds (val W64 ys*2^(64-blen t))).length∧(wds (val W64 ys*2^(64-blen t))).length≤o) (fun w _ Q=>(Q.2).lens) fun N=>?_
 obtain⟨dd,B⟩:∃ dd,dd=wds (val W64 ys*2^(64-blen t)):=⟨_,rfl⟩
 rw[←B] at N
 obtain⟨rfl,O0⟩:=N
 have Z:Dig W64 dd:=by rw[B];exact (eG _).1
 have n0:Trim dd:=by rw[B];exact Zfb _
 have a0:val W64 dd=val W64 ys*2^(64-blen t):=by rw[B];exact (eG _).2
 have b0:dd.length=ys.length:=by rw[B,Zkq];exact Zrb (k:=ys.length-1) hy qO ty I
 have J:0<val W64 dd:=bO n0 zJ (fun e=>by rw[e] at b0;simp at b0;omega)
 have o0:=wA Z
 refine zB (xq 3 [yJ 45 (IntKind.i64.wrap (((xs.length:Nat):Int)+1))] [] ?_)
 rw[yW (((xs.length:Nat):Int)+1) (((xs.length+1:Nat):Int)) qO]
 refine ZcC (d:=46) (t:=107) (e:=141) (k:=.u64) (kl:=.i64) (kc:=.i64) (l:=.tmp 45) (c:=.tmp 45) (xs.length+1) 8 qO qD fun b P p0=>?_
 have hA:∀ a,g=some a→a.block≠b:=fun a ha=>Nat.ne_of_lt (p0 a.block (fun w Q=>(Q.2).shows.lt (by rw[←B,b0];omega) ha))
 refine xr 1 [eS1 0 A xs.length c,eS1 1 f ys.length c2,eS1 4 none 0 0,eS1 5 none 0 0,yJ 8 ((64-blen t:Nat):Int),eS1 9 g dd.length o,eS1 10 (yL b) (xs.length+1) (xs.length+1)] [] ?_
 refine yZ (yY (xq 3 [eS1 47 (yL b) (xs.length+1) (xs.length+1),eS1 48 A xs.length c,yJ 49 ((64-blen t:Nat):Int)] [] ?_))
 refine xqc 101 [.slice A xs.length c, yI ((64-blen t:Nat):Int)] 50 xK _ (fun w R Q=>yM xC (jL (64-blen t) (Q.1).self.1.1.1.1.1.1 hw qO)) fun⟨G0,q0,r0⟩=>?_
 refine SXi.know (p:=q0=(wds (val W64 xs*2^(64-blen t))).length∧(wds (val W64 xs*2^(64-blen t))).length≤r0) (fun w _ Q=>(Q.2).lens) fun N=>?_
 have S:=Zrc (s:=64-blen t) hx qO
 rw[←Zkq] at S
 obtain⟨s0,t0,c0⟩:=ZoI (n:=xs.length+1) (eG (val W64 xs*2^(64-blen t))).1 S
 rw[(eG _).2] at c0
 obtain⟨zz,u0⟩:=yE ((wds (val W64 xs*2^(64-blen t))).take (xs.length+1) ++ (List.replicate (xs.length+1) 0).drop (wds (val W64 xs*2^(64-blen t))).length)
 rw[u0] at s0 t0 c0
 refine ZpZ (d:=51) (dx:=Operand.tmp 47) (sx:=Operand.tmp 50) (dT:=107) (sT:=107) (e:=141) (k:=.u64) (sp:=G0) (mid:=List.replicate (xs.length+1) 0) (ys:=wds (val W64 xs*2^(64-blen t))) (n:=xs.length+1) (m:=q0) (dc:=xs.length+1) (sc:=r0) b (fun w=>((Box (fun j=>b≤j) w (fun w=>((((((zF w (.slice A xs.length c) (val W64 xs)∧zE .u64 w A (xs))∧zF w (.slice f ys.length c2) (val W64 ys))∧zE .u64 w f (ys))∧True)∧True)∧zF w (.slice g dd.length o) (val W64 ys*2^(64-blen t))))∧Own .u64 141 w b (zz))∧True)) qS N.1.symm qS (fun w Q=>Q.1.2) (fun w Q=>(Q.2).shows) (Or.inl P) (fun w w' Q M V=>⟨⟨((Q.1.1).fr (M.mono (fun _ _ e=>by rw[e];exact uG _))),(by rw[←u0];rwa [sF] at V)⟩,trivial⟩) ?_
 refine xr 0 [eS1 0 A xs.length c,eS1 1 f ys.length c2,eS1 4 none 0 0,eS1 5 none 0 0,yJ 8 ((64-blen t:Nat):Int),eS1 9 g dd.length o,eS1 10 (yL b) (xs.length+1) (xs.length+1)] [] ?_
 refine yZ (yY (xq 5 [yJ 56 (IntKind.i64.wrap (((xs.length:Nat):Int)-((ys.length:Nat):Int)))] [] ?_))
 rw[yW (((xs.length:Nat):Int)-((ys.length:Nat):Int)) (((xs.length-(ys.length):Nat):Int)) qO]
 refine xq 1 [(57,.v (yI (IntKind.i64.wrap (((xs.length-(ys.length):Nat):Int)+1))))] [] ?_
 rw[show IntKind.i64.wrap ((((xs.length-(ys.length):Nat):Int)+1))=((xs.length-(ys.length)+1:Nat):Int) by rw[IntKind.wrap_i64];omega]
 refine ZcC (d:=58) (t:=107) (e:=141) (k:=.u64) (kl:=.i64) (kc:=.i64) (l:=.tmp 57) (c:=.tmp 57) (xs.length-(ys.length)+1) 8 qO qD fun r22 v0 w0=>?_
 have P0:b<r22:=w0 b (fun w Q=>(Q.1.2).lt)
 refine xr 1 [eS1 1 f ys.length c2,eS1 4 none 0 0,eS1 5 none 0 0,yJ 8 ((64-blen t:Nat):Int),eS1 9 g dd.length o,eS1 10 (yL b) (xs.length+1) (xs.length+1),eS1 11 (yL r22) (xs.length-(ys.length)+1) (xs.length-(ys.length)+1)] [] ?_
 refine yZ (zC (yY (xq 3 [(61,.v (yI (IntKind.i64.wrap (((xs.length-(ys.length)+1:Nat):Int)-1))))] [] ?_)))
 rw[yW (((xs.length-ys.length+1:Nat):Int)-1) (((xs.length-ys.length+1:Nat):Int)-1) qO]
 refine xq 1 [yJ 12 (((xs.length-ys.length+1:Nat):Int)-1)] [] ?_
 refine yZ (zP ?_)
 refine SXc.weak [eS1 1 f ys.length c2,eS1 4 none 0 0,eS1 5 none 0 0,yJ 8 ((64-blen t:Nat):Int),eS1 9 g dd.length o,eS1 10 (yL b) (xs.length+1) (xs.length+1),eS1 11 (yL r22) (xs.length-(ys.length)+1) (xs.length-(ys.length)+1),yJ 12 ((((xs.length-ys.length+1):Nat):Int)-1)] [] (Ψ:=fun w=>((Box (fun j=>b≤j) w (fun w=>((((((zF w (.slice A xs.length c) (val W64 xs)∧zE .u64 w A (xs))∧zF w (.slice f ys.length c2) (val W64 ys))∧zE .u64 w f (ys))∧True)∧True)∧zF w (.slice g dd.length o) (val W64 ys*2^(64-blen t))))∧Own .u64 141 w b (zz))∧Own .u64 141 w r22 ((List.replicate (xs.length-(ys.length)+1) 0)))) (zV.of qK) qK (fun w Q=>⟨⟨(Q.1).self.1.1,(Q.1).self.1.2⟩,Q.2⟩) ?_
 refine xU (fun nn ss ff=>∃ (k:Nat) (D qs:List Nat),ss=ofL [eS1 1 f ys.length c2,eS1 4 none 0 0,eS1 5 none 0 0,yJ 8 ((64-blen t:Nat):Int),eS1 9 g dd.length o,eS1 10 (yL b) (xs.length+1) (xs.length+1),eS1 11 (yL r22) (xs.length-(ys.length)+1) (xs.length-(ys.length)+1),yJ 12 ((k:Int)-1)] []∧ff=(fun w=>((Box (fun j=>b≤j) w (fun w=>((((((zF w (.slice A xs.length c) (val W64 xs)∧zE .u64 w A (xs))∧zF w (.slice f ys.length c2) (val W64 ys))∧zE .u64 w f (ys))∧True)∧True)∧zF w (.slice g dd.length o) (val W64 ys*2^(64-blen t))))∧Own .u64 141 w b (D))∧Own .u64 141 w r22 (qs)))∧(OvR (val W64 xs*2^(64-blen t)) (val W64 dd) (xs.length+1) (xs.length-ys.length+1) k D qs)∧(k≤xs.length-ys.length+1)∧nn=(1+k)) ((1+(xs.length-ys.length+1))) ⟨(xs.length-ys.length+1),zz,(List.replicate (xs.length-(ys.length)+1) 0),rfl,rfl,(OvR.start s0 t0 c0 (by rw[a0];exact ZrN hx ty qO qO)),uG _,rfl⟩ ?_
 rintro nn ss ff ⟨k,D,qs,rfl,rfl,E,hk,rfl⟩
 refine zC (yY (xq 2 [(63,.v (.bool (decide (((k:Int)-1)≥0))))] [] ?_))
 refine xe (zA ?_)
 refine yQ ((decide (((k:Int)-1)≥0))) (fun K=>?_) fun K=>?_
 ·have d0:=uC K
  obtain⟨j,rfl⟩:∃ j,k=j+1:=⟨k-1,qO⟩
  rw[show ((((j+1):Nat):Int)-1)=(j:Int) by omega]
  refine zI (zA (zC (zP (zB (xq 8 [eS1 66 (yL r22) (xs.length-(ys.length)+1) (xs.length-(ys.length)+1),yJ 67 (j:Int),eS1 68 (yL b) (xs.length+1) (xs.length+1),yJ 69 (j:Int),yJ 73 (IntKind.i64.wrap ((j:Int)+((ys.length:Nat):Int)))] [] ?_)))))
  rw[yW ((j:Int)+((ys.length:Nat):Int)) (((j+(ys.length):Nat):Int)) qO]
  refine xq 1 [(74,.v (yI (IntKind.i64.wrap (((j+(ys.length):Nat):Int)+1))))] [] ?_
  rw[show IntKind.i64.wrap ((((j+(ys.length):Nat):Int)+1))=((j+(ys.length)+1:Nat):Int) by rw[IntKind.wrap_i64];omega]
  refine xqk 75 (.slice (some ⟨b,j,none⟩) (dd.length+1) (xs.length+1-j)) (fun w R Q=>Zoo (t:=107) (e:=141) (x:=.tmp 68) (len:=(xs.length+1)) (cap:=(xs.length+1)) (l:=j) (h:=j+(ys.length)+1) (n:=dd.length+1) (m:=xs.length+1-j) (lo:=.tmp 69) (hi:=.tmp 74) qO qO qO qO qO) ?_
  refine xq 1 [eS1 76 g dd.length o] [] ?_
  refine ZcB (xs:=D) (α:=List Nat) 195 [.slice (some ⟨b,j,none⟩) (dd.length+1) (xs.length+1-j),.slice g dd.length o] (d:=77) (fun x=>yX ((win j dd.length D/val W64 dd:Nat):Int)) (fun x=>WinR j dd.length D x∧win j dd.length x=win j dd.length D%val W64 dd) (fun x=>x) b (fun x w=>((Box (fun j=>b≤j) w (fun w=>((((((zF w (.slice A xs.length c) (val W64 xs)∧zE .u64 w A (xs))∧zF w (.slice f ys.length c2) (val W64 ys))∧zE .u64 w f (ys))∧True)∧True)∧zF w (.slice g dd.length o) (val W64 ys*2^(64-blen t))))∧Own .u64 141 w b (x))∧Own .u64 141 w r22 (qs))) (fun w Q=>Q.1.2) (by have:=E.1;omega) (Or.inl P) (fun w R Q=>Zf6 b _ j D dd _ _ _ Q.1.2 (by rw[B];exact ((Q.1.1).self.2).shows) hA (by rw[E.1];omega) (by rw[E.1];omega) E.2.1 Z qO J (E.ready o0 qO).2.2) (fun x w w' hp Q M V=>⟨⟨((Q.1.1).fr (M.mono (fun _ _ e=>by rw[e];exact uG _))),V⟩,((Q.2).fr M (show ¬ (r22=b) by omega))⟩) fun x T=>?_
  obtain⟨L,rfl⟩:∃ y,y=x:=⟨_,rfl⟩
  have HS:=E.step o0 J qO qO T.1 T.2
  have Q0:=E.2.2.1
  refine xr 0 [eS1 1 f ys.length c2,eS1 4 none 0 0,eS1 5 none 0 0,yJ 8 ((64-blen t:Nat):Int),eS1 9 g dd.length o,eS1 10 (yL b) (xs.length+1) (xs.length+1),eS1 11 (yL r22) (xs.length-(ys.length)+1) (xs.length-(ys.length)+1),yJ 12 (j:Int),eS1 66 (yL r22) (xs.length-(ys.length)+1) (xs.length-(ys.length)+1),yJ 67 (j:Int),yU 77 ((win j dd.length D/val W64 dd:Nat):Int)] [] ?_
  refine xqk 78 (.pointer (some ⟨r22,j,none⟩)) (fun w R Q=>kJ (t:=107) (e:=141) (x:=.tmp 66) (ix:=.tmp 67) (len:=(xs.length-(ys.length)+1)) (cap:=(xs.length-(ys.length)+1)) (i:=j) qO) ?_
  refine iA (t:=141) (x:=.tmp 78) (y:=.tmp 77) r22 (j) (win j dd.length D/val W64 dd) (fun w=>((Box (fun j=>b≤j) w (fun w=>((((((zF w (.slice A xs.length c) (val W64 xs)∧zE .u64 w A (xs))∧zF w (.slice f ys.length c2) (val W64 ys))∧zE .u64 w f (ys))∧True)∧True)∧zF w (.slice g dd.length o) (val W64 ys*2^(64-blen t))))∧Own .u64 141 w b (L))∧Own .u64 141 w r22 ((qs).set (j) (win j dd.length D/val W64 dd)))) (fun w Q=>Q.2) qO (Or.inl v0) (fun w w' Q M V=>⟨⟨((Q.1.1).fr (M.mono (fun _ _ e=>by rw[e];omega))),((Q.1.2).fr M (show ¬ (b=r22) by omega))⟩,V⟩) ?_
  refine xe (xS (zA (zB (xq 2 [yJ 65 (IntKind.i64.wrap ((j:Int)-1))] [] ?_))))
  rw[yW ((j:Int)-1) ((j:Int)-1) qO]
  refine xq 1 [yJ 12 ((j:Int)-1)] [] ?_
  refine xe ?_
  refine SXq.weak [eS1 1 f ys.length c2,eS1 4 none 0 0,eS1 5 none 0 0,yJ 8 ((64-blen t:Nat):Int),eS1 9 g dd.length o,eS1 10 (yL b) (xs.length+1) (xs.length+1),eS1 11 (yL r22) (xs.length-(ys.length)+1) (xs.length-(ys.length)+1),yJ 12 ((j:Int)-1)] [] (Ψ:=fun w=>((Box (fun j=>b≤j) w (fun w=>((((((zF w (.slice A xs.length c) (val W64 xs)∧zE .u64 w A (xs))∧zF w (.slice f ys.length c2) (val W64 ys))∧zE .u64 w f (ys))∧True)∧True)∧zF w (.slice g dd.length o) (val W64 ys*2^(64-blen t))))∧Own .u64 141 w b (L))∧Own .u64 141 w r22 (((qs).set (j) (win j dd.length D/val W64 dd))))) (zV.of qK) qK (fun w Q=>⟨⟨Q.1.1,Q.1.2⟩,Q.2⟩) ?_
  exact xH ((1+j)) qO ⟨j,L,((qs).set (j) (win j dd.length D/val W64 dd)),rfl,rfl,HS,qO,rfl⟩
 have d0:=uD K
 obtain rfl:k=0:=qO
 refine xO (zG (zG (xW (zA (yY (xq 1 [eS1 79 (yL r22) (xs.length-(ys.length)+1) (xs.length-(ys.length)+1)] [] ?_))))))
 refine xqc 144 [.slice (yL r22) (xs.length-(ys.length)+1) (xs.length-(ys.length)+1)] 80 xK _ (fun w R Q=>yM xC (Zby Q.2 E.2.2.2.1 E.2.2.1 ((E.done J).1.trans (by rw[a0,Zre])) qO qO)) fun⟨x0,y0,z0⟩=>?_
 refine xq 1 [eS1 81 (yL b) (xs.length+1) (xs.length+1)] [] ?_
 refine xqc 144 [.slice (yL b) (xs.length+1) (xs.length+1)] 82 xK _ (fun w R Q=>yM xC (Zby Q.1.1.2 E.2.1 E.1 (E.done J).2 qO qO)) fun⟨H0,I0,J0⟩=>?_
 refine xq 1 [yJ 83 ((64-blen t:Nat):Int)] [] ?_
 refine xqc 140 [.slice H0 I0 J0, yI ((64-blen t:Nat):Int)] 84 xK _ (fun w R Q=>(iZ (64-blen t) Q.2 (uB (wP (qF (uO _ J))) (by rw[←xT Z n0];omega)) qO).mono (fun _ _ h=>xC (by rw[show (val W64 xs*2^(64-blen t)%val W64 dd)/2^(64-blen t)=val W64 xs%val W64 ys by rw[a0,Zrd]] at h;exact h))) fun⟨A0,B0,C0⟩=>?_
 refine xq 2 [eS1 4 x0 y0 z0,eS1 5 A0 B0 C0] [] ?_
 refine yZ (zH ?_)
 refine yR (.tuple #[.slice x0 y0 z0,.slice A0 B0 C0]) fun w' R Q=>?_
 exact⟨_,_,rfl,Q.1.1.2,Q.2,R⟩
def shNb (r:FR) (x:ShN):Value:=.tuple #[yV r.s x.1 x.2.1 x.2.2 r.e,.int .i64 r.err]
def xZ (w:World) (r:FR) (e:Ending) (w':World):Prop:=∃ x:ShN,e=.returned (shNb r x)∧zF w' (xK x) r.m∧Ext w w'
theorem wC {w w':World}{e:Ending}{r:FR}(h:xZ w r e w'):lR (shNb r) (fun x w=>zF w (xK x) r.m) w e w':=by
 obtain⟨x,rfl,a,Q⟩:=h
 exact⟨x,rfl,Q,boxn Q (fun S b c d=>a.nrb c d)⟩
theorem ZlG (s:Bool)(e:Int):wT s 0 e=⟨false,0,0,0⟩:=rfl
theorem ZoJ {n:Nat}(s:Bool){e:Int}(a:0<n)(b:¬ e+tzn n < -1048576)(c:¬ e+tzn n>1048576):wT s n e=⟨s,oddM n,e+tzn n,0⟩:=by
 unfold wT
 rw[uM qO,uS ⟨qO,qO⟩]
theorem Zhx {n:Nat}(s:Bool){e:Int}(a:0<n)(h:e+tzn n < -1048576∨e+tzn n>1048576):wT s n e=⟨false,0,0,2⟩:=by
 unfold wT
 rw[uM qO,uM (by rintro⟨b,c⟩;omega)];rfl
theorem fU (n:Nat):blen n≤64*wl n:=by
 rw[lA,qV]
 have:=Zea n
 rwa [zK] at this
theorem Zrf {n:Nat}(h:wl n≤4294967296):tzn n≤274877906944:=by
 rcases uJ n with rfl|a
 ·rw[tzn,dif_pos (Or.inl rfl)];omega
 obtain⟨c,b⟩:=jW a
 have d:blen n=blen (oddM n)+tzn n:=by
  have:=Zal (show 0<oddM n by omega) (tzn n)
  rwa [←b] at this
 have:=fU n
 omega
theorem Zf8 {n:Nat}(h:wl n≤4294967296):blen n≤274877906944:=by have:=fU n;omega
theorem ZcH {s:Bool}{n bits:Nat}{e:Int}{m:Bool}(h:blen n≤bits):lD s n e bits m=wT s n e:=by unfold lD;rw[uS h]
theorem fA {s:Bool}{n bits j:Nat}{e:Int}{m:Bool}(h:blen n=bits+(j+1))(a:n/2^j%2=1)(b:tzn n<j∨n/2^(j+1)%2=1∨m=true)(c:0<n) :
 lD s n e bits m=wT s (n/2^(j+1)+1) (e+((j+1:Nat):Int)):=by
 unfold lD gZ
 rw[uM qO,h,show bits+(j+1)-bits-1=j by omega,show bits+(j+1)-bits=j+1 by omega,uS ⟨a,by rw[←ZmX c];exact b⟩]
theorem eY {s:Bool}{n bits j:Nat}{e:Int}{m:Bool}(h:blen n=bits+(j+1))(a:0<n)(b:¬ (n/2^j%2=1∧(tzn n<j∨n/2^(j+1)%2=1∨m=true))) :
 lD s n e bits m=wT s (n/2^(j+1)) (e+((j+1:Nat):Int)):=by
 unfold lD gZ
 rw[uM qO,h,show bits+(j+1)-bits-1=j by omega,show bits+(j+1)-bits=j+1 by omega,uM (by rw[←ZmX a];exact b)]
theorem Zrg:Trim [1]:=by
 intro k a
 have:k=0:=by simp at a;omega
 subst this
 simp
theorem wl_1:wl 1≤4294967296:=uB (bQ.2 (by rw[zK];decide)) qD
theorem gR {w:World}{b:Nat}(h:Blk 141 w b #[.int .u64 1]):zF w (.slice (some ⟨b,0,none⟩) 1 1) 1 :=
 ⟨_,[1],1,rfl,uG _,(Blk.own1 (r:=1) h).shows0,Dig.nil.cons (by rw[zK];decide),Zrg,rfl⟩
def ZcI (w:World) (Q:Nat) (v:Value):Prop:=Q<w.heap.size∧w.cell? ⟨Q,0,none⟩=some v
theorem ZcI.ext {w w':World}{Q:Nat}{v:Value}(h:ZcI w Q v)(a:Ext w w'):ZcI w' Q v:=⟨uT h.1 a.size,(a.cell (p:=⟨Q,0,none⟩) h.1 (fun f=>f)).trans h.2⟩
theorem Zm6 (Q:Nat)(A:qA)(l c:Nat)(w:World)(h:ZcI w Q (.slice A l c)):yA 159 #[.pointer (some ⟨Q,0,none⟩)] w (RetV w (.bool (decide (0<l)))):=by
 have a:=h.2
 go_enter func159,ntmps159
 go_wp2
 go_ret
 exact⟨vI Ending.returned (vI Value.bool (pG.2 qO)),Fr.refl _ _⟩
theorem Zm7 (w:World):yA 133 #[] w (RetV w (.bool false)):=by
 go_enter func133,ntmps133
 go_wp2
 go_ret
 exact⟨rfl,Fr.refl _ _⟩
theorem lZ (s:Bool)(A:qA)(l c n:Nat)(e:Int)(w:World)(t:Glob w)(q:zF w (.slice A l c) n)(o:wl n≤4294967296)(u : -1152921504606846976≤e)(x:e≤1152921504606846976) :
 yA 138 #[.bool s,.slice A l c,.int .i64 e] w (xZ w (wT s n e)):=by
 refine zQ (Φ:=fun w=>(Glob w∧zF w (.slice A l c) (n))) func138 rfl qK (fun w' r=>⟨t.ext r,q.ext r⟩) ?_
 refine zC ?_
 have y:=q.len0
 have z:=Zrf o
 have B:=@lL n
 refine zB (xq 2 [(6,.p 6 0),yJ 7 0] [yF 6 109 false none 0 0 0] ?_)
 refine yZ (zC (yY (xq 3 [yB 11 (((l:Int):Int) == 0)] [] ?_)))
 refine xe (zA ?_)
 refine yQ ((((l:Int):Int) == 0)) (fun b=>?_) fun b=>?_
 ·have f:=sO.1 b
  have m:n=0:=qO
  refine yY (xq 3 [yJ 7 0] [] ?_)
  refine yZ (zH (zN ?_))
  refine yR (.tuple #[yV false none 0 0 0, yI 0]) fun w' R Q=>?_
  rw[m,ZlG]
  exact⟨(none,0,0),rfl,zF.zero _,R⟩
 have f:=lK b
 have m:0<n:=qO
 refine zI (zA (yY (xq 1 [eS1 13 A l c] [] ?_)))
 refine xqc 171 [.slice A l c] 14 (fun _:Unit=>yI ((tzn n:Nat):Int)) _ (fun w R Q=>yN (ZaB Q.1 Q.2 o m)) fun C=>?_
 refine xq 1 [yJ 8 ((tzn n:Nat):Int)] [] ?_
 refine yZ (yY (xq 3 [yJ 17 (IntKind.i64.wrap (e+((tzn n:Nat):Int)))] [] ?_))
 rw[yW (e+((tzn n:Nat):Int)) (e+((tzn n:Nat):Int)) qO]
 refine xq 1 [yJ 2 (e+((tzn n:Nat):Int))] [] ?_
 refine yZ (zC (yY (xq 3 [(20,.v (.bool (decide ((e+((tzn n:Nat):Int))<(-1048576)))))] [] ?_)))
 rcases bl2 ((decide ((e+((tzn n:Nat):Int))<(-1048576)))) with a|a
 ·rw[a]
  have g:=uC a
  refine xq 3 [yB 23 true] [] ?_
  refine yZ (xa (yY (xq 3 [yJ 7 2] [] ?_)))
  refine yZ (zH (zN ?_))
  refine yR (.tuple #[yV false none 0 0 0, yI 2]) fun w' R Q=>?_
  rw[Zhx s m qO]
  exact⟨(none,0,0),rfl,zF.zero _,R⟩
 rw[a]
 have g:=uD a
 refine xq 3 [(23,.v (.bool (decide ((e+((tzn n:Nat):Int))>1048576))))] [] ?_
 refine xe (zA ?_)
 refine yQ ((decide ((e+((tzn n:Nat):Int))>1048576))) (fun d=>?_) fun d=>?_
 ·have h:=uC d
  refine yY (xq 3 [yJ 7 2] [] ?_)
  refine yZ (zH (zN ?_))
  refine yR (.tuple #[yV false none 0 0 0, yI 2]) fun w' R Q=>?_
  rw[Zhx s m qO]
  exact⟨(none,0,0),rfl,zF.zero _,R⟩
 have h:=uD d
 refine zI (zA (yY (xq 3 [yB 25 s,eS1 26 A l c,yJ 27 ((tzn n:Nat):Int)] [] ?_)))
 refine xqc 140 [.slice A l c, yI ((tzn n:Nat):Int)] 28 xK _ (fun w R Q=>yM xC (iZ (tzn n) Q.1.2 o qO)) fun⟨i,j,k⟩=>?_
 refine xq 4 [yJ 7 0] [yF 6 109 s i j k (e+((tzn n:Nat):Int))] ?_
 refine yZ (zH ?_)
 refine yR (.tuple #[yV s i j k (e+((tzn n:Nat):Int)), yI 0]) fun w' R Q=>?_
 rw[ZoJ s m qO qO]
 exact⟨(i,j,k),rfl,Q.2,R⟩
theorem iS (s:Bool)(A:qA)(l c n:Nat)(e:Int)(bits:Nat)(w:World)(hg:Glob w)(hN:zF w (.slice A l c) n)(E:wl n≤4294967296)(y0 : -576460752303423488≤e)(z0:e≤576460752303423488)(hb:bits≤4294967296) :
 yA 132 #[.bool s,.slice A l c,.int .i64 e,.int .i64 ((bits:Nat):Int),.func (.func 133) #[] #[]] w (xZ w (lD s n e bits false)):=by
 refine zQ (Φ:=fun w=>(Glob w∧zF w (.slice A l c) (n))) func132 rfl qK (fun w' hf=>⟨hg.ext hf,hN.ext hf⟩) ?_
 refine zC ?_
 have A0:=Zf8 E
 by_cases F:blen n≤bits
 ·obtain⟨k,hk⟩:∃ k,bits=blen n+k:=⟨bits-blen n,qO⟩
  refine zB (xq 2 [(10,.p 10 0),yJ 11 0] [yF 10 109 false none 0 0 0] ?_)
  refine yZ (yY (xq 1 [eS1 14 A l c] [] ?_))
  refine xqc 139 [.slice A l c] 15 (fun _:Unit=>yI ((blen n:Nat):Int)) _ (fun w R Q=>yN (kT Q.2 E)) fun xx=>?_
  refine xq 2 [yJ 17 (IntKind.i64.wrap (((blen n:Nat):Int)-(bits:Int)))] [] ?_
  rw[show IntKind.i64.wrap (((blen n:Nat):Int)-(bits:Int)) = -(k:Int) by rw[IntKind.wrap_i64];omega]
  refine xq 1 [yJ 12 (-(k:Int))] [] ?_
  refine yZ (zC (yY (xq 2 [(19,.v (.bool (decide ((-(k:Int))≤0))))] [] ?_)))
  rw[show decide (-(k:Int)≤0)=true from vJ qO]
  refine yZ (xa (yY (xq 3 [yB 20 s,eS1 21 A l c,yJ 22 e] [] ?_)))
  obtain⟨g,G⟩:=yE (wT s (n) (e))
  refine xqc 138 [.bool s,.slice A l c, yI e] 23 (shNb g) _ (fun w R Q=>yM wC ((show Calls _ _ _ _ (xZ w g) by rw[←G];exact lZ s _ _ _ _ _ _ Q.1.1 Q.1.2 E qO qO))) fun⟨L,M,N⟩=>?_
  refine xq 4 [yJ 11 g.err] [yF 10 109 g.s L M N g.e] ?_
  refine yZ (zH (zN ?_))
  refine yR (.tuple #[yV g.s L M N g.e, yI g.err]) fun w' R Q=>?_
  rw[ZcH F,G]
  exact⟨(L,M,N),rfl,Q.2,R⟩
 obtain⟨j,hj⟩:∃ j,blen n=bits+(j+1):=⟨blen n-bits-1,qO⟩
 have O:0<n:=sR (fun e=>by rw[e,fZ] at F;omega)
 have B:wl (n/2^(j+1))≤4294967296:=uB (wP (vK _ _)) E
 have P:wl (n/2^(j+1)+1)≤4294967296:=uB (wP (pK O (Nat.one_lt_two_pow qO))) E
 obtain⟨b1,S⟩:=yE (decide (n/2^j%2=1))
 obtain⟨b2,T⟩:=yE (decide (n/2^(j+1)/2^0%2=1))
 obtain⟨b3,U⟩:=yE false
 refine zB (xq 2 [(10,.p 10 0),yJ 11 0] [yF 10 109 false none 0 0 0] ?_)
 refine yZ (yY (xq 1 [eS1 14 A l c] [] ?_))
 refine xqc 139 [.slice A l c] 15 (fun _:Unit=>yI ((blen n:Nat):Int)) _ (fun w R Q=>yN (kT Q.2 E)) fun xx=>?_
 refine xq 2 [yJ 17 (IntKind.i64.wrap (((blen n:Nat):Int)-(bits:Int)))] [] ?_
 rw[yW (((blen n:Nat):Int)-(bits:Int)) (((j+1:Nat):Int)) qO]
 refine xq 1 [yJ 12 ((j+1:Nat):Int)] [] ?_
 refine yZ (zC (yY (xq 2 [yB 19 (decide (((j+1:Nat):Int)≤0))] [] ?_)))
 rw[show decide (((j+1:Nat):Int)≤0)=false from uV qO]
 refine yZ (xb (zI (zA (yY (xq 2 [eS1 26 A l c,yJ 27 ((j+1:Nat):Int)] [] ?_)))))
 refine xqc 140 [.slice A l c, yI ((j+1:Nat):Int)] 28 xK _ (fun w R Q=>yM xC (iZ (j+1) Q.1.2 E qO)) fun⟨a,b,f⟩=>?_
 refine xq 1 [eS1 13 a b f] [] ?_
 refine yZ (zC (yY (xq 3 [eS1 29 A l c,yJ 31 (IntKind.i64.wrap (((j+1:Nat):Int)-1))] [] ?_)))
 rw[yW (((j+1:Nat):Int)-1) ((j:Int)) qO]
 refine xqc 170 [.slice A l c, yI (j:Int)] 32 (fun _:Unit=>.bool b1) _ (fun w R Q=>yN ((show Calls _ _ _ _ (RetV w (.bool b1)) by rw[←S];exact aL (j) Q.1.1.2 qO))) fun xx=>?_
 refine xq 1 [yB 33 b1] [] ?_
 rcases bl2 (b1) with i|i
 ·rw[i]
  have k1:=uC (S.trans i)
  refine xq 1 [eS1 34 A l c] [] ?_
  refine xqc 171 [.slice A l c] 35 (fun _:Unit=>yI ((tzn n:Nat):Int)) _ (fun w R Q=>yN (ZaB Q.1.1.1.1 Q.1.1.1.2 E O)) fun xx=>?_
  refine xq 2 [yJ 37 (IntKind.i64.wrap (((j+1:Nat):Int)-1))] [] ?_
  rw[yW (((j+1:Nat):Int)-1) ((j:Int)) qO]
  refine xq 2 [yB 39 (decide (((tzn n:Nat):Int)<(j:Int)))] [] ?_
  rcases bl2 ((decide (((tzn n:Nat):Int)<(j:Int)))) with m|m
  ·rw[m]
   have V:=uC m
   have k4:tzn n<j:=qO
   refine xr 8 [yB 0 s,yJ 2 e,(10,.p 10 0),yJ 11 0,yJ 12 ((j+1:Nat):Int),eS1 13 a b f,yB 47 true] [yF 10 109 false none 0 0 0] ?_
   refine yZ (xa (zB (xq 1 [eS1 48 a b f] [] ?_)))
   refine yD (d:=49) (fun C:Nat=>.slice (yL C) 1 1) (fun C zw=>Blk 141 zw C #[yX 1]) (fun w R Q=>lY (t:=107) (e:=141) (n:=1) (sz:=1) (z:=yX 0) (parts:=#[(0,Operand.const (Value.int IntKind.u64 1))]) qK qK qK qK qK qK) fun v0=>?_
   refine xr 0 [yB 0 s,yJ 2 e,(10,.p 10 0),yJ 11 0,yJ 12 ((j+1:Nat):Int),eS1 13 a b f,eS1 48 a b f,eS1 49 (yL v0) 1 1] [yF 10 109 false none 0 0 0] ?_
   refine xqc 135 [.slice a b f,.slice (yL v0) 1 1] 50 xK _ (fun w R Q=>yM xC (jQ Q.1.1.1.2 (gR Q.2) B wl_1)) fun⟨W,X,Y⟩=>?_
   refine xq 1 [eS1 13 W X Y] [] ?_
   refine yZ (yY (xq 5 [yB 51 s,eS1 52 W X Y,yJ 55 (IntKind.i64.wrap (e+((j+1:Nat):Int)))] [] ?_))
   rw[yW (e+((j+1:Nat):Int)) (e+((j+1:Nat):Int)) qO]
   obtain⟨o,H⟩:=yE (wT s (n/2^(j+1)+1) ((e+((j+1:Nat):Int))))
   refine xqc 138 [.bool s,.slice W X Y, yI (e+((j+1:Nat):Int))] 56 (shNb o) _ (fun w R Q=>yM wC ((show Calls _ _ _ _ (xZ w o) by rw[←H];exact lZ s _ _ _ _ _ _ Q.1.1.1.1.1.1.1 Q.2 P qO qO))) fun⟨Z,a0,b0⟩=>?_
   refine xq 4 [yJ 11 o.err] [yF 10 109 o.s Z a0 b0 o.e] ?_
   refine yZ (zH ?_)
   refine yR (.tuple #[yV o.s Z a0 b0 o.e, yI o.err]) fun w' R Q=>?_
   rw[fA hj k1 (Or.inl k4) O,H]
   exact⟨(Z,a0,b0),rfl,Q.2,R⟩
  rw[m]
  have V:=uD m
  have k4:¬ tzn n<j:=qO
  refine xr 1 [yB 0 s,yJ 2 e,(4,.v (.func (.func 133) #[] #[])),(10,.p 10 0),yJ 11 0,yJ 12 ((j+1:Nat):Int),eS1 13 a b f,yB 33 true,yB 39 false,eS1 40 a b f] [yF 10 109 false none 0 0 0] ?_
  refine xqc 170 [.slice a b f, yI 0] 41 (fun _:Unit=>.bool b2) _ (fun w R Q=>yN ((show Calls _ _ _ _ (RetV w (.bool b2)) by rw[←T];exact aL (0) Q.1.1.2 qO))) fun xx=>?_
  refine xq 2 [yB 43 b2] [] ?_
  rcases bl2 (b2) with q|q
  ·rw[q]
   have k2:=uC (T.trans q)
   rw[tA,rQ] at k2
   refine xq 4 [yB 47 true] [] ?_
   refine yZ (xa (zB (xq 1 [eS1 48 a b f] [] ?_)))
   refine yD (d:=49) (fun C:Nat=>.slice (yL C) 1 1) (fun C zw=>Blk 141 zw C #[yX 1]) (fun w R Q=>lY (t:=107) (e:=141) (n:=1) (sz:=1) (z:=yX 0) (parts:=#[(0,Operand.const (Value.int IntKind.u64 1))]) qK qK qK qK qK qK) fun w0=>?_
   refine xr 0 [yB 0 s,yJ 2 e,(10,.p 10 0),yJ 11 0,yJ 12 ((j+1:Nat):Int),eS1 13 a b f,eS1 48 a b f,eS1 49 (yL w0) 1 1] [yF 10 109 false none 0 0 0] ?_
   refine xqc 135 [.slice a b f,.slice (yL w0) 1 1] 50 xK _ (fun w R Q=>yM xC (jQ Q.1.1.1.1.2 (gR Q.2) B wl_1)) fun⟨c0,d0,e0⟩=>?_
   refine xq 1 [eS1 13 c0 d0 e0] [] ?_
   refine yZ (yY (xq 5 [yB 51 s,eS1 52 c0 d0 e0,yJ 55 (IntKind.i64.wrap (e+((j+1:Nat):Int)))] [] ?_))
   rw[yW (e+((j+1:Nat):Int)) (e+((j+1:Nat):Int)) qO]
   obtain⟨r,I⟩:=yE (wT s (n/2^(j+1)+1) ((e+((j+1:Nat):Int))))
   refine xqc 138 [.bool s,.slice c0 d0 e0, yI (e+((j+1:Nat):Int))] 56 (shNb r) _ (fun w R Q=>yM wC ((show Calls _ _ _ _ (xZ w r) by rw[←I];exact lZ s _ _ _ _ _ _ Q.1.1.1.1.1.1.1.1 Q.2 P qO qO))) fun⟨f0,g0,i0⟩=>?_
   refine xq 4 [yJ 11 r.err] [yF 10 109 r.s f0 g0 i0 r.e] ?_
   refine yZ (zH ?_)
   refine yR (.tuple #[yV r.s f0 g0 i0 r.e, yI r.err]) fun w' R Q=>?_
   rw[fA hj k1 (Or.inr (Or.inl k2)) O,I]
   exact⟨(f0,g0,i0),rfl,Q.2,R⟩
  rw[q]
  have k2:=uD (T.trans q)
  rw[tA,rQ] at k2
  refine xq 1 [(44,.v (.func (.func 133) #[] #[]))] [] ?_
  refine xqc 133 [] 45 (fun _:Unit=>.bool b3) _ (fun w R Q=>yN ((show Calls _ _ _ _ (RetV w (.bool b3)) by rw[←U];exact Zm7 _))) fun xx=>?_
  refine xq 2 [yB 47 b3] [] ?_
  refine xe (zA ?_)
  refine yQ (b3) (fun D=>?_) fun D=>?_
  ·have k3:=U.trans D
   refine zB (xq 1 [eS1 48 a b f] [] ?_)
   refine yD (d:=49) (fun C:Nat=>.slice (yL C) 1 1) (fun C zw=>Blk 141 zw C #[yX 1]) (fun w R Q=>lY (t:=107) (e:=141) (n:=1) (sz:=1) (z:=yX 0) (parts:=#[(0,Operand.const (Value.int IntKind.u64 1))]) qK qK qK qK qK qK) fun x0=>?_
   refine xr 0 [yB 0 s,yJ 2 e,(10,.p 10 0),yJ 11 0,yJ 12 ((j+1:Nat):Int),eS1 13 a b f,eS1 48 a b f,eS1 49 (yL x0) 1 1] [yF 10 109 false none 0 0 0] ?_
   refine xqc 135 [.slice a b f,.slice (yL x0) 1 1] 50 xK _ (fun w R Q=>yM xC (jQ Q.1.1.1.1.1.2 (gR Q.2) B wl_1)) fun⟨j0,k0,l0⟩=>?_
   refine xq 1 [eS1 13 j0 k0 l0] [] ?_
   refine yZ (yY (xq 5 [yB 51 s,eS1 52 j0 k0 l0,yJ 55 (IntKind.i64.wrap (e+((j+1:Nat):Int)))] [] ?_))
   rw[yW (e+((j+1:Nat):Int)) (e+((j+1:Nat):Int)) qO]
   obtain⟨u,J⟩:=yE (wT s (n/2^(j+1)+1) ((e+((j+1:Nat):Int))))
   refine xqc 138 [.bool s,.slice j0 k0 l0, yI (e+((j+1:Nat):Int))] 56 (shNb u) _ (fun w R Q=>yM wC ((show Calls _ _ _ _ (xZ w u) by rw[←J];exact lZ s _ _ _ _ _ _ Q.1.1.1.1.1.1.1.1.1 Q.2 P qO qO))) fun⟨m0,n0,o0⟩=>?_
   refine xq 4 [yJ 11 u.err] [yF 10 109 u.s m0 n0 o0 u.e] ?_
   refine yZ (zH ?_)
   refine yR (.tuple #[yV u.s m0 n0 o0 u.e, yI u.err]) fun w' R Q=>?_
   rw[fA hj k1 (Or.inr (Or.inr k3)) O,J]
   exact⟨(m0,n0,o0),rfl,Q.2,R⟩
  have k3:=U.trans D
  refine zI (zA (yY (xq 5 [yB 51 s,eS1 52 a b f,yJ 55 (IntKind.i64.wrap (e+((j+1:Nat):Int)))] [] ?_)))
  rw[yW (e+((j+1:Nat):Int)) (e+((j+1:Nat):Int)) qO]
  obtain⟨x,hr25⟩:=yE (wT s (n/2^(j+1)) ((e+((j+1:Nat):Int))))
  refine xqc 138 [.bool s,.slice a b f, yI (e+((j+1:Nat):Int))] 56 (shNb x) _ (fun w R Q=>yM wC ((show Calls _ _ _ _ (xZ w x) by rw[←hr25];exact lZ s _ _ _ _ _ _ Q.1.1.1.1.1.1.1 Q.1.1.1.1.2 B qO qO))) fun⟨p0,q0,r0⟩=>?_
  refine xq 4 [yJ 11 x.err] [yF 10 109 x.s p0 q0 r0 x.e] ?_
  refine yZ (zH ?_)
  refine yR (.tuple #[yV x.s p0 q0 r0 x.e, yI x.err]) fun w' R Q=>?_
  rw[eY hj O (fun h=>by rcases h.2 with h|h|h;exact k4 h;exact k2 h;rw[k3] at h;cases h),hr25]
  exact⟨(p0,q0,r0),rfl,Q.2,R⟩
 rw[i]
 have k1:=uD (S.trans i)
 refine xq 14 [yB 47 false] [] ?_
 refine yZ (xb (zI (zA (yY (xq 5 [yB 51 s,eS1 52 a b f,yJ 55 (IntKind.i64.wrap (e+((j+1:Nat):Int)))] [] ?_)))))
 rw[yW (e+((j+1:Nat):Int)) (e+((j+1:Nat):Int)) qO]
 obtain⟨y,K⟩:=yE (wT s (n/2^(j+1)) ((e+((j+1:Nat):Int))))
 refine xqc 138 [.bool s,.slice a b f, yI (e+((j+1:Nat):Int))] 56 (shNb y) _ (fun w R Q=>yM wC ((show Calls _ _ _ _ (xZ w y) by rw[←K];exact lZ s _ _ _ _ _ _ Q.1.1.1.1 Q.1.2 B qO qO))) fun⟨s0,t0,u0⟩=>?_
 refine xq 4 [yJ 11 y.err] [yF 10 109 y.s s0 t0 u0 y.e] ?_
 refine yZ (zH ?_)
 refine yR (.tuple #[yV y.s s0 t0 u0 y.e, yI y.err]) fun w' R Q=>?_
 rw[eY hj O (fun h=>k1 h.1),K]
 exact⟨(s0,t0,u0),rfl,Q.2,R⟩
theorem ZlH (s:Bool)(A:qA)(l c n:Nat)(e:Int)(bits:Nat)(Q:Nat)(A2:qA)(l2 c2:Nat)(w:World)(hg:Glob w)(hN:zF w (.slice A l c) n)(E:wl n≤4294967296)(z0 : -576460752303423488≤e)(A0:e≤576460752303423488)(hb:bits≤4294967296)(hQ:ZcI w Q (.slice A2 l2 c2)) :
 yA 132 #[.bool s,.slice A l c,.int .i64 e,.int .i64 ((bits:Nat):Int),.func (.func 159) #[] #[.pointer (some ⟨Q,0,none⟩)]] w (xZ w (lD s n e bits (decide (0<l2)))):=by
 refine zQ (Φ:=fun w=>((Glob w∧zF w (.slice A l c) (n))∧ZcI w Q (.slice A2 l2 c2))) func132 rfl qK (fun w' hf=>⟨⟨hg.ext hf,hN.ext hf⟩,hQ.ext hf⟩) ?_
 refine zC ?_
 have B0:=Zf8 E
 by_cases F:blen n≤bits
 ·obtain⟨k,hk⟩:∃ k,bits=blen n+k:=⟨bits-blen n,qO⟩
  refine zB (xq 2 [(10,.p 10 0),yJ 11 0] [yF 10 109 false none 0 0 0] ?_)
  refine yZ (yY (xq 1 [eS1 14 A l c] [] ?_))
  refine xqc 139 [.slice A l c] 15 (fun _:Unit=>yI ((blen n:Nat):Int)) _ (fun w S R=>(kT R.1.2 E).mono (fun _ _ h=>zM h rfl)) fun xx=>?_
  refine xq 2 [yJ 17 (IntKind.i64.wrap (((blen n:Nat):Int)-(bits:Int)))] [] ?_
  rw[show IntKind.i64.wrap (((blen n:Nat):Int)-(bits:Int)) = -(k:Int) by rw[IntKind.wrap_i64];omega]
  refine xq 1 [yJ 12 (-(k:Int))] [] ?_
  refine yZ (zC (yY (xq 2 [(19,.v (.bool (decide ((-(k:Int))≤0))))] [] ?_)))
  rw[show decide (-(k:Int)≤0)=true from vJ qO]
  refine yZ (xa (yY (xq 3 [yB 20 s,eS1 21 A l c,yJ 22 e] [] ?_)))
  obtain⟨g,G⟩:=yE (wT s (n) (e))
  refine xqc 138 [.bool s,.slice A l c, yI e] 23 (shNb g) _ (fun w S R=>((show Calls _ _ _ _ (xZ w g) by rw[←G];exact lZ s _ _ _ _ _ _ R.1.1.1 R.1.1.2 E qO qO)).mono (fun _ _=>wC)) fun⟨L,M,N⟩=>?_
  refine xq 4 [yJ 11 g.err] [yF 10 109 g.s L M N g.e] ?_
  refine yZ (zH (zN ?_))
  refine yR (.tuple #[yV g.s L M N g.e, yI g.err]) fun w' S R=>?_
  rw[ZcH F,G]
  exact⟨(L,M,N),rfl,R.2,S⟩
 obtain⟨j,hj⟩:∃ j,blen n=bits+(j+1):=⟨blen n-bits-1,qO⟩
 have O:0<n:=sR (fun e=>by rw[e,fZ] at F;omega)
 have B:wl (n/2^(j+1))≤4294967296:=uB (wP (vK _ _)) E
 have P:wl (n/2^(j+1)+1)≤4294967296:=uB (wP (pK O (Nat.one_lt_two_pow qO))) E
 obtain⟨b1,T⟩:=yE (decide (n/2^j%2=1))
 obtain⟨b2,U⟩:=yE (decide (n/2^(j+1)/2^0%2=1))
 obtain⟨b3,V⟩:=yE (decide (0<l2))
 refine zB (xq 2 [(10,.p 10 0),yJ 11 0] [yF 10 109 false none 0 0 0] ?_)
 refine yZ (yY (xq 1 [eS1 14 A l c] [] ?_))
 refine xqc 139 [.slice A l c] 15 (fun _:Unit=>yI ((blen n:Nat):Int)) _ (fun w S R=>(kT R.1.2 E).mono (fun _ _ h=>zM h rfl)) fun xx=>?_
 refine xq 2 [yJ 17 (IntKind.i64.wrap (((blen n:Nat):Int)-(bits:Int)))] [] ?_
 rw[yW (((blen n:Nat):Int)-(bits:Int)) (((j+1:Nat):Int)) qO]
 refine xq 1 [yJ 12 ((j+1:Nat):Int)] [] ?_
 refine yZ (zC (yY (xq 2 [yB 19 (decide (((j+1:Nat):Int)≤0))] [] ?_)))
 rw[show decide (((j+1:Nat):Int)≤0)=false from uV qO]
 refine yZ (xb (zI (zA (yY (xq 2 [eS1 26 A l c,yJ 27 ((j+1:Nat):Int)] [] ?_)))))
 refine xqc 140 [.slice A l c, yI ((j+1:Nat):Int)] 28 xK _ (fun w S R=>(iZ (j+1) R.1.1.2 E qO).mono (fun _ _=>xC)) fun⟨a,b,f⟩=>?_
 refine xq 1 [eS1 13 a b f] [] ?_
 refine yZ (zC (yY (xq 3 [eS1 29 A l c,yJ 31 (IntKind.i64.wrap (((j+1:Nat):Int)-1))] [] ?_)))
 rw[yW (((j+1:Nat):Int)-1) ((j:Int)) qO]
 refine xqc 170 [.slice A l c, yI (j:Int)] 32 (fun _:Unit=>.bool b1) _ (fun w S R=>((show Calls _ _ _ _ (RetV w (.bool b1)) by rw[←T];exact aL (j) R.1.1.1.2 qO)).mono (fun _ _ h=>zM h rfl)) fun xx=>?_
 refine xq 1 [yB 33 b1] [] ?_
 rcases bl2 (b1) with i|i
 ·rw[i]
  have k1:=uC (T.trans i)
  refine xq 1 [eS1 34 A l c] [] ?_
  refine xqc 171 [.slice A l c] 35 (fun _:Unit=>yI ((tzn n:Nat):Int)) _ (fun w S R=>(ZaB R.1.1.1.1.1 R.1.1.1.1.2 E O).mono (fun _ _ h=>zM h rfl)) fun xx=>?_
  refine xq 2 [yJ 37 (IntKind.i64.wrap (((j+1:Nat):Int)-1))] [] ?_
  rw[yW (((j+1:Nat):Int)-1) ((j:Int)) qO]
  refine xq 2 [yB 39 (decide (((tzn n:Nat):Int)<(j:Int)))] [] ?_
  rcases bl2 ((decide (((tzn n:Nat):Int)<(j:Int)))) with m|m
  ·rw[m]
   have W:=uC m
   have k4:tzn n<j:=qO
   refine xr 8 [yB 0 s,yJ 2 e,(10,.p 10 0),yJ 11 0,yJ 12 ((j+1:Nat):Int),eS1 13 a b f,yB 47 true] [yF 10 109 false none 0 0 0] ?_
   refine yZ (xa (zB (xq 1 [eS1 48 a b f] [] ?_)))
   refine yD (d:=49) (fun C:Nat=>.slice (yL C) 1 1) (fun C zw=>Blk 141 zw C #[yX 1]) (fun w S R=>lY (t:=107) (e:=141) (n:=1) (sz:=1) (z:=yX 0) (parts:=#[(0,Operand.const (Value.int IntKind.u64 1))]) qK qK qK qK qK qK) fun w0=>?_
   refine xr 0 [yB 0 s,yJ 2 e,(10,.p 10 0),yJ 11 0,yJ 12 ((j+1:Nat):Int),eS1 13 a b f,eS1 48 a b f,eS1 49 (yL w0) 1 1] [yF 10 109 false none 0 0 0] ?_
   refine xqc 135 [.slice a b f,.slice (yL w0) 1 1] 50 xK _ (fun w S R=>(jQ R.1.1.1.2 (gR R.2) B wl_1).mono (fun _ _=>xC)) fun⟨X,Y,Z⟩=>?_
   refine xq 1 [eS1 13 X Y Z] [] ?_
   refine yZ (yY (xq 5 [yB 51 s,eS1 52 X Y Z,yJ 55 (IntKind.i64.wrap (e+((j+1:Nat):Int)))] [] ?_))
   rw[yW (e+((j+1:Nat):Int)) (e+((j+1:Nat):Int)) qO]
   obtain⟨o,H⟩:=yE (wT s (n/2^(j+1)+1) ((e+((j+1:Nat):Int))))
   refine xqc 138 [.bool s,.slice X Y Z, yI (e+((j+1:Nat):Int))] 56 (shNb o) _ (fun w S R=>((show Calls _ _ _ _ (xZ w o) by rw[←H];exact lZ s _ _ _ _ _ _ R.1.1.1.1.1.1.1.1 R.2 P qO qO)).mono (fun _ _=>wC)) fun⟨a0,b0,c0⟩=>?_
   refine xq 4 [yJ 11 o.err] [yF 10 109 o.s a0 b0 c0 o.e] ?_
   refine yZ (zH ?_)
   refine yR (.tuple #[yV o.s a0 b0 c0 o.e, yI o.err]) fun w' S R=>?_
   rw[fA hj k1 (Or.inl k4) O,H]
   exact⟨(a0,b0,c0),rfl,R.2,S⟩
  rw[m]
  have W:=uD m
  have k4:¬ tzn n<j:=qO
  refine xr 1 [yB 0 s,yJ 2 e,(4,.v (.func (.func 159) #[] #[.pointer (yL Q)])),(10,.p 10 0),yJ 11 0,yJ 12 ((j+1:Nat):Int),eS1 13 a b f,yB 33 true,yB 39 false,eS1 40 a b f] [yF 10 109 false none 0 0 0] ?_
  refine xqc 170 [.slice a b f, yI 0] 41 (fun _:Unit=>.bool b2) _ (fun w S R=>((show Calls _ _ _ _ (RetV w (.bool b2)) by rw[←U];exact aL (0) R.1.1.2 qO)).mono (fun _ _ h=>zM h rfl)) fun xx=>?_
  refine xq 2 [yB 43 b2] [] ?_
  rcases bl2 (b2) with q|q
  ·rw[q]
   have k2:=uC (U.trans q)
   rw[tA,rQ] at k2
   refine xq 4 [yB 47 true] [] ?_
   refine yZ (xa (zB (xq 1 [eS1 48 a b f] [] ?_)))
   refine yD (d:=49) (fun C:Nat=>.slice (yL C) 1 1) (fun C zw=>Blk 141 zw C #[yX 1]) (fun w S R=>lY (t:=107) (e:=141) (n:=1) (sz:=1) (z:=yX 0) (parts:=#[(0,Operand.const (Value.int IntKind.u64 1))]) qK qK qK qK qK qK) fun x0=>?_
   refine xr 0 [yB 0 s,yJ 2 e,(10,.p 10 0),yJ 11 0,yJ 12 ((j+1:Nat):Int),eS1 13 a b f,eS1 48 a b f,eS1 49 (yL x0) 1 1] [yF 10 109 false none 0 0 0] ?_
   refine xqc 135 [.slice a b f,.slice (yL x0) 1 1] 50 xK _ (fun w S R=>(jQ R.1.1.1.1.2 (gR R.2) B wl_1).mono (fun _ _=>xC)) fun⟨d0,e0,f0⟩=>?_
   refine xq 1 [eS1 13 d0 e0 f0] [] ?_
   refine yZ (yY (xq 5 [yB 51 s,eS1 52 d0 e0 f0,yJ 55 (IntKind.i64.wrap (e+((j+1:Nat):Int)))] [] ?_))
   rw[yW (e+((j+1:Nat):Int)) (e+((j+1:Nat):Int)) qO]
   obtain⟨r,I⟩:=yE (wT s (n/2^(j+1)+1) ((e+((j+1:Nat):Int))))
   refine xqc 138 [.bool s,.slice d0 e0 f0, yI (e+((j+1:Nat):Int))] 56 (shNb r) _ (fun w S R=>((show Calls _ _ _ _ (xZ w r) by rw[←I];exact lZ s _ _ _ _ _ _ R.1.1.1.1.1.1.1.1.1 R.2 P qO qO)).mono (fun _ _=>wC)) fun⟨g0,i0,j0⟩=>?_
   refine xq 4 [yJ 11 r.err] [yF 10 109 r.s g0 i0 j0 r.e] ?_
   refine yZ (zH ?_)
   refine yR (.tuple #[yV r.s g0 i0 j0 r.e, yI r.err]) fun w' S R=>?_
   rw[fA hj k1 (Or.inr (Or.inl k2)) O,I]
   exact⟨(g0,i0,j0),rfl,R.2,S⟩
  rw[q]
  have k2:=uD (U.trans q)
  rw[tA,rQ] at k2
  refine xq 1 [(44,.v (.func (.func 159) #[] #[.pointer (yL Q)]))] [] ?_
  refine xqc 159 [.pointer (yL Q)] 45 (fun _:Unit=>.bool b3) _ (fun w S R=>((show Calls _ _ _ _ (RetV w (.bool b3)) by rw[←V];exact Zm6 Q A2 l2 c2 _ R.1.1.1.1.1.2)).mono (fun _ _ h=>zM h rfl)) fun xx=>?_
  refine xq 2 [yB 47 b3] [] ?_
  refine xe (zA ?_)
  refine yQ (b3) (fun D=>?_) fun D=>?_
  ·have k3:=V.trans D
   refine zB (xq 1 [eS1 48 a b f] [] ?_)
   refine yD (d:=49) (fun C:Nat=>.slice (yL C) 1 1) (fun C zw=>Blk 141 zw C #[yX 1]) (fun w S R=>lY (t:=107) (e:=141) (n:=1) (sz:=1) (z:=yX 0) (parts:=#[(0,Operand.const (Value.int IntKind.u64 1))]) qK qK qK qK qK qK) fun y0=>?_
   refine xr 0 [yB 0 s,yJ 2 e,(10,.p 10 0),yJ 11 0,yJ 12 ((j+1:Nat):Int),eS1 13 a b f,eS1 48 a b f,eS1 49 (yL y0) 1 1] [yF 10 109 false none 0 0 0] ?_
   refine xqc 135 [.slice a b f,.slice (yL y0) 1 1] 50 xK _ (fun w S R=>(jQ R.1.1.1.1.1.2 (gR R.2) B wl_1).mono (fun _ _=>xC)) fun⟨k0,l0,m0⟩=>?_
   refine xq 1 [eS1 13 k0 l0 m0] [] ?_
   refine yZ (yY (xq 5 [yB 51 s,eS1 52 k0 l0 m0,yJ 55 (IntKind.i64.wrap (e+((j+1:Nat):Int)))] [] ?_))
   rw[yW (e+((j+1:Nat):Int)) (e+((j+1:Nat):Int)) qO]
   obtain⟨u,J⟩:=yE (wT s (n/2^(j+1)+1) ((e+((j+1:Nat):Int))))
   refine xqc 138 [.bool s,.slice k0 l0 m0, yI (e+((j+1:Nat):Int))] 56 (shNb u) _ (fun w S R=>((show Calls _ _ _ _ (xZ w u) by rw[←J];exact lZ s _ _ _ _ _ _ R.1.1.1.1.1.1.1.1.1.1 R.2 P qO qO)).mono (fun _ _=>wC)) fun⟨n0,o0,p0⟩=>?_
   refine xq 4 [yJ 11 u.err] [yF 10 109 u.s n0 o0 p0 u.e] ?_
   refine yZ (zH ?_)
   refine yR (.tuple #[yV u.s n0 o0 p0 u.e, yI u.err]) fun w' S R=>?_
   rw[fA hj k1 (Or.inr (Or.inr k3)) O,J]
   exact⟨(n0,o0,p0),rfl,R.2,S⟩
  have k3:=V.trans D
  refine zI (zA (yY (xq 5 [yB 51 s,eS1 52 a b f,yJ 55 (IntKind.i64.wrap (e+((j+1:Nat):Int)))] [] ?_)))
  rw[yW (e+((j+1:Nat):Int)) (e+((j+1:Nat):Int)) qO]
  obtain⟨x,hr25⟩:=yE (wT s (n/2^(j+1)) ((e+((j+1:Nat):Int))))
  refine xqc 138 [.bool s,.slice a b f, yI (e+((j+1:Nat):Int))] 56 (shNb x) _ (fun w S R=>((show Calls _ _ _ _ (xZ w x) by rw[←hr25];exact lZ s _ _ _ _ _ _ R.1.1.1.1.1.1.1.1 R.1.1.1.1.2 B qO qO)).mono (fun _ _=>wC)) fun⟨q0,r0,s0⟩=>?_
  refine xq 4 [yJ 11 x.err] [yF 10 109 x.s q0 r0 s0 x.e] ?_
  refine yZ (zH ?_)
  refine yR (.tuple #[yV x.s q0 r0 s0 x.e, yI x.err]) fun w' S R=>?_
  rw[eY hj O (fun h=>by rcases h.2 with h|h|h;exact k4 h;exact k2 h;rw[k3] at h;cases h),hr25]
  exact⟨(q0,r0,s0),rfl,R.2,S⟩
 rw[i]
 have k1:=uD (T.trans i)
 refine xq 14 [yB 47 false] [] ?_
 refine yZ (xb (zI (zA (yY (xq 5 [yB 51 s,eS1 52 a b f,yJ 55 (IntKind.i64.wrap (e+((j+1:Nat):Int)))] [] ?_)))))
 rw[yW (e+((j+1:Nat):Int)) (e+((j+1:Nat):Int)) qO]
 obtain⟨y,K⟩:=yE (wT s (n/2^(j+1)) ((e+((j+1:Nat):Int))))
 refine xqc 138 [.bool s,.slice a b f, yI (e+((j+1:Nat):Int))] 56 (shNb y) _ (fun w S R=>((show Calls _ _ _ _ (xZ w y) by rw[←K];exact lZ s _ _ _ _ _ _ R.1.1.1.1.1 R.1.2 B qO qO)).mono (fun _ _=>wC)) fun⟨t0,u0,v0⟩=>?_
 refine xq 4 [yJ 11 y.err] [yF 10 109 y.s t0 u0 v0 y.e] ?_
 refine yZ (zH ?_)
 refine yR (.tuple #[yV y.s t0 u0 v0 y.e, yI y.err]) fun w' S R=>?_
 rw[eY hj O (fun h=>k1 h.1),K]
 exact⟨(t0,u0,v0),rfl,R.2,S⟩
theorem Zhy {u v:Value}{m n:Nat}{w:World}(d:zF w u m)(e:zF w v n)(f:wl m≤4294967295)(g:wl n≤4294967296)(l:0<n):yA 158 #[u,v] w (Zb0 w (m/n) (m%n)):=by
 have a:=d
 have b:=e
 obtain⟨A,o,c,rfl,y,p,h,i,rfl⟩:=d
 obtain⟨q,r,s,rfl,t,x,j,k,rfl⟩:=e
 rw[←xT h i] at f
 rw[←xT j k] at g
 exact Zm5 A q o r c s w p x f g h j a b i k l
theorem ZoK {s:Bool}{A:qA}{l c:Nat}{e:Int}:Zko #[.bool s,.slice A l c,.int .i64 e]:=by
 intro i k;rcases i with _|_|_|i<;>simp
theorem Blk.cell3n {t:TypeId}{w:World}{g:Nat}{x y z:Value}(h:Blk t w g #[x,y,z]):w.cell? ⟨g,0,none⟩=some x∧w.cell? ⟨g,1,none⟩=some y∧w.cell? ⟨g,2,none⟩=some z∧w.frozen? ⟨g,0,none⟩=false∧w.frozen? ⟨g,1,none⟩=false∧w.frozen? ⟨g,2,none⟩=false :=
 ⟨h.cell 0,h.cell 1,h.cell 2,h.frozen 0,h.frozen 1,h.frozen 2⟩
theorem Zrh {fn:Func}{t t2:Tmp}{a:Array Value}{w g b:World}{r:Nat}{x:FR}{A u:qA}{l c y c0:Nat}{s0:Bool}{z:Int}(d:fn.results=#[.cell t 109,.tmp t2])(B:a[t]? = some (.pointer (some ⟨r,0,none⟩)))(h:a[t2]? = some (.int .i64 x.err))(j:w.heap.size≤r)(C:Ext w g)(D:Blk 109 g r #[.bool s0,.slice u y c0,.int .i64 z])(q:Ext g b)(E:zF b (.slice A l c) x.m) :
 bodyPost prog fn (xZ w x) .ret ⟨a,[]⟩ (((b.setCell ⟨r,0,none⟩ (.bool x.s)).setCell ⟨r,1,none⟩ (.slice A l c)).setCell ⟨r,2,none⟩ (.int .i64 x.e)):=by
 have f:=D.ext q
 have k:Blk 109 (((b.setCell ⟨r,0,none⟩ (.bool x.s)).setCell ⟨r,1,none⟩ (.slice A l c)).setCell ⟨r,2,none⟩ (.int .i64 x.e)) r #[.bool x.s,.slice A l c,.int .i64 x.e]:=((f.set_ 0 _).set_ 1 _).set_ 2 _
 obtain⟨F,G,H,_⟩:=k.cell3n
 have I:Fr (fun i=>i=r) b (((b.setCell ⟨r,0,none⟩ (.bool x.s)).setCell ⟨r,1,none⟩ (.slice A l c)).setCell ⟨r,2,none⟩ (.int .i64 x.e)):=(((show Fr (fun i=>i=r) b b from Fr.refl _ _).setCell (p:=⟨r,0,none⟩) (Or.inl rfl) _).setCell (p:=⟨r,1,none⟩) (Or.inl rfl) _).setCell (p:=⟨r,2,none⟩) (Or.inl rfl) _
 have n:=E.other f ZoK I
 have o:Ext w (((b.setCell ⟨r,0,none⟩ (.bool x.s)).setCell ⟨r,1,none⟩ (.slice A l c)).setCell ⟨r,2,none⟩ (.int .i64 x.e)):=(((C.trans q).setCell (p:=⟨r,0,none⟩) (Or.inr j) _).setCell (p:=⟨r,1,none⟩) (Or.inr j) _).setCell (p:=⟨r,2,none⟩) (Or.inr j) _
 generalize ((b.setCell ⟨r,0,none⟩ (.bool x.s)).setCell ⟨r,1,none⟩ (.slice A l c)).setCell ⟨r,2,none⟩ (.int .i64 x.e)=W at *
 exact bodyPost_ret (v:=shNb x (A,l,c)) (by simp[results,d,B,h,go_sem,F,G,H,shNb]) rfl ⟨(A,l,c),rfl,n,o⟩
theorem Za6 {a b:Nat}(h:a<64*b):wl (2^a)≤b:=kE.2 (by rw[show W64=2^64 by rw[zK],← qV];exact Nat.pow_lt_pow_right qD h)
theorem ZdS (s:Bool)(A:qA)(l c n:Nat)(B:qA)(m d k:Nat)(e:Int)(bits:Nat)(w:World)(hg:Glob w)(hN:zF w (.slice A l c) n)(hK:zF w (.slice B m d) k)(h0:wl n≤1000000)(i0:wl k≤1000000)(D:0<k)(j0 : -288230376151711744≤e)(k0:e≤288230376151711744)(P:0<bits)(hb:bits≤1000000) :
 yA 110 #[.bool s,.slice A l c,.slice B m d,.int .i64 e,.int .i64 ((bits:Nat):Int)] w (xZ w (wX s n k e bits)):=by
 have l0:=fU n
 have m0:=fU k
 obtain⟨a1,E⟩:∃ a,a=(rk0 n k bits-1).toNat:=⟨_,rfl⟩
 obtain⟨a2,j⟩:∃ a,a=(-(rk0 n k bits-1)).toNat:=⟨_,rfl⟩
 obtain⟨b,Q⟩:∃ x:Int,x=(bits:Int)+1+(blen k:Nat)-(blen n:Nat):=⟨_,rfl⟩
 have f:rk0 n k bits-1 = -b:=by unfold rk0;omega
 rw[f] at E j
 rw[Int.neg_neg] at j
 have n0 : -100000000≤b:=qO
 have o0:b≤100000000:=qO
 have F:fa n (rk0 n k bits-1)=n*2^a2:=by unfold fa;rw[f,Int.neg_neg,← j]
 have G:fb k (rk0 n k bits-1)=k*2^a1:=by unfold fb;rw[f,← E]
 have p0:wl (n*2^a2)≤4000000:=by
  refine uB (Zag _ _) ?_
  have:wl (2^a2)≤2000001:=Za6 qO
  omega
 have q0:wl (k*2^a1)≤4000000:=by
  refine uB (Zag _ _) ?_
  have:wl (2^a1)≤2000001:=Za6 qO
  omega
 have r0:(if (0:Int)>b then (0:Int) else b)=(a2:Int):=by split<;>omega
 have s0:(if (0:Int) > -b then (0:Int) else -b)=(a1:Int):=by split<;>omega
 have HG:=zh hg
 have HN:=zh hN
 have HK:=zh hK
 clear hg hN hK
 obtain⟨x,R⟩:=yE (wX s n k e bits)
 rw[R]
 have HX:=zh R
 clear R
 go_enter func110,ntmps110
 go_wp2_with fail
 refine (kT (HK.out.ext ((Fr.refl _ _).alloc _)) qO).mono ?_
 rintro H w1 ⟨rfl,o⟩
 have I:Hid (Ext w w1):=((Fr.refl _ _).alloc _).trans o
 have S:Hid (Blk 109 w1 w.heap.size #[.bool false,.slice none 0 0,.int .i64 0]):=(show Blk 109 (w.alloc (.cells #[.bool false,.slice none 0 0,.int .i64 0] 109)) w.heap.size #[.bool false,.slice none 0 0,.int .i64 0] from heap_alloc_new w _).ext o
 clear o
 go_wp2_with fail
 refine (kT (HN.out.ext I.out) qO).mono ?_
 rintro H w2 ⟨rfl,p⟩
 have J:=zh (I.out.trans p)
 have T:=zh (S.out.ext p)
 clear p
 go_wp2_with fail
 rw[show max ((bits:Int)+1+(blen k:Nat)-(blen n:Nat)) 0=(a2:Int) by omega]
 refine (jL a2 (HN.out.ext J.out) qO qO).mono ?_
 rintro H w3 ⟨v3,rfl,q,r⟩
 obtain⟨A3,l3,c3,rfl⟩:=q.slice
 have K:=zh (J.out.trans r)
 have U:=zh (T.out.ext r)
 have V:=zh q
 clear q r
 go_wp2_with fail
 rw[show max (-((bits:Int)+1+(blen k:Nat)-(blen n:Nat))) 0=(a1:Int) by omega]
 refine (jL a1 (HK.out.ext K.out) qO qO).mono ?_
 rintro H w4 ⟨v4,rfl,t,g⟩
 obtain⟨A4,l4,c4,rfl⟩:=t.slice
 have W:=zh (K.out.trans g)
 have X:=zh (U.out.ext g)
 have L:=zh (V.out.ext g)
 have Y:=zh t
 clear t g
 go_wp2_with fail
 refine (Zhy L.out Y.out qO qO (sL D (p2 a1))).mono ?_
 rintro H Z ⟨v5,v6,rfl,u,v,y⟩
 obtain⟨A5,l5,c5,rfl⟩:=u.slice
 obtain⟨A6,O,c6,rfl⟩:=v.slice
 have M:=zh (W.out.trans y)
 have a0:=zh (X.out.ext y)
 have b0:=zh u
 have c0:=zh v
 clear u v y
 go_wp2_with fail
 have i:ZcI (Z.alloc (.cells #[.slice A6 O c6] 107)) Z.heap.size (.slice A6 O c6):=⟨qS,by rw[Lib.cell_of_heap (heap_alloc_new Z _)];rfl⟩
 have d0:wl (n*2^a2/(k*2^a1))≤4294967296:=uB (wP (vK _ _)) qO
 refine (ZlH s A5 l5 c5 _ _ bits _ A6 O c6 _ (HG.out.ext (M.out.alloc _)) (b0.out.ext ((Fr.refl _ _).alloc _)) d0 qO qO qO i).mono ?_
 rintro H w6 ⟨⟨A7,l7,c7⟩,rfl,z,C⟩
 have hr:lD s (n*2^a2/(k*2^a1)) (e-((bits:Int)+1+(blen k:Nat)-(blen n:Nat))) bits (decide (0<O))=x:=by
  rw[←HX.out,← Q]
  rcases uJ n with rfl|hn
  ·rw[tX,Nat.zero_div,ZeN,eJ]
  have h:=ZjR s (n:=n) (d:=k) e (bits:=bits) hn D P
  have hq:fq n k (rk0 n k bits-1)=n*2^a2/(k*2^a1):=by unfold fq;rw[F,G]
  rw[hq,F,G,f] at h
  rw[←h,show e + -b=e-b by omega]
  congr 1
  have e0:=c0.out.len0
  exact pG.2 (by rw[e0];have:=@lL (n*2^a2%(k*2^a1));omega)
 rw[hr] at z
 rw[hr]
 clear hr
 have f0:=zh z
 have g0:Hid (Ext w w6):=(M.out.alloc _).trans C
 have N:=zh ((a0.out.ext ((Fr.refl _ _).alloc _)).ext C)
 obtain⟨z0,z1,z2,z3,z4,z5⟩:=N.out.cell3n
 clear z C i
 simp only[shNb]
 go_wp2
 exact Zrh rfl rfl rfl (uG _) g0.out N.out (Fr.refl _ _) f0.out
theorem ZgS {a b:Int}:(if b<a then b else a)=min a b:=qO
def ZaC (s:Bool) (m n:Nat) (e:Int) (bits:Nat):FR:=if n=0 then ⟨false,0,0,5⟩ else wX s m n e bits
def sumR (sx:Bool) (xm:Nat) (xe:Int) (sy:Bool) (ym:Nat) (ye:Int) (bits:Nat):FR :=
 if xm=0 then wX sy ym 1 ye bits else if ym=0 then wX sx xm 1 xe bits else addR sx xm xe sy ym ye bits
theorem Zbz {n a:Nat}(c:wl n≤1000000)(ha:a≤100000000):wl (n*2^a)≤4000000:=by
 have:=Zag n (2^a)
 have:wl (2^a)≤2000001:=Za6 qO
 omega
section
variable {s t:Bool} {a b bits:Nat} {low:Int}
theorem Zhz (ha:0<a)(h:s=t):wX (decide (sg s a+sg t b<0)) (sg s a+sg t b).natAbs 1 low bits=wX s (a+b) 1 low bits:=by
 subst h
 have c:decide (sg s a+sg s b<0)=s:=by cases s<;>simp[sg]<;>omega
 have d:(sg s a+sg s b).natAbs=a+b:=by cases s<;>simp[sg]<;>omega
 rw[c,d]
theorem Zf9 (h:¬ s=t)(f:b≤a):wX (decide (sg s a+sg t b<0)) (sg s a+sg t b).natAbs 1 low bits=wX s (a-b) 1 low bits:=by
 have c:(sg s a+sg t b).natAbs=a-b:=by cases s<;>cases t<;>simp[sg] at h ⊢<;>omega
 rw[c]
 by_cases e:a-b=0
 ·rw[e,eJ,eJ]
 have d:decide (sg s a+sg t b<0)=s:=by cases s<;>cases t<;>simp[sg] at h ⊢<;>omega
 rw[d]
theorem ZeQ (h:¬ s=t)(e:a<b):wX (decide (sg s a+sg t b<0)) (sg s a+sg t b).natAbs 1 low bits=wX t (b-a) 1 low bits:=by
 have c:(sg s a+sg t b).natAbs=b-a:=by cases s<;>cases t<;>simp[sg] at h ⊢<;>omega
 rw[c]
 have d:decide (sg s a+sg t b<0)=t:=by cases s<;>cases t<;>simp[sg] at h ⊢<;>omega
 rw[d]
end
theorem ZiU {sx:Bool}{c:Nat}{xe:Int}{d:Bool}{ym:Nat}{e:Int}{bits u1 u2:Nat}{low:Int}(f:min xe e=low)(g:xe-low=u1)(h:e-low=u2) :
 addR sx c xe d ym e bits=wX (decide (sg sx (c*2^u1)+sg d (ym*2^u2)<0)) (sg sx (c*2^u1)+sg d (ym*2^u2)).natAbs 1 low bits:=by
 unfold addR
 rw[f,g,h]
 rfl
theorem ZaN {a b:Nat}:cmpI a b≥0↔b≤a:=by
 have:=@fF a b
 omega
theorem ZbA (s:Bool)(A:qA)(l c x:Nat)(e:Int)(w:World)(f:zF w (.slice A l c) x)(d:wl x≤4294967296)(g : -1152921504606846976≤e)(h:e≤1152921504606846976) :
 yA 134 #[yV s A l c e] w (RetV w (.int .i64 (((blen x:Nat):Int)+e))):=by
 refine zQ (Φ:=fun w=>zF w (.slice A l c) (x)) func134 rfl qK (fun w' i=>f.ext i) ?_
 refine zC ?_
 have j:=Zf8 d
 refine zB (xq 2 [(1,.p 1 0),yJ 2 0] [yF 1 109 s A l c e] ?_)
 refine yZ (zC ?_)
 refine yO 7 zL ?_
 refine xqg 2 [eS1 4 A l c] ?_
 refine xqd 139 [.slice A l c] 5 (fun _:Unit=>yI ((blen x:Nat):Int)) _ (fun w R Q=>yN (kT Q d)) fun k=>?_
 refine xqg 3 [yJ 8 (IntKind.i64.wrap (((blen x:Nat):Int)+e))] ?_
 rw[yW (((blen x:Nat):Int)+e) (((blen x:Nat):Int)+e) qO]
 refine xqg 1 [yJ 2 (((blen x:Nat):Int)+e)] ?_
 refine xz (yZ (zH ?_))
 refine yR (yI (((blen x:Nat):Int)+e)) fun w' R Q=>?_
 exact⟨rfl,R⟩
theorem Zm8 (s:Bool)(A:qA)(l c x:Nat)(e:Int)(t:Bool)(B:qA)(m d y:Nat)(f:Int)(bits:Nat)(C:0<bits)(W:bits≤4096)(w:World)(J:Glob w)(H:zF w (.slice A l c) x)(K:wl x≤100000)(L : -1073741824≤e)(M:e≤1073741824)(I:zF w (.slice B m d) y)(N:wl y≤100000)(O : -1073741824≤f)(P:f≤1073741824) :
 yA 130 #[yV s A l c e, yV t B m d f,.int .i64 ((bits:Nat):Int)] w (xZ w (wX (s != t) (x*y) 1 (e+f) bits)):=by
 refine zQ (Φ:=fun w=>((Glob w∧zF w (.slice A l c) (x))∧zF w (.slice B m d) (y))) func130 rfl qK (fun w' D=>⟨⟨J.ext D,H.ext D⟩,I.ext D⟩) ?_
 refine zC ?_
 have S:=H.len0
 have T:=I.len0
 have U:=@lL x
 have V:=@lL y
 refine zB (xq 4 [(3,.p 3 0),(4,.p 4 0),(6,.p 6 0),yJ 7 0] [yF 6 109 false none 0 0 0,yF 4 109 t B m d f,yF 3 109 s A l c e] ?_)
 refine yZ (zC (yY (xq 5 [yB 12 (((l:Int):Int) == 0)] [] ?_)))
 rcases bl2 ((((l:Int):Int) == 0)) with h|h
 ·rw[h]
  have q:=sO.1 h
  have u:x=0:=qO
  refine xq 5 [yB 17 true] [] ?_
  refine yZ (xa (yY (xq 3 [yJ 7 0] [] ?_)))
  refine yZ (zH (zN ?_))
  refine yR (.tuple #[yV false none 0 0 0, yI 0]) fun w' R Q=>?_
  rw[u,tX,eJ]
  exact⟨(none,0,0),rfl,zF.zero _,R⟩
 rw[h]
 have q:=lK h
 have u:¬ x=0:=qO
 refine xq 5 [yB 17 (((m:Int):Int) == 0)] [] ?_
 refine xe (zA ?_)
 refine yQ ((((m:Int):Int) == 0)) (fun i=>?_) fun i=>?_
 ·have r:=sO.1 i
  have z:y=0:=qO
  refine yY (xq 3 [yJ 7 0] [] ?_)
  refine yZ (zH (zN ?_))
  refine yR (.tuple #[yV false none 0 0 0, yI 0]) fun w' R Q=>?_
  rw[z,tP,eJ]
  exact⟨(none,0,0),rfl,zF.zero _,R⟩
 have r:=lK i
 have z:¬ y=0:=qO
 refine zI (zA (zC ?_))
 refine yO 19 zL ?_
 refine xqg 9 [yB 23 (s != t),eS1 25 A l c,eS1 27 B m d] ?_
 refine xqd 143 [.slice A l c,.slice B m d] 28 xK _ (fun w R Q=>yM xC (ZcG Q.1.2 Q.2 qO qO)) fun⟨E,F,G⟩=>?_
 refine xqg 5 [yJ 33 (IntKind.i64.wrap (e+f))] ?_
 rw[yW (e+f) (e+f) qO]
 refine xqg 1 [yJ 34 (bits:Int)] ?_
 obtain⟨g,o⟩:=yE (lD ((s != t)) (x*y) ((e+f)) bits false)
 refine xqd 132 [.bool (s != t),.slice E F G, yI (e+f), yI (bits:Int),.func (.func 133) #[] #[]] 35 (shNb g) _ (fun w R Q=>yM wC ((show Calls _ _ _ _ (xZ w g) by rw[←o];exact iS ((s != t)) _ _ _ _ ((e+f)) _ _ Q.1.1.1 Q.2 (by have:=Zag x y;omega) qO qO qO))) fun⟨j,k,n⟩=>?_
 refine xqg 2 [(36,.v (yV g.s j k n g.e)),yJ 37 g.err] ?_
 refine xz (xq 2 [yJ 7 g.err] [yF 6 109 g.s j k n g.e] ?_)
 refine yZ (zH ?_)
 refine yR (.tuple #[yV g.s j k n g.e, yI g.err]) fun w' R Q=>?_
 rw[←kR _ _ _ C,o]
 exact⟨(j,k,n),rfl,Q.2,R⟩
theorem ZhA (s:Bool)(A:qA)(l c x:Nat)(e:Int)(t:Bool)(B:qA)(m d y:Nat)(f:Int)(bits:Nat)(r:0<bits)(N:bits≤4096)(w:World)(C:Glob w)(v:zF w (.slice A l c) x)(D:wl x≤100000)(E : -1073741824≤e)(F:e≤1073741824)(z:zF w (.slice B m d) y)(G:wl y≤100000)(H : -1073741824≤f)(I:f≤1073741824) :
 yA 96 #[yV s A l c e, yV t B m d f,.int .i64 ((bits:Nat):Int)] w (xZ w (ZaC (s != t) x y (e-f) bits)):=by
 refine zQ (Φ:=fun w=>((Glob w∧zF w (.slice A l c) (x))∧zF w (.slice B m d) (y))) func96 rfl qK (fun w' u=>⟨⟨C.ext u,v.ext u⟩,z.ext u⟩) ?_
 refine zC ?_
 have J:=v.len0
 have K:=z.len0
 have L:=@lL x
 have M:=@lL y
 refine zB (xq 4 [(3,.p 3 0),(4,.p 4 0),(6,.p 6 0),yJ 7 0] [yF 6 109 false none 0 0 0,yF 4 109 t B m d f,yF 3 109 s A l c e] ?_)
 refine yZ (zC (yY (xq 4 [yB 11 (((m:Int):Int) == 0)] [] ?_)))
 refine xe (zA ?_)
 refine yQ ((((m:Int):Int) == 0)) (fun h=>?_) fun h=>?_
 ·have j:=sO.1 h
  have k:y=0:=qO
  refine yY (xq 3 [yJ 7 5] [] ?_)
  refine yZ (zH (zN ?_))
  refine yR (.tuple #[yV false none 0 0 0, yI 5]) fun w' R Q=>?_
  rw[show ZaC (s != t) x y (e-f) bits=⟨false,0,0,5⟩ from uS k]
  exact⟨(none,0,0),rfl,zF.zero _,R⟩
 have j:=lK h
 have k:¬ y=0:=qO
 refine zI (zA (yY (xq 14 [yB 17 (s != t),eS1 19 A l c,eS1 21 B m d,yJ 26 (IntKind.i64.wrap (e-f))] [] ?_)))
 rw[yW (e-f) (e-f) qO]
 refine xq 1 [yJ 27 (bits:Int)] [] ?_
 obtain⟨g,i⟩:=yE (wX (s != t) x y ((e-f)) bits)
 refine xqc 110 [.bool (s != t),.slice A l c,.slice B m d, yI (e-f), yI (bits:Int)] 28 (shNb g) _ (fun w R Q=>yM wC ((show Calls _ _ _ _ (xZ w g) by rw[←i];exact ZdS (s != t) _ _ _ x _ _ _ y _ bits _ Q.1.1 Q.1.2 Q.2 qO qO qO qO qO r qO))) fun⟨n,o,q⟩=>?_
 refine xq 4 [yJ 7 g.err] [yF 6 109 g.s n o q g.e] ?_
 refine yZ (zH ?_)
 refine yR (.tuple #[yV g.s n o q g.e, yI g.err]) fun w' R Q=>?_
 rw[show ZaC (s != t) x y (e-f) bits=wX (s != t) x y (e-f) bits from uM k,i]
 exact⟨(n,o,q),rfl,Q.2,R⟩
theorem ZhB (s:Bool)(A:qA)(l c x:Nat)(e:Int)(t:Bool)(B:qA)(m d y:Nat)(f:Int)(bits:Nat)(H:0<bits)(hb:bits≤4096)(w:World)(hg:Glob w)(hX:zF w (.slice A l c) x)(E1:wl x≤100000)(F1 : -1073741824≤e)(G1:e≤1073741824)(hY:zF w (.slice B m d) y)(H1:wl y≤100000)(I1 : -1073741824≤f)(J1:f≤1073741824) :
 yA 91 #[yV s A l c e, yV t B m d f,.int .i64 ((bits:Nat):Int)] w (xZ w (sumR s x e t y f bits)):=by
 refine zQ (Φ:=fun w=>((Glob w∧zF w (.slice A l c) (x))∧zF w (.slice B m d) (y))) func91 rfl qK (fun w' hf=>⟨⟨hg.ext hf,hX.ext hf⟩,hY.ext hf⟩) ?_
 refine zC ?_
 have K1:=hX.len0
 have L1:=hY.len0
 have M1:=@lL x
 have N1:=@lL y
 have O1:=fU x
 have R1:=fU y
 refine zB (xq 4 [(3,.p 3 0),(4,.p 4 0),(6,.p 6 0),yJ 7 0] [yF 6 109 false none 0 0 0,yF 4 109 t B m d f,yF 3 109 s A l c e] ?_)
 refine yZ (zC (yY (xq 4 [yB 15 (((l:Int):Int) == 0)] [] ?_)))
 refine xe (zA ?_)
 refine yQ ((((l:Int):Int) == 0)) (fun b0=>?_) fun b0=>?_
 ·have N0:=sO.1 b0
  have O0:x=0:=qO
  refine zB (xq 4 [] [yF 4 109 s A l c e,yF 3 109 t B m d f] ?_)
  refine yZ (zC (yY (xq 4 [yB 21 (((l:Int):Int) == 0)] [] ?_)))
  rw[b0]
  refine yZ (xa (yY (xq 7 [yB 23 t,eS1 25 B m d,yJ 27 f,yJ 28 (bits:Int)] [] ?_)))
  obtain⟨X,E0⟩:=yE (lD t (y) (f) bits false)
  refine xqc 132 [.bool t,.slice B m d, yI f, yI (bits:Int),.func (.func 133) #[] #[]] 29 (shNb X) _ (fun w R Q=>yM wC ((show Calls _ _ _ _ (xZ w X) by rw[←E0];exact iS t _ _ _ _ f _ _ Q.1.1 Q.2 qO qO qO qO))) fun⟨P0,Q0,R0⟩=>?_
  refine xq 4 [yJ 7 X.err] [yF 6 109 X.s P0 Q0 R0 X.e] ?_
  refine yZ (zH (zN ?_))
  refine yR (.tuple #[yV X.s P0 Q0 R0 X.e, yI X.err]) fun w' R Q=>?_
  rw[show sumR s x e t y f bits=wX t y 1 f bits from uS O0,← kR _ _ _ H,E0]
  exact⟨(P0,Q0,R0),rfl,Q.2,R⟩
 have N0:=lK b0
 have O0:¬ x=0:=qO
 refine zI (zA (zC (yY (xq 4 [yB 21 (((m:Int):Int) == 0)] [] ?_))))
 refine xe (zA ?_)
 refine yQ ((((m:Int):Int) == 0)) (fun e0=>?_) fun e0=>?_
 ·have S0:=sO.1 e0
  have g1:y=0:=qO
  refine yY (xq 7 [yB 23 s,eS1 25 A l c,yJ 27 e,yJ 28 (bits:Int)] [] ?_)
  obtain⟨Y,F0⟩:=yE (lD s (x) (e) bits false)
  refine xqc 132 [.bool s,.slice A l c, yI e, yI (bits:Int),.func (.func 133) #[] #[]] 29 (shNb Y) _ (fun w R Q=>yM wC ((show Calls _ _ _ _ (xZ w Y) by rw[←F0];exact iS s _ _ _ _ e _ _ Q.1.1 Q.1.2 qO qO qO qO))) fun⟨T0,U0,V0⟩=>?_
  refine xq 4 [yJ 7 Y.err] [yF 6 109 Y.s T0 U0 V0 Y.e] ?_
  refine yZ (zH (zN ?_))
  refine yR (.tuple #[yV Y.s T0 U0 V0 Y.e, yI Y.err]) fun w' R Q=>?_
  rw[show sumR s x e t y f bits=wX s x 1 e bits by unfold sumR;rw[uM O0,uS g1],← kR _ _ _ H,F0]
  exact⟨(T0,U0,V0),rfl,Q.2,R⟩
 have S0:=lK e0
 have g1:¬ y=0:=qO
 refine zI (zA ?_)
 refine ZiH (fun ss ff=>∃ (j:Bool) (P1:Option Addr) (pl pc p:Nat) (i:Int) (o:Bool) (Q1:Option Addr) (ql qc q:Nat) (k:Int),ss=ofL [yJ 2 (bits:Int),(3,.p 3 0),(4,.p 4 0),(6,.p 6 0),yJ 7 0] [yF 6 109 false none 0 0 0,yF 3 109 j P1 pl pc i,yF 4 109 o Q1 ql qc k]∧ff=(fun w=>((Glob w∧zF w (.slice P1 pl pc) (p))∧zF w (.slice Q1 ql qc) (q)))∧(0<p)∧(0<q)∧(wl p≤100000)∧(wl q≤100000)∧(-1073741824≤i)∧(i≤1073741824)∧(-1073741824≤k)∧(k≤1073741824)∧(((blen q:Nat):Int)+k≤((blen p:Nat):Int)+i)∧(addR s x e t y f bits=addR j p i o q k bits)) ?_ ?_
 ·refine zC ?_
  refine yO 5 zL ?_
  refine xqg 1 [(32,.v (yV s A l c e))] ?_
  refine xqd 134 [yV s A l c e] 33 (fun _:Unit=>yI (((blen x:Nat):Int)+e)) _ (fun w R Q=>yN (ZbA _ _ _ _ _ _ _ Q.1.2 qO qO qO)) fun xx=>?_
  refine xqg 1 [(34,.v (yV t B m d f))] ?_
  refine xqd 134 [yV t B m d f] 35 (fun _:Unit=>yI (((blen y:Nat):Int)+f)) _ (fun w R Q=>yN (ZbA _ _ _ _ _ _ _ Q.1.2 qO qO qO)) fun xx=>?_
  refine xqg 1 [(36,.v (.bool (decide ((((blen x:Nat):Int)+e)<(((blen y:Nat):Int)+f)))))] ?_
  refine xz (xe (zA ?_))
  refine yQ ((decide ((((blen x:Nat):Int)+e)<(((blen y:Nat):Int)+f)))) (fun f0=>?_) fun f0=>?_
  ·have W0:=uC f0
   refine zB (xq 4 [] [yF 4 109 s A l c e,yF 3 109 t B m d f] ?_)
   refine xe ?_
   refine yP [yJ 2 (bits:Int),(3,.p 3 0),(4,.p 4 0),(6,.p 6 0),yJ 7 0] [yF 6 109 false none 0 0 0,yF 3 109 t B m d f,yF 4 109 s A l c e] (fun w=>((Glob w∧zF w (.slice B m d) (y))∧zF w (.slice A l c) (x))) (fun w Q=>⟨⟨Q.1.1.1.1,Q.1.1.2⟩,Q.1.1.1.2⟩) ?_
   exact dU ⟨t,B,m,d,y,f,s,A,l,c,x,e,rfl,rfl,qO,qO,qO,qO,qO,qO,qO,qO,qO,(Zm0 _ _ _ _ _ _ _)⟩
  have W0:=uD f0
  refine zI ?_
  refine yP [yJ 2 (bits:Int),(3,.p 3 0),(4,.p 4 0),(6,.p 6 0),yJ 7 0] [yF 6 109 false none 0 0 0,yF 3 109 s A l c e,yF 4 109 t B m d f] (fun w=>((Glob w∧zF w (.slice A l c) (x))∧zF w (.slice B m d) (y))) (fun w Q=>⟨⟨Q.1.1.1.1,Q.1.1.1.2⟩,Q.1.1.2⟩) ?_
  exact dU ⟨s,A,l,c,x,e,t,B,m,d,y,f,rfl,rfl,qO,qO,qO,qO,qO,qO,qO,qO,qO,rfl⟩
 rintro ss ff ⟨j,P1,pl,pc,p,i,o,Q1,ql,qc,q,k,rfl,rfl,l0,h1,S1,T1,U1,V1,W1,X1,D1,G0⟩
 refine zC (zC ?_)
 have Y1:=fU p
 have Z1:=fU q
 have a2:=cY l0
 have b2:=cY h1
 obtain⟨z,hz⟩:=yE (min i (((blen p:Nat):Int)+i-(bits:Int)-2))
 refine yO 9 zL ?_
 refine xqg 3 [yJ 40 i,(41,.v (yV j P1 pl pc i))] ?_
 refine xqd 134 [yV j P1 pl pc i] 42 (fun _:Unit=>yI (((blen p:Nat):Int)+i)) _ (fun w R Q=>yN (ZbA _ _ _ _ _ _ _ Q.1.2 qO qO qO)) fun xx=>?_
 refine xqg 2 [(44,.v (yI (IntKind.i64.wrap ((((blen p:Nat):Int)+i)-(bits:Int)))))] ?_
 rw[yW (((blen p:Nat):Int)+i-(bits:Int)) (((blen p:Nat):Int)+i-(bits:Int)) qO]
 refine xqg 1 [(45,.v (yI (IntKind.i64.wrap ((((blen p:Nat):Int)+i-(bits:Int))-2))))] ?_
 rw[yW (((blen p:Nat):Int)+i-(bits:Int)-2) (((blen p:Nat):Int)+i-(bits:Int)-2) qO]
 refine xqg 1 [yJ 46 (if (((blen p:Nat):Int)+i-(bits:Int)-2)<i then (((blen p:Nat):Int)+i-(bits:Int)-2) else i)] ?_
 rw[(show (if ((blen p:Nat):Int)+i-(bits:Int)-2<i then ((blen p:Nat):Int)+i-(bits:Int)-2 else i)=z from ZgS.trans hz)]
 refine xqg 1 [yJ 8 z] ?_
 refine xz (yZ (yY (xq 1 [(47,.v (yV o Q1 ql qc k))] [] ?_)))
 refine xqc 134 [yV o Q1 ql qc k] 48 (fun _:Unit=>yI (((blen q:Nat):Int)+k)) _ (fun w R Q=>yN (ZbA _ _ _ _ _ _ _ Q.1.2 qO qO qO)) fun xx=>?_
 refine xq 2 [(50,.v (.bool (decide ((((blen q:Nat):Int)+k)≤z))))] [] ?_
 refine xe (zA ?_)
 refine yQ ((decide ((((blen q:Nat):Int)+k)≤z))) (fun g0=>?_) fun g0=>?_
 ·have X0:=uC g0
  refine zB (xq 2 [yB 52 o] [] ?_)
  refine yD (d:=53) (fun zb:Nat=>.slice (yL zb) 1 1) (fun zb zw=>Blk 141 zw zb #[yX 1]) (fun w R Q=>lY (t:=107) (e:=141) (n:=1) (sz:=1) (z:=yX 0) (parts:=#[(0,Operand.const (Value.int IntKind.u64 1))]) qK qK qK qK qK qK) fun h0=>?_
  refine xr 2 [yJ 2 (bits:Int),(3,.p 3 0),(4,.p 4 0),(6,.p 6 0),yJ 7 0,yB 52 o,eS1 53 (yL h0) 1 1,yJ 55 (IntKind.i64.wrap (z-1))] [yF 6 109 false none 0 0 0,yF 3 109 j P1 pl pc i,yF 4 109 o Q1 ql qc k] ?_
  rw[yW (z-1) (z-1) qO]
  refine xq 2 [] [yF 4 109 o (yL h0) 1 1 (z-1)] ?_
  refine yZ (zC ?_)
  obtain⟨g,Z⟩:=yE (min i (z-1))
  obtain⟨u1,Y0⟩:∃ u:Nat,i-g=u:=vE qO
  obtain⟨u2,Z0⟩:∃ u:Nat,(z-1)-g=u:=vE qO
  have hS:addR s x e t y f bits=addR j p i o 1 (z-1) bits:=G0.trans (ZlC _ _ _ _ H l0 h1 qO qO qO)
  rw[ZiU Z Y0 Z0] at hS
  have a1:u1≤100000000:=qO
  have b1:u2≤100000000:=qO
  have i1 : -4294967296≤g:=qO
  have j1:g≤4294967296:=qO
  obtain⟨a,ha⟩:=yE (p*2^u1)
  obtain⟨b,a0⟩:=yE (1*2^u2)
  have c1:wl a≤4000000:=by rw[←ha];exact Zbz qO a1
  have d1:wl b≤4000000:=by rw[←a0];exact Zbz (uB (bQ.2 (by rw[zK];decide)) qD) b1
  have e1:0<a:=by rw[←ha];exact sL l0 (p2 u1)
  rw[ha,a0] at hS
  refine zB (xq 5 [yJ 61 (if (z-1)<i then (z-1) else i)] [] ?_)
  rw[(show (if (z-1)<i then (z-1) else i)=g from ZgS.trans Z)]
  refine xq 1 [yJ 9 g] [] ?_
  refine yZ (zC ?_)
  refine SXc.weak [yJ 2 (bits:Int),(3,.p 3 0),(4,.p 4 0),(6,.p 6 0),yJ 7 0,yJ 9 g] [yF 4 109 o (yL h0) 1 1 (z-1),yF 6 109 false none 0 0 0,yF 3 109 j P1 pl pc i] (zV.of qK) qK (fun _ h=>h) ?_
  refine yO 16 zL ?_
  refine xqg 6 [eS1 63 P1 pl pc,yJ 67 (IntKind.i64.wrap (i-g))] ?_
  rw[yW (i-g) ((u1:Int)) qO]
  refine xqd 101 [.slice P1 pl pc, yI (u1:Int)] 68 xK _ (fun w R Q=>(jL u1 Q.1.1.1.1.2 qO qO).mono (fun _ _ h=>xC (by rw[ha] at h;exact h))) fun⟨I,J,K⟩=>?_
  refine xqg 6 [eS1 70 (yL h0) 1 1,yJ 74 (IntKind.i64.wrap ((z-1)-g))] ?_
  rw[yW ((z-1)-g) ((u2:Int)) qO]
  refine xqd 101 [.slice (yL h0) 1 1, yI (u2:Int)] 75 xK _ (fun w R Q=>(jL u2 (gR Q.1.2) wl_1 qO).mono (fun _ _ h=>xC (by rw[a0] at h;exact h))) fun⟨L,M,N⟩=>?_
  refine xqg 2 [eS1 10 I J K,eS1 11 L M N] ?_
  refine xz (yZ (zC (zP (yY (xq 6 [yB 76 (j == o)] [] ?_)))))
  refine xe (zA ?_)
  refine yQ ((j == o)) (fun c0=>?_) fun c0=>?_
  ·have O:j=o:=eq_of_beq c0
   refine zC ?_
   refine yO 10 zL ?_
   refine xqg 4 [yB 83 j,eS1 84 I J K,eS1 85 L M N] ?_
   refine xqd 135 [.slice I J K,.slice L M N] 86 xK _ (fun w R Q=>yM xC (jQ Q.1.2 Q.2 qO qO)) fun⟨k1,l1,m1⟩=>?_
   refine xqg 2 [yJ 87 g,yJ 88 (bits:Int)] ?_
   obtain⟨r,H0⟩:=yE (lD j (a+b) (g) bits false)
   refine xqd 132 [.bool j,.slice k1 l1 m1, yI g, yI (bits:Int),.func (.func 133) #[] #[]] 89 (shNb r) _ (fun w R Q=>yM wC ((show Calls _ _ _ _ (xZ w r) by rw[←H0];exact iS j _ _ _ _ g _ _ Q.1.1.1.1.1.1.1.1 Q.2 (by have:=Zie c1 d1;omega) qO qO qO))) fun⟨m0,n0,o0⟩=>?_
   refine xqg 2 [(90,.v (yV r.s m0 n0 o0 r.e)),yJ 91 r.err] ?_
   refine xz (xq 2 [yJ 7 r.err] [yF 6 109 r.s m0 n0 o0 r.e] ?_)
   refine yZ (zH (wM (zN ?_)))
   refine yR (.tuple #[yV r.s m0 n0 o0 r.e, yI r.err]) fun w' R Q=>?_
   rw[show sumR s x e t y f bits=addR s x e t y f bits by unfold sumR;rw[uM qO,uM qO],hS]
   rw[Zhz e1 O,← kR _ _ _ H,H0]
   exact⟨(m0,n0,o0),rfl,Q.2,R⟩
  have O:¬ j=o:=fun e'=>by rw[e'] at c0;simp at c0
  refine yY (xq 2 [eS1 93 I J K,eS1 94 L M N] [] ?_)
  refine xqc 136 [.slice I J K,.slice L M N] 95 (fun _:Unit=>yI (cmpI (a:Int) (b:Int))) _ (fun w R Q=>yN (fT Q.1.2 Q.2 qO)) fun xx=>?_
  refine xq 2 [(92,.v (.bool (decide ((cmpI (a:Int) (b:Int))≥0))))] [] ?_
  refine xe (zA ?_)
  refine yQ ((decide ((cmpI (a:Int) (b:Int))≥0))) (fun i0=>?_) fun i0=>?_
  ·have j0:b≤a:=by have:=ZaN.1 (uC i0);omega
   refine zC ?_
   refine yO 10 zL ?_
   refine xqg 4 [yB 98 j,eS1 99 I J K,eS1 100 L M N] ?_
   refine xqd 137 [.slice I J K,.slice L M N] 101 xK _ (fun w R Q=>yM xC (ZaA Q.1.1.2 Q.1.2 qO j0)) fun⟨n1,o1,p1⟩=>?_
   refine xqg 2 [yJ 102 g,yJ 103 (bits:Int)] ?_
   obtain⟨C,I0⟩:=yE (lD j (a-b) (g) bits false)
   refine xqd 132 [.bool j,.slice n1 o1 p1, yI g, yI (bits:Int),.func (.func 133) #[] #[]] 104 (shNb C) _ (fun w R Q=>yM wC ((show Calls _ _ _ _ (xZ w C) by rw[←I0];exact iS j _ _ _ _ g _ _ Q.1.1.1.1.1.1.1.1.1 Q.2 (uB (wP (Nat.sub_le _ _)) qO) qO qO qO))) fun⟨p0,q0,r0⟩=>?_
   refine xqg 2 [(105,.v (yV C.s p0 q0 r0 C.e)),yJ 106 C.err] ?_
   refine xz (xq 2 [yJ 7 C.err] [yF 6 109 C.s p0 q0 r0 C.e] ?_)
   refine yZ (zH (wM (zN ?_)))
   refine yR (.tuple #[yV C.s p0 q0 r0 C.e, yI C.err]) fun w' R Q=>?_
   rw[show sumR s x e t y f bits=addR s x e t y f bits by unfold sumR;rw[uM qO,uM qO],hS]
   rw[Zf9 O j0,← kR _ _ _ H,I0]
   exact⟨(p0,q0,r0),rfl,Q.2,R⟩
  have f1:a<b:=by have:=mt ZaN.2 (uD i0);omega
  refine zI (xS (zA (zC ?_)))
  refine yO 10 zL ?_
  refine xqg 4 [yB 108 o,eS1 109 L M N,eS1 110 I J K] ?_
  refine xqd 137 [.slice L M N,.slice I J K] 111 xK _ (fun w R Q=>yM xC (ZaA Q.1.2 Q.1.1.2 qO qO)) fun⟨q1,r1,s1⟩=>?_
  refine xqg 2 [yJ 112 g,yJ 113 (bits:Int)] ?_
  obtain⟨D,J0⟩:=yE (lD o (b-a) (g) bits false)
  refine xqd 132 [.bool o,.slice q1 r1 s1, yI g, yI (bits:Int),.func (.func 133) #[] #[]] 114 (shNb D) _ (fun w R Q=>yM wC ((show Calls _ _ _ _ (xZ w D) by rw[←J0];exact iS o _ _ _ _ g _ _ Q.1.1.1.1.1.1.1.1.1 Q.2 (uB (wP (Nat.sub_le _ _)) qO) qO qO qO))) fun⟨s0,t0,u0⟩=>?_
  refine xqg 2 [(115,.v (yV D.s s0 t0 u0 D.e)),yJ 116 D.err] ?_
  refine xz (xq 2 [yJ 7 D.err] [yF 6 109 D.s s0 t0 u0 D.e] ?_)
  refine yZ (zH ?_)
  refine yR (.tuple #[yV D.s s0 t0 u0 D.e, yI D.err]) fun w' R Q=>?_
  rw[show sumR s x e t y f bits=addR s x e t y f bits by unfold sumR;rw[uM qO,uM qO],hS]
  rw[ZeQ O f1,← kR _ _ _ H,J0]
  exact⟨(s0,t0,u0),rfl,Q.2,R⟩
 have X0:=uD g0
 refine zI (zA (zC ?_))
 obtain⟨g,Z⟩:=yE (min i k)
 obtain⟨u1,Y0⟩:∃ u:Nat,i-g=u:=vE qO
 obtain⟨u2,Z0⟩:∃ u:Nat,k-g=u:=vE qO
 have hS:=G0
 rw[ZiU Z Y0 Z0] at hS
 have a1:u1≤100000000:=qO
 have b1:u2≤100000000:=qO
 have i1 : -4294967296≤g:=qO
 have j1:g≤4294967296:=qO
 obtain⟨a,ha⟩:=yE (p*2^u1)
 obtain⟨b,a0⟩:=yE (q*2^u2)
 have c1:wl a≤4000000:=by rw[←ha];exact Zbz qO a1
 have d1:wl b≤4000000:=by rw[←a0];exact Zbz qO b1
 have e1:0<a:=by rw[←ha];exact sL l0 (p2 u1)
 rw[ha,a0] at hS
 refine zB (xq 5 [yJ 61 (if k<i then k else i)] [] ?_)
 rw[(show (if k<i then k else i)=g from ZgS.trans Z)]
 refine xq 1 [yJ 9 g] [] ?_
 refine yZ (zC ?_)
 refine SXc.weak [yJ 2 (bits:Int),(3,.p 3 0),(4,.p 4 0),(6,.p 6 0),yJ 7 0,yJ 9 g] [yF 6 109 false none 0 0 0,yF 3 109 j P1 pl pc i,yF 4 109 o Q1 ql qc k] (zV.of qK) qK (fun _ h=>h) ?_
 refine yO 16 zL ?_
 refine xqg 6 [eS1 63 P1 pl pc,yJ 67 (IntKind.i64.wrap (i-g))] ?_
 rw[yW (i-g) ((u1:Int)) qO]
 refine xqd 101 [.slice P1 pl pc, yI (u1:Int)] 68 xK _ (fun w R Q=>(jL u1 Q.1.1.1.2 qO qO).mono (fun _ _ h=>xC (by rw[ha] at h;exact h))) fun⟨P,S,T⟩=>?_
 refine xqg 6 [eS1 70 Q1 ql qc,yJ 74 (IntKind.i64.wrap (k-g))] ?_
 rw[yW (k-g) ((u2:Int)) qO]
 refine xqd 101 [.slice Q1 ql qc, yI (u2:Int)] 75 xK _ (fun w R Q=>(jL u2 Q.1.1.1.2 qO qO).mono (fun _ _ h=>xC (by rw[a0] at h;exact h))) fun⟨U,V,W⟩=>?_
 refine xqg 2 [eS1 10 P S T,eS1 11 U V W] ?_
 refine xz (yZ (zC (zP (yY (xq 6 [yB 76 (j == o)] [] ?_)))))
 refine xe (zA ?_)
 refine yQ ((j == o)) (fun d0=>?_) fun d0=>?_
 ·have O:j=o:=eq_of_beq d0
  refine zC ?_
  refine yO 10 zL ?_
  refine xqg 4 [yB 83 j,eS1 84 P S T,eS1 85 U V W] ?_
  refine xqd 135 [.slice P S T,.slice U V W] 86 xK _ (fun w R Q=>yM xC (jQ Q.1.2 Q.2 qO qO)) fun⟨t1,v1,w1⟩=>?_
  refine xqg 2 [yJ 87 g,yJ 88 (bits:Int)] ?_
  obtain⟨E,K0⟩:=yE (lD j (a+b) (g) bits false)
  refine xqd 132 [.bool j,.slice t1 v1 w1, yI g, yI (bits:Int),.func (.func 133) #[] #[]] 89 (shNb E) _ (fun w R Q=>yM wC ((show Calls _ _ _ _ (xZ w E) by rw[←K0];exact iS j _ _ _ _ g _ _ Q.1.1.1.1.1.1.1 Q.2 (by have:=Zie c1 d1;omega) qO qO qO))) fun⟨v0,w0,x0⟩=>?_
  refine xqg 2 [(90,.v (yV E.s v0 w0 x0 E.e)),yJ 91 E.err] ?_
  refine xz (xq 2 [yJ 7 E.err] [yF 6 109 E.s v0 w0 x0 E.e] ?_)
  refine yZ (zH (wM (zN ?_)))
  refine yR (.tuple #[yV E.s v0 w0 x0 E.e, yI E.err]) fun w' R Q=>?_
  rw[show sumR s x e t y f bits=addR s x e t y f bits by unfold sumR;rw[uM qO,uM qO],hS]
  rw[Zhz e1 O,← kR _ _ _ H,K0]
  exact⟨(v0,w0,x0),rfl,Q.2,R⟩
 have O:¬ j=o:=fun e'=>by rw[e'] at d0;simp at d0
 refine yY (xq 2 [eS1 93 P S T,eS1 94 U V W] [] ?_)
 refine xqc 136 [.slice P S T,.slice U V W] 95 (fun _:Unit=>yI (cmpI (a:Int) (b:Int))) _ (fun w R Q=>yN (fT Q.1.2 Q.2 qO)) fun xx=>?_
 refine xq 2 [(92,.v (.bool (decide ((cmpI (a:Int) (b:Int))≥0))))] [] ?_
 refine xe (zA ?_)
 refine yQ ((decide ((cmpI (a:Int) (b:Int))≥0))) (fun k0=>?_) fun k0=>?_
 ·have j0:b≤a:=by have:=ZaN.1 (uC k0);omega
  refine zC ?_
  refine yO 10 zL ?_
  refine xqg 4 [yB 98 j,eS1 99 P S T,eS1 100 U V W] ?_
  refine xqd 137 [.slice P S T,.slice U V W] 101 xK _ (fun w R Q=>yM xC (ZaA Q.1.1.2 Q.1.2 qO j0)) fun⟨x1,y1,z1⟩=>?_
  refine xqg 2 [yJ 102 g,yJ 103 (bits:Int)] ?_
  obtain⟨F,L0⟩:=yE (lD j (a-b) (g) bits false)
  refine xqd 132 [.bool j,.slice x1 y1 z1, yI g, yI (bits:Int),.func (.func 133) #[] #[]] 104 (shNb F) _ (fun w R Q=>yM wC ((show Calls _ _ _ _ (xZ w F) by rw[←L0];exact iS j _ _ _ _ g _ _ Q.1.1.1.1.1.1.1.1 Q.2 (uB (wP (Nat.sub_le _ _)) qO) qO qO qO))) fun⟨y0,z0,A0⟩=>?_
  refine xqg 2 [(105,.v (yV F.s y0 z0 A0 F.e)),yJ 106 F.err] ?_
  refine xz (xq 2 [yJ 7 F.err] [yF 6 109 F.s y0 z0 A0 F.e] ?_)
  refine yZ (zH (wM (zN ?_)))
  refine yR (.tuple #[yV F.s y0 z0 A0 F.e, yI F.err]) fun w' R Q=>?_
  rw[show sumR s x e t y f bits=addR s x e t y f bits by unfold sumR;rw[uM qO,uM qO],hS]
  rw[Zf9 O j0,← kR _ _ _ H,L0]
  exact⟨(y0,z0,A0),rfl,Q.2,R⟩
 have f1:a<b:=by have:=mt ZaN.2 (uD k0);omega
 refine zI (xS (zA (zC ?_)))
 refine yO 10 zL ?_
 refine xqg 4 [yB 108 o,eS1 109 U V W,eS1 110 P S T] ?_
 refine xqd 137 [.slice U V W,.slice P S T] 111 xK _ (fun w R Q=>yM xC (ZaA Q.1.2 Q.1.1.2 qO qO)) fun⟨A1,B1,C1⟩=>?_
 refine xqg 2 [yJ 112 g,yJ 113 (bits:Int)] ?_
 obtain⟨G,M0⟩:=yE (lD o (b-a) (g) bits false)
 refine xqd 132 [.bool o,.slice A1 B1 C1, yI g, yI (bits:Int),.func (.func 133) #[] #[]] 114 (shNb G) _ (fun w R Q=>yM wC ((show Calls _ _ _ _ (xZ w G) by rw[←M0];exact iS o _ _ _ _ g _ _ Q.1.1.1.1.1.1.1.1 Q.2 (uB (wP (Nat.sub_le _ _)) qO) qO qO qO))) fun⟨B0,C0,D0⟩=>?_
 refine xqg 2 [(115,.v (yV G.s B0 C0 D0 G.e)),yJ 116 G.err] ?_
 refine xz (xq 2 [yJ 7 G.err] [yF 6 109 G.s B0 C0 D0 G.e] ?_)
 refine yZ (zH ?_)
 refine yR (.tuple #[yV G.s B0 C0 D0 G.e, yI G.err]) fun w' R Q=>?_
 rw[show sumR s x e t y f bits=addR s x e t y f bits by unfold sumR;rw[uM qO,uM qO],hS]
 rw[ZeQ O f1,← kR _ _ _ H,M0]
 exact⟨(B0,C0,D0),rfl,Q.2,R⟩
theorem Zem {x:Int}(h:0≤x):Lib.itoa x=Lib.decDigits x.natAbs:=by
 unfold Lib.itoa
 rw[uM qO]
 congr 1;omega
theorem ZcJ {n:Nat}(h:10≤n):Lib.decDigits n=Lib.decDigits (n/10) ++ [UInt8.ofNat (48+n%10)]:=by
 rw[Lib.decDigits,dif_neg qO]
theorem fV {n:Nat}(h:n<10):Lib.decDigits n=[UInt8.ofNat (48+n)]:=Lib.decDigits_one h
theorem Zac {n:Nat}(h:n<10):(UInt8.ofNat (48+n)).toNat=48+n:=by
 rw[UInt8.toNat_ofNat'];omega
theorem ZeR {n:Nat}(h:n<10):xE (UInt8.ofNat (48+n))=true:=by
 unfold xE;rw[Zac h];simp;omega
theorem gS:∀ n,(Lib.decDigits n).all xE=true:=by
 intro n
 induction n using Nat.strongRecOn with
 | _ n ih =>
  rcases vO n 10 with h|h
  ·rw[fV h,rI,ZeR h];rfl
  rw[ZcJ h,pL,ih (n/10) qO,rI,ZeR (uO n (by omega:0<10))];rfl
theorem fW:∀ n,zO (Lib.decDigits n)=n:=by
 intro n
 induction n using Nat.strongRecOn with
 | _ n ih =>
  rcases vO n 10 with h|h
  ·rw[fV h];simp only[zO,List.foldl_cons,List.foldl_nil];rw[Zac h];omega
  rw[ZcJ h,cJ,ih (n/10) qO,Zac (uO n (by omega:0<10))];omega
theorem bD:∀ n,0<n→(Lib.decDigits n).head? ≠ some 48:=by
 intro n
 induction n using Nat.strongRecOn with
 | _ n ih =>
  intro b
  rcases vO n 10 with h|h
  ·rw[fV h]
   intro e
   simp only[List.head?_cons,Option.some.injEq] at e
   have:=vI UInt8.toNat e
   rw[Zac h] at this
   simp at this;omega
  have a:=ih (n/10) qO qO
  rw[ZcJ h,List.head?_append]
  cases hc:(Lib.decDigits (n/10)).head? with
  | none=>exact absurd (oR.1 hc) (kH _)
  | some c=>rw[hc] at a;exact a
theorem cU {p:UInt8→Bool}{l:List UInt8}(h:l.all p=true):l.takeWhile p=l∧l.dropWhile p=[]:=by
 induction l with
 | nil=>exact⟨rfl,rfl⟩
 | cons x xs ih =>
  simp only[rI,tZ] at h
  obtain⟨a,b⟩:=ih h.2
  rw[oE,List.dropWhile_cons,h.1]
  simp[a,b]
theorem ZlI {l:List UInt8}(h:l.all xE=true):xI l=(false,l):=by
 unfold xI
 rw[uM]
 intro e
 cases l with
 | nil=>cases e
 | cons x xs =>
  simp only[List.head?_cons,Option.some.injEq] at e
  subst e
  simp only[rI,tZ] at h
  exact absurd h.1 qD
theorem Zm9 (n:Nat):wV (Lib.decDigits n)=(false,Lib.decDigits n,[],true):=by
 obtain⟨c,d⟩:=cU (gS n)
 unfold wV
 rw[ZlI (gS n)]
 simp only[]
 rw[c,d]
 rcases uJ n with a|a
 ·subst a;rw[fV qO];rfl
 have b:Lib.decDigits n≠[48]:=fun e=>bD n a (by rw[e];rfl)
 rw[uM b,uM (fun e=>e.elim (kH n) (bD n a)),uS rfl]
theorem Zna {n:Nat}(h:0<n):wV ([45] ++ Lib.decDigits n)=(true,Lib.decDigits n,[],true):=by
 obtain⟨b,c⟩:=cU (gS n)
 unfold wV
 have e:xI ([45] ++ Lib.decDigits n)=(true,Lib.decDigits n):=rfl
 rw[e]
 simp only[]
 rw[b,c]
 have a:Lib.decDigits n≠[48]:=fun e=>bD n h (by rw[e];rfl)
 rw[uM a,uM (fun e=>e.elim (kH n) (bD n h)),uS rfl]
theorem ZcK {z:Int}(h:z<0):Lib.itoa z=[45] ++ Lib.decDigits z.natAbs:=by
 unfold Lib.itoa
 rw[uS h]
 rfl
theorem ZlJ (z:Int):wV (Lib.itoa z)=(decide (z<0),Lib.decDigits z.natAbs,[],true):=by
 by_cases h:z<0
 ·rw[ZcK h,Zna qO,vJ h]
 rw[Zem qO,Zm9,uV h]
theorem Znb (z:Int):wW (Lib.itoa z)=some (z:Rat):=by
 unfold wW
 rw[ZlJ]
 simp only[]
 rw[uS trivial,fW]
 congr 2
 unfold sg
 split
 ·rename_i h;have:=uC h;omega
 rename_i h;have:¬ z<0:=fun k=>h (vJ k);omega
def xP (q:Rat):List UInt8:=if q.den=1 then Lib.itoa q.num else Lib.itoa q.num ++ [47] ++ Lib.itoa (q.den:Int)
theorem ZiV {x y:Int}(c:0<y):(Rat.divInt x y).num=x.tdiv (Int.gcd x y:Int)∧((Rat.divInt x y).den:Int)=y.tdiv (Int.gcd x y:Int):=by
 have a:(Int.gcd x y:Int)∣x:=Int.gcd_dvd_left _ _
 have b:(Int.gcd x y:Int)∣y:=Int.gcd_dvd_right _ _
 rw[Rat.num_divInt,Rat.den_divInt,uM qO,Int.sign_eq_one_of_pos c,Int.one_mul,Int.gcd_comm y x,Int.tdiv_eq_ediv_of_dvd a,Int.tdiv_eq_ediv_of_dvd b]
 refine⟨rfl,?_⟩
 rw[tH]
 congr 1
 omega
theorem ZdT {x y:Int}(a:0<y)(h:((Int.gcd x y:Nat):Int)=1):(Rat.divInt x y).num=x∧((Rat.divInt x y).den:Int)=y:=by
 have:=ZiV (x:=x) a
 rwa [h,Int.tdiv_one,Int.tdiv_one] at this
theorem Zga {c:UInt8}(h:xE c=true):UInt8.ofNat (48+(c.toNat-48))=c:=by
 have:=dN h
 apply UInt8.toNat.inj
 rw[UInt8.toNat_ofNat']
 have:=c.toNat_lt
 omega
theorem ZiW:∀ (k:Nat) (l:List UInt8),l.length=k→l.all xE=true→l≠[]→l.head? ≠ some 48→Lib.decDigits (zO l)=l:=by
 intro k
 induction k with
 | zero=>intro l d _ g;exact absurd (vZ.1 d) g
 | succ k ih =>
  intro l d f g b
  obtain⟨l',c,rfl⟩:∃ l' c,l=l' ++ [c]:=by
   rcases List.eq_nil_or_concat l with h|⟨l',c,h⟩
   ·exact absurd h g
   exact⟨l',c,by simpa using h⟩
  rw[pL,tZ] at f
  have i:xE c=true:=by simpa using f.2
  have m:=dN i
  rw[cJ]
  by_cases a:l'=[]
  ·subst a
   have e:zO []=0:=rfl
   rw[e,tP,vY,fV qO,Zga i];rfl
  have j:l'.head? ≠ some 48:=by
   rw[List.head?_append] at b
   cases hx:l'.head? with
   | none=>exact absurd (oR.1 hx) a
   | some x=>rw[hx] at b;exact b
  have n:=ih l' (by simp at d;exact d) f.1 a j
  have o:=(Zcy f.1 a j).1
  rw[ZcJ qO,show (10*zO l'+(c.toNat-48))/10=zO l' by omega,show (10*zO l'+(c.toNat-48))%10=c.toNat-48 by omega,n,Zga i]
theorem ZjT (n:Nat):(Lib.decDigits n).head? ≠ some 45:=by
 intro e
 cases h:Lib.decDigits n with
 | nil=>exact kH n h
 | cons x xs =>
  rw[h] at e
  simp only[List.head?_cons,Option.some.injEq] at e
  subst e
  have:=gS n
  rw[h] at this
  simp only[rI,tZ] at this
  exact absurd this.1 qD
theorem Zcd {p:UInt8→Bool}{l r:List UInt8}{c:UInt8}(h:l.all p=true)(a:p c=false):(l ++ c :: r).takeWhile p=l∧(l ++ c :: r).dropWhile p=c :: r:=by
 induction l with
 | nil=>simp[a]
 | cons x xs ih =>
  simp only[rI,tZ] at h
  obtain⟨b,d⟩:=ih h.2
  rw[nA,oE,List.dropWhile_cons,h.1]
  simp[b,d]
theorem ZeS (z:Int)(r:List UInt8):xI (Lib.itoa z ++ r)=(decide (z<0),Lib.decDigits z.natAbs ++ r):=by
 by_cases h:z<0
 ·rw[ZcK h,vJ h]
  unfold xI
  rw[uS qS]
  rfl
 rw[Zem qO,uV h]
 unfold xI
 rw[uM]
 intro e
 rw[List.head?_append] at e
 cases hx:(Lib.decDigits z.natAbs).head? with
 | none=>exact absurd (oR.1 hx) (kH _)
 | some c =>
  rw[hx] at e
  exact ZjT _ (hx.trans e)
theorem Znc (z:Int):sg (decide (z<0)) z.natAbs=z:=by
 unfold sg
 split
 ·rename_i h;have:=uC h;omega
 rename_i h;have:¬ z<0:=fun k=>h (vJ k);omega
theorem ZlK {q:Rat}(h:q.den=1):((q.num:Int):Rat)=q:=by
 apply Rat.ext<;>simp[h]
theorem Zri {q:Rat}(h:q.den≠1):q.num≠0:=by
 intro e
 have:=q.reduced
 rw[e] at this
 simp[Nat.Coprime] at this
 exact h this
theorem fI (n:Nat):Lib.itoa (n:Int)=Lib.decDigits n:=by
 rw[Zem qO,sY]
theorem ZlL {q:Rat}(h:q.den≠1):wV (xP q)=(decide (q.num<0),Lib.decDigits q.num.natAbs,Lib.decDigits q.den,true):=by
 have l:=Zri h
 have m:=q.den_nz
 unfold xP
 rw[uM h,fI,vV]
 unfold wV
 rw[ZeS]
 simp only[]
 obtain⟨g,i⟩:=Zcd (p:=xE) (r:=Lib.decDigits q.den) (c:=47) (gS q.num.natAbs) qD
 have e:Lib.decDigits q.num.natAbs ++ ([47] ++ Lib.decDigits q.den)=Lib.decDigits q.num.natAbs ++ 47 :: Lib.decDigits q.den:=rfl
 rw[e,g,i]
 have f:=bD q.num.natAbs qO
 rw[uM (fun e=>f (by rw[e];rfl)),uM (fun e=>e.elim (kH _) f),uM qS,uM qS]
 simp only[List.tail_cons]
 obtain⟨j,k⟩:=cU (gS q.den)
 rw[j,k]
 have a:=bD q.den qO
 have b:Lib.decDigits q.den≠[49]:=fun e=>by
  have:=fW q.den
  rw[e] at this
  exact h (by rw[←this];rfl)
 have d:=kH q.den
 simp[a,b,d]
theorem Znd (q:Rat):wW (xP q)=some q:=by
 by_cases h:q.den=1
 ·unfold xP
  rw[uS h,Znb,ZlK h]
 unfold wW
 rw[ZlL h]
 simp only[]
 rw[uM (kH _),fW,fW,uS q.reduced,Znc,Rat.mkRat_self]
theorem ZhC {neg:Bool}{a:Nat}(h:a=0→neg=false):(sg neg a<0↔neg=true)∧(sg neg a).natAbs=a:=by
 cases neg with
 | false=>simp[sg]
 | true =>
  have:a≠0:=fun e=>by cases h e
  simp[sg];omega
theorem ZaO {neg:Bool}{a:Nat}(h:a=0→neg=false):Lib.itoa (sg neg a)=(if neg then [45] else []) ++ Lib.decDigits a:=by
 obtain⟨c,b⟩:=ZhC h
 cases neg with
 | false=>rw[Zem (by simp[sg]),b];rfl
 | true=>rw[ZcK (c.2 rfl),b];rfl
theorem ZeT {l r:List UInt8}{neg:Bool}(h:xI l=(neg,r)):l=(if neg then [45] else []) ++ r:=by
 unfold xI at h
 split at h
 ·rename_i hh
  injection h with h1 h2
  subst h1 h2
  cases l with
  | nil=>cases hh
  | cons x xs=>simp at hh;subst hh;rfl
 injection h with h1 h2
 subst h1 h2
 rfl
theorem aA {l:List UInt8}{q:Rat}(h:wW l=some q):xP q=l:=by
 unfold wW at h
 cases hs:wV l with
 | mk neg r =>
  obtain⟨num,den,ok⟩:=r
  rw[hs] at h
  cases ok with
  | false=>cases h
  | true =>
   simp only[] at h
   have k:=cS hs
   obtain⟨A,m⟩:=ZfX hs
   cases hu:xI l with
   | mk neg' t =>
    have j:=ZeT hu
    have a:t.takeWhile xE ++ t.dropWhile xE=t:=pB
    unfold wV at hs
    rw[hu] at hs
    simp only[] at hs
    split at hs
    ·-- zero
     rename_i f
     injection hs with e1 hs;injection hs with e2 hs;injection hs with e3 e4
     subst e1 e2 e3
     simp at e4
     rw[uS rfl,f] at h
     have B:zO [48]=0:=rfl
     rw[B] at h
     injection h with h
     rw[e4.1] at h j
     rw[←h,j,← a,f,e4.2]
     simp only[sg]
     unfold xP
     rw[uS qS]
     have:Lib.itoa ((0:Nat):Int)=[48]:=by rw[fI,fV qO];rfl
     simpa using this
    split at hs
    ·injection hs with _ hs;injection hs with _ hs;injection hs with _ hs;cases hs
    rename_i z
    have n:t.takeWhile xE≠[]:=fun e=>z (Or.inl e)
    have o:(t.takeWhile xE).head? ≠ some 48:=fun e=>z (Or.inr e)
    have g:=ZiW _ _ rfl (jP (p:=xE) t) n o
    split at hs
    ·rename_i s
     injection hs with e1 hs;injection hs with e2 hs;injection hs with e3 _
     subst e1 e2 e3
     rw[uS rfl] at h
     injection h with h
     rw[←h]
     unfold xP
     rw[uS qS]
     have i:(((sg neg' (zO (t.takeWhile xE)):Int)):Rat).num=sg neg' (zO (t.takeWhile xE)):=rfl
     rw[i,ZaO (fun e=>(m e).1),g,j]
     rw[s,qQ] at a
     rw[a]
    split at hs
    ·injection hs with _ hs;injection hs with _ hs;injection hs with _ hs;cases hs
    rename_i s b
    injection hs with e1 hs;injection hs with e2 hs;injection hs with e3 e4
    subst e1 e2
    rw[e3] at e4
    simp at e4
    obtain⟨⟨⟨u,v⟩,C⟩,E⟩:=e4
    rw[uM v] at h
    split at h
    ·rename_i D
     injection h with h
     have F:=A v
     have w:q.num=sg neg' (zO (t.takeWhile xE))∧q.den=zO den:=by
      have:=ZdT (x:=sg neg' (zO (t.takeWhile xE))) (y:=(zO den:Int)) qO (by
       unfold Int.gcd
       rw[(ZhC (fun e=>(m e).1)).2,sY,D];rfl)
      rw[Rat.divInt_ofNat,h] at this
      exact⟨this.1,by have:=this.2;omega⟩
     unfold xP
     rw[uM (by rw[w.2];omega),w.1,w.2,ZaO (fun e=>(m e).1),g,fI,ZiW _ _ rfl k.2.1 v C,j]
     have d:t.dropWhile xE=47 :: den:=by
      cases hx:t.dropWhile xE with
      | nil=>exact absurd hx s
      | cons c r =>
       rw[hx] at b u e3
       simp at b u e3
       subst b
       have:=pB (p:=xE) (l:=r)
       rw[e3,u,qQ] at this
       rw[this]
     rw[d] at a
     rw[vV,vV]
     congr 1
    cases h
theorem Za7 {l:List UInt8}{q:Rat}:wW l=some q↔xP q=l :=
 ⟨aA,fun h=>by rw[←h];exact Znd q⟩
def fvB (s:List UInt8) (e:Int):Bool :=
 if s=[48] then decide (e=0)
 else decide ((xI s).2≠[]∧(xI s).2.head? ≠ some 48∧okE e∧(xI s).2.all xE=true∧zO (xI s).2%2=1)
def flM (s:List UInt8):Int:=sg (xI s).1 (zO (xI s).2)
theorem ZdU:Lib.itoa 0=[48]:=by
 rw[show (0:Int)=((0:Nat):Int) from rfl,fI,fV qO];rfl
theorem ZiX:flM [48]=0:=qD
theorem Zrj {neg:Bool}{a:Nat}(h:a%2=1):sg neg a%2=1:=by unfold sg;split<;>omega
theorem Zqg {s:List UInt8}{e:Int}(h:fvB s e=true):s=Lib.itoa (flM s)∧((flM s=0∧e=0)∨(flM s%2=1∧okE e)):=by
 unfold fvB at h
 by_cases a:s=[48]
 ·rw[uS a] at h
  subst a
  rw[ZiX]
  exact⟨ZdU.symm,Or.inl ⟨rfl,uC h⟩⟩
 rw[uM a] at h
 obtain⟨b,c,d,f,g⟩:=uC h
 unfold flM
 refine⟨?_,Or.inr ⟨Zrj g,d⟩⟩
 rw[ZaO (fun h=>qO),ZiW _ _ rfl f b c]
 exact ZeT rfl
theorem cK (z:Int):xI (Lib.itoa z)=(decide (z<0),Lib.decDigits z.natAbs):=by
 have:=ZeS z []
 rwa [qQ,qQ] at this
theorem ZoL (z:Int):flM (Lib.itoa z)=z:=by
 unfold flM;rw[cK,fW];exact Znc z
theorem ZkD (z e:Int):fvB (Lib.itoa z) e=decide ((z=0∧e=0)∨(z%2=1∧okE e)):=by
 unfold fvB
 by_cases a:z=0
 ·subst a
  rw[ZdU,uS rfl]
  by_cases b:e=0
  ·subst b;rfl
  rw[uV b]
  symm
  exact uV (fun h=>by rcases h with h|h<;>omega)
 have c:¬ Lib.itoa z=[48]:=fun h=>a (by rw[←ZoL z,h,ZiX])
 rw[uM c,cK]
 refine pG.2 ⟨fun⟨_,_,d,_,f⟩=>Or.inr ⟨?_,d⟩,fun h=>?_⟩
 ·rw[fW] at f;omega
 rcases h with ⟨h,_⟩|⟨i,g⟩
 ·exact absurd h a
 exact⟨kH _,bD _ qO,g,gS _,by rw[fW];omega⟩
theorem ZoM {l:List UInt8}{c:UInt8}(h:(l ++ [c]).all xE=true):zO (l ++ [c])%2=c.toNat % 2:=by
 rw[cJ]
 have a:xE c=true:=by rw[pL] at h;simp at h;exact h.2
 have:=dN a
 omega
noncomputable def valF (l:List UInt8):Rat:=(wW l).getD 0
theorem fit {x:Int}{k:Nat}(h:wl x.natAbs≤k)(a:k≤1048576):Fits x:=uB h a
theorem Zne {l:List UInt8}(b:l.all xE=true)(f:l.length≤570):wl (zO l)≤30:=by
 rw[kE]
 have c:=jZ l b
 obtain⟨k,d⟩:∃ k,k=30:=⟨_,rfl⟩
 have a:10^l.length≤10^(19*k):=vA qO qO
 rw[←d]
 rw[qV] at a
 have e:(10^19)^k≤W64^k:=rG (by rw[zK];decide) k
 exact uT c (uB a e)
theorem Zgb:∀ (k u:Nat),1≤k→u<10^k→Lib.nDigits u≤k
 | 0,_,h,_=>qO
 | k+1,u,_,h=>by
  by_cases a:u<10
  ·rw[Lib.nDigits_small a];omega
  rw[Lib.nDigits_big a]
  have b:1≤k:=by
   rcases uJ k with e|e
   ·subst e;simp at h;omega
   exact e
  have c:u/10<10^k:=by
   rw[uP] at h
   exact sN (by rw[uF];exact h)
  have:=Zgb k (u/10) b c
  omega
theorem ZkE {z:Int}{k:Nat}(a:1≤k)(h:z.natAbs<10^k):(Lib.itoa z).length≤k+1:=by
 have b:=Zgb k z.natAbs a h
 have e:0≤z→z.toNat=z.natAbs:=fun h=>qO
 unfold Lib.itoa
 split
 ·simp only[sK,Lib.decDigits_length]
  omega
 rename_i c
 rw[Lib.decDigits_length]
 first
  | omega
  | (rw[e qO];omega)
theorem Znf {l:List UInt8}(h:wW l=none):valF l=0:=by unfold valF;rw[h];rfl
theorem bL {l:List UInt8}{q:Rat}(h:wW l=some q):valF l=q:=by unfold valF;rw[h];rfl
theorem gI (l:List UInt8):bytes ⟨l.toArray⟩=l:=by simp[bytes]
theorem ZlN {w w':World}{e:Ending}{l:List UInt8}(h:Zfc w l e w'):lR (fun x:Int×Int×Bool=>.tuple #[.agg #[.int .i64 x.1,.int .i64 x.2.1],.bool x.2.2]) (fun x _=>ZaP l x.1 x.2.1 x.2.2) w e w':=by
 obtain⟨a,b,c,rfl,d,Q⟩:=h
 exact⟨(a,b,c),rfl,Q,BoxN.pure d⟩
abbrev ShSp:=Bool×ByteArray×ByteArray×Bool
theorem ZlO {w w':World}{e:Ending}{s:ByteArray}(h:Ze9 s w e w'):lR (fun x:ShSp=>.tuple #[.agg #[.bool x.1,.string x.2.1,.string x.2.2.1],.bool x.2.2.2]) (fun x _=>wV (bytes s)=(x.1,bytes x.2.1,bytes x.2.2.1,x.2.2.2)) w e w':=by
 obtain⟨neg,t,d,a,rfl,b,Q⟩:=h
 exact⟨(neg,t,d,a),rfl,Q,BoxN.pure b⟩
theorem ZkF {x:ByteArray}(h:bytes x=[]):(x.toList == (⟨#[]⟩:ByteArray).toList)=true:=by
 rw[Lib.toList_data,Lib.toList_data,show x.data.toList=[] from h];rfl
theorem ZkG {x:ByteArray}(h:¬ bytes x=[]):(x.toList == (⟨#[]⟩:ByteArray).toList)=false:=by
 rw[Lib.toList_data,Lib.toList_data]
 exact rN.2 h
theorem Znh {l:List UInt8}{neg:Bool}{t d:List UInt8}(h:wV l=(neg,t,d,false)):wW l=none:=by unfold wW;rw[h]
theorem Zni {l:List UInt8}{neg:Bool}{t d:List UInt8}(h:wV l=(neg,t,d,true))(a:d=[]):(wW l).isSome=true:=by unfold wW;rw[h];simp[a]
theorem Znj {l:List UInt8}{neg:Bool}{t d:List UInt8}(h:wV l=(neg,t,d,true))(b:¬ d=[]):(wW l).isSome=decide (((Int.gcd (zO t:Int) (zO d:Int):Nat):Int)=1):=by
 unfold wW
 rw[h]
 have e:Int.gcd (zO t:Int) (zO d:Int)=Nat.gcd (zO t) (zO d):=rfl
 rw[e]
 simp only[uM b]
 by_cases a:Nat.gcd (zO t) (zO d)=1
 ·rw[uS a,a];rfl
 rw[uM a];simp;omega
theorem ZlP {l:List UInt8}{a b:Int}(h:ZaP l a b true):(wW l).isSome=true:=by
 rcases h with ⟨_,q,h,_⟩|⟨h,_⟩
 ·rw[h];rfl
 cases h
theorem bN (s:ByteArray)(w:World)(H:Glob w)(I:(bytes s).length≤570) :
 yA 61 #[.string s] w (RetV w (.bool (wW (bytes s)).isSome)):=by
 have l:s.size≤1099511627776:=by rw[zX] at I;omega
 refine zQ (Φ:=fun w=>Glob w) func61 rfl qK (fun w' J=>H.ext J) ?_
 refine yY (xr 1 [yT 0 s,yB 2 false] [] ?_)
 refine yZ (zC (yY (xr 1 [yT 0 s,yB 2 false,yT 8 s] [] ?_)))
 refine xc 103 [.string s] 9 (fun x:Int×Int×Bool=>.tuple #[.agg #[yI x.1, yI x.2.1],.bool x.2.2]) _ (fun w R Q=>yM ZlN (ZhX s _ l)) fun⟨L,M,B⟩=>?_
 rcases B with _|_
 ·refine xr 6 [yT 0 s,yB 2 false,yB 4 false] [] ?_
  refine yZ (yY (xr 1 [yT 0 s,yB 2 false,yB 12 false] [] ?_))
  refine yZ (xb (zI (zA (yY (xr 1 [yB 2 false,yT 14 s] [] ?_)))))
  refine xc 104 [.string s] 15 (fun x:ShSp=>.tuple #[.agg #[.bool x.1,.string x.2.1,.string x.2.2.1],.bool x.2.2.2]) _ (fun w R Q=>yM ZlO (Zhp s _ l)) fun⟨a,c,b,C⟩=>?_
  rcases C with _|_
  ·refine xr 6 [yB 2 false,(5,.p 5 0),yB 6 false] [(5,156,[.v (.bool a),.v (.string c),.v (.string b)])] ?_
   refine yZ (zC (zC ?_))
   refine SXc.know (p:=wV (bytes s)=(a,bytes c,bytes b,false)) (fun w _ Q=>Q.2) fun m=>?_
   refine zB (xr 7 [yB 2 false,(5,.p 5 0),yB 6 false,yB 24 true] [(5,156,[.v (.bool a),.v (.string c),.v (.string b)])] ?_)
   refine yZ (xa (yY (xr 2 [yB 2 false,(5,.p 5 0)] [(5,156,[.v (.bool a),.v (.string c),.v (.string b)])] ?_)))
   refine yZ (zH (zN ?_))
   refine yR (.bool false) fun w' R Q=>?_
   exact⟨by rw[Znh m];rfl,R⟩
  refine xr 6 [yB 2 false,(5,.p 5 0),yB 6 true] [(5,156,[.v (.bool a),.v (.string c),.v (.string b)])] ?_
  refine yZ (zC (zC ?_))
  refine SXc.know (p:=wV (bytes s)=(a,bytes c,bytes b,true)) (fun w _ Q=>Q.2) fun m=>?_
  by_cases A:bytes b=[]
  ·refine zB (xr 6 [yB 2 false,(5,.p 5 0),yB 6 true,yB 20 false,yB 23 ((b:ByteArray).toList == (⟨#[]⟩:ByteArray).toList)] [(5,156,[.v (.bool a),.v (.string c),.v (.string b)])] ?_)
   rw[ZkF A]
   refine xr 1 [yB 2 false,(5,.p 5 0),yB 6 true,yB 24 true] [(5,156,[.v (.bool a),.v (.string c),.v (.string b)])] ?_
   refine yZ (xa (yY (xr 2 [yB 2 true,(5,.p 5 0)] [(5,156,[.v (.bool a),.v (.string c),.v (.string b)])] ?_)))
   refine yZ (zH (zN ?_))
   refine yR (.bool true) fun w' R Q=>?_
   exact⟨by rw[Zni m A],R⟩
  refine zB (xr 6 [yB 2 false,(5,.p 5 0),yB 6 true,yB 20 false,yB 23 ((b:ByteArray).toList == (⟨#[]⟩:ByteArray).toList)] [(5,156,[.v (.bool a),.v (.string c),.v (.string b)])] ?_)
  rw[ZkG A]
  refine xr 1 [yB 2 false,(5,.p 5 0),yB 6 true,yB 24 false] [(5,156,[.v (.bool a),.v (.string c),.v (.string b)])] ?_
  refine yZ (xb (zI (zA (zC ?_))))
  obtain⟨d,e,K⟩:=cS m
  have f:Zcx c.size:=by unfold Zcx;rw[←zX];omega
  have g:Zcx b.size:=by unfold Zcx;rw[←zX];omega
  have D:wl ((zO (bytes c):Nat):Int).natAbs≤79:=by rw[sY];exact uB (Zne d qO) qD
  have E:wl ((zO (bytes b):Nat):Int).natAbs≤79:=by rw[sY];exact uB (Zne e qO) qD
  have F:Fits ((zO (bytes c):Nat):Int):=by unfold Fits;omega
  have G:Fits ((zO (bytes b):Nat):Int):=by unfold Fits;omega
  refine yO 9 zL ?_
  refine xf 2 [yB 2 false,(5,.p 5 0),yT 27 c] [(5,156,[.v (.bool a),.v (.string c),.v (.string b)])] ?_
  refine xd 105 [.string c] 28 wR _ (fun w R Q=>yM Zfa (ZdE c _ d f)) fun⟨h,i,j,k⟩=>?_
  refine xf 2 [yB 2 false,eI2 28 h i j k,yT 30 b] [(5,156,[.v (.bool a),.v (.string c),.v (.string b)])] ?_
  refine xd 105 [.string b] 31 wR _ (fun w R Q=>yM Zfa (ZdE b _ e g)) fun⟨n,o,q,r⟩=>?_
  refine xf 0 [yB 2 false,eI2 28 h i j k,eI2 31 n o q r] [(5,156,[.v (.bool a),.v (.string c),.v (.string b)])] ?_
  refine xd 106 [vI2 h i j k,vI2 n o q r] 32 wR _ (fun w R Q=>yM Zfa (ZpO _ _ ((zO (bytes c):Int)) ((zO (bytes b):Int)) _ Q.1.1.1.1 Q.1.2 Q.2 F G (Zh3.words D E))) fun⟨t,u,y,z⟩=>?_
  refine xf 0 [yB 2 false,eI2 32 t u y z] [(5,156,[.v (.bool a),.v (.string c),.v (.string b)])] ?_
  refine xd 107 [vI2 t u y z] 33 (fun _:Unit=>.bool (decide ((((Int.gcd ((zO (bytes c):Int)) ((zO (bytes b):Int)):Nat):Int))=1))) _ (fun w R Q=>yN (Zmw _ (((Int.gcd ((zO (bytes c):Int)) ((zO (bytes b):Int)):Nat):Int)) _ Q.2)) fun N=>?_
  refine xf 1 [(2,.v (.bool (decide ((((Int.gcd ((zO (bytes c):Int)) ((zO (bytes b):Int)):Nat):Int))=1))))] [(5,156,[.v (.bool a),.v (.string c),.v (.string b)])] ?_
  refine xz (yZ (zH ?_))
  refine zD (v:=.bool (decide ((((Int.gcd ((zO (bytes c):Int)) ((zO (bytes b):Int)):Nat):Int))=1))) qK fun w' R Q=>?_
  exact⟨by rw[Znj m A],R⟩
 refine xr 6 [yT 0 s,yB 2 false,yB 4 true] [] ?_
 refine yZ (yY (xr 1 [yT 0 s,yB 2 false,yB 12 true] [] ?_))
 refine yZ (xa (yY (xr 1 [yT 0 s,yB 2 true] [] ?_)))
 refine yZ (zH (zN ?_))
 refine yR (.bool true) fun w' R Q=>?_
 exact⟨by rw[ZlP Q.2],R⟩
theorem aM {n:Nat}(h:n<10):Lib.itoa (n:Int)=[UInt8.ofNat (48+n)]:=by
 unfold Lib.itoa
 rw[uM qO,oQ,Lib.decDigits,dif_pos h]
theorem bE {q:Rat}{n:Nat}(h:n<10)(d:q.num=(n:Int))(e:q.den=1):xP q=[UInt8.ofNat (48+n)]:=by
 unfold xP;rw[uS e,d,aM h]
theorem ZkH {q:Rat}{n d:Nat}(h:n<10)(e:d<10)(f:q.num=(n:Int))(g:q.den=d)(i:d≠1):xP q=[UInt8.ofNat (48+n),47,UInt8.ofNat (48+d)]:=by
 unfold xP;rw[g,uM i,f,aM h,aM e];rfl
theorem t1:xP (mkRat 1 1)=[49]:=bE (n:=1) qD qD qD
theorem t3:xP (mkRat 3 1)=[51]:=bE (n:=3) qD qD qD
theorem t13:xP (mkRat 1 3)=[49,47,51]:=ZkH (n:=1) (d:=3) qD qD qD qD qD
theorem t12:xP (mkRat 1 2)=[49,47,50]:=ZkH (n:=1) (d:=2) qD qD qD qD qD
section
variable {w w':World} {e:Ending} {s:ByteArray}
theorem ZlQ (h:ZiF s w e w'):lR (fun x:ByteArray×Bool=>.tuple #[.string x.1,.bool x.2]) (fun x _=>xI (bytes s)=(x.2,bytes x.1)) w e w':=by
 obtain⟨r,neg,rfl,h,rfl⟩:=h
 exact⟨(r,neg),rfl,Fr.refl _ _,BoxN.pure h⟩
end
theorem ZgT {a b:ByteArray}(h:bytes a=bytes b):a=b:=by
 cases a with|mk a=>cases b with|mk b=>simp only[bytes] at h;rw[Array.toList_inj.1 h]
def e4:Nat:=400
theorem ZkI {s:ByteArray}(h:bytes s=[48]):(s.toList == (⟨#[48]⟩:ByteArray).toList)=true:=by
 rw[Lib.toList_data,Lib.toList_data,show s.data.toList=[48] from h];rfl
theorem ZkJ {s:ByteArray}(h:¬ bytes s=[48]):(s.toList == (⟨#[48]⟩:ByteArray).toList)=false:=by
 rw[Lib.toList_data,Lib.toList_data];exact rN.2 h
theorem zt:xP 0=[48]:=bE (n:=0) qD qD qD
theorem cL {P:Program}{o:Oper}{ρ:Operand→Value}{w:World}{t:TypeId}{x i:Operand}{b:ByteArray}{k:Nat}{c:UInt8}(a:o.op=Op.index t x i)(d:P.underlying t=some .string)(e:ρ x=.string b)(hi:ρ i=.int .i64 (k:Int))(f:b[k]? = some c):(execOp ρ o).run P w=.ok (.value (.int .u8 (c.toNat:Int))) w:=by
 simp[execOp,a,Instr.index,asIntOf,underlying,d,e,hi,f,Result.andThen]
theorem wQ.le {x y:Int}(h:wQ x)(a:y.natAbs≤x.natAbs):wQ y:=uB (ZaK a) h
theorem wQ.gcd {x y:Int}(h:wQ y)(a:y≠0):wQ (Int.gcd x y:Int):=h.le (by
 have:Int.gcd x y≤y.natAbs:=pW _ qO
 omega)
theorem wQ.tdiv {x y:Int}(h:wQ x):wQ (x.tdiv y):=h.le (by rw[Int.natAbs_tdiv];exact vK _ _)
theorem ZcL {x y:Int}(h:0<y):0<Int.gcd x y:=by
 rcases uJ (Int.gcd x y) with e|e
 ·have:=(Int.gcd_eq_zero_iff.1 e).2;omega
 exact e
def gL (q:Rat):Prop:=ml q.num.natAbs≤100000∧ml q.den≤100000
theorem mlm {x y:Int}{a b:Nat}(c:ml x.natAbs≤a)(d:ml y.natAbs≤b):ml (x*y).natAbs≤a+b:=by
 have h:=Zq0 x.natAbs y.natAbs
 rw[←Int.natAbs_mul] at h
 omega
theorem mla {x y:Int}{a:Nat}(b:ml x.natAbs≤a)(c:ml y.natAbs≤a):ml (x+y).natAbs≤a+1 :=
 uB (ZaK (Int.natAbs_add_le x y)) (Zq1 b c)
theorem ZbC {w w':World}{e:Ending}{a b:Int}(h:ZgQ w a b e w'):lR ZdF (fun x w=>zZ w (wR x.1) a∧zZ w (wR x.2) b) w e w':=by
 obtain⟨u,v,rfl,d,f,Q⟩:=h
 obtain⟨s,A,l,c,rfl⟩:=d.shp
 obtain⟨j,k,m,n,rfl⟩:=f.shp
 exact⟨((s,A,l,c),(j,k,m,n)),rfl,Q,boxn Q (fun S o g i=>⟨d.nrb g i,f.nrb g i⟩)⟩
theorem nfit {z:Int}{k:Nat}(h:ml z.natAbs≤k)(a:Nat.ble k 17592186044416=true):wQ z:=uB h (tI a)
theorem mlc {n k:Nat}(h:ml n≤k):ml ((n:Nat):Int).natAbs≤k:=by rw[sY];exact h
theorem ZhE {x y:Int}{q:Rat}(a:Rat.divInt x y=q)(b:0<y)(_:1<((Int.gcd x y:Nat):Int).natAbs):q.num=x.tdiv ((Int.gcd x y:Nat):Int)∧(q.den:Int)=y.tdiv ((Int.gcd x y:Nat):Int):=by
 rw[←a];exact ZiV b
theorem ZhF {x y:Int}{q:Rat}(b:Rat.divInt x y=q)(a:0<y)(h:¬ 1<((Int.gcd x y:Nat):Int).natAbs):q.num=x∧(q.den:Int)=y:=by
 have c:=ZcL (x:=x) a
 rw[←b];exact ZdT a qO
theorem Zad {n:Nat}(h:(((n:Nat):Int) == 1)=true):n=1:=by have:=eq_of_beq h;omega
theorem Zae {n:Nat}(h:(((n:Nat):Int) == 1)=false):n≠1:=fun e=>by subst e;cases h
theorem Znk (a b:Value)(x y:Int)(q:Rat)(w:World)(ha:zZ w a x)(X:zZ w b y)(hx:wQ x)(hy:wQ y)(h0:y<0)(hq:Rat.divInt x y=q) :
 yA 73 #[a,b] w (jU w q):=by
 obtain⟨K,L,M,N,rfl⟩:=ha.shp
 obtain⟨s1,O,P,S,rfl⟩:=X.shp
 obtain rfl:s1=true:=X.sneg h0
 have V:wQ (-(x)):=hx.neg
 have F:wQ (-(y)):=hy.neg
 have Y:0 < -(y):=qO
 have T:wQ ((Int.gcd (-(x)) (-(y)):Nat):Int):=wQ.gcd F qO
 have W:((Int.gcd (-(x)) (-(y)):Nat):Int)≠0:=by have:=ZcL (x := -(x)) Y;omega
 have Z:Rat.divInt (-(x)) (-(y))=q:=by rw[Rat.neg_divInt_neg];exact hq
 refine zQ (Φ:=fun w=>(zZ w (.agg #[.bool K,.slice L M N]) (x)∧zZ w (.agg #[.bool true,.slice O P S]) (y))) func73 rfl qK (fun w' hf=>⟨ha.ext hf,X.ext hf⟩) ?_
 refine zC (zB (xr 3 [(2,.p 2 0),(3,.p 3 0),(4,.p 4 0)] [bR4 4 59 false none 0 0 false none 0 0,bI2 3 57 true O P S,bI2 2 57 K L M N] ?_))
 refine xe (zA (zC (zC (zB (xr 2 [(2,.p 2 0),(3,.p 3 0),(4,.p 4 0),yB 7 true] [bR4 4 59 false none 0 0 false none 0 0,bI2 3 57 true O P S,bI2 2 57 K L M N] ?_)))))
 refine xe (zA (xa ?_))
 refine xN 6 qK qK zL ?_
 refine xf 1 [(2,.p 2 0),(3,.p 3 0),(4,.p 4 0),eI2 8 K L M N] [bR4 4 59 false none 0 0 false none 0 0,bI2 3 57 true O P S,bI2 2 57 K L M N] ?_
 refine xd 55 [vI2 K L M N] 9 wR _ (fun w R Q=>yM wF (ZiM _ (x) _ Q.1)) fun⟨c,d,e,f⟩=>?_
 refine xf 1 [(2,.p 2 0),(3,.p 3 0),(4,.p 4 0),eI2 9 c d e f,eI2 10 true O P S] [bR4 4 59 false none 0 0 false none 0 0,bI2 3 57 true O P S,bI2 2 57 K L M N] ?_
 refine xd 55 [vI2 true O P S] 11 wR _ (fun w R Q=>yM wF (ZiM _ (y) _ Q.1.2)) fun⟨g,i,j,k⟩=>?_
 refine xf 2 [(2,.p 2 0),(3,.p 3 0),(4,.p 4 0)] [bI2 3 57 g i j k,bI2 2 57 c d e f,bR4 4 59 false none 0 0 false none 0 0,bI2 3 57 true O P S,bI2 2 57 K L M N] ?_
 refine xz (xe (zA (zC (zB (xr 2 [(2,.p 2 0),(3,.p 3 0),(4,.p 4 0),eI2 12 c d e f,eI2 13 g i j k] [bI2 3 57 g i j k,bI2 2 57 c d e f,bR4 4 59 false none 0 0 false none 0 0] ?_)))))
 refine xc 124 [vI2 c d e f,vI2 g i j k] 14 wR _ (fun w R Q=>yM wF (ZiO _ _ (-(x)) (-(y)) _ Q.1.2 Q.2 V F)) fun⟨l,m,n,o⟩=>?_
 refine xr 2 [(2,.p 2 0),(3,.p 3 0),(4,.p 4 0),(5,.p 5 0)] [bI2 5 57 l m n o,bI2 3 57 g i j k,bI2 2 57 c d e f,bR4 4 59 false none 0 0 false none 0 0] ?_
 refine xe (zA (zC (zC (zB (xr 1 [(2,.p 2 0),(3,.p 3 0),(4,.p 4 0),(5,.p 5 0),eI2 15 l m n o] [bI2 5 57 l m n o,bI2 3 57 g i j k,bI2 2 57 c d e f,bR4 4 59 false none 0 0 false none 0 0] ?_)))))
 refine xc 114 [vI2 l m n o] 16 (fun _:Unit=>yI ((blen (((Int.gcd (-(x)) (-(y)):Nat):Int)).natAbs:Nat):Int)) _ (fun w R Q=>yN (bJ _ (((Int.gcd (-(x)) (-(y)):Nat):Int)) _ Q.2 T)) fun U=>?_
 refine xr 1 [(2,.p 2 0),(3,.p 3 0),(4,.p 4 0),(5,.p 5 0),(17,.v (.bool (decide (((blen (((Int.gcd (-(x)) (-(y)):Nat):Int)).natAbs:Nat):Int)>1))))] [bI2 5 57 l m n o,bI2 3 57 g i j k,bI2 2 57 c d e f,bR4 4 59 false none 0 0 false none 0 0] ?_
 refine xe (zA ?_)
 refine zR ((decide (((blen (((Int.gcd (-(x)) (-(y)):Nat):Int)).natAbs:Nat):Int)>1))) qK (fun G=>?_) fun G=>?_
 ·have H:=ZhE Z Y (Zaa.1 (by have:=uC G;omega))
  refine zC (zB (xr 2 [(2,.p 2 0),(3,.p 3 0),(4,.p 4 0),(5,.p 5 0),eI2 19 c d e f,eI2 20 l m n o] [bI2 5 57 l m n o,bI2 3 57 g i j k,bI2 2 57 c d e f,bR4 4 59 false none 0 0 false none 0 0] ?_))
  refine xc 116 [vI2 c d e f,vI2 l m n o] 21 ZdF _ (fun w R Q=>yM ZbC (aZ _ _ (-(x)) (((Int.gcd (-(x)) (-(y)):Nat):Int)) _ Q.1.1.1.2 Q.1.2 V T W)) fun U=>?_
  obtain⟨⟨r,s,t,u⟩,⟨a0,b0,d0,e0⟩⟩:=U
  refine xr 4 [(2,.p 2 0),(3,.p 3 0),(4,.p 4 0),(5,.p 5 0)] [bI2 5 57 l m n o,bI2 3 57 g i j k,bI2 2 57 r s t u,bR4 4 59 false none 0 0 false none 0 0] ?_
  refine xe (zA (zB (xr 2 [(2,.p 2 0),(3,.p 3 0),(4,.p 4 0),eI2 25 g i j k,eI2 26 l m n o] [bI2 3 57 g i j k,bI2 2 57 r s t u,bR4 4 59 false none 0 0 false none 0 0] ?_)))
  refine xc 116 [vI2 g i j k,vI2 l m n o] 27 ZdF _ (fun w R Q=>yM ZbC (aZ _ _ (-(y)) (((Int.gcd (-(x)) (-(y)):Nat):Int)) _ Q.1.1.1.2 Q.1.1.2 F T W)) fun U=>?_
  obtain⟨⟨B,C,D,E⟩,⟨f0,g0,i0,j0⟩⟩:=U
  refine xr 4 [(2,.p 2 0),(3,.p 3 0),(4,.p 4 0)] [bI2 3 57 B C D E,bI2 2 57 r s t u,bR4 4 59 false none 0 0 false none 0 0] ?_
  refine xe (zA (zC (zC (zB (xr 1 [(2,.p 2 0),(3,.p 3 0),(4,.p 4 0),eI2 30 B C D E] [bI2 3 57 B C D E,bI2 2 57 r s t u,bR4 4 59 false none 0 0 false none 0 0] ?_)))))
  refine xc 114 [vI2 B C D E] 31 (fun _:Unit=>yI ((blen ((-(y)).tdiv (((Int.gcd (-(x)) (-(y)):Nat):Int))).natAbs:Nat):Int)) _ (fun w R Q=>yN (bJ _ ((-(y)).tdiv (((Int.gcd (-(x)) (-(y)):Nat):Int))) _ Q.2.1 (wQ.tdiv F))) fun U=>?_
  refine xr 1 [(2,.p 2 0),(3,.p 3 0),(4,.p 4 0),(32,.v (.bool ((((blen ((-(y)).tdiv (((Int.gcd (-(x)) (-(y)):Nat):Int))).natAbs:Nat):Int):Int) == 1)))] [bI2 3 57 B C D E,bI2 2 57 r s t u,bR4 4 59 false none 0 0 false none 0 0] ?_
  refine xe (zA ?_)
  refine zR (((((blen ((-(y)).tdiv (((Int.gcd (-(x)) (-(y)):Nat):Int))).natAbs:Nat):Int):Int) == 1)) qK (fun I=>?_) fun I=>?_
  ·have z:=iY.1 (Zad I)
   refine zB (xr 2 [(2,.p 2 0),(3,.p 3 0),(4,.p 4 0)] [bI2 3 57 false none 0 0,bI2 2 57 r s t u,bR4 4 59 false none 0 0 false none 0 0] ?_)
   refine xe (zA (zC (zB (xr 4 [(4,.p 4 0)] [bR4 4 59 r s t u false none 0 0] ?_))))
   refine xe (zA (zH ?_))
   refine zD (v:=.agg #[.bool r,.slice s t u,.bool false,.slice none 0 0]) qK fun w' R Q=>?_
   exact⟨_,rfl,zS.of (by rw[H.1];exact Q.1.1.2.1) (by rw[jB (by have:=z;have:=H.2;have:=q.den_nz;omega)];exact (zZ.nil _)),R⟩
  have z:=fun h=>Zae I (iY.2 h)
  refine zI (zA (zC (zB (xr 4 [(4,.p 4 0)] [bR4 4 59 r s t u B C D E] ?_))))
  refine xe (zA (zH ?_))
  refine zD (v:=.agg #[.bool r,.slice s t u,.bool B,.slice C D E]) qK fun w' R Q=>?_
  exact⟨_,rfl,zS.of (by rw[H.1];exact Q.1.1.2.1) (by rw[fH (fun h=>z (by have:=H.2;omega)),H.2];exact Q.1.2.1),R⟩
 have H:=ZhF Z Y (fun h=>absurd (Zaa.2 h) (by have:=uD G;omega))
 refine zI (zA (zC (zC (zB (xr 1 [(2,.p 2 0),(3,.p 3 0),(4,.p 4 0),eI2 30 g i j k] [bI2 3 57 g i j k,bI2 2 57 c d e f,bR4 4 59 false none 0 0 false none 0 0] ?_)))))
 refine xc 114 [vI2 g i j k] 31 (fun _:Unit=>yI ((blen (-(y)).natAbs:Nat):Int)) _ (fun w R Q=>yN (bJ _ (-(y)) _ Q.1.1.2 F)) fun U=>?_
 refine xr 1 [(2,.p 2 0),(3,.p 3 0),(4,.p 4 0),(32,.v (.bool ((((blen (-(y)).natAbs:Nat):Int):Int) == 1)))] [bI2 3 57 g i j k,bI2 2 57 c d e f,bR4 4 59 false none 0 0 false none 0 0] ?_
 refine xe (zA ?_)
 refine zR (((((blen (-(y)).natAbs:Nat):Int):Int) == 1)) qK (fun J=>?_) fun J=>?_
 ·have A:=iY.1 (Zad J)
  refine zB (xr 2 [(2,.p 2 0),(3,.p 3 0),(4,.p 4 0)] [bI2 3 57 false none 0 0,bI2 2 57 c d e f,bR4 4 59 false none 0 0 false none 0 0] ?_)
  refine xe (zA (zC (zB (xr 4 [(4,.p 4 0)] [bR4 4 59 c d e f false none 0 0] ?_))))
  refine xe (zA (zH ?_))
  refine zD (v:=.agg #[.bool c,.slice d e f,.bool false,.slice none 0 0]) qK fun w' R Q=>?_
  exact⟨_,rfl,zS.of (by rw[H.1];exact Q.1.1.1.1.2) (by rw[jB (by have:=A;have:=H.2;have:=q.den_nz;omega)];exact (zZ.nil _)),R⟩
 have A:=fun h=>Zae J (iY.2 h)
 refine zI (zA (zC (zB (xr 4 [(4,.p 4 0)] [bR4 4 59 c d e f g i j k] ?_))))
 refine xe (zA (zH ?_))
 refine zD (v:=.agg #[.bool c,.slice d e f,.bool g,.slice i j k]) qK fun w' R Q=>?_
 exact⟨_,rfl,zS.of (by rw[H.1];exact Q.1.1.1.1.2) (by rw[fH (fun h=>A (by have:=H.2;omega)),H.2];exact Q.1.1.1.2),R⟩
theorem Znl (a b:Value)(x y:Int)(q:Rat)(w:World)(ha:zZ w a x)(N:zZ w b y)(T:wQ x)(U:wQ y)(h0:0<y)(V:Rat.divInt x y=q) :
 yA 73 #[a,b] w (jU w q):=by
 obtain⟨o,r,s,t,rfl⟩:=ha.shp
 obtain⟨W,l,m,n,rfl⟩:=N.shp
 obtain rfl:W=false:=N.spos qO
 have L:wQ (x):=T
 have E:wQ (y):=U
 have O:0<y:=qO
 have J:wQ ((Int.gcd (x) (y):Nat):Int):=wQ.gcd E qO
 have M:((Int.gcd (x) (y):Nat):Int)≠0:=by have:=ZcL (x:=x) O;omega
 have P:Rat.divInt (x) (y)=q:=V
 refine zQ (Φ:=fun w=>(zZ w (.agg #[.bool o,.slice r s t]) (x)∧zZ w (.agg #[.bool false,.slice l m n]) (y))) func73 rfl qK (fun w' S=>⟨ha.ext S,N.ext S⟩) ?_
 refine zC (zB (xr 3 [(2,.p 2 0),(3,.p 3 0),(4,.p 4 0)] [bR4 4 59 false none 0 0 false none 0 0,bI2 3 57 false l m n,bI2 2 57 o r s t] ?_))
 refine xe (zA (zC (zC (zB (xr 2 [(2,.p 2 0),(3,.p 3 0),(4,.p 4 0),yB 7 false] [bR4 4 59 false none 0 0 false none 0 0,bI2 3 57 false l m n,bI2 2 57 o r s t] ?_)))))
 refine xe (zA (xb (zI (zA (zC (zB (xr 2 [(2,.p 2 0),(3,.p 3 0),(4,.p 4 0),eI2 12 o r s t,eI2 13 false l m n] [bR4 4 59 false none 0 0 false none 0 0,bI2 3 57 false l m n,bI2 2 57 o r s t] ?_)))))))
 refine xc 124 [vI2 o r s t,vI2 false l m n] 14 wR _ (fun w R Q=>yM wF (ZiO _ _ (x) (y) _ Q.1 Q.2 L E)) fun⟨c,d,e,f⟩=>?_
 refine xr 2 [(2,.p 2 0),(3,.p 3 0),(4,.p 4 0),(5,.p 5 0)] [bI2 5 57 c d e f,bR4 4 59 false none 0 0 false none 0 0,bI2 3 57 false l m n,bI2 2 57 o r s t] ?_
 refine xe (zA (zC (zC (zB (xr 1 [(2,.p 2 0),(3,.p 3 0),(4,.p 4 0),(5,.p 5 0),eI2 15 c d e f] [bI2 5 57 c d e f,bR4 4 59 false none 0 0 false none 0 0,bI2 3 57 false l m n,bI2 2 57 o r s t] ?_)))))
 refine xc 114 [vI2 c d e f] 16 (fun _:Unit=>yI ((blen (((Int.gcd (x) (y):Nat):Int)).natAbs:Nat):Int)) _ (fun w R Q=>yN (bJ _ (((Int.gcd (x) (y):Nat):Int)) _ Q.2 J)) fun K=>?_
 refine xr 1 [(2,.p 2 0),(3,.p 3 0),(4,.p 4 0),(5,.p 5 0),(17,.v (.bool (decide (((blen (((Int.gcd (x) (y):Nat):Int)).natAbs:Nat):Int)>1))))] [bI2 5 57 c d e f,bR4 4 59 false none 0 0 false none 0 0,bI2 3 57 false l m n,bI2 2 57 o r s t] ?_
 refine xe (zA ?_)
 refine zR ((decide (((blen (((Int.gcd (x) (y):Nat):Int)).natAbs:Nat):Int)>1))) qK (fun F=>?_) fun F=>?_
 ·have G:=ZhE P O (Zaa.1 (by have:=uC F;omega))
  refine zC (zB (xr 2 [(2,.p 2 0),(3,.p 3 0),(4,.p 4 0),(5,.p 5 0),eI2 19 o r s t,eI2 20 c d e f] [bI2 5 57 c d e f,bR4 4 59 false none 0 0 false none 0 0,bI2 3 57 false l m n,bI2 2 57 o r s t] ?_))
  refine xc 116 [vI2 o r s t,vI2 c d e f] 21 ZdF _ (fun w R Q=>yM ZbC (aZ _ _ (x) (((Int.gcd (x) (y):Nat):Int)) _ Q.1.1.1 Q.1.2 L J M)) fun K=>?_
  obtain⟨⟨g,i,j,k⟩,⟨X,Y,Z,a0⟩⟩:=K
  refine xr 4 [(2,.p 2 0),(3,.p 3 0),(4,.p 4 0),(5,.p 5 0)] [bI2 5 57 c d e f,bR4 4 59 false none 0 0 false none 0 0,bI2 3 57 false l m n,bI2 2 57 g i j k] ?_
  refine xe (zA (zB (xr 2 [(2,.p 2 0),(3,.p 3 0),(4,.p 4 0),eI2 25 false l m n,eI2 26 c d e f] [bR4 4 59 false none 0 0 false none 0 0,bI2 3 57 false l m n,bI2 2 57 g i j k] ?_)))
  refine xc 116 [vI2 false l m n,vI2 c d e f] 27 ZdF _ (fun w R Q=>yM ZbC (aZ _ _ (y) (((Int.gcd (x) (y):Nat):Int)) _ Q.1.1.1.2 Q.1.1.2 E J M)) fun K=>?_
  obtain⟨⟨A,B,C,D⟩,⟨b0,d0,e0,f0⟩⟩:=K
  refine xr 4 [(2,.p 2 0),(3,.p 3 0),(4,.p 4 0)] [bR4 4 59 false none 0 0 false none 0 0,bI2 3 57 A B C D,bI2 2 57 g i j k] ?_
  refine xe (zA (zC (zC (zB (xr 1 [(2,.p 2 0),(3,.p 3 0),(4,.p 4 0),eI2 30 A B C D] [bR4 4 59 false none 0 0 false none 0 0,bI2 3 57 A B C D,bI2 2 57 g i j k] ?_)))))
  refine xc 114 [vI2 A B C D] 31 (fun _:Unit=>yI ((blen ((y).tdiv (((Int.gcd (x) (y):Nat):Int))).natAbs:Nat):Int)) _ (fun w R Q=>yN (bJ _ ((y).tdiv (((Int.gcd (x) (y):Nat):Int))) _ Q.2.1 (wQ.tdiv E))) fun K=>?_
  refine xr 1 [(2,.p 2 0),(3,.p 3 0),(4,.p 4 0),(32,.v (.bool ((((blen ((y).tdiv (((Int.gcd (x) (y):Nat):Int))).natAbs:Nat):Int):Int) == 1)))] [bR4 4 59 false none 0 0 false none 0 0,bI2 3 57 A B C D,bI2 2 57 g i j k] ?_
  refine xe (zA ?_)
  refine zR (((((blen ((y).tdiv (((Int.gcd (x) (y):Nat):Int))).natAbs:Nat):Int):Int) == 1)) qK (fun H=>?_) fun H=>?_
  ·have u:=iY.1 (Zad H)
   refine zB (xr 2 [(2,.p 2 0),(3,.p 3 0),(4,.p 4 0)] [bR4 4 59 false none 0 0 false none 0 0,bI2 3 57 false none 0 0,bI2 2 57 g i j k] ?_)
   refine xe (zA (zC (zB (xr 4 [(4,.p 4 0)] [bR4 4 59 g i j k false none 0 0] ?_))))
   refine xe (zA (zH ?_))
   refine zD (v:=.agg #[.bool g,.slice i j k,.bool false,.slice none 0 0]) qK fun w' R Q=>?_
   exact⟨_,rfl,zS.of (by rw[G.1];exact Q.1.1.2.1) (by rw[jB (by have:=u;have:=G.2;have:=q.den_nz;omega)];exact (zZ.nil _)),R⟩
  have u:=fun h=>Zae H (iY.2 h)
  refine zI (zA (zC (zB (xr 4 [(4,.p 4 0)] [bR4 4 59 g i j k A B C D] ?_))))
  refine xe (zA (zH ?_))
  refine zD (v:=.agg #[.bool g,.slice i j k,.bool A,.slice B C D]) qK fun w' R Q=>?_
  exact⟨_,rfl,zS.of (by rw[G.1];exact Q.1.1.2.1) (by rw[fH (fun h=>u (by have:=G.2;omega)),G.2];exact Q.1.2.1),R⟩
 have G:=ZhF P O (fun h=>absurd (Zaa.2 h) (by have:=uD F;omega))
 refine zI (zA (zC (zC (zB (xr 1 [(2,.p 2 0),(3,.p 3 0),(4,.p 4 0),eI2 30 false l m n] [bR4 4 59 false none 0 0 false none 0 0,bI2 3 57 false l m n,bI2 2 57 o r s t] ?_)))))
 refine xc 114 [vI2 false l m n] 31 (fun _:Unit=>yI ((blen (y).natAbs:Nat):Int)) _ (fun w R Q=>yN (bJ _ (y) _ Q.1.1.2 E)) fun K=>?_
 refine xr 1 [(2,.p 2 0),(3,.p 3 0),(4,.p 4 0),(32,.v (.bool ((((blen (y).natAbs:Nat):Int):Int) == 1)))] [bR4 4 59 false none 0 0 false none 0 0,bI2 3 57 false l m n,bI2 2 57 o r s t] ?_
 refine xe (zA ?_)
 refine zR (((((blen (y).natAbs:Nat):Int):Int) == 1)) qK (fun I=>?_) fun I=>?_
 ·have z:=iY.1 (Zad I)
  refine zB (xr 2 [(2,.p 2 0),(3,.p 3 0),(4,.p 4 0)] [bR4 4 59 false none 0 0 false none 0 0,bI2 3 57 false none 0 0,bI2 2 57 o r s t] ?_)
  refine xe (zA (zC (zB (xr 4 [(4,.p 4 0)] [bR4 4 59 o r s t false none 0 0] ?_))))
  refine xe (zA (zH ?_))
  refine zD (v:=.agg #[.bool o,.slice r s t,.bool false,.slice none 0 0]) qK fun w' R Q=>?_
  exact⟨_,rfl,zS.of (by rw[G.1];exact Q.1.1.1.1) (by rw[jB (by have:=z;have:=G.2;have:=q.den_nz;omega)];exact (zZ.nil _)),R⟩
 have z:=fun h=>Zae I (iY.2 h)
 refine zI (zA (zC (zB (xr 4 [(4,.p 4 0)] [bR4 4 59 o r s t false l m n] ?_))))
 refine xe (zA (zH ?_))
 refine zD (v:=.agg #[.bool o,.slice r s t,.bool false,.slice l m n]) qK fun w' R Q=>?_
 exact⟨_,rfl,zS.of (by rw[G.1];exact Q.1.1.1.1) (by rw[fH (fun h=>z (by have:=G.2;omega)),G.2];exact Q.1.1.1.2),R⟩
theorem ZbD (a b:Value)(x y:Int)(w:World)(ha:zZ w a x)(c:zZ w b y)(d:wQ x)(e:wQ y)(f:y≠0):yA 73 #[a,b] w (jU w (Rat.divInt x y)):=by
 rcases oL f with h|h
 ·exact Znk a b x y _ w ha c d e h rfl
 exact Znl a b x y _ w ha c d e h rfl
theorem Zgc (a:Value)(q:Rat)(w:World)(ha:zS w a q) :
 yA 45 #[a] w (RetV w (.int .i64 q.num.sign)):=by
 obtain⟨b,c,d,e,f,g,h,i,rfl⟩:=ha.shp
 refine zQ (Φ:=fun w=>zS w (.agg #[.bool b,.slice c d e,.bool f,.slice g h i]) (q)) func45 rfl qK (fun w' j=>ha.ext j) ?_
 refine zC (zB (xr 2 [(1,.p 1 0),yJ 2 0] [bR4 1 59 b c d e f g h i] ?_))
 refine xe (zA (zC (zB (xr 2 [yJ 2 0,eI2 4 b c d e] [] ?_))))
 refine xc 71 [vI2 b c d e] 5 (fun _:Unit=>yI ((q).num).sign) _ (fun w R Q=>yN (ZmU _ ((q).num) _ Q.num)) fun k=>?_
 refine xr 1 [(2,.v (yI ((q).num).sign))] [] ?_
 refine xe (zA (zH ?_))
 refine zD (v:=yI ((q).num).sign) qK fun w' R Q=>?_
 exact⟨rfl,R⟩
theorem ZjW (a b:Value)(p q:Rat)(w:World)(ha:zS w a p)(x:zS w b q)(A:gL p)(B:gL q)(y:p.den=1)(z:q.den=1) :
 yA 46 #[a,b] w (jU w (p+q)):=by
 obtain⟨c,d,e,f,k,l,D,m,rfl⟩:=ha.shp
 obtain rfl:D=0:=ha.den.len0 (jB y)
 obtain⟨g,h,i,j,t1,n,E,o,rfl⟩:=x.shp
 obtain rfl:E=0:=x.den.len0 (jB z)
 have F:ml p.num.natAbs≤100000:=A.1
 have G:ml q.num.natAbs≤100000:=B.1
 have H:ml ((p.den:Nat):Int).natAbs≤100000:=mlc A.2
 have I:ml ((q.den:Nat):Int).natAbs≤100000:=mlc B.2
 refine zQ (Φ:=fun w=>(zS w (.agg #[.bool c,.slice d e f,.bool k,.slice l 0 m]) (p)∧zS w (.agg #[.bool g,.slice h i j,.bool t1,.slice n 0 o]) (q))) func46 rfl qK (fun w' C=>⟨ha.ext C,x.ext C⟩) ?_
 refine zC (zB (xr 3 [(2,.p 2 0),(3,.p 3 0),(4,.p 4 0)] [bR4 4 59 false none 0 0 false none 0 0,bR4 3 59 g h i j t1 n 0 o,bR4 2 59 c d e f k l 0 m] ?_))
 refine xe (zA (zC (zC (zB (xr 12 [(2,.p 2 0),(3,.p 3 0),(4,.p 4 0),yB 16 true] [bR4 4 59 false none 0 0 false none 0 0,bR4 3 59 g h i j t1 n 0 o,bR4 2 59 c d e f k l 0 m] ?_)))))
 refine xe (zA (xa (zC (zB (xr 4 [(2,.p 2 0),(3,.p 3 0),(4,.p 4 0),eI2 18 c d e f,eI2 20 g h i j] [bR4 4 59 false none 0 0 false none 0 0,bR4 3 59 g h i j t1 n 0 o,bR4 2 59 c d e f k l 0 m] ?_)))))
 refine xc 72 [vI2 c d e f,vI2 g h i j] 21 wR _ (fun w R Q=>yM wF (Ze7 _ _ ((p).num) ((q).num) _ Q.1.num Q.2.num (nfit F qD) (nfit G qD))) fun⟨r,s,t,u⟩=>?_
 refine xr 2 [(2,.p 2 0),(3,.p 3 0),(4,.p 4 0)] [bR4 4 59 r s t u false none 0 0,bR4 3 59 g h i j t1 n 0 o,bR4 2 59 c d e f k l 0 m] ?_
 refine xe (zA (zH (zN ?_)))
 refine zD (v:=.agg #[.bool r,.slice s t u,.bool false,.slice none 0 0]) qK fun w' R Q=>?_
 exact⟨_,rfl,zS.of (by rw[(Zdd y z).1];exact Q.2) (by rw[jB (Zdd y z).2];exact (zZ.nil _)),R⟩
theorem ZjX (a b:Value)(p q:Rat)(w:World)(ha:zS w a p)(hb:zS w b q)(hp:gL p)(hq:gL q)(h1:¬ p.den=1) :
 yA 46 #[a,b] w (jU w (p+q)):=by
 obtain⟨c,d,e,f,m,n,m0,o,rfl⟩:=ha.shp
 obtain⟨r,rfl⟩:∃ k,m0=k+1:=⟨m0-1,by have:=ha.den.lenp (aJ h1);omega⟩
 obtain⟨g,i,j,l,t1,s,t,u,rfl⟩:=hb.shp
 have S1:ml p.num.natAbs≤100000:=hp.1
 have S2:ml q.num.natAbs≤100000:=hq.1
 have J:ml ((p.den:Nat):Int).natAbs≤100000:=mlc hp.2
 have K:ml ((q.den:Nat):Int).natAbs≤100000:=mlc hq.2
 refine zQ (Φ:=fun w=>(zS w (.agg #[.bool c,.slice d e f,.bool m,.slice n (r+1) o]) (p)∧zS w (.agg #[.bool g,.slice i j l,.bool t1,.slice s t u]) (q))) func46 rfl qK (fun w' hf=>⟨ha.ext hf,hb.ext hf⟩) ?_
 refine zC (zB (xr 3 [(2,.p 2 0),(3,.p 3 0),(4,.p 4 0)] [bR4 4 59 false none 0 0 false none 0 0,bR4 3 59 g i j l t1 s t u,bR4 2 59 c d e f m n (r+1) o] ?_))
 refine xe (zA (zC (zC (zB (xr 12 [(2,.p 2 0),(3,.p 3 0),(4,.p 4 0),yB 16 false] [bR4 4 59 false none 0 0 false none 0 0,bR4 3 59 g i j l t1 s t u,bR4 2 59 c d e f m n (r+1) o] ?_)))))
 refine xe (zA (xb (zI (zA (zC ?_)))))
 refine xN 18 qK qK zL ?_
 refine xf 3 [(2,.p 2 0),(3,.p 3 0),(4,.p 4 0),eI2 24 c d e f,eR4 25 g i j l t1 s t u] [bR4 4 59 false none 0 0 false none 0 0,bR4 3 59 g i j l t1 s t u,bR4 2 59 c d e f m n (r+1) o] ?_
 refine xd 75 [vR4 g i j l t1 s t u] 26 wR _ (fun w R Q=>yM wF (iK _ (q) _ Q.2)) fun⟨L,M,N,O⟩=>?_
 refine xf 0 [(2,.p 2 0),(3,.p 3 0),(4,.p 4 0),eI2 24 c d e f,eI2 26 L M N O] [bR4 4 59 false none 0 0 false none 0 0,bR4 3 59 g i j l t1 s t u,bR4 2 59 c d e f m n (r+1) o] ?_
 refine xd 74 [vI2 c d e f,vI2 L M N O] 27 wR _ (fun w R Q=>yM wF (gH _ _ ((p).num) (((q).den:Int)) _ Q.1.1.num Q.2 (nfit S1 qD) (nfit K qD))) fun⟨B,C,D,E⟩=>?_
 refine xf 3 [(2,.p 2 0),(3,.p 3 0),(4,.p 4 0),eI2 27 B C D E,eI2 29 g i j l,eR4 30 c d e f m n (r+1) o] [bR4 4 59 false none 0 0 false none 0 0,bR4 3 59 g i j l t1 s t u,bR4 2 59 c d e f m n (r+1) o] ?_
 refine xd 75 [vR4 c d e f m n (r+1) o] 31 wR _ (fun w R Q=>yM wF (iK _ (p) _ Q.1.1.1)) fun⟨P,S,T,U⟩=>?_
 refine xf 0 [(2,.p 2 0),(3,.p 3 0),(4,.p 4 0),eI2 27 B C D E,eI2 29 g i j l,eI2 31 P S T U] [bR4 4 59 false none 0 0 false none 0 0,bR4 3 59 g i j l t1 s t u,bR4 2 59 c d e f m n (r+1) o] ?_
 refine xd 74 [vI2 g i j l,vI2 P S T U] 32 wR _ (fun w R Q=>yM wF (gH _ _ ((q).num) (((p).den:Int)) _ Q.1.1.1.2.num Q.2 (nfit S2 qD) (nfit J qD))) fun⟨V,W,X,Y⟩=>?_
 refine xf 0 [(2,.p 2 0),(3,.p 3 0),(4,.p 4 0),eI2 27 B C D E,eI2 32 V W X Y] [bR4 4 59 false none 0 0 false none 0 0,bR4 3 59 g i j l t1 s t u,bR4 2 59 c d e f m n (r+1) o] ?_
 refine xd 72 [vI2 B C D E,vI2 V W X Y] 33 wR _ (fun w R Q=>yM wF (Ze7 _ _ (((p).num)*(((q).den:Int))) (((q).num)*(((p).den:Int))) _ Q.1.1.2 Q.2 (nfit (mlm S1 K) qD) (nfit (mlm S2 J) qD))) fun⟨x,y,z,A⟩=>?_
 refine xf 1 [(3,.p 3 0),(4,.p 4 0),eI2 33 x y z A,eR4 34 c d e f m n (r+1) o] [bR4 4 59 false none 0 0 false none 0 0,bR4 3 59 g i j l t1 s t u,bR4 2 59 c d e f m n (r+1) o] ?_
 refine xd 75 [vR4 c d e f m n (r+1) o] 35 wR _ (fun w R Q=>yM wF (iK _ (p) _ Q.1.1.1.1.1.1)) fun⟨F,G,H,I⟩=>?_
 refine xf 1 [(4,.p 4 0),eI2 33 x y z A,eI2 35 F G H I,eR4 36 g i j l t1 s t u] [bR4 4 59 false none 0 0 false none 0 0,bR4 3 59 g i j l t1 s t u,bR4 2 59 c d e f m n (r+1) o] ?_
 refine xd 75 [vR4 g i j l t1 s t u] 37 wR _ (fun w R Q=>yM wF (iK _ (q) _ Q.1.1.1.1.1.1.2)) fun⟨Z,a0,b0,e0⟩=>?_
 refine xf 0 [(4,.p 4 0),eI2 33 x y z A,eI2 35 F G H I,eI2 37 Z a0 b0 e0] [bR4 4 59 false none 0 0 false none 0 0,bR4 3 59 g i j l t1 s t u,bR4 2 59 c d e f m n (r+1) o] ?_
 refine xd 74 [vI2 F G H I,vI2 Z a0 b0 e0] 38 wR _ (fun w R Q=>yM wF (gH _ _ (((p).den:Int)) (((q).den:Int)) _ Q.1.2 Q.2 (nfit J qD) (nfit K qD))) fun⟨f0,g0,h0,i0⟩=>?_
 refine xf 0 [(4,.p 4 0),eI2 33 x y z A,eI2 38 f0 g0 h0 i0] [bR4 4 59 false none 0 0 false none 0 0,bR4 3 59 g i j l t1 s t u,bR4 2 59 c d e f m n (r+1) o] ?_
 refine xd 73 [vI2 x y z A,vI2 f0 g0 h0 i0] 39 jJ _ (fun w R Q=>(ZbD _ _ ((((p).num)*(((q).den:Int)))+(((q).num)*(((p).den:Int)))) ((((p).den:Int))*(((q).den:Int))) _ Q.1.1.1.2 Q.2 (nfit (mla (a:=200000) (mlm S1 K) (mlm S2 J)) qD) (nfit (mlm J K) qD) (nG (denI p) (denI q))).mono (fun _ _ h=>fY (by rw[ZdL] at h;exact h))) fun⟨j0,n0,o0,p0,q0,r0,u0,v0⟩=>?_
 refine xf 1 [(4,.p 4 0)] [bR4 4 59 j0 n0 o0 p0 q0 r0 u0 v0,bR4 4 59 false none 0 0 false none 0 0,bR4 3 59 g i j l t1 s t u,bR4 2 59 c d e f m n (r+1) o] ?_
 refine xz (xe (zA (zH ?_)))
 refine zD (v:=.agg #[.bool j0,.slice n0 o0 p0,.bool q0,.slice r0 u0 v0]) qK fun w' R Q=>?_
 exact⟨_,rfl,Q.2,R⟩
theorem ZjY (a b:Value)(p q:Rat)(w:World)(ha:zS w a p)(hb:zS w b q)(hp:gL p)(hq:gL q)(h1:p.den=1)(h2:¬ q.den=1) :
 yA 46 #[a,b] w (jU w (p+q)):=by
 obtain⟨c,d,e,f,m,n,m0,o,rfl⟩:=ha.shp
 obtain rfl:m0=0:=ha.den.len0 (jB h1)
 obtain⟨g,i,j,l,t1,r,m1,s,rfl⟩:=hb.shp
 obtain⟨t,rfl⟩:∃ k,m1=k+1:=⟨m1-1,by have:=hb.den.lenp (aJ h2);omega⟩
 have S1:ml p.num.natAbs≤100000:=hp.1
 have S2:ml q.num.natAbs≤100000:=hq.1
 have I:ml ((p.den:Nat):Int).natAbs≤100000:=mlc hp.2
 have J:ml ((q.den:Nat):Int).natAbs≤100000:=mlc hq.2
 refine zQ (Φ:=fun w=>(zS w (.agg #[.bool c,.slice d e f,.bool m,.slice n 0 o]) (p)∧zS w (.agg #[.bool g,.slice i j l,.bool t1,.slice r (t+1) s]) (q))) func46 rfl qK (fun w' hf=>⟨ha.ext hf,hb.ext hf⟩) ?_
 refine zC (zB (xr 3 [(2,.p 2 0),(3,.p 3 0),(4,.p 4 0)] [bR4 4 59 false none 0 0 false none 0 0,bR4 3 59 g i j l t1 r (t+1) s,bR4 2 59 c d e f m n 0 o] ?_))
 refine xe (zA (zC (zC (zB (xr 12 [(2,.p 2 0),(3,.p 3 0),(4,.p 4 0),yB 16 false] [bR4 4 59 false none 0 0 false none 0 0,bR4 3 59 g i j l t1 r (t+1) s,bR4 2 59 c d e f m n 0 o] ?_)))))
 refine xe (zA (xb (zI (zA (zC ?_)))))
 refine xN 18 qK qK zL ?_
 refine xf 3 [(2,.p 2 0),(3,.p 3 0),(4,.p 4 0),eI2 24 c d e f,eR4 25 g i j l t1 r (t+1) s] [bR4 4 59 false none 0 0 false none 0 0,bR4 3 59 g i j l t1 r (t+1) s,bR4 2 59 c d e f m n 0 o] ?_
 refine xd 75 [vR4 g i j l t1 r (t+1) s] 26 wR _ (fun w R Q=>yM wF (iK _ (q) _ Q.2)) fun⟨K,L,M,N⟩=>?_
 refine xf 0 [(2,.p 2 0),(3,.p 3 0),(4,.p 4 0),eI2 24 c d e f,eI2 26 K L M N] [bR4 4 59 false none 0 0 false none 0 0,bR4 3 59 g i j l t1 r (t+1) s,bR4 2 59 c d e f m n 0 o] ?_
 refine xd 74 [vI2 c d e f,vI2 K L M N] 27 wR _ (fun w R Q=>yM wF (gH _ _ ((p).num) (((q).den:Int)) _ Q.1.1.num Q.2 (nfit S1 qD) (nfit J qD))) fun⟨A,B,C,D⟩=>?_
 refine xf 3 [(2,.p 2 0),(3,.p 3 0),(4,.p 4 0),eI2 27 A B C D,eI2 29 g i j l,eR4 30 c d e f m n 0 o] [bR4 4 59 false none 0 0 false none 0 0,bR4 3 59 g i j l t1 r (t+1) s,bR4 2 59 c d e f m n 0 o] ?_
 refine xd 75 [vR4 c d e f m n 0 o] 31 wR _ (fun w R Q=>yM wF (iK _ (p) _ Q.1.1.1)) fun⟨O,P,S,T⟩=>?_
 refine xf 0 [(2,.p 2 0),(3,.p 3 0),(4,.p 4 0),eI2 27 A B C D,eI2 29 g i j l,eI2 31 O P S T] [bR4 4 59 false none 0 0 false none 0 0,bR4 3 59 g i j l t1 r (t+1) s,bR4 2 59 c d e f m n 0 o] ?_
 refine xd 74 [vI2 g i j l,vI2 O P S T] 32 wR _ (fun w R Q=>yM wF (gH _ _ ((q).num) (((p).den:Int)) _ Q.1.1.1.2.num Q.2 (nfit S2 qD) (nfit I qD))) fun⟨U,V,W,X⟩=>?_
 refine xf 0 [(2,.p 2 0),(3,.p 3 0),(4,.p 4 0),eI2 27 A B C D,eI2 32 U V W X] [bR4 4 59 false none 0 0 false none 0 0,bR4 3 59 g i j l t1 r (t+1) s,bR4 2 59 c d e f m n 0 o] ?_
 refine xd 72 [vI2 A B C D,vI2 U V W X] 33 wR _ (fun w R Q=>yM wF (Ze7 _ _ (((p).num)*(((q).den:Int))) (((q).num)*(((p).den:Int))) _ Q.1.1.2 Q.2 (nfit (mlm S1 J) qD) (nfit (mlm S2 I) qD))) fun⟨u,x,y,z⟩=>?_
 refine xf 1 [(3,.p 3 0),(4,.p 4 0),eI2 33 u x y z,eR4 34 c d e f m n 0 o] [bR4 4 59 false none 0 0 false none 0 0,bR4 3 59 g i j l t1 r (t+1) s,bR4 2 59 c d e f m n 0 o] ?_
 refine xd 75 [vR4 c d e f m n 0 o] 35 wR _ (fun w R Q=>yM wF (iK _ (p) _ Q.1.1.1.1.1.1)) fun⟨E,F,G,H⟩=>?_
 refine xf 1 [(4,.p 4 0),eI2 33 u x y z,eI2 35 E F G H,eR4 36 g i j l t1 r (t+1) s] [bR4 4 59 false none 0 0 false none 0 0,bR4 3 59 g i j l t1 r (t+1) s,bR4 2 59 c d e f m n 0 o] ?_
 refine xd 75 [vR4 g i j l t1 r (t+1) s] 37 wR _ (fun w R Q=>yM wF (iK _ (q) _ Q.1.1.1.1.1.1.2)) fun⟨Y,Z,a0,b0⟩=>?_
 refine xf 0 [(4,.p 4 0),eI2 33 u x y z,eI2 35 E F G H,eI2 37 Y Z a0 b0] [bR4 4 59 false none 0 0 false none 0 0,bR4 3 59 g i j l t1 r (t+1) s,bR4 2 59 c d e f m n 0 o] ?_
 refine xd 74 [vI2 E F G H,vI2 Y Z a0 b0] 38 wR _ (fun w R Q=>yM wF (gH _ _ (((p).den:Int)) (((q).den:Int)) _ Q.1.2 Q.2 (nfit I qD) (nfit J qD))) fun⟨e0,f0,g0,h0⟩=>?_
 refine xf 0 [(4,.p 4 0),eI2 33 u x y z,eI2 38 e0 f0 g0 h0] [bR4 4 59 false none 0 0 false none 0 0,bR4 3 59 g i j l t1 r (t+1) s,bR4 2 59 c d e f m n 0 o] ?_
 refine xd 73 [vI2 u x y z,vI2 e0 f0 g0 h0] 39 jJ _ (fun w R Q=>(ZbD _ _ ((((p).num)*(((q).den:Int)))+(((q).num)*(((p).den:Int)))) ((((p).den:Int))*(((q).den:Int))) _ Q.1.1.1.2 Q.2 (nfit (mla (a:=200000) (mlm S1 J) (mlm S2 I)) qD) (nfit (mlm I J) qD) (nG (denI p) (denI q))).mono (fun _ _ h=>fY (by rw[ZdL] at h;exact h))) fun⟨i0,j0,k0,n0,o0,p0,q0,r0⟩=>?_
 refine xf 1 [(4,.p 4 0)] [bR4 4 59 i0 j0 k0 n0 o0 p0 q0 r0,bR4 4 59 false none 0 0 false none 0 0,bR4 3 59 g i j l t1 r (t+1) s,bR4 2 59 c d e f m n 0 o] ?_
 refine xz (xe (zA (zH ?_)))
 refine zD (v:=.agg #[.bool i0,.slice j0 k0 n0,.bool o0,.slice p0 q0 r0]) qK fun w' R Q=>?_
 exact⟨_,rfl,Q.2,R⟩
theorem Znm (a b:Value)(p q:Rat)(w:World)(ha:zS w a p)(c:zS w b q)(d:gL p)(e:gL q):yA 46 #[a,b] w (jU w (p+q)):=by
 by_cases f:p.den=1
 ·by_cases g:q.den=1
  ·exact ZjW a b p q w ha c d e f g
  exact ZjY a b p q w ha c d e f g
 exact ZjX a b p q w ha c d e f
theorem ZjZ (a b:Value)(p q:Rat)(w:World)(ha:zS w a p)(x:zS w b q)(A:gL p)(B:gL q)(y:p.den=1)(z:q.den=1) :
 yA 47 #[a,b] w (jU w (p*q)):=by
 obtain⟨c,d,e,f,k,l,D,m,rfl⟩:=ha.shp
 obtain rfl:D=0:=ha.den.len0 (jB y)
 obtain⟨g,h,i,j,t1,n,E,o,rfl⟩:=x.shp
 obtain rfl:E=0:=x.den.len0 (jB z)
 have F:ml p.num.natAbs≤100000:=A.1
 have G:ml q.num.natAbs≤100000:=B.1
 have H:ml ((p.den:Nat):Int).natAbs≤100000:=mlc A.2
 have I:ml ((q.den:Nat):Int).natAbs≤100000:=mlc B.2
 refine zQ (Φ:=fun w=>(zS w (.agg #[.bool c,.slice d e f,.bool k,.slice l 0 m]) (p)∧zS w (.agg #[.bool g,.slice h i j,.bool t1,.slice n 0 o]) (q))) func47 rfl qK (fun w' C=>⟨ha.ext C,x.ext C⟩) ?_
 refine zC (zB (xr 3 [(2,.p 2 0),(3,.p 3 0),(4,.p 4 0)] [bR4 4 59 false none 0 0 false none 0 0,bR4 3 59 g h i j t1 n 0 o,bR4 2 59 c d e f k l 0 m] ?_))
 refine xe (zA (zC (zC (zB (xr 12 [(2,.p 2 0),(3,.p 3 0),(4,.p 4 0),yB 16 true] [bR4 4 59 false none 0 0 false none 0 0,bR4 3 59 g h i j t1 n 0 o,bR4 2 59 c d e f k l 0 m] ?_)))))
 refine xe (zA (xa (zC (zB (xr 4 [(2,.p 2 0),(3,.p 3 0),(4,.p 4 0),eI2 18 c d e f,eI2 20 g h i j] [bR4 4 59 false none 0 0 false none 0 0,bR4 3 59 g h i j t1 n 0 o,bR4 2 59 c d e f k l 0 m] ?_)))))
 refine xc 74 [vI2 c d e f,vI2 g h i j] 21 wR _ (fun w R Q=>yM wF (gH _ _ ((p).num) ((q).num) _ Q.1.num Q.2.num (nfit F qD) (nfit G qD))) fun⟨r,s,t,u⟩=>?_
 refine xr 2 [(2,.p 2 0),(3,.p 3 0),(4,.p 4 0)] [bR4 4 59 r s t u false none 0 0,bR4 3 59 g h i j t1 n 0 o,bR4 2 59 c d e f k l 0 m] ?_
 refine xe (zA (zH (zN ?_)))
 refine zD (v:=.agg #[.bool r,.slice s t u,.bool false,.slice none 0 0]) qK fun w' R Q=>?_
 exact⟨_,rfl,zS.of (by rw[(Zde y z).1];exact Q.2) (by rw[jB (Zde y z).2];exact (zZ.nil _)),R⟩
theorem Zj0 (a b:Value)(p q:Rat)(w:World)(ha:zS w a p)(X:zS w b q)(Y:gL p)(Z:gL q)(h1:¬ p.den=1) :
 yA 47 #[a,b] w (jU w (p*q)):=by
 obtain⟨c,d,e,f,m,n,m0,o,rfl⟩:=ha.shp
 obtain⟨r,rfl⟩:∃ k,m0=k+1:=⟨m0-1,by have:=ha.den.lenp (aJ h1);omega⟩
 obtain⟨g,i,j,l,t1,s,t,u,rfl⟩:=X.shp
 have S1:ml p.num.natAbs≤100000:=Y.1
 have S2:ml q.num.natAbs≤100000:=Z.1
 have S3:ml ((p.den:Nat):Int).natAbs≤100000:=mlc Y.2
 have S4:ml ((q.den:Nat):Int).natAbs≤100000:=mlc Z.2
 refine zQ (Φ:=fun w=>(zS w (.agg #[.bool c,.slice d e f,.bool m,.slice n (r+1) o]) (p)∧zS w (.agg #[.bool g,.slice i j l,.bool t1,.slice s t u]) (q))) func47 rfl qK (fun w' hf=>⟨ha.ext hf,X.ext hf⟩) ?_
 refine zC (zB (xr 3 [(2,.p 2 0),(3,.p 3 0),(4,.p 4 0)] [bR4 4 59 false none 0 0 false none 0 0,bR4 3 59 g i j l t1 s t u,bR4 2 59 c d e f m n (r+1) o] ?_))
 refine xe (zA (zC (zC (zB (xr 12 [(2,.p 2 0),(3,.p 3 0),(4,.p 4 0),yB 16 false] [bR4 4 59 false none 0 0 false none 0 0,bR4 3 59 g i j l t1 s t u,bR4 2 59 c d e f m n (r+1) o] ?_)))))
 refine xe (zA (xb (zI (zA (zC ?_)))))
 refine xN 12 qK qK zL ?_
 refine xf 4 [(2,.p 2 0),(3,.p 3 0),(4,.p 4 0),eI2 24 c d e f,eI2 26 g i j l] [bR4 4 59 false none 0 0 false none 0 0,bR4 3 59 g i j l t1 s t u,bR4 2 59 c d e f m n (r+1) o] ?_
 refine xd 74 [vI2 c d e f,vI2 g i j l] 27 wR _ (fun w R Q=>yM wF (gH _ _ ((p).num) ((q).num) _ Q.1.num Q.2.num (nfit S1 qD) (nfit S2 qD))) fun⟨x,y,z,A⟩=>?_
 refine xf 1 [(3,.p 3 0),(4,.p 4 0),eI2 27 x y z A,eR4 28 c d e f m n (r+1) o] [bR4 4 59 false none 0 0 false none 0 0,bR4 3 59 g i j l t1 s t u,bR4 2 59 c d e f m n (r+1) o] ?_
 refine xd 75 [vR4 c d e f m n (r+1) o] 29 wR _ (fun w R Q=>yM wF (iK _ (p) _ Q.1.1)) fun⟨B,C,D,E⟩=>?_
 refine xf 1 [(4,.p 4 0),eI2 27 x y z A,eI2 29 B C D E,eR4 30 g i j l t1 s t u] [bR4 4 59 false none 0 0 false none 0 0,bR4 3 59 g i j l t1 s t u,bR4 2 59 c d e f m n (r+1) o] ?_
 refine xd 75 [vR4 g i j l t1 s t u] 31 wR _ (fun w R Q=>yM wF (iK _ (q) _ Q.1.1.2)) fun⟨F,G,H,I⟩=>?_
 refine xf 0 [(4,.p 4 0),eI2 27 x y z A,eI2 29 B C D E,eI2 31 F G H I] [bR4 4 59 false none 0 0 false none 0 0,bR4 3 59 g i j l t1 s t u,bR4 2 59 c d e f m n (r+1) o] ?_
 refine xd 74 [vI2 B C D E,vI2 F G H I] 32 wR _ (fun w R Q=>yM wF (gH _ _ (((p).den:Int)) (((q).den:Int)) _ Q.1.2 Q.2 (nfit S3 qD) (nfit S4 qD))) fun⟨J,K,L,M⟩=>?_
 refine xf 0 [(4,.p 4 0),eI2 27 x y z A,eI2 32 J K L M] [bR4 4 59 false none 0 0 false none 0 0,bR4 3 59 g i j l t1 s t u,bR4 2 59 c d e f m n (r+1) o] ?_
 refine xd 73 [vI2 x y z A,vI2 J K L M] 33 jJ _ (fun w R Q=>(ZbD _ _ (((p).num)*((q).num)) ((((p).den:Int))*(((q).den:Int))) _ Q.1.1.1.2 Q.2 (nfit (mlm S1 S2) qD) (nfit (mlm S3 S4) qD) (nG (denI p) (denI q))).mono (fun _ _ h=>fY (by rw[ZdM] at h;exact h))) fun⟨N,O,P,S,T,U,V,W⟩=>?_
 refine xf 1 [(4,.p 4 0)] [bR4 4 59 N O P S T U V W,bR4 4 59 false none 0 0 false none 0 0,bR4 3 59 g i j l t1 s t u,bR4 2 59 c d e f m n (r+1) o] ?_
 refine xz (xe (zA (zH ?_)))
 refine zD (v:=.agg #[.bool N,.slice O P S,.bool T,.slice U V W]) qK fun w' R Q=>?_
 exact⟨_,rfl,Q.2,R⟩
theorem Zj1 (a b:Value)(p q:Rat)(w:World)(ha:zS w a p)(W:zS w b q)(X:gL p)(Y:gL q)(h1:p.den=1)(h2:¬ q.den=1) :
 yA 47 #[a,b] w (jU w (p*q)):=by
 obtain⟨c,d,e,f,m,n,m0,o,rfl⟩:=ha.shp
 obtain rfl:m0=0:=ha.den.len0 (jB h1)
 obtain⟨g,i,j,l,t1,r,Z,s,rfl⟩:=W.shp
 obtain⟨t,rfl⟩:∃ k,Z=k+1:=⟨Z-1,by have:=W.den.lenp (aJ h2);omega⟩
 have S1:ml p.num.natAbs≤100000:=X.1
 have S2:ml q.num.natAbs≤100000:=Y.1
 have S3:ml ((p.den:Nat):Int).natAbs≤100000:=mlc X.2
 have S4:ml ((q.den:Nat):Int).natAbs≤100000:=mlc Y.2
 refine zQ (Φ:=fun w=>(zS w (.agg #[.bool c,.slice d e f,.bool m,.slice n 0 o]) (p)∧zS w (.agg #[.bool g,.slice i j l,.bool t1,.slice r (t+1) s]) (q))) func47 rfl qK (fun w' hf=>⟨ha.ext hf,W.ext hf⟩) ?_
 refine zC (zB (xr 3 [(2,.p 2 0),(3,.p 3 0),(4,.p 4 0)] [bR4 4 59 false none 0 0 false none 0 0,bR4 3 59 g i j l t1 r (t+1) s,bR4 2 59 c d e f m n 0 o] ?_))
 refine xe (zA (zC (zC (zB (xr 12 [(2,.p 2 0),(3,.p 3 0),(4,.p 4 0),yB 16 false] [bR4 4 59 false none 0 0 false none 0 0,bR4 3 59 g i j l t1 r (t+1) s,bR4 2 59 c d e f m n 0 o] ?_)))))
 refine xe (zA (xb (zI (zA (zC ?_)))))
 refine xN 12 qK qK zL ?_
 refine xf 4 [(2,.p 2 0),(3,.p 3 0),(4,.p 4 0),eI2 24 c d e f,eI2 26 g i j l] [bR4 4 59 false none 0 0 false none 0 0,bR4 3 59 g i j l t1 r (t+1) s,bR4 2 59 c d e f m n 0 o] ?_
 refine xd 74 [vI2 c d e f,vI2 g i j l] 27 wR _ (fun w R Q=>yM wF (gH _ _ ((p).num) ((q).num) _ Q.1.num Q.2.num (nfit S1 qD) (nfit S2 qD))) fun⟨u,x,y,z⟩=>?_
 refine xf 1 [(3,.p 3 0),(4,.p 4 0),eI2 27 u x y z,eR4 28 c d e f m n 0 o] [bR4 4 59 false none 0 0 false none 0 0,bR4 3 59 g i j l t1 r (t+1) s,bR4 2 59 c d e f m n 0 o] ?_
 refine xd 75 [vR4 c d e f m n 0 o] 29 wR _ (fun w R Q=>yM wF (iK _ (p) _ Q.1.1)) fun⟨A,B,C,D⟩=>?_
 refine xf 1 [(4,.p 4 0),eI2 27 u x y z,eI2 29 A B C D,eR4 30 g i j l t1 r (t+1) s] [bR4 4 59 false none 0 0 false none 0 0,bR4 3 59 g i j l t1 r (t+1) s,bR4 2 59 c d e f m n 0 o] ?_
 refine xd 75 [vR4 g i j l t1 r (t+1) s] 31 wR _ (fun w R Q=>yM wF (iK _ (q) _ Q.1.1.2)) fun⟨E,F,G,H⟩=>?_
 refine xf 0 [(4,.p 4 0),eI2 27 u x y z,eI2 29 A B C D,eI2 31 E F G H] [bR4 4 59 false none 0 0 false none 0 0,bR4 3 59 g i j l t1 r (t+1) s,bR4 2 59 c d e f m n 0 o] ?_
 refine xd 74 [vI2 A B C D,vI2 E F G H] 32 wR _ (fun w R Q=>yM wF (gH _ _ (((p).den:Int)) (((q).den:Int)) _ Q.1.2 Q.2 (nfit S3 qD) (nfit S4 qD))) fun⟨I,J,K,L⟩=>?_
 refine xf 0 [(4,.p 4 0),eI2 27 u x y z,eI2 32 I J K L] [bR4 4 59 false none 0 0 false none 0 0,bR4 3 59 g i j l t1 r (t+1) s,bR4 2 59 c d e f m n 0 o] ?_
 refine xd 73 [vI2 u x y z,vI2 I J K L] 33 jJ _ (fun w R Q=>(ZbD _ _ (((p).num)*((q).num)) ((((p).den:Int))*(((q).den:Int))) _ Q.1.1.1.2 Q.2 (nfit (mlm S1 S2) qD) (nfit (mlm S3 S4) qD) (nG (denI p) (denI q))).mono (fun _ _ h=>fY (by rw[ZdM] at h;exact h))) fun⟨M,N,O,P,S,T,U,V⟩=>?_
 refine xf 1 [(4,.p 4 0)] [bR4 4 59 M N O P S T U V,bR4 4 59 false none 0 0 false none 0 0,bR4 3 59 g i j l t1 r (t+1) s,bR4 2 59 c d e f m n 0 o] ?_
 refine xz (xe (zA (zH ?_)))
 refine zD (v:=.agg #[.bool M,.slice N O P,.bool S,.slice T U V]) qK fun w' R Q=>?_
 exact⟨_,rfl,Q.2,R⟩
theorem Znn (a b:Value)(p q:Rat)(w:World)(ha:zS w a p)(c:zS w b q)(d:gL p)(e:gL q):yA 47 #[a,b] w (jU w (p*q)):=by
 by_cases f:p.den=1
 ·by_cases g:q.den=1
  ·exact ZjZ a b p q w ha c d e f g
  exact Zj1 a b p q w ha c d e f g
 exact Zj0 a b p q w ha c d e f
def eK (n:Nat) (xs:List Nat) (m:Nat):Prop:=Dig 1000000000 xs∧n=val 1000000000 xs+1000000000^xs.length*m
theorem eK.start (n:Nat):eK n [] n:=⟨Dig.nil,qS⟩
theorem eK.step {n m:Nat}{xs:qN}(h:eK n xs m):eK n (xs ++ [m%1000000000]) (m/1000000000):=by
 obtain⟨a,b⟩:=h
 refine⟨a.append (Dig.nil.cons (uO _ qO)),?_⟩
 rw[kM,uK,rH,uP,tY,uH,← uL,gC,eQ,tP,tD,sA]
 exact b
theorem eK.len {n m C:Nat}{xs:qN}(h:eK n xs m)(b:0<m)(c:n<1000000000^C):xs.length<C:=by
 obtain⟨_,d⟩:=h
 rcases vO xs.length C with a|a
 ·exact a
 have e:1000000000^C≤1000000000^xs.length:=vA qO a
 have f:1000000000^xs.length*1≤1000000000^xs.length*m:=uI _ b
 generalize 1000000000^xs.length=P at *
 generalize 1000000000^C=Q at *
 omega
theorem ZoN {n C:Nat}(a:n<1000000000^C):ml n≤C:=fX.2 (uT a (rG (by rw[xB];omega) _))
theorem zW.len {w:World}{A:qA}{l c n:Nat}(h:zW w (.slice A l c) n):l=ml n:=by
 obtain⟨f,g,i,a,j,k,b,d,e⟩:=h
 injection a with e1 e2 e3
 rw[e2,kQ b d,e]
theorem ZcM (b:Nat):¬ xR none b:=fun c=>by obtain⟨a,ha,_⟩:=c;cases ha
theorem Zqh {a:Nat}(h:a<4294967296):(a:Int)%4294967296=(a:Int):=qO
def dive (e:Nat):Nat:=100000000/10^e
theorem Zno:dive 0=100000000:=by simp[dive]
theorem Znp:dive 9=0:=qD
theorem ZdV (e:Nat):dive e/10=dive (e+1):=by unfold dive;rw[sM,uP]
theorem ZkK {e:Nat}(h:e<9):dive e=10^(9-1-e):=by
 have:e=0∨e=1∨e=2∨e=3∨e=4∨e=5∨e=6∨e=7∨e=8:=qO
 rcases this with rfl|rfl|rfl|rfl|rfl|rfl|rfl|rfl|rfl<;>decide
theorem Zqi (e:Nat):dive e≤100000000:=vK _ _
theorem ZoO {e:Nat}(h:e<9):0<dive e:=by rw[ZkK h];exact uX qO
def ZkL (C:Nat) (w wr:World) (n m:Nat) (xs:List Nat) (A:Option Addr) (cap:Nat) (mv:Value):Prop :=
 eK n xs m∧Buf .u32 143 wr A cap xs∧zW wr mv m∧Ext w wr∧ml m≤ml n∧(∀ b,xR A b→w.heap.size≤b)∧xs.length≤C
theorem zW.fr {S:Nat→Prop}{w w':World}{v:Value}{n:Nat}(h:zW w v n)(d:Fr S w w')(e:∀ A l c,v=.slice A l c→0<l→∀ a,A=some a→¬ S a.block):zW w' v n:=by
 obtain⟨A,xs,c,b,f,g,i⟩:=h
 refine⟨A,xs,c,b,f,?_,i⟩
 cases xs with
 | nil=>exact zE.nil
 | cons x xs=>exact g.fr d (fun a j _=>e A _ c b qS a j)
def ZaD (w wr:World) (xs:List Nat) (A:Option Addr) (cap h t:Nat) (A3:Option Addr) (cap3:Nat):Prop :=
 Buf .u32 143 wr A cap xs∧TBuf wr A3 cap3 (wL h)∧(wL h).length=t∧Ext w wr∧(∀ b,xR A b→w.heap.size≤b)∧(∀ b,xR A3 b→w.heap.size≤b)∧(∀ b,xR A b→¬ xR A3 b)
theorem ZiZ {w wr w2:World}{xs:qN}{A:qA}{cap h g t c:Nat}{d j:qA}{e cap4:Nat}{o:Obj}(s:ZaD w wr xs A cap h t d e)(l:wL g=wL h ++ [UInt8.ofNat (48+c)])(z:c<10)(u:Buf .u8 5 w2 j cap4 (nats (wL h) ++ [48+c]))(v:Fr (xR d) (wr.alloc o) w2)(m:∀ b,xR j b→xR d b∨b=(wr.alloc o).heap.size):ZaD w w2 xs A cap g (t+1) j cap4:=by
 obtain⟨n,B,x,p,y,q,r⟩:=s
 have f:Fr (xR d) wr w2:=((Fr.refl (xR d) wr).alloc o).trans (v.mono (fun _ _ h=>h))
 refine⟨n.fr f r,?_,by rw[l];simp[x],p.next f (fun i hi a=>by have:=q i a;omega),y,?_,?_⟩
 ·show Buf _ _ _ _ _ (nats (wL g))
  rw[l,Zjx]
  have:nats [UInt8.ofNat (48+c)]=[48+c]:=by
   simp[nats];omega
  rw[this];exact u
 ·intro b a
  rcases m b a with h|h
  ·exact q b h
  have:=p.size;simp at h;omega
 intro b a k
 rcases m b k with h|h
 ·exact r b a h
 have:=n.lt a;simp at h;omega
theorem ZlR (s:Bool)(A0:qA)(l0 c0:Nat)(n:Nat)(w:World)(hN:zW w (.slice A0 l0 c0) n)(h0:0<n)(C:Nat)(hn:n<1000000000^C)(hC:C≤15637498706141) :
 yA 113 #[.agg #[.bool s,.slice A0 l0 c0]] w (RetV w (.string ⟨(Lib.decDigits n).toArray⟩)):=by
 have HN:=zh hN
 have H0:=zh h0
 have Hn:=zh hn
 have o0:Hid (C≤15637498706141):=hC
 have E0:Hid (ml n≤17592186044416):=by have:=ZoN hn;unfold Hid;omega
 have V0:((l0:Int) == 0)=false:=by
  obtain⟨A,o,c,h1,h2,h3,h4,h5,h6⟩:=hN
  injection h1 with e1 e2 e3
  subst e2
  have k1:=kQ h4 h5
  rw[h6] at k1
  have k2:=ZfP h0
  simp
  intro e
  rw[e] at k1
  simp at k1
  omega
 clear hN h0 hn hC
 go_enter func113,ntmps113
 go_wp2
 obtain⟨wb,Z⟩:=yE (w.alloc (.cells #[.bool s,.slice A0 l0 c0] 57))
 rw[Z]
 have p0:Hid (Ext w wb):=Z ▸ (Fr.refl _ _).alloc _
 clear Z
 go_loopw [3,4,5,6] (fun pv mv _ _ wr=>∃ (o:List Nat) (m:Nat) (A:Option Addr) (u:Nat) (A1:Option Addr) (l c:Nat),pv=.slice A o.length u∧mv=.slice A1 l c∧Hid (ZkL C w wr n m o A u (.slice A1 l c))) (fun pv _ _ _ _=>match pv with | .slice _ k _=>C-k | _=>0)
 case atStart=>exact⟨[],n,none,0,A0,l0,c0,rfl,rfl,eK.start n,Buf.nil,HN.out.ext p0.out,p0.out,uG _,fun b I=>(ZcM b I).elim,qS⟩
 case round =>
  obtain⟨o,m,A,u,A1,l,c,rfl,rfl,g⟩:=hrel
  have hl:=g.out.2.2.1.len
  by_cases hm:0<m
  ·have G:=g.out.1.len hm Hn.out
   have W0:0<l:=by rw[hl];exact ZfP hm
   have F0:=E0.out
   have G0:=o0.out
   have I0:ml m≤17592186044416:=by have:=g.out.2.2.2.2.1;omega
   have HD:=zh (Zdy _ m 1000000000 wr g.out.2.2.1 I0 qO (by rw[xB];omega))
   obtain⟨k2,ek⟩:=yE C
   rw[ek] at G
   have X0:k2≤15637498706141:=qO
   clear F0 G0
   have hr:=uO m (y:=1000000000) qO
   have T:=zh g.out.1.step
   have q0:ml (m/1000000000)≤ml m:=ZaK (vK _ _)
   have r0:Hid (ml (m/1000000000)≤ml n):=uB q0 g.out.2.2.2.2.1
   obtain⟨r,er⟩:=yE (m%1000000000)
   obtain⟨m2,em⟩:=yE (m/1000000000)
   rw[er] at T
   rw[em] at T r0
   clear hl q0 hr
   go_wp2_with fail
   refine HD.out.mono ?_
   rintro e w1 ⟨l2,c2,rfl,a0,s0⟩
   rw[er]
   rw[em] at a0
   have t0:=zh a0
   have b0:=zh s0
   clear HD a0 s0 er em
   go_wp2_with (at_builtin;refine Hid.out ?_)
   refine zh ?_
   have E:Hid (zE .u32 (w1.alloc (.cells #[.int .u32 (r:Int)] 143)) (some ⟨w1.heap.size,0,none⟩) [r]):=(Own.new w1 143 .u32 [r] []).shows0
   have u0:Hid (Buf .u32 143 w1 A u o):=g.out.2.1.ext b0.out
   refine wY rfl _ _ _ rfl _ .u32 4 underlying55 bX A (some ⟨w1.heap.size,0,none⟩) o.length 1 u 1 rfl rfl o [r] rfl rfl (u0.out.ext ((Fr.refl _ _).alloc _)) E.out (by simp only[maxLen];omega) qO ?_
   intro A2 W w2 v0 d0 w0
   have v:Hid (ZkL C w w2 n m2 (o ++ [r]) A2 W (.slice (some ⟨wr.heap.size,0,none⟩) l2 c2)):=by
    have X:=g.out.2.2.2.2.2.1
    have x0:Ext w w1:=g.out.2.2.2.1.trans b0.out
    refine⟨T.out,v0,(t0.out.ext ((Fr.refl _ _).alloc _)).fr d0 ?_,(x0.alloc _).next d0 (fun i hi I=>by have:=X i I;omega),r0.out,?_,by rw[uK,rH];omega⟩
    ·intro A' l' F e _ a ha I
     injection e with e1 e2 e3
     rw[←e1] at ha
     injection ha with ha
     subst ha
     have:wr.heap.size<wr.heap.size:=g.out.2.1.lt I
     omega
    intro b I
    rcases w0 b I with h|h
    ·exact X b h
    have:=x0.size;simp at h;omega
   clear v0 d0 w0 E u0 t0 b0 T g
   have J0:=zh ek
   clear ek
   go_wp2
   go_roundw
   case rel=>exact⟨o ++ [r],m2,A2,W,_,l2,c2,by rw[uK];rfl,rfl,v⟩
   case measure =>
    simp
    rw[J0.out]
    omega
  obtain rfl:m=0:=qO
  obtain⟨hC,hB,hM,Q,_,hA,K0⟩:=g.out
  have U0:o.length≤15637498706141:=by have:=o0.out;omega
  obtain rfl:l=0:=by rw[hl];rfl
  have HC:Hid (Dig 1000000000 o∧n=val 1000000000 o):=by
   obtain⟨c1,c2⟩:=hC
   exact⟨c1,by simpa using c2⟩
  have HB:=zh hB
  have HE:=zh Q
  have HA:=zh hA
  clear hC hB hM Q hA g hl hm K0
  go_wp2
  obtain⟨wo,rfl⟩:∃ wo:World,wo=wr:=⟨_,rfl⟩
  go_loopw [7,8,9,10] (fun ov iv _ _ wr=>∃ (k t:Nat) (B:Option Addr) (d:Nat),k≤o.length∧iv=.int .i64 ((k:Int)-1)∧ov=.slice B t d∧t≤9*(o.length-k)∧Hid (ZaD w wr o A u (val 1000000000 (o.drop k)) t B d)) (fun _ iv _ _ _=>(intOf iv+1).toNat)
  case atStart=>exact⟨o.length,0,none,0,uG _,rfl,rfl,qO,HB.out,by rw[List.drop_length];exact Buf.nil,by rw[List.drop_length];rfl,HE.out,HA.out,fun b I=>(ZcM b I).elim,fun b _ I=>ZcM b I⟩
  case round =>
   obtain⟨k,t,B,d,hk,rfl,rfl,ht,g⟩:=hrel
   by_cases Y0:0<k
   ·obtain⟨k,rfl⟩:∃ j,k=j+1:=⟨k-1,qO⟩
    have hi:((k+1:Nat):Int)-1=(k:Int):=qO
    rw[hi]
    clear hi
    have y0:k<o.length:=qO
    obtain⟨p,ep⟩:=yE (o[k]?.getD 0)
    have hp:p<1000000000:=ep ▸ HC.out.1.getD qO k
    obtain⟨H,eH⟩:=yE (val 1000000000 (o.drop (k+1)))
    have e0:Hid (topE H p 9 9=val 1000000000 (o.drop k)):=by
     unfold Hid
     rw[Zoa,xY k y0,ep,eH,uF]
     omega
    have HP:=zh ep
    rw[eH] at g
    have z0:Hid (ZaD w wr o A u (topE H p 9 0) t B d):=by rw[Zlh qO];exact g
    have L0:((100000000:Nat):Int)=((dive 0:Nat):Int):=by rw[Zno]
    clear ep eH g
    go_wp2
    obtain⟨Z0,rfl⟩:∃ wo:World,wo=wr:=⟨_,rfl⟩
    obtain⟨T0,eT⟩:=yE (9*(o.length-(k+1)))
    rw[eT] at ht
    go_loopw [7,9,10] (fun ov dv _ wr=>∃ (e t:Nat) (B:Option Addr) (d:Nat),e≤9∧dv=.int .u32 (dive e:Nat)∧ov=.slice B t d∧t≤T0+e∧Hid (ZaD w wr o A u (topE H p 9 e) t B d)) (fun _ dv _ _=>(intOf dv).toNat)
    case atStart=>exact⟨0,t,B,d,qO,by rw[←L0];rfl,rfl,qO,z0⟩
    case round =>
     clear ht z0
     obtain⟨e,t,B,d,he,rfl,rfl,ht,g⟩:=hrel
     by_cases f0:e<9
     ·have M0:=ZoO f0
      have N0:=Zqi e
      have a1:T0≤140737488355260:=qO
      obtain⟨b2,J,hA,_,O0⟩:=g.out.1.shows.at y0
      rw[HP.out] at O0
      have f:=zh (Zmr (H:=H) (p:=p) (k:=9) f0)
      rw[←ZkK f0] at f
      have x:p/dive e%10<10:=uO _ qO
      have q1:(p:Int).tdiv (dive e:Int)=((p/dive e:Nat):Int):=by rw[sX qO];rfl
      have B0:(p:Int)/(dive e:Int)=((p/dive e:Nat):Int):=rfl
      have q2:((p/dive e:Nat):Int).tmod 10=((p/dive e%10:Nat):Int):=by rw[sC (Int.natCast_nonneg _)];rfl
      have g0:((p/dive e:Nat):Int)%10=((p/dive e%10:Nat):Int):=rfl
      have i0:p/dive e≤p:=vK _ _
      have q3:((p/dive e:Nat):Int)%4294967296=((p/dive e:Nat):Int):=Zqh (vG i0 qO)
      have q5:(dive e:Int).tdiv 10=((dive (e+1):Nat):Int):=by rw[sX qO,← ZdV];rfl
      have C0:(dive e:Int)/10=((dive (e+1):Nat):Int):=by rw[←ZdV];rfl
      have K:dive (e+1)<dive e:=by rw[←ZdV];omega
      have q6:((dive (e+1):Nat):Int)%4294967296=((dive (e+1):Nat):Int):=qO
      obtain⟨D,eD⟩:=yE (dive e)
      obtain⟨D2,j0⟩:=yE (dive (e+1))
      have k0:=zh j0
      rw[eD] at M0 N0 f x q1 B0 q2 g0 i0 q3 q5 C0 K ⊢
      rw[j0] at q5 C0 K q6
      obtain⟨q,eq⟩:=yE (p/D)
      rw[eq] at q1 B0 q2 g0 f x q3 i0
      obtain⟨F,ec⟩:=yE (q%10)
      rw[ec] at q2 g0 f x
      have G:(0<t)↔0<topE H p 9 e:=by rw[←g.out.2.2.1];exact Zjy
      have q7:((48:Int)+(F:Int))%4294967296=((48+F:Nat):Int):=qO
      have q8:((48+F:Nat):Int)%256=((48+F:Nat):Int):=qO
      subst hA
      clear eD j0 eq ec
      by_cases m0:0<t∨F≠0
      ·have L:=g.out.2.2.1
       have M:=zh (ZaZ (h:=topE H p 9 e) x qO)
       rw[←f.out] at M
       have E:Hid (zE .u8 (wr.alloc (.cells #[.int .u8 (48+(F:Int))] 5)) (some ⟨wr.heap.size,0,none⟩) [48+F]):=(Own.new wr 5 .u8 [48+F] []).shows0
       have U:Hid (TBuf wr B d (wL (topE H p 9 e))):=g.out.2.1
       have Y:(decide (0<t) || ((48+F:Nat):Int) != 48)=true:=by
        rcases m0 with h|h
        ·simp[h]
        have:(((48+F:Nat):Int) != 48)=true:=by simp;omega
        rw[this,Bool.or_true]
       have N:=zh L
       have V:=zh g.out
       clear G L f g
       by_cases b1:0<t
       ·clear m0 Y
        go_wp2_with (at_builtin;refine Hid.out ?_)
        refine zh ?_
        refine wY rfl _ _ _ rfl _ .u8 1 underlying191 Zpo B (some ⟨wr.heap.size,0,none⟩) t 1 d 1 rfl rfl (nats (wL (topE H p 9 e))) [48+F] (by rw[ZbQ];exact N.out) rfl (U.out.ext ((Fr.refl _ _).alloc _)) E.out (by simp only[maxLen];omega) qO ?_
        intro A4 z w2 O R S
        have v:Hid (ZaD w w2 o (some ⟨b2,J,none⟩) u (topE H p 9 (e+1)) (t+1) A4 z):=ZiZ V.out M.out x O R S
        clear O R S E U V M
        go_wp2
        go_roundw
        case rel=>exact⟨e+1,t+1,A4,z,qO,by rw[k0.out],rfl,qO,v⟩
        case measure=>simp[intOf];omega
       have d1:(((48+F:Nat):Int) != 48)=true:=by simp;omega
       clear m0 Y
       go_wp2_with (at_builtin;refine Hid.out ?_)
       refine zh ?_
       refine wY rfl _ _ _ rfl _ .u8 1 underlying191 Zpo B (some ⟨wr.heap.size,0,none⟩) t 1 d 1 rfl rfl (nats (wL (topE H p 9 e))) [48+F] (by rw[ZbQ];exact N.out) rfl (U.out.ext ((Fr.refl _ _).alloc _)) E.out (by simp only[maxLen];omega) qO ?_
       intro A4 z w2 O R S
       have v:Hid (ZaD w w2 o (some ⟨b2,J,none⟩) u (topE H p 9 (e+1)) (t+1) A4 z):=ZiZ V.out M.out x O R S
       clear O R S E U V M
       go_wp2
       go_roundw
       case rel=>exact⟨e+1,t+1,A4,z,qO,by rw[k0.out],rfl,qO,v⟩
       case measure=>simp[intOf];omega
      obtain rfl:t=0:=qO
      obtain rfl:F=0:=qO
      have v:Hid (ZaD w wr o (some ⟨b2,J,none⟩) u (topE H p 9 (e+1)) 0 B d):=by
       have h0:topE H p 9 e=0:=qO
       unfold Hid
       rw[f.out,h0]
       have:=g.out
       rw[h0] at this
       exact this
      clear g G f
      go_wp2
      go_roundw
      case rel=>exact⟨e+1,0,B,d,qO,by rw[k0.out],rfl,qO,v⟩
      case measure=>simp[intOf];omega
     obtain rfl:e=9:=qO
     have P0:Hid (ZaD w wr o A u (val 1000000000 (o.drop k)) t B d):=by
      rw[←e0.out];exact g
     have Q0:t≤9*(o.length-k):=qO
     rw[Znp]
     clear g
     go_wp2
     go_roundw
     case rel=>exact⟨k,t,B,d,qO,by go_num,rfl,Q0,P0⟩
     case measure=>simp[intOf]
   obtain rfl:k=0:=qO
   obtain⟨_,n0,_,D0,_,_,_⟩:=g.out
   rw[tV,← HC.out.2,jF H0.out] at n0
   have K:(Lib.decDigits n).length=t:=by
    have:=g.out.2.2.1
    rwa [tV,← HC.out.2,jF H0.out] at this
   obtain⟨b,rfl,hc⟩:=TBuf.bytes n0 (kH n)
   have R0:=run_convert_bytes_back (P:=prog) wr 191 9 5 ⟨b,0,none⟩ d (Lib.decDigits n) underlying191 underlying5 underlying9 hc
   rw[K] at R0
   have S0:=zh D0
   generalize Lib.decDigits n=txt at *
   clear n0 D0 hc g K
   go_wp2
   go_ret
   exact⟨rfl,S0.out⟩
end Go.Proofs.YtenchljfmfgeoaaGreatDoor
