/-
 My texts.
-/
import Derived.Test.YtmpffakfhcpjoaaGreatDoorF23
set_option maxRecDepth 100000
set_option maxHeartbeats 8000000
namespace Go.Proofs.YtmpffakfhcpjoaaGreatDoor
open Go.RowKit Tryz
instance:Nonempty {v:Nat // (fun v:Nat=>(v:Int)<4) v}:=⟨⟨0,by decide⟩⟩
theorem ZuS (n:Int):∃ p:Nat,IntKind.i64.wrap (12+((IntKind.i64.wrap (((n).tmod 60)+60)).tmod 60))=((p:Nat):Int)∧12≤p∧p≤71:=by
 have a : -60<n.tmod 60:=Int.lt_tmod_of_pos n qD
 have b:n.tmod 60<60:=Int.tmod_lt_of_pos n qD
 rw[yW ((n.tmod 60)+60) (n.tmod 60+60) qO]
 have c:0≤(n.tmod 60+60).tmod 60:=Int.tmod_nonneg 60 qO
 have d:(n.tmod 60+60).tmod 60<60:=Int.tmod_lt_of_pos _ qD
 refine⟨(12+(n.tmod 60+60).tmod 60).toNat,?_,qO,qO⟩
 rw[IntKind.wrap_i64];omega
section
variable {n i:Nat} {A0 Y Z:Nat→Nat→Int}
theorem ZuT (h:∀ a b,a<n→b<n→Z a b=Y a b+if a=b∧a<i then 1 else 0):∀ a b,a<n→b<n→updZ Z i i (Z i i+1) a b=Y a b+if a=b∧a<i+1 then 1 else 0:=fun a b c f=>by
 unfold updZ
 by_cases e:i=a∧i=b
 ·obtain⟨rfl,rfl⟩:=e
  rw[uM ⟨rfl,rfl⟩,h i i c c,uI qO,uM qO];omega
 rw[uI e,h a b c f]
 by_cases d:a=b∧a<i
 ·rw[uM d,uM qO]
 rw[uI d,uI qO]
theorem Zr4 (d:∀ a b,a<n→b<n→(A0 a b).natAbs≤2)(f:Y=dO A0 (fun a b=>A0 b a) n)(g:n≤4)(h:∀ a b,a<n→b<n→Z a b=Y a b+if a=b∧a<i then 1 else 0){a b:Nat}(ha:a<n)(e:b<n):(Z a b).natAbs≤17:=by
 have j:(Y a b).natAbs≤16:=by
  rw[f]
  exact uA (ZdI n (fun r c=>d a r ha c) (fun r c=>d b r e c)) (uA (uE _ g) qD)
 rw[h a b ha e]
 split<;>omega
theorem Zvf (c:∀ a b,a<n→b<n→(A0 a b).natAbs≤2)(d:Y=dO A0 (fun a b=>A0 b a) n)(e:n≤4)(h:∀ a b,a<n→b<n→Z a b=Y a b+if a=b∧a<i then 1 else 0){a b:Nat}(ha:a<n)(f:b<n):(Z a b).natAbs≤1000000000:=uA (Zr4 c d e h ha f) qD
end
theorem ZuU {n:Nat}{ts:List ByteArray}(b:1≤n)(c:n≤4)(a:ts.length=n*n)(h:∀ s∈ts,(wA (bytes s)).isSome=true):mtB n n ts=true:=by
 unfold mtB
 rw[vQ ⟨qO,qO,qO,qO,by rw[a,tG]⟩,mI]
 exact vI.2 h
theorem ZtH {m0 n:Nat}{a:List (ByteArray×Int)}{w w':World}{e:Ending}(c:m0≤w.heap.size)(h:∃ b,e=.returned (.tuple #[.agg #[.int .i64 ((n:Nat):Int),.int .i64 ((n:Nat):Int),.slice (some ⟨b,0,none⟩) a.length a.length],.int .i64 0])∧OwnD w' w.heap.size 9 1 (some ⟨b,0,none⟩) a.length a.length ((a.map exV).flatMap stC)∧Ext w w') :
 lD (fun b:{b:Nat // m0≤b}=>.tuple #[.agg #[.int .i64 ((n:Nat):Int),.int .i64 ((n:Nat):Int),.slice (some ⟨b.1,0,none⟩) a.length a.length],.int .i64 0]) (fun b w=>OwnD w m0 9 1 (some ⟨b.1,0,none⟩) a.length a.length ((a.map exV).flatMap stC)) w e w':=by
 obtain⟨b,rfl,d,Q⟩:=h
 exact⟨⟨b,uA c (d.blk rfl).1⟩,rfl,Q,d.boxN c⟩
theorem ZrF:wI 1:=nfit (k:=1) (Zbw (xH.2 qD)) rfl
theorem Zqc {n:Nat}(a:n≤4):wI (4*(n+1:Nat)):=nfit (k:=1) (Zbw (xH.2 qO)) rfl
theorem ZmR (b:Nat):((1:Int)*2^b).natAbs=2^b:=by rw[Int.one_mul,Int.natAbs_pow];rfl
theorem ZrG {b:Nat}(a:b≤71):wI (1*2^b):=nfit (k:=3) (by rw[ZmR];exact Zbw (ZhX qO)) rfl
theorem ZuV {b:Nat}:(1:Int)*2^b≠0:=fun h=>by
 have a:=ZmR b
 have:=p2 b
 rw[h,nM] at a
 omega
theorem ZrH {q:Rat}(h:0<q):q.num.sign=1:=oH (by
 have a:=Rat.num_nonneg.2 (qB h)
 have b:q.num≠0:=fun e=>by rw[Rat.num_eq_zero.1 e] at h;exact absurd h qD
 omega)
theorem MrOk.boxT {α:Type}{e:TypeId}{k m b:Nat}{enc:α→List Value}{w w':World}{ys:List (Mr α)}(h:MrOk e k enc w.heap.size w' ys)(d:Fr (fun i=>i=b) w w')(f:m≤w.heap.size):BoxT b w w' (fun v=>MrOk e k enc m v ys):=fun S a g c=>⟨fun y j=>(h.own y j).boxT d f S a g c,h.dif⟩
theorem QMs.boxT {n m b g:Nat}{w w':World}{ys:List (Mr Qv)}(h:(OwnD w' w.heap.size 34 1 (some ⟨g,0,none⟩) n n (ys.flatMap mrC)∧MrOk 32 4 qvC w.heap.size w' ys)∧QMs w' ys)(a:Fr (fun i=>i=b) w w')(d:m≤w.heap.size) :
 BoxT b w w' (fun v=>(OwnD v m 34 1 (some ⟨g,0,none⟩) n n (ys.flatMap mrC)∧MrOk 32 4 qvC m v ys)∧QMs v ys) :=
 ((OwnD.boxT h.1.1 a d).and (MrOk.boxT h.1.2 a d)).and (fun S e f c=>h.2.nrb (fun i hi=>by
  obtain⟨p,j,t,k,l,o⟩:=f i hi
  exact⟨t,k,l.fr a j,o⟩) c)
instance {n:Nat}:Nonempty {x:Nat × List (Mr Qv)×(Nat→Nat→Int) // (fun x:Nat × List (Mr Qv)×(Nat→Nat→Int)=>QG n n x.2.1 x.2.2∧∃ Y:Nat→Nat→Int,(∀ a b,a<n→b<n→(Y a b).natAbs≤2)∧x.2.2=dO Y (fun a b=>Y b a) n) x}:=by
 obtain⟨⟨⟨_,ys⟩,h,_⟩⟩:=(inferInstance:Nonempty {x:Nat × List (Mr Qv) // QG n n x.2 (dO (fun _ _=>0) (fun _ _=>0) n)∧0≤x.1})
 exact⟨⟨(0,ys,dO (fun _ _=>0) (fun _ _=>0) n),h,fun _ _=>0,fun a b _ _=>by show (0:Int).natAbs≤2;decide,rfl⟩⟩
theorem Zf6 (A:qA)(l c:Nat)(zs:List Int)(bits:Int)(w0:World)(hg:Glob w0)(hz:zs.length=l)(hI:jN w0 A zs)(N1:l≤c) :
 Ζ 3 #[.slice A l c,.int .i64 bits] w0 (RetV w0 (.bool true)):=by
 obtain⟨bb,O1,B1,P0⟩:=ZuS bits
 refine zU (Φ:=fun w=>True) func3 rfl qK (fun w' hf=>trivial) ?_
 refine yY (xq 1 [yB 4 false] [] ?_)
 refine yZ (yY (xq 1 [eS1 22 A l c] [] ?_))
 refine xqc 4 [.slice A l c] 23 (fun x:{τ:Tap // TOld w0 τ∧0≤τ.g}=>.pointer (some ⟨x.1.g,0,none⟩)) _ (fun w R Q=>(Zth A l c zs w0 _ 0 hI hz N1 R (vS _)).mono (fun _ _ h=>h)) fun⟨τ,hO,_⟩=>?_
 refine SXi.size (fun z=>τ.g<z) (fun w R Q=>TOk.lt Q.2) fun z i1=>?_
 have b4:=i1
 have P1:w0.heap.size≤z:=uA (TOld.new hO) (pA i1)
 refine xr 1 [yJ 1 bits,yB 4 false,(5,.v (.pointer (some ⟨τ.g,0,none⟩)))] [] ?_
 refine yZ (yY (xq 1 [(24,.v (.pointer (some ⟨τ.g,0,none⟩)))] [] ?_))
 refine ZbT (b:=τ.g) (d:=25) (j:=0) (c:=.slice τ.A τ.l τ.c) 5 [.pointer (some ⟨τ.g,0,none⟩), yI 4] (fun x:{x:Nat // (fun v:Nat=>(v:Int)<4) x}=>(fun v=>yI v) x.1) (fun w=>z≤w.heap.size) (fun x w=>TOk τ w∧(fun _ _=>True) x.1 w) (fun w Q=>TOk.cell Q.1.2) (Or.inl (TOld.new hO)) (fun w R Q=>(ZiM τ w0 4 _ hO R Q.1.2 qD qD).mono (fun _ _ h=>Zhe h (fun x hF h=>fun _ _ _ _=>trivial))) (fun w w2 R Q hF=>uA Q.2 hF.size) fun⟨v1,a4⟩=>?_
 obtain⟨n,c4⟩:∃ n,n=v1+1:=⟨_,rfl⟩
 have w1:1≤n:=qO
 have I0:n≤4:=qO
 refine xP ?_
 refine xq 1 [yJ 26 (IntKind.i64.wrap (1+(v1:Int)))] [] ?_
 rw[(show IntKind.i64.wrap (1+(v1:Int))=(n:Int) by rw[IntKind.wrap_i64];omega)]
 refine xq 1 [yJ 6 n] [] ?_
 refine yZ (yY (xq 5 [(31,.v (yI (IntKind.i64.wrap (12+(((IntKind.i64.wrap (((bits).tmod 60)+60))).tmod 60)))))] [] ?_))
 rw[(show IntKind.i64.wrap (12+((IntKind.i64.wrap (((bits).tmod 60)+60)).tmod 60))=(bb:Int) from O1)]
 refine xq 1 [yJ 1 bb] [] ?_
 refine yZ (yY (xq 3 [(32,.v (.pointer (some ⟨τ.g,0,none⟩))),yJ 33 n,yJ 34 n] [] ?_))
 refine ZbT (b:=τ.g) (d:=35) (j:=0) (c:=.slice τ.A τ.l τ.c) 6 [.pointer (some ⟨τ.g,0,none⟩), yI n, yI n] (fun x:{x:Nat × List (Mr Qv)×(Nat→Nat→Int) // (fun x:Nat × List (Mr Qv)×(Nat→Nat→Int)=>QG n n x.2.1 x.2.2∧∃ Y:Nat→Nat→Int,(∀ a b,a<n→b<n→(Y a b).natAbs≤2)∧x.2.2=dO Y (fun a b=>Y b a) n) x}=>(fun x=>Υ x.1 n) x.1) (fun w=>z≤w.heap.size) (fun x w=>TOk τ w∧(fun x w=>(OwnD w z 34 1 (yL x.1) n n (x.2.1.flatMap mrC)∧MrOk 32 4 qvC z w x.2.1)∧QMs w x.2.1) x.1 w) (fun w Q=>TOk.cell Q.2.1) (Or.inl (TOld.new hO)) (fun w R Q=>(ZkJ τ w0 _ hO R Q.2.1 n w1 I0).mono (fun _ _ h=>Zhe h (fun x hF h=>QMs.boxT h hF Q.1))) (fun w w2 R Q hF=>uA Q.1 hF.size) fun xx=>?_
 obtain⟨⟨M,ms,Y⟩,o,C1⟩:=xx
 dsimp only at o C1
 obtain⟨A0,x1,y1⟩:=C1
 refine xP ?_
 refine xq 1 [eS1 7 (yL M) n n] [] ?_
 refine yZ (zC (yY (xq 3 [yJ 37 n,yJ 38 0] [] ?_)))
 refine yZ (zQ ?_)
 refine xO (fun nn ss ff=>∃ (i:Nat) (ms:List (Mr Qv)) (Z:Nat→Nat→Int),ss=ofL [yJ 1 bb,yB 4 false,yJ 6 n,eS1 7 (yL M) n n,yJ 37 n,yJ 38 i] []∧ff=(fun w=>(((z≤w.heap.size∧OwnD w z 34 1 (yL M) n n (ms.flatMap mrC))∧MrOk 32 4 qvC z w ms)∧QMs w ms))∧(i≤n)∧(QG n n ms Z)∧(∀ a b,a<n→b<n→Z a b=Y a b+if a=b∧a<i then 1 else 0)∧nn=(1+(n-i))) ((1+(n-0))) ⟨0,ms,Y,rfl,rfl,(vS _),o,(fun a b _ _=>by rw[uI qO];omega),rfl⟩ (fun w Q=>⟨⟨⟨Q.1,Q.2.2.1.1⟩,Q.2.2.1.2⟩,Q.2.2.2⟩) ?_
 rintro nn ss ff ⟨i,ms,Z,rfl,rfl,hi,o,hZ,rfl⟩
 refine yY (xq 1 [yB 39 (decide ((i:Int)<(n:Int)))] [] ?_)
 refine yZ (zC ?_)
 refine yQ ((decide ((i:Int)<(n:Int)))) (fun Q0=>?_) fun Q0=>?_
 ·have u:i<n:=by have:=uC Q0;omega
  refine zJ (zA (zC (zQ (yY (xq 2 [yJ 8 i] [] ?_)))))
  refine xe (zA ?_)
  refine iK 15 [0,0,3,7,0,0,0,96,224,0,992,2016,0,8160,16383] qK qK zM ?_
  refine xqg 2 [eS1 41 (yL M) n n,yJ 42 i] ?_
  refine xqj 43 (atA (yL M) (i*1)) (fun w Q=>xE (t:=26) (e:=34) (sz:=1) (x:=.tmp 41) (ix:=.tmp 42) (len:=n) (cap:=n) (i:=i) qS u) ?_
  obtain⟨B,L⟩:∃ x,ms[i]! = x:=⟨_,rfl⟩
  refine xqj 44 (.slice B.A n B.cap) (fun w Q=>fH (t:=34) (x:=.tmp 43) (j:=i) Q.1.1.2 o u L) ?_
  refine xqg 3 [yJ 45 i,eS1 46 (yL M) n n,yJ 47 i] ?_
  refine xqj 48 (atA (yL M) (i*1)) (fun w Q=>xE (t:=26) (e:=34) (sz:=1) (x:=.tmp 46) (ix:=.tmp 47) (len:=n) (cap:=n) (i:=i) qS u) ?_
  obtain⟨d0,y0⟩:∃ x,ms[i]! = x:=⟨_,rfl⟩
  refine xqj 49 (.slice d0.A n d0.cap) (fun w Q=>fH (t:=34) (x:=.tmp 48) (j:=i) Q.1.1.2 o u y0) ?_
  refine xqg 1 [yJ 50 i] ?_
  refine xqj 51 (atA d0.A (i*4)) (fun w Q=>xE (t:=34) (e:=32) (sz:=4) (x:=.tmp 49) (ix:=.tmp 50) (len:=n) (cap:=d0.cap) (i:=i) (OwnD.ne (show OwnD _ z 32 4 d0.A d0.cap d0.xs.length (d0.xs.flatMap qvC) by rw[←y0];exact MrOk.at Q.1.2 (o.1.symm ▸ u)) (QG.cl o u y0 u)) u) ?_
  obtain⟨N,j1⟩:∃ x,d0.xs[i]! = x:=⟨_,rfl⟩
  refine xqj 52 (vR4 N.c.1 N.c.2.1 N.c.2.2.1 N.c.2.2.2.1 N.c.2.2.2.2.1 N.c.2.2.2.2.2.1 N.c.2.2.2.2.2.2.1 N.c.2.2.2.2.2.2.2) (fun w Q=>by rw[←j1];exact iA (t:=32) (x:=.tmp 51) (j:=i) (OwnD.rd (show OwnD _ z 32 4 d0.A d0.cap d0.xs.length (d0.xs.flatMap qvC) by rw[←y0];exact MrOk.at Q.1.2 (o.1.symm ▸ u)) wH) wH (QG.cl o u y0 u)) ?_
  refine xqd 8 [yI 1] 53 lB _ (fun w R Q=>yM wM (ZpY 1 _ qO qO)) fun⟨D1,E1,F1,G1,H1,I1,J1,K1⟩=>?_
  have Q1:(Z i i).natAbs≤1000000000:=Zvf x1 y1 I0 hZ u u
  refine xqd 7 [vR4 N.c.1 N.c.2.1 N.c.2.2.1 N.c.2.2.2.1 N.c.2.2.2.2.1 N.c.2.2.2.2.2.1 N.c.2.2.2.2.2.2.1 N.c.2.2.2.2.2.2.2,vR4 D1 E1 F1 G1 H1 I1 J1 K1] 54 lB _ (fun w R Q=>yM wM ((show Calls _ _ _ _ (kQ _ ((((Z i i)+1):Int):Rat)) by rw[nI];exact ZeC _ _ _ _ _ (QMs.num Q.1.2 o u y0 u j1) Q.2 (iG Q1) (iG qD)))) fun⟨W0,X0,Y0,Z0,a1,b1,c1,d1⟩=>?_
  refine xqj 55 (atA B.A (i*4)) (fun w Q=>xE (t:=34) (e:=32) (sz:=4) (x:=.tmp 44) (ix:=.tmp 45) (len:=n) (cap:=B.cap) (i:=i) (OwnD.ne (show OwnD _ z 32 4 B.A B.cap B.xs.length (B.xs.flatMap qvC) by rw[←L];exact MrOk.at Q.1.2 (o.1.symm ▸ u)) (QG.cl o u L u)) u) ?_
  refine xz ?_
  refine Zfb (t:=32) (x:=.tmp 55) (y:=.tmp 54) (e:=32) (k:=4) (enc:=qvC) (a:=i) (j:=i) (ys:=ms) (r:=B) z (⟨(W0,X0,Y0,Z0,a1,b1,c1,d1),((((Z i i)+1):Int):Rat)⟩:Qv) (vR4 W0 X0 Y0 Z0 a1 b1 c1 d1) (fun w=>((((z≤w.heap.size∧OwnD w z 34 1 (yL M) n n (ms.flatMap mrC))∧QMs w ms)∧zP w (vR4 D1 E1 F1 G1 H1 I1 J1 K1) (((1:Int):Rat)))∧zP w (vR4 W0 X0 Y0 Z0 a1 b1 c1 d1) (((((Z i i)+1):Int):Rat)))) wH qD (fun w Q=>Q.1.1.1.2) (o.1.symm ▸ u) L (QG.cl o u L u) (fun _ h=>Or.inl (uA P1 h)) (by simp[qvC,Value.oneCell']) (ZbV _) rfl (fun w w' Q hF=>⟨⟨⟨⟨uA Q.1.1.1.1.1 hF.size,OwnD.apart Q.1.1.1.1.2 (show OwnD _ z 32 4 B.A B.cap B.xs.length (B.xs.flatMap qvC) by rw[←L];exact MrOk.at Q.1.1.1.2 (o.1.symm ▸ u)) qD hF⟩,QMs.row Q.1.1.2 (show OwnD _ z 32 4 B.A B.cap B.xs.length (B.xs.flatMap qvC) by rw[←L];exact MrOk.at Q.1.1.1.2 (o.1.symm ▸ u)) hF⟩,zP.rowUp Q.1.2 (show OwnD _ z 32 4 B.A B.cap B.xs.length (B.xs.flatMap qvC) by rw[←L];exact MrOk.at Q.1.1.1.2 (o.1.symm ▸ u)) hF⟩,zP.rowUp Q.2 (show OwnD _ z 32 4 B.A B.cap B.xs.length (B.xs.flatMap qvC) by rw[←L];exact MrOk.at Q.1.1.1.2 (o.1.symm ▸ u)) hF⟩) ?_
  refine xr 0 [yJ 1 bb,yB 4 false,yJ 6 n,eS1 7 (yL M) n n,yJ 37 n,yJ 38 i] [] ?_
  refine xe (xR (zA (zB (xq 1 [yJ 56 (IntKind.i64.wrap ((i:Int)+1))] [] ?_))))
  rw[yW ((i:Int)+1) (((i+1:Nat):Int)) qO]
  refine xq 1 [yJ 38 (i+1:Nat)] [] ?_
  refine xe ?_
  exact xK ((1+(n-(i+1)))) qO ⟨(i+1),(ms.set i ⟨B.A,B.cap,B.xs.set i (⟨(W0,X0,Y0,Z0,a1,b1,c1,d1),((((Z i i)+1):Int):Rat)⟩:Qv)⟩),(updZ Z i i (Z i i+1)),rfl,rfl,u,(QG.set o u L rfl),(ZuT hZ),rfl⟩ (fun w Q=>⟨⟨⟨Q.1.1.1.1.1,(by rw[Zag (o.1.symm ▸ u) L (tM ..)];exact Q.1.1.1.1.2)⟩,Q.2⟩,(QMs.set Q.1.1.1.2 (o.1.symm ▸ u) L Q.1.2)⟩)
 have R1:i=n:=by have:=uD Q0;omega
 refine xM (zE (zE (xW (zA (yY (xq 1 [eS1 58 (yL M) n n] [] ?_))))))
 have S1:∀ a b,a<n→b<n→Z a b=Y a b+if a=b then 1 else 0:=fun a b ha hb=>by rw[hZ a b ha hb,R1];by_cases e:a=b<;>simp[e]<;>omega
 have e1:∀ a b,a<n→b<n→(Z a b).natAbs≤17:=fun a b ha hb=>Zr4 x1 y1 I0 hZ ha hb
 have J0:∀ a b,a<n→b<n→(Z a b).natAbs≤1000000000:=fun a b ha hb=>uA (e1 a b ha hb) qD
 refine xqc 10 [Υ M n] 59 (fun x:Option Addr×Nat=>.agg #[yI n, yI n,.slice x.1 (n*n) x.2]) _ (fun w R Q=>(Zp5 z M n n ms Z _ Q.1.1.2 Q.1.2 Q.2 o qO qO qO qO J0).mono (fun _ _ h=>Ztx (m0:=z) Q.1.1.1 h)) fun⟨A9,c9⟩=>?_
 obtain⟨fu,f1⟩:∃ l,l=(kZ n n (fun a b=>cz (Z a b))).map ftW:=⟨_,rfl⟩
 have T1:fu.length=n*n:=by rw[f1];exact ZuQ
 have U1:∀ f∈fu,Gd f:=by rw[f1];exact Zvd J0
 obtain⟨Lf,C,hC,hF⟩:=ZrE (b:=bb) w1 I0 B1 P0 x1 y1 S1
 rw[←f1] at hC
 refine xqc 9 [.agg #[yI n, yI n,.slice A9 (n*n) c9], yI 60] 60 (fun b:{b:Nat // z≤b}=>.tuple #[.agg #[yI n, yI n,Υ b.1 fu.length], yI 0]) _ (fun w R Q=>((show Calls _ _ _ _ (ZaU (fun v=>.tuple #[v, yI 0]) n n fu _) by rw[f1];exact ZkK z n n A9 c9 Z _ (hg.ext R) Q.2 qO qO qO qO J0)).mono (fun _ _ h=>ZaB (sh:=fun v=>.tuple #[v, yI 0]) (m0:=z) Q.1.1.1.1 h)) fun⟨ou,d4⟩=>?_
 refine xq 6 [Δ 9,yJ 10 0] [(9,38,[Γ n,Γ n,Λ (yL ou) fu.length fu.length])] ?_
 refine yZ (yY (xq 2 [(64,.v (.agg #[yI n, yI n,Υ ou fu.length])),yJ 65 bb] [] ?_))
 obtain⟨fl,M0⟩:∃ l,l=Lf.map ftW:=⟨_,rfl⟩
 have g1:∀ f∈fl,Gd f:=by rw[M0];exact hF.gd
 have N0:fl.length=n*n:=by rw[M0];exact hF.len
 refine xqc 11 [.agg #[yI n, yI n,Υ ou fu.length], yI bb] 66 (fun b:{b:Nat // z≤b}=>.tuple #[.agg #[yI n, yI n,Υ b.1 fl.length], yI 0]) _ (fun w R Q=>((show Calls _ _ _ _ (ZaU (fun v=>.tuple #[v, yI 0]) n n fl _) by rw[M0];exact ZeP z n (yL ou) fu.length fu bb Lf _ (hg.ext R) Q.2 (ZeQ (r:=n) (c:=n) ⟨qO,qO⟩ ⟨qO,qO⟩ T1 U1) qO qO hC)).mono (fun _ _ h=>ZaB (sh:=fun v=>.tuple #[v, yI 0]) (m0:=z) Q.1.1.1.1.1 h)) fun⟨ol,e4⟩=>?_
 refine xq 6 [Δ 11,yJ 12 0] [(11,38,[Γ n,Γ n,Λ (yL ol) fl.length fl.length])] ?_
 refine yZ (yY (xq 1 [(70,.v (.agg #[yI n, yI n,Υ ol fl.length]))] [] ?_))
 refine xqc 12 [.agg #[yI n, yI n,Υ ol fl.length]] 71 (fun b:{b:Nat // z≤b}=>.tuple #[.agg #[yI n, yI n,Υ b.1 fl.length], yI 0]) _ (fun w R Q=>(Zhd z n n (yL ol) fl.length fl _ Q.2 (hg.ext R) (ZeQ (A:=none) (cap:=0) (r:=n) (c:=n) ⟨qO,qO⟩ ⟨qO,qO⟩ N0 g1).hr (ZeQ (A:=none) (cap:=0) (r:=n) (c:=n) ⟨qO,qO⟩ ⟨qO,qO⟩ N0 g1).hc N0 (ZeQ (A:=none) (cap:=0) (r:=n) (c:=n) ⟨qO,qO⟩ ⟨qO,qO⟩ N0 g1).hv (ZeQ (A:=none) (cap:=0) (r:=n) (c:=n) ⟨qO,qO⟩ ⟨qO,qO⟩ N0 g1).hs (by rw[M0];exact hF.xs)).mono (fun _ _ h=>ZtH (m0:=z) Q.1.1.1.1.1.1 h)) fun⟨oe,f4⟩=>?_
 refine xq 6 [Δ 13,yJ 14 0] [(13,44,[Γ n,Γ n,Λ (yL oe) fl.length fl.length])] ?_
 refine yZ (zC (yY (xq 10 [yB 83 false] [] ?_)))
 refine yZ (xb (zJ (zA (yY (xq 1 [(85,.v (.agg #[yI n, yI n,Υ oe fl.length]))] [] ?_)))))
 obtain⟨ts,R0⟩:∃ ts,ts=fl.map exV:=⟨_,rfl⟩
 have z1:ts.length=fl.length:=by rw[R0,vG]
 refine xqc 13 [.agg #[yI n, yI n,Υ oe fl.length]] 86 (fun x:{x:Nat × List (Mr Qv) // QH n n x.2 C}=>.tuple #[Υ x.1.1 n,.bool true]) _ (fun w R Q=>((show Calls _ _ _ _ (Zn0 n n ts _) by rw[←z1];exact ZrC n n (yL oe) ts.length ts _ (by have h:=Q.2;rw[←R0] at h;exact ZmI h) (fun s hs=>uA (hF.sz s (by rw[←M0,← R0];exact hs)) qD) (ZuU w1 I0 (z1.trans N0) (fun s hs=>hF.rd s (by rw[←M0,← R0];exact hs))))).mono (fun _ _ h=>ZrD (z1.trans N0) (fun a b ha hb=>by rw[R0,M0];exact hF.val a b ha hb) h)) fun xx=>?_
 obtain⟨⟨bc,cs⟩,e0⟩:=xx
 refine xq 5 [eS1 15 (yL bc) n n,yB 16 true] [] ?_
 refine yZ (zC (yY (xq 7 [yB 91 false,yB 95 (((n:Int):Int) != (n:Int))] [] ?_)))
 rw[ZiH]
 refine xq 3 [yB 97 false,eS1 98 (yL bc) n n] [] ?_
 refine xqk 99 (atA (yL bc) (0*1)) (fun w R Q=>xE (t:=26) (e:=34) (sz:=1) (x:=.tmp 98) (ix:=(Operand.const (Value.int IntKind.i64 0))) (len:=n) (cap:=n) (i:=0) (QIn.ne Q.2 (show 0<n by omega)) (show 0<n by omega)) ?_
 obtain⟨L1,M1⟩:∃ x,cs[0]! = x:=⟨_,rfl⟩
 refine xqk 100 (.slice L1.A n L1.cap) (fun w R Q=>iF (t:=34) (x:=.tmp 99) (j:=0) Q.2 e0 (show 0<n by omega) M1) ?_
 refine xr 3 [yJ 1 bb,yB 4 false,yJ 6 n,eS1 7 (yL M) n n,eS1 15 (yL bc) n n,yB 97 false,yB 103 (((n:Int):Int) != (n:Int))] [] ?_
 rw[ZiH]
 refine xq 1 [yB 104 false] [] ?_
 refine yZ (xb (zJ (zA (yY (xq 2 [eS1 105 (yL bc) n n,eS1 106 (yL bc) n n] [] ?_)))))
 refine xqc 15 [Υ bc n] 107 (fun x:{x:Nat × List (Mr Qv) // QH n n x.2 (fun a b=>C b a)∧z≤x.1}=>Υ x.1.1 n) _ (fun w R Q=>(Zp1 (yL bc) n n n cs C _ Q.2 e0 qO qO qO).mono (fun _ _ h=>Zhh (m0:=z) Q.1.1.1.1.1.1.1.1 h)) fun xx=>?_
 obtain⟨⟨bt,V1⟩,W1,g4⟩:=xx
 refine xqc 14 [Υ bc n,Υ bt n] 108 (fun x:{x:Nat × List (Mr Qv) // QH n n x.2 (gD C (fun a b=>C b a) n)∧z≤x.1}=>Υ x.1.1 n) _ (fun w R Q=>(ZmJ (yL bc) (yL bt) n n n n n cs V1 C (fun a b=>C b a) _ Q.1.2 (QIn.of Q.2.1.1 Q.2.1.2 Q.2.2) e0 W1 qO qO qO qO (fun a b ha hb=>hF.fit ha hb) (fun a b ha hb=>hF.fit hb ha) (fun a b k ha hb hk=>hF.fitT I0 ha hb hk)).mono (fun _ _ h=>Zhh (m0:=z) Q.1.1.1.1.1.1.1.1.1 h)) fun xx=>?_
 obtain⟨⟨bp,ps⟩,O0,h4⟩:=xx
 refine xq 1 [eS1 17 (yL bp) n n] [] ?_
 refine yZ (yY (xq 2 [yJ 110 (IntKind.i64.wrap ((n:Int)+1))] [] ?_))
 rw[yW ((n:Int)+1) (((n+1:Nat):Int)) qO]
 refine xq 1 [yJ 111 (IntKind.i64.wrap (4*((n+1:Nat):Int)))] [] ?_
 rw[(show IntKind.i64.wrap (4*((n+1:Nat):Int))=(4*(n+1:Nat):Int) by rw[IntKind.wrap_i64];omega)]
 refine xqc 17 [yI (4*(n+1:Nat):Int)] 112 wC _ (fun w R Q=>yM xV (Zab (4*(n+1:Nat):Int) _ qO qO)) fun⟨X1,Y1,Z1,a2⟩=>?_
 refine xqc 17 [yI 1] 113 wC _ (fun w R Q=>yM xV (Zab 1 _ qO qO)) fun⟨b2,c2,d2,e2⟩=>?_
 refine xq 1 [yJ 114 bb] [] ?_
 refine xqc 18 [vI2 b2 c2 d2 e2, yI bb] 115 wC _ (fun w R Q=>yM xV (Zps _ 1 bb _ Q.2 ZrF qO)) fun⟨f2,g2,h2,i2⟩=>?_
 refine xqc 16 [vI2 X1 Y1 Z1 a2,vI2 f2 g2 h2 i2] 116 lB _ (fun w R Q=>yM wM ((show Calls _ _ _ _ (kQ _ (uQ n bb)) from aP _ _ (4*(n+1:Nat)) (1*2^bb) _ Q.1.1.2 Q.2 (Zqc I0) (ZrG P0) ZuV))) fun⟨D,E,F,G,H,I,J,K⟩=>?_
 refine xq 2 [Δ 18] [bR4 18 32 D E F G H I J K] ?_
 refine yZ (zC (yY (xq 3 [yJ 118 n,yJ 119 0] [] ?_)))
 refine yZ (zQ ?_)
 refine xO (fun nn ss ff=>∃ (r:Nat),ss=ofL [yB 4 false,eS1 7 (yL M) n n,eS1 15 (yL bc) n n,eS1 17 (yL bp) n n,Δ 18,yJ 118 n,yJ 119 r] [(18,32,[.v (.bool D),Λ E F G,.v (.bool H),Λ I J K])]∧ff=(fun w=>(((((((OwnD w z 34 1 (yL M) n n (ms.flatMap mrC)∧MrOk 32 4 qvC z w ms)∧QMs w ms)∧OwnD w z 34 1 (yL bp) n n (ps.flatMap mrC))∧MrOk 32 4 qvC z w ps)∧QMs w ps)∧QIn w.heap.size w (yL bc) n n cs)∧zP w (vR4 D E F G H I J K) ((uQ n bb))))∧(r≤n)∧nn=(1+(n-r))) ((1+(n-0))) ⟨0,rfl,rfl,(vS _),rfl⟩ (fun w Q=>⟨⟨⟨⟨⟨⟨⟨Q.1.1.1.1.1.1.1.1.1.1.1.1.1.2,Q.1.1.1.1.1.1.1.1.1.1.1.1.2⟩,Q.1.1.1.1.1.1.1.1.1.1.1.2⟩,Q.1.1.1.1.2.1.1⟩,Q.1.1.1.1.2.1.2⟩,Q.1.1.1.1.2.2⟩,Q.1.1.1.1.1.1.2⟩,Q.2⟩) ?_
 rintro nn ss ff ⟨r,rfl,rfl,hr,rfl⟩
 refine yY (xq 1 [yB 120 (decide ((r:Int)<(n:Int)))] [] ?_)
 refine yZ (zC ?_)
 refine yQ ((decide ((r:Int)<(n:Int)))) (fun S0=>?_) fun S0=>?_
 ·have m:r<n:=by have:=uC S0;omega
  refine zJ (zA (zC (zQ (yY (xq 2 [yJ 19 r] [] ?_)))))
  refine yZ (yY (xq 3 [yJ 123 n,yJ 124 0] [] ?_))
  refine yZ (zQ ?_)
  refine xO (fun nn ss ff=>∃ (k:Nat),ss=ofL [yB 4 false,eS1 7 (yL M) n n,eS1 15 (yL bc) n n,eS1 17 (yL bp) n n,Δ 18,yJ 19 r,yJ 118 n,yJ 119 r,yJ 123 n,yJ 124 k] [(18,32,[.v (.bool D),Λ E F G,.v (.bool H),Λ I J K])]∧ff=(fun w=>(((((((OwnD w z 34 1 (yL M) n n (ms.flatMap mrC)∧MrOk 32 4 qvC z w ms)∧QMs w ms)∧OwnD w z 34 1 (yL bp) n n (ps.flatMap mrC))∧MrOk 32 4 qvC z w ps)∧QMs w ps)∧QIn w.heap.size w (yL bc) n n cs)∧zP w (vR4 D E F G H I J K) ((uQ n bb))))∧(k≤n)∧nn=(1+(n-k))) ((1+(n-0))) ⟨0,rfl,rfl,(vS _),rfl⟩ (fun w Q=>⟨⟨⟨⟨⟨⟨⟨Q.1.1.1.1.1.1.1,Q.1.1.1.1.1.1.2⟩,Q.1.1.1.1.1.2⟩,Q.1.1.1.1.2⟩,Q.1.1.1.2⟩,Q.1.1.2⟩,Q.1.2⟩,Q.2⟩) ?_
  rintro nn ss ff ⟨k,rfl,rfl,hk,rfl⟩
  refine yY (xq 1 [yB 125 (decide ((k:Int)<(n:Int)))] [] ?_)
  refine yZ (zC ?_)
  refine yQ ((decide ((k:Int)<(n:Int)))) (fun T0=>?_) fun T0=>?_
  ·have q:k<n:=by have:=uC T0;omega
   refine zJ (zA (zC (zQ (yY (xq 2 [yJ 20 k] [] ?_)))))
   refine yZ (zC ?_)
   refine iK 16 [0,0,3,7,0,31,63,0,0,384,896,0,3968,8064,16383,0] qK qK zM ?_
   refine xqg 2 [eS1 127 (yL bp) n n,yJ 128 r] ?_
   refine xqj 129 (atA (yL bp) (r*1)) (fun w Q=>xE (t:=26) (e:=34) (sz:=1) (x:=.tmp 127) (ix:=.tmp 128) (len:=n) (cap:=n) (i:=r) qS m) ?_
   obtain⟨f0,z0⟩:∃ x,ps[r]! = x:=⟨_,rfl⟩
   refine xqj 130 (.slice f0.A n f0.cap) (fun w Q=>Za5 (t:=34) (x:=.tmp 129) (j:=r) Q.1.1.1.1.2 O0 m z0) ?_
   refine xqg 1 [yJ 131 k] ?_
   refine xqj 132 (atA f0.A (k*4)) (fun w Q=>xE (t:=34) (e:=32) (sz:=4) (x:=.tmp 130) (ix:=.tmp 131) (len:=n) (cap:=f0.cap) (i:=k) (OwnD.ne (show OwnD _ z 32 4 f0.A f0.cap f0.xs.length (f0.xs.flatMap qvC) by rw[←z0];exact MrOk.at Q.1.1.1.2 (O0.1.symm ▸ m)) (QH.cl O0 m z0 q)) q) ?_
   obtain⟨O,k1⟩:∃ x,f0.xs[k]! = x:=⟨_,rfl⟩
   refine xqj 133 (vR4 O.c.1 O.c.2.1 O.c.2.2.1 O.c.2.2.2.1 O.c.2.2.2.2.1 O.c.2.2.2.2.2.1 O.c.2.2.2.2.2.2.1 O.c.2.2.2.2.2.2.2) (fun w Q=>by rw[←k1];exact iA (t:=32) (x:=.tmp 132) (j:=k) (OwnD.rd (show OwnD _ z 32 4 f0.A f0.cap f0.xs.length (f0.xs.flatMap qvC) by rw[←z0];exact MrOk.at Q.1.1.1.2 (O0.1.symm ▸ m)) wH) wH (QH.cl O0 m z0 q)) ?_
   refine xqg 2 [eS1 134 (yL M) n n,yJ 135 r] ?_
   refine xqj 136 (atA (yL M) (r*1)) (fun w Q=>xE (t:=26) (e:=34) (sz:=1) (x:=.tmp 134) (ix:=.tmp 135) (len:=n) (cap:=n) (i:=r) qS m) ?_
   obtain⟨g0,B0⟩:∃ x,ms[r]! = x:=⟨_,rfl⟩
   refine xqj 137 (.slice g0.A n g0.cap) (fun w Q=>fH (t:=34) (x:=.tmp 136) (j:=r) Q.1.1.1.1.1.1.1 o m B0) ?_
   refine xqg 1 [yJ 138 k] ?_
   refine xqj 139 (atA g0.A (k*4)) (fun w Q=>xE (t:=34) (e:=32) (sz:=4) (x:=.tmp 137) (ix:=.tmp 138) (len:=n) (cap:=g0.cap) (i:=k) (OwnD.ne (show OwnD _ z 32 4 g0.A g0.cap g0.xs.length (g0.xs.flatMap qvC) by rw[←B0];exact MrOk.at Q.1.1.1.1.1.1.2 (o.1.symm ▸ m)) (QG.cl o m B0 q)) q) ?_
   obtain⟨P,l1⟩:∃ x,g0.xs[k]! = x:=⟨_,rfl⟩
   refine xqj 140 (vR4 P.c.1 P.c.2.1 P.c.2.2.1 P.c.2.2.2.1 P.c.2.2.2.2.1 P.c.2.2.2.2.2.1 P.c.2.2.2.2.2.2.1 P.c.2.2.2.2.2.2.2) (fun w Q=>by rw[←l1];exact iA (t:=32) (x:=.tmp 139) (j:=k) (OwnD.rd (show OwnD _ z 32 4 g0.A g0.cap g0.xs.length (g0.xs.flatMap qvC) by rw[←B0];exact MrOk.at Q.1.1.1.1.1.1.2 (o.1.symm ▸ m)) wH) wH (QG.cl o m B0 q)) ?_
   have x0:=hF.dif I0 m q (e1 r k m q)
   have c0:=Zqb (n:=n) I0 P0 (e1 r r m m) (e1 k k q q)
   refine xqd 19 [vR4 O.c.1 O.c.2.1 O.c.2.2.1 O.c.2.2.2.1 O.c.2.2.2.2.1 O.c.2.2.2.2.2.1 O.c.2.2.2.2.2.2.1 O.c.2.2.2.2.2.2.2,vR4 P.c.1 P.c.2.1 P.c.2.2.1 P.c.2.2.2.1 P.c.2.2.2.2.1 P.c.2.2.2.2.2.1 P.c.2.2.2.2.2.2.1 P.c.2.2.2.2.2.2.2] 141 lB _ (fun w R Q=>yM wM ((show Calls _ _ _ _ (kQ _ (dQ n C Z r k)) from ZiC _ _ _ _ _ (QMs.numH Q.1.1.2 O0 m z0 q k1) (QMs.num Q.1.1.1.1.1.2 o m B0 q l1) x0.1 x0.2.1))) fun⟨h0,i0,j0,k0,l0,n0,o0,p0⟩=>?_
   refine xqf 1 [Δ 21] [Θ 21 32,bR4 18 32 D E F G H I J K] ?_
   refine xz (xq 1 [] [bR4 21 32 h0 i0 j0 k0 l0 n0 o0 p0] ?_)
   refine yZ (zC ?_)
   obtain⟨sC,A1,i4⟩:∃ s:Int,s=(dQ n C Z r k*dQ n C Z r k-uQ n bb*uQ n bb*(((Z r r:Int):Rat)*((Z k k:Int):Rat))).num.sign∧s≤0:=⟨_,rfl,hF.cmp m q⟩
   rcases pF r k with h1|h1|h1
   ·refine iK 56 [0,0,3,7,15,15,63,127,15,511,1023,2047,4095,8191,16383,32767,32767,131071,262143,524287,524287,2097151,4194303,524287,16777215,33554431,67108863,134217727,268435455,536870911,1073741823,2147483647,2147483647,8589934591,2147483647,2147483647,68719476735,2147483647,2147483647,414464344063,964220157951,2147483647,4262755041279,8660801552383,2147483647,2147483647,52778705616895,123147449794559,2147483647,545359914860543,1108309868281855,2251799813685247,4503599627370495,9007199254740991,18014398509481983,36028797018963967] qK qK zM ?_
    refine xqg 3 [yB 144 (decide ((r:Int)<(k:Int)))] ?_
    rw[(show decide ((r:Int)<(k:Int))=true from vQ qO)]
    refine xqg 3 [yB 145 true,eS1 146 (yL bc) n n,yJ 147 r] ?_
    refine xqj 148 (atA (yL bc) (r*1)) (fun w Q=>xE (t:=26) (e:=34) (sz:=1) (x:=.tmp 146) (ix:=.tmp 147) (len:=n) (cap:=n) (i:=r) (QIn.ne Q.1.1.2 m) m) ?_
    obtain⟨U0,K0⟩:∃ x,cs[r]! = x:=⟨_,rfl⟩
    refine xqj 149 (.slice U0.A n U0.cap) (fun w Q=>iF (t:=34) (x:=.tmp 148) (j:=r) Q.1.1.2 e0 m K0) ?_
    refine xqg 1 [yJ 150 k] ?_
    refine xqj 151 (atA U0.A (k*4)) (fun w Q=>xE (t:=34) (e:=32) (sz:=4) (x:=.tmp 149) (ix:=.tmp 150) (len:=n) (cap:=U0.cap) (i:=k) (QIn.rneH Q.1.1.2 e0 m K0 q) q) ?_
    obtain⟨S,n1⟩:∃ x,U0.xs[k]! = x:=⟨_,rfl⟩
    refine xqj 152 (vR4 S.c.1 S.c.2.1 S.c.2.2.1 S.c.2.2.2.1 S.c.2.2.2.2.1 S.c.2.2.2.2.2.1 S.c.2.2.2.2.2.2.1 S.c.2.2.2.2.2.2.2) (fun w Q=>by rw[←n1];exact iA (t:=32) (x:=.tmp 151) (j:=k) (QIn.rdatH Q.1.1.2 e0 m K0) wH (QH.cl e0 m K0 q)) ?_
    refine xqd 20 [vR4 S.c.1 S.c.2.1 S.c.2.2.1 S.c.2.2.2.1 S.c.2.2.2.2.1 S.c.2.2.2.2.2.1 S.c.2.2.2.2.2.2.1 S.c.2.2.2.2.2.2.2] 153 (fun _:Unit=>yI 0) _ (fun w R Q=>(Zad _ _ _ (QMs.numH (QIn.qs Q.1.1.2) e0 m K0 q n1)).mono (fun _ _ h=>zO h (by rw[hF.up r k h1 q];rfl))) fun xx=>?_
    refine xqg 6 [yB 156 false,yB 159 (((r:Int):Int) == (k:Int))] ?_
    rw[(show (((r:Int):Int) == (k:Int))=false by simp;omega)]
    refine xqg 15 [yB 172 false,eR4 173 h0 i0 j0 k0 l0 n0 o0 p0,eR4 174 h0 i0 j0 k0 l0 n0 o0 p0] ?_
    refine xqd 22 [vR4 h0 i0 j0 k0 l0 n0 o0 p0,vR4 h0 i0 j0 k0 l0 n0 o0 p0] 175 lB _ (fun w R Q=>yM wM (jP _ _ _ _ _ Q.1.2 Q.1.2 x0.2.2.1 x0.2.2.1)) fun⟨j2,k2,l2,m2,n2,o2,p2,q2⟩=>?_
    refine xqg 2 [eR4 176 D E F G H I J K,eR4 177 D E F G H I J K] ?_
    refine xqd 22 [vR4 D E F G H I J K,vR4 D E F G H I J K] 178 lB _ (fun w R Q=>yM wM (jP _ _ _ _ _ Q.1.1.1.2 Q.1.1.1.2 c0.1 c0.1)) fun⟨r2,s2,t2,u2,v2,x2,y2,d32⟩=>?_
    refine xqg 2 [eS1 179 (yL M) n n,yJ 180 r] ?_
    refine xqj 181 (atA (yL M) (r*1)) (fun w Q=>xE (t:=26) (e:=34) (sz:=1) (x:=.tmp 179) (ix:=.tmp 180) (len:=n) (cap:=n) (i:=r) qS m) ?_
    obtain⟨q0,C0⟩:∃ x,ms[r]! = x:=⟨_,rfl⟩
    refine xqj 182 (.slice q0.A n q0.cap) (fun w Q=>fH (t:=34) (x:=.tmp 181) (j:=r) Q.1.1.1.1.1.1.1.1 o m C0) ?_
    refine xqg 1 [yJ 183 r] ?_
    refine xqj 184 (atA q0.A (r*4)) (fun w Q=>xE (t:=34) (e:=32) (sz:=4) (x:=.tmp 182) (ix:=.tmp 183) (len:=n) (cap:=q0.cap) (i:=r) (OwnD.ne (show OwnD _ z 32 4 q0.A q0.cap q0.xs.length (q0.xs.flatMap qvC) by rw[←C0];exact MrOk.at Q.1.1.1.1.1.1.1.2 (o.1.symm ▸ m)) (QG.cl o m C0 m)) m) ?_
    obtain⟨T,o1⟩:∃ x,q0.xs[r]! = x:=⟨_,rfl⟩
    refine xqj 185 (vR4 T.c.1 T.c.2.1 T.c.2.2.1 T.c.2.2.2.1 T.c.2.2.2.2.1 T.c.2.2.2.2.2.1 T.c.2.2.2.2.2.2.1 T.c.2.2.2.2.2.2.2) (fun w Q=>by rw[←o1];exact iA (t:=32) (x:=.tmp 184) (j:=r) (OwnD.rd (show OwnD _ z 32 4 q0.A q0.cap q0.xs.length (q0.xs.flatMap qvC) by rw[←C0];exact MrOk.at Q.1.1.1.1.1.1.1.2 (o.1.symm ▸ m)) wH) wH (QG.cl o m C0 m)) ?_
    refine xqg 2 [eS1 186 (yL M) n n,yJ 187 k] ?_
    refine xqj 188 (atA (yL M) (k*1)) (fun w Q=>xE (t:=26) (e:=34) (sz:=1) (x:=.tmp 186) (ix:=.tmp 187) (len:=n) (cap:=n) (i:=k) qS q) ?_
    obtain⟨r0,D0⟩:∃ x,ms[k]! = x:=⟨_,rfl⟩
    refine xqj 189 (.slice r0.A n r0.cap) (fun w Q=>fH (t:=34) (x:=.tmp 188) (j:=k) Q.1.1.1.1.1.1.1.1 o q D0) ?_
    refine xqg 1 [yJ 190 k] ?_
    refine xqj 191 (atA r0.A (k*4)) (fun w Q=>xE (t:=34) (e:=32) (sz:=4) (x:=.tmp 189) (ix:=.tmp 190) (len:=n) (cap:=r0.cap) (i:=k) (OwnD.ne (show OwnD _ z 32 4 r0.A r0.cap r0.xs.length (r0.xs.flatMap qvC) by rw[←D0];exact MrOk.at Q.1.1.1.1.1.1.1.2 (o.1.symm ▸ q)) (QG.cl o q D0 q)) q) ?_
    obtain⟨U,p1⟩:∃ x,r0.xs[k]! = x:=⟨_,rfl⟩
    refine xqj 192 (vR4 U.c.1 U.c.2.1 U.c.2.2.1 U.c.2.2.2.1 U.c.2.2.2.2.1 U.c.2.2.2.2.2.1 U.c.2.2.2.2.2.2.1 U.c.2.2.2.2.2.2.2) (fun w Q=>by rw[←p1];exact iA (t:=32) (x:=.tmp 191) (j:=k) (OwnD.rd (show OwnD _ z 32 4 r0.A r0.cap r0.xs.length (r0.xs.flatMap qvC) by rw[←D0];exact MrOk.at Q.1.1.1.1.1.1.1.2 (o.1.symm ▸ q)) wH) wH (QG.cl o q D0 q)) ?_
    refine xqd 22 [vR4 T.c.1 T.c.2.1 T.c.2.2.1 T.c.2.2.2.1 T.c.2.2.2.2.1 T.c.2.2.2.2.2.1 T.c.2.2.2.2.2.2.1 T.c.2.2.2.2.2.2.2,vR4 U.c.1 U.c.2.1 U.c.2.2.1 U.c.2.2.2.1 U.c.2.2.2.2.1 U.c.2.2.2.2.2.1 U.c.2.2.2.2.2.2.1 U.c.2.2.2.2.2.2.2] 193 lB _ (fun w R Q=>yM wM (jP _ _ _ _ _ (QMs.num Q.1.1.1.1.1.1.1.1.1.2 o m C0 m o1) (QMs.num Q.1.1.1.1.1.1.1.1.1.2 o q D0 q p1) (iG (J0 r r m m)) (iG (J0 k k q q)))) fun⟨z2,A2,B2,C2,D2,E2,F2,G2⟩=>?_
    refine xqd 22 [vR4 r2 s2 t2 u2 v2 x2 y2 d32,vR4 z2 A2 B2 C2 D2 E2 F2 G2] 194 lB _ (fun w R Q=>yM wM (jP _ _ _ _ _ Q.1.2 Q.2 c0.2.1 c0.2.2.1)) fun⟨H2,I2,J2,K2,L2,M2,N2,O2⟩=>?_
    refine xqd 21 [vR4 j2 k2 l2 m2 n2 o2 p2 q2,vR4 H2 I2 J2 K2 L2 M2 N2 O2] 195 (fun _:Unit=>yI sC) _ (fun w R Q=>(ZeD _ _ _ _ _ Q.1.1.1.2 Q.2 x0.2.2.2 c0.2.2.2).mono (fun _ _ h=>zO h (by rw[A1]))) fun xx=>?_
    refine xqg 1 [yB 196 (decide (sC>0))] ?_
    rw[(show decide (sC>0)=false from uV qO)]
    refine xqg 1 [yB 197 false] ?_
    refine xz (yZ (xb (zJ (xR (zA (zB (xr 1 [yB 4 false,eS1 7 (yL M) n n,eS1 15 (yL bc) n n,eS1 17 (yL bp) n n,Δ 18,yJ 19 r,yJ 118 n,yJ 119 r,yJ 123 n,yJ 124 k,yJ 198 (IntKind.i64.wrap ((k:Int)+1))] [bR4 18 32 D E F G H I J K] ?_)))))))
    rw[yW ((k:Int)+1) (((k+1:Nat):Int)) qO]
    refine xq 1 [yJ 124 (k+1:Nat)] [] ?_
    refine xe ?_
    exact xK ((1+(n-(k+1)))) qO ⟨(k+1),rfl,rfl,q,rfl⟩ (fun w Q=>⟨⟨⟨⟨⟨⟨⟨Q.1.1.1.1.1.1.1.1.1.1.1.1.1.1,Q.1.1.1.1.1.1.1.1.1.1.1.1.1.2⟩,Q.1.1.1.1.1.1.1.1.1.1.1.1.2⟩,Q.1.1.1.1.1.1.1.1.1.1.1.2⟩,Q.1.1.1.1.1.1.1.1.1.1.2⟩,Q.1.1.1.1.1.1.1.1.1.2⟩,Q.1.1.1.1.1.1.1.1.2⟩,Q.1.1.1.1.1.1.1.2⟩)
   ·refine iK 56 [0,0,3,7,15,15,63,127,15,511,1023,2047,4095,8191,16383,32767,32767,131071,262143,524287,524287,2097151,4194303,524287,16777215,33554431,67108863,134217727,268435455,536870911,1073741823,2147483647,2147483647,8589934591,2147483647,2147483647,68719476735,2147483647,2147483647,414464344063,964220157951,2147483647,4262755041279,8660801552383,2147483647,2147483647,52778705616895,123147449794559,2147483647,545359914860543,1108309868281855,2251799813685247,4503599627370495,9007199254740991,18014398509481983,36028797018963967] qK qK zM ?_
    refine xqg 3 [yB 144 (decide ((r:Int)<(k:Int)))] ?_
    rw[(show decide ((r:Int)<(k:Int))=false from uV qO)]
    refine xqg 15 [yB 156 false,yB 159 (((r:Int):Int) == (k:Int))] ?_
    rw[(show (((r:Int):Int) == (k:Int))=true by simp[h1])]
    refine xqg 3 [yB 160 true,eS1 161 (yL bc) n n,yJ 162 r] ?_
    refine xqj 163 (atA (yL bc) (r*1)) (fun w Q=>xE (t:=26) (e:=34) (sz:=1) (x:=.tmp 161) (ix:=.tmp 162) (len:=n) (cap:=n) (i:=r) (QIn.ne Q.1.1.2 m) m) ?_
    obtain⟨V0,L0⟩:∃ x,cs[r]! = x:=⟨_,rfl⟩
    refine xqj 164 (.slice V0.A n V0.cap) (fun w Q=>iF (t:=34) (x:=.tmp 163) (j:=r) Q.1.1.2 e0 m L0) ?_
    refine xqg 1 [yJ 165 r] ?_
    refine xqj 166 (atA V0.A (r*4)) (fun w Q=>xE (t:=34) (e:=32) (sz:=4) (x:=.tmp 164) (ix:=.tmp 165) (len:=n) (cap:=V0.cap) (i:=r) (QIn.rneH Q.1.1.2 e0 m L0 m) m) ?_
    obtain⟨V,q1⟩:∃ x,V0.xs[r]! = x:=⟨_,rfl⟩
    refine xqj 167 (vR4 V.c.1 V.c.2.1 V.c.2.2.1 V.c.2.2.2.1 V.c.2.2.2.2.1 V.c.2.2.2.2.2.1 V.c.2.2.2.2.2.2.1 V.c.2.2.2.2.2.2.2) (fun w Q=>by rw[←q1];exact iA (t:=32) (x:=.tmp 166) (j:=r) (QIn.rdatH Q.1.1.2 e0 m L0) wH (QH.cl e0 m L0 m)) ?_
    refine xqd 20 [vR4 V.c.1 V.c.2.1 V.c.2.2.1 V.c.2.2.2.1 V.c.2.2.2.2.1 V.c.2.2.2.2.2.1 V.c.2.2.2.2.2.2.1 V.c.2.2.2.2.2.2.2] 168 (fun _:Unit=>yI 1) _ (fun w R Q=>(Zad _ _ _ (QMs.numH (QIn.qs Q.1.1.2) e0 m L0 m q1)).mono (fun _ _ h=>zO h (by rw[ZrH (hF.pos r m)]))) fun xx=>?_
    refine xqg 6 [yB 172 false,eR4 173 h0 i0 j0 k0 l0 n0 o0 p0,eR4 174 h0 i0 j0 k0 l0 n0 o0 p0] ?_
    refine xqd 22 [vR4 h0 i0 j0 k0 l0 n0 o0 p0,vR4 h0 i0 j0 k0 l0 n0 o0 p0] 175 lB _ (fun w R Q=>yM wM (jP _ _ _ _ _ Q.1.2 Q.1.2 x0.2.2.1 x0.2.2.1)) fun⟨P2,Q2,R2,S2,T2,U2,V2,W2⟩=>?_
    refine xqg 2 [eR4 176 D E F G H I J K,eR4 177 D E F G H I J K] ?_
    refine xqd 22 [vR4 D E F G H I J K,vR4 D E F G H I J K] 178 lB _ (fun w R Q=>yM wM (jP _ _ _ _ _ Q.1.1.1.2 Q.1.1.1.2 c0.1 c0.1)) fun⟨X2,Y2,Z2,a3,b3,c3,d3,e3⟩=>?_
    refine xqg 2 [eS1 179 (yL M) n n,yJ 180 r] ?_
    refine xqj 181 (atA (yL M) (r*1)) (fun w Q=>xE (t:=26) (e:=34) (sz:=1) (x:=.tmp 179) (ix:=.tmp 180) (len:=n) (cap:=n) (i:=r) qS m) ?_
    obtain⟨s0,E0⟩:∃ x,ms[r]! = x:=⟨_,rfl⟩
    refine xqj 182 (.slice s0.A n s0.cap) (fun w Q=>fH (t:=34) (x:=.tmp 181) (j:=r) Q.1.1.1.1.1.1.1.1 o m E0) ?_
    refine xqg 1 [yJ 183 r] ?_
    refine xqj 184 (atA s0.A (r*4)) (fun w Q=>xE (t:=34) (e:=32) (sz:=4) (x:=.tmp 182) (ix:=.tmp 183) (len:=n) (cap:=s0.cap) (i:=r) (OwnD.ne (show OwnD _ z 32 4 s0.A s0.cap s0.xs.length (s0.xs.flatMap qvC) by rw[←E0];exact MrOk.at Q.1.1.1.1.1.1.1.2 (o.1.symm ▸ m)) (QG.cl o m E0 m)) m) ?_
    obtain⟨W,r1⟩:∃ x,s0.xs[r]! = x:=⟨_,rfl⟩
    refine xqj 185 (vR4 W.c.1 W.c.2.1 W.c.2.2.1 W.c.2.2.2.1 W.c.2.2.2.2.1 W.c.2.2.2.2.2.1 W.c.2.2.2.2.2.2.1 W.c.2.2.2.2.2.2.2) (fun w Q=>by rw[←r1];exact iA (t:=32) (x:=.tmp 184) (j:=r) (OwnD.rd (show OwnD _ z 32 4 s0.A s0.cap s0.xs.length (s0.xs.flatMap qvC) by rw[←E0];exact MrOk.at Q.1.1.1.1.1.1.1.2 (o.1.symm ▸ m)) wH) wH (QG.cl o m E0 m)) ?_
    refine xqg 2 [eS1 186 (yL M) n n,yJ 187 k] ?_
    refine xqj 188 (atA (yL M) (k*1)) (fun w Q=>xE (t:=26) (e:=34) (sz:=1) (x:=.tmp 186) (ix:=.tmp 187) (len:=n) (cap:=n) (i:=k) qS q) ?_
    obtain⟨t0,F0⟩:∃ x,ms[k]! = x:=⟨_,rfl⟩
    refine xqj 189 (.slice t0.A n t0.cap) (fun w Q=>fH (t:=34) (x:=.tmp 188) (j:=k) Q.1.1.1.1.1.1.1.1 o q F0) ?_
    refine xqg 1 [yJ 190 k] ?_
    refine xqj 191 (atA t0.A (k*4)) (fun w Q=>xE (t:=34) (e:=32) (sz:=4) (x:=.tmp 189) (ix:=.tmp 190) (len:=n) (cap:=t0.cap) (i:=k) (OwnD.ne (show OwnD _ z 32 4 t0.A t0.cap t0.xs.length (t0.xs.flatMap qvC) by rw[←F0];exact MrOk.at Q.1.1.1.1.1.1.1.2 (o.1.symm ▸ q)) (QG.cl o q F0 q)) q) ?_
    obtain⟨X,s1⟩:∃ x,t0.xs[k]! = x:=⟨_,rfl⟩
    refine xqj 192 (vR4 X.c.1 X.c.2.1 X.c.2.2.1 X.c.2.2.2.1 X.c.2.2.2.2.1 X.c.2.2.2.2.2.1 X.c.2.2.2.2.2.2.1 X.c.2.2.2.2.2.2.2) (fun w Q=>by rw[←s1];exact iA (t:=32) (x:=.tmp 191) (j:=k) (OwnD.rd (show OwnD _ z 32 4 t0.A t0.cap t0.xs.length (t0.xs.flatMap qvC) by rw[←F0];exact MrOk.at Q.1.1.1.1.1.1.1.2 (o.1.symm ▸ q)) wH) wH (QG.cl o q F0 q)) ?_
    refine xqd 22 [vR4 W.c.1 W.c.2.1 W.c.2.2.1 W.c.2.2.2.1 W.c.2.2.2.2.1 W.c.2.2.2.2.2.1 W.c.2.2.2.2.2.2.1 W.c.2.2.2.2.2.2.2,vR4 X.c.1 X.c.2.1 X.c.2.2.1 X.c.2.2.2.1 X.c.2.2.2.2.1 X.c.2.2.2.2.2.1 X.c.2.2.2.2.2.2.1 X.c.2.2.2.2.2.2.2] 193 lB _ (fun w R Q=>yM wM (jP _ _ _ _ _ (QMs.num Q.1.1.1.1.1.1.1.1.1.2 o m E0 m r1) (QMs.num Q.1.1.1.1.1.1.1.1.1.2 o q F0 q s1) (iG (J0 r r m m)) (iG (J0 k k q q)))) fun⟨f3,g3,h3,i3,j3,k3,l3,m3⟩=>?_
    refine xqd 22 [vR4 X2 Y2 Z2 a3 b3 c3 d3 e3,vR4 f3 g3 h3 i3 j3 k3 l3 m3] 194 lB _ (fun w R Q=>yM wM (jP _ _ _ _ _ Q.1.2 Q.2 c0.2.1 c0.2.2.1)) fun⟨n3,o3,p3,q3,r3,s3,t3,u3⟩=>?_
    refine xqd 21 [vR4 P2 Q2 R2 S2 T2 U2 V2 W2,vR4 n3 o3 p3 q3 r3 s3 t3 u3] 195 (fun _:Unit=>yI sC) _ (fun w R Q=>(ZeD _ _ _ _ _ Q.1.1.1.2 Q.2 x0.2.2.2 c0.2.2.2).mono (fun _ _ h=>zO h (by rw[A1]))) fun xx=>?_
    refine xqg 1 [yB 196 (decide (sC>0))] ?_
    rw[(show decide (sC>0)=false from uV qO)]
    refine xqg 1 [yB 197 false] ?_
    refine xz (yZ (xb (zJ (xR (zA (zB (xr 1 [yB 4 false,eS1 7 (yL M) n n,eS1 15 (yL bc) n n,eS1 17 (yL bp) n n,Δ 18,yJ 19 r,yJ 118 n,yJ 119 r,yJ 123 n,yJ 124 k,yJ 198 (IntKind.i64.wrap ((k:Int)+1))] [bR4 18 32 D E F G H I J K] ?_)))))))
    rw[yW ((k:Int)+1) (((k+1:Nat):Int)) qO]
    refine xq 1 [yJ 124 (k+1:Nat)] [] ?_
    refine xe ?_
    exact xK ((1+(n-(k+1)))) qO ⟨(k+1),rfl,rfl,q,rfl⟩ (fun w Q=>⟨⟨⟨⟨⟨⟨⟨Q.1.1.1.1.1.1.1.1.1.1.1.1.1.1,Q.1.1.1.1.1.1.1.1.1.1.1.1.1.2⟩,Q.1.1.1.1.1.1.1.1.1.1.1.1.2⟩,Q.1.1.1.1.1.1.1.1.1.1.1.2⟩,Q.1.1.1.1.1.1.1.1.1.1.2⟩,Q.1.1.1.1.1.1.1.1.1.2⟩,Q.1.1.1.1.1.1.1.1.2⟩,Q.1.1.1.1.1.1.1.2⟩)
   refine iK 56 [0,0,3,7,15,15,63,127,15,511,1023,2047,4095,8191,16383,32767,32767,131071,262143,524287,524287,2097151,4194303,524287,16777215,33554431,67108863,134217727,268435455,536870911,1073741823,2147483647,2147483647,8589934591,2147483647,2147483647,68719476735,2147483647,2147483647,414464344063,964220157951,2147483647,4262755041279,8660801552383,2147483647,2147483647,52778705616895,123147449794559,2147483647,545359914860543,1108309868281855,2251799813685247,4503599627370495,9007199254740991,18014398509481983,36028797018963967] qK qK zM ?_
   refine xqg 3 [yB 144 (decide ((r:Int)<(k:Int)))] ?_
   rw[(show decide ((r:Int)<(k:Int))=false from uV qO)]
   refine xqg 15 [yB 156 false,yB 159 (((r:Int):Int) == (k:Int))] ?_
   rw[(show (((r:Int):Int) == (k:Int))=false by simp;omega)]
   refine xqg 15 [yB 172 false,eR4 173 h0 i0 j0 k0 l0 n0 o0 p0,eR4 174 h0 i0 j0 k0 l0 n0 o0 p0] ?_
   refine xqd 22 [vR4 h0 i0 j0 k0 l0 n0 o0 p0,vR4 h0 i0 j0 k0 l0 n0 o0 p0] 175 lB _ (fun w R Q=>yM wM (jP _ _ _ _ _ Q.2 Q.2 x0.2.2.1 x0.2.2.1)) fun⟨v3,w3,x3,y3,z3,A3,B3,C3⟩=>?_
   refine xqg 2 [eR4 176 D E F G H I J K,eR4 177 D E F G H I J K] ?_
   refine xqd 22 [vR4 D E F G H I J K,vR4 D E F G H I J K] 178 lB _ (fun w R Q=>yM wM (jP _ _ _ _ _ Q.1.1.2 Q.1.1.2 c0.1 c0.1)) fun⟨D3,E3,F3,G3,H3,I3,J3,K3⟩=>?_
   refine xqg 2 [eS1 179 (yL M) n n,yJ 180 r] ?_
   refine xqj 181 (atA (yL M) (r*1)) (fun w Q=>xE (t:=26) (e:=34) (sz:=1) (x:=.tmp 179) (ix:=.tmp 180) (len:=n) (cap:=n) (i:=r) qS m) ?_
   obtain⟨u0,G0⟩:∃ x,ms[r]! = x:=⟨_,rfl⟩
   refine xqj 182 (.slice u0.A n u0.cap) (fun w Q=>fH (t:=34) (x:=.tmp 181) (j:=r) Q.1.1.1.1.1.1.1.1 o m G0) ?_
   refine xqg 1 [yJ 183 r] ?_
   refine xqj 184 (atA u0.A (r*4)) (fun w Q=>xE (t:=34) (e:=32) (sz:=4) (x:=.tmp 182) (ix:=.tmp 183) (len:=n) (cap:=u0.cap) (i:=r) (OwnD.ne (show OwnD _ z 32 4 u0.A u0.cap u0.xs.length (u0.xs.flatMap qvC) by rw[←G0];exact MrOk.at Q.1.1.1.1.1.1.1.2 (o.1.symm ▸ m)) (QG.cl o m G0 m)) m) ?_
   obtain⟨a0,t1⟩:∃ x,u0.xs[r]! = x:=⟨_,rfl⟩
   refine xqj 185 (vR4 a0.c.1 a0.c.2.1 a0.c.2.2.1 a0.c.2.2.2.1 a0.c.2.2.2.2.1 a0.c.2.2.2.2.2.1 a0.c.2.2.2.2.2.2.1 a0.c.2.2.2.2.2.2.2) (fun w Q=>by rw[←t1];exact iA (t:=32) (x:=.tmp 184) (j:=r) (OwnD.rd (show OwnD _ z 32 4 u0.A u0.cap u0.xs.length (u0.xs.flatMap qvC) by rw[←G0];exact MrOk.at Q.1.1.1.1.1.1.1.2 (o.1.symm ▸ m)) wH) wH (QG.cl o m G0 m)) ?_
   refine xqg 2 [eS1 186 (yL M) n n,yJ 187 k] ?_
   refine xqj 188 (atA (yL M) (k*1)) (fun w Q=>xE (t:=26) (e:=34) (sz:=1) (x:=.tmp 186) (ix:=.tmp 187) (len:=n) (cap:=n) (i:=k) qS q) ?_
   obtain⟨v0,H0⟩:∃ x,ms[k]! = x:=⟨_,rfl⟩
   refine xqj 189 (.slice v0.A n v0.cap) (fun w Q=>fH (t:=34) (x:=.tmp 188) (j:=k) Q.1.1.1.1.1.1.1.1 o q H0) ?_
   refine xqg 1 [yJ 190 k] ?_
   refine xqj 191 (atA v0.A (k*4)) (fun w Q=>xE (t:=34) (e:=32) (sz:=4) (x:=.tmp 189) (ix:=.tmp 190) (len:=n) (cap:=v0.cap) (i:=k) (OwnD.ne (show OwnD _ z 32 4 v0.A v0.cap v0.xs.length (v0.xs.flatMap qvC) by rw[←H0];exact MrOk.at Q.1.1.1.1.1.1.1.2 (o.1.symm ▸ q)) (QG.cl o q H0 q)) q) ?_
   obtain⟨b0,u1⟩:∃ x,v0.xs[k]! = x:=⟨_,rfl⟩
   refine xqj 192 (vR4 b0.c.1 b0.c.2.1 b0.c.2.2.1 b0.c.2.2.2.1 b0.c.2.2.2.2.1 b0.c.2.2.2.2.2.1 b0.c.2.2.2.2.2.2.1 b0.c.2.2.2.2.2.2.2) (fun w Q=>by rw[←u1];exact iA (t:=32) (x:=.tmp 191) (j:=k) (OwnD.rd (show OwnD _ z 32 4 v0.A v0.cap v0.xs.length (v0.xs.flatMap qvC) by rw[←H0];exact MrOk.at Q.1.1.1.1.1.1.1.2 (o.1.symm ▸ q)) wH) wH (QG.cl o q H0 q)) ?_
   refine xqd 22 [vR4 a0.c.1 a0.c.2.1 a0.c.2.2.1 a0.c.2.2.2.1 a0.c.2.2.2.2.1 a0.c.2.2.2.2.2.1 a0.c.2.2.2.2.2.2.1 a0.c.2.2.2.2.2.2.2,vR4 b0.c.1 b0.c.2.1 b0.c.2.2.1 b0.c.2.2.2.1 b0.c.2.2.2.2.1 b0.c.2.2.2.2.2.1 b0.c.2.2.2.2.2.2.1 b0.c.2.2.2.2.2.2.2] 193 lB _ (fun w R Q=>yM wM (jP _ _ _ _ _ (QMs.num Q.1.1.1.1.1.1.1.1.2 o m G0 m t1) (QMs.num Q.1.1.1.1.1.1.1.1.2 o q H0 q u1) (iG (J0 r r m m)) (iG (J0 k k q q)))) fun⟨L3,M3,N3,O3,P3,Q3,R3,S3⟩=>?_
   refine xqd 22 [vR4 D3 E3 F3 G3 H3 I3 J3 K3,vR4 L3 M3 N3 O3 P3 Q3 R3 S3] 194 lB _ (fun w R Q=>yM wM (jP _ _ _ _ _ Q.1.2 Q.2 c0.2.1 c0.2.2.1)) fun⟨T3,U3,V3,W3,t56,X3,Y3,Z3⟩=>?_
   refine xqd 21 [vR4 v3 w3 x3 y3 z3 A3 B3 C3,vR4 T3 U3 V3 W3 t56 X3 Y3 Z3] 195 (fun _:Unit=>yI sC) _ (fun w R Q=>(ZeD _ _ _ _ _ Q.1.1.1.2 Q.2 x0.2.2.2 c0.2.2.2).mono (fun _ _ h=>zO h (by rw[A1]))) fun xx=>?_
   refine xqg 1 [yB 196 (decide (sC>0))] ?_
   rw[(show decide (sC>0)=false from uV qO)]
   refine xqg 1 [yB 197 false] ?_
   refine xz (yZ (xb (zJ (xR (zA (zB (xr 1 [yB 4 false,eS1 7 (yL M) n n,eS1 15 (yL bc) n n,eS1 17 (yL bp) n n,Δ 18,yJ 19 r,yJ 118 n,yJ 119 r,yJ 123 n,yJ 124 k,yJ 198 (IntKind.i64.wrap ((k:Int)+1))] [bR4 18 32 D E F G H I J K] ?_)))))))
   rw[yW ((k:Int)+1) (((k+1:Nat):Int)) qO]
   refine xq 1 [yJ 124 (k+1:Nat)] [] ?_
   refine xe ?_
   exact xK ((1+(n-(k+1)))) qO ⟨(k+1),rfl,rfl,q,rfl⟩ (fun w Q=>⟨⟨⟨⟨⟨⟨⟨Q.1.1.1.1.1.1.1.1.1.1.1.1.1,Q.1.1.1.1.1.1.1.1.1.1.1.1.2⟩,Q.1.1.1.1.1.1.1.1.1.1.1.2⟩,Q.1.1.1.1.1.1.1.1.1.1.2⟩,Q.1.1.1.1.1.1.1.1.1.2⟩,Q.1.1.1.1.1.1.1.1.2⟩,Q.1.1.1.1.1.1.1.2⟩,Q.1.1.1.1.1.1.2⟩)
  have j4:k=n:=by have:=uD T0;omega
  refine xM (zE (zE (xW (xR (zA (zB (xq 1 [yJ 199 (IntKind.i64.wrap ((r:Int)+1))] [] ?_)))))))
  rw[yW ((r:Int)+1) (((r+1:Nat):Int)) qO]
  refine xq 1 [yJ 119 (r+1:Nat)] [] ?_
  refine xe ?_
  exact xK ((1+(n-(r+1)))) qO ⟨(r+1),rfl,rfl,m,rfl⟩ (fun w Q=>⟨⟨⟨⟨⟨⟨⟨Q.1.1.1.1.1.1.1,Q.1.1.1.1.1.1.2⟩,Q.1.1.1.1.1.2⟩,Q.1.1.1.1.2⟩,Q.1.1.1.2⟩,Q.1.1.2⟩,Q.1.2⟩,Q.2⟩)
 have k4:r=n:=by have:=uD S0;omega
 refine xM (zE (zE (xW (zA (zC (zB ?_))))))
 refine xqc 23 [] 200 (fun _:Unit=>.bool true) _ (fun w R Q=>yN (ZlB _ (hg.ext R))) fun xx=>?_
 refine xq 1 [yB 4 true] [] ?_
 refine yZ (zH ?_)
 refine yR (.bool true) fun w' R Q=>?_
 exact⟨rfl,R⟩
end Go.Proofs.YtmpffakfhcpjoaaGreatDoor
