/-
 My texts.
-/
import Derived.Test.YtenchljfmfgeoaaGreatDoorW23
set_option maxRecDepth 100000
set_option maxHeartbeats 8000000
namespace Go.Proofs.YtenchljfmfgeoaaGreatDoor
open Go.RowKit Tryz
instance:Nonempty {x:ShQ×Int // (fun x:ShQ×Int => -2≤x.2∧x.2≤2) x}:=⟨⟨(qv0.c,0),by decide⟩⟩
theorem ZrS {n:Nat}{Y:Nat→Nat→Int}(h:∀ a b,a<n→b<n→(Y a b).natAbs≤2)(d:n≤4):∀ a b,a<n→b<n→(dO Y (fun a b=>Y b a) n a b).natAbs≤16:=fun a b e f =>
 uC (Zfl n (fun r c=>h a r e c) (fun r c=>h b r f c)) (uC (uE _ d) qD)
theorem ZhQ (τ:Tap)(wl w:World)(hO:TOld wl τ)(h0:Ext wl w)(hT:TOk τ w)(n:Nat)(k0:1≤n)(hn:n≤4) :
 yA 31 #[.pointer (some ⟨τ.g,0,none⟩),.int .i64 ((n:Nat):Int),.int .i64 ((n:Nat):Int)] w (RetT τ (fun x:Nat × List (Mr Qv)×(Nat→Nat→Int)=>.slice (some ⟨x.1,0,none⟩) n n) (fun x:Nat × List (Mr Qv)×(Nat→Nat→Int)=>QG n n x.2.1 x.2.2∧∀ a b,a<n→b<n→(x.2.2 a b).natAbs≤16) (fun x w'=>(OwnD w' w.heap.size 61 1 (some ⟨x.1,0,none⟩) n n (x.2.1.flatMap mrC)∧MrOk 59 4 qvC w.heap.size w' x.2.1)∧QMs w' x.2.1) w):=by
 obtain⟨m0,G⟩:∃ m,m=w.heap.size:=⟨_,rfl⟩
 have S:τ.g<m0:=G ▸ hT.lt
 refine Zd3 (fun i=>i=τ.g) (Φ:=fun w=>TOk τ w) func31 rfl qK (fun w' hf=>hT.ext hf) ?_
 refine yY (xq 1 [eS1 6 none 0 0] [] ?_)
 refine yZ (yY (xq 2 [yJ 10 (n:Int),yJ 11 (n:Int)] [] ?_))
 refine xqc 17 [yI (n:Int), yI (n:Int)] 12 (fun x:{x:Nat × List (Mr Qv) // QG n n x.2 (fun _ _=>0)∧m0≤x.1}=>.slice (yL x.1.1) n n) _ (fun w R Q=>(Zc3 n n _ qO qO).mono (fun _ _ h=>Zec (m0:=m0) (G ▸ R.size) h)) fun T=>?_
 obtain⟨⟨d,I⟩,M,g0⟩:=T
 refine xq 1 [eS1 7 (yL d) n n] [] ?_
 refine yZ (zC (yY (xq 3 [yJ 14 (n:Int),yJ 15 0] [] ?_)))
 refine yZ (zP ?_)
 refine yC [(0,.v (.pointer (some ⟨τ.g,0,none⟩))),eS1 6 none 0 0,eS1 7 (yL d) n n,yJ 14 (n:Int),yJ 15 ((0:Nat):Int)] [] (fun w=>(((TOk τ w∧OwnD w m0 61 1 (yL d) n n (I.flatMap mrC))∧MrOk 59 4 qvC m0 w I)∧QMs w I)) (fun w Q=>⟨⟨⟨Q.1,Q.2.1.1⟩,Q.2.1.2⟩,Q.2.2⟩) ?_
 refine xU (fun W X Z=>∃ (i:Nat) (q:List (Mr Qv)) (Y:Nat→Nat→Int),X=ofL [(0,.v (.pointer (some ⟨τ.g,0,none⟩))),eS1 6 none 0 0,eS1 7 (yL d) n n,yJ 14 (n:Int),yJ 15 (i:Int)] []∧Z=(fun w=>(((TOk τ w∧OwnD w m0 61 1 (yL d) n n (q.flatMap mrC))∧MrOk 59 4 qvC m0 w q)∧QMs w q))∧(i≤n)∧(QG n n q Y)∧(∀ a b,a<n→b<n→(Y a b).natAbs≤2)∧W=(1+(n-i))) ((1+(n-0))) ⟨0,I,(fun _ _=>0),rfl,rfl,(vQ _),M,(fun a b _ _=>by show (0:Int).natAbs≤2;decide),rfl⟩ ?_
 rintro W X Z ⟨i,q,Y,rfl,rfl,hi,p,U,rfl⟩
 refine yY (xq 1 [yB 16 (decide ((i:Int)<(n:Int)))] [] ?_)
 refine yZ (zC ?_)
 refine yQ ((decide ((i:Int)<(n:Int)))) (fun J=>?_) fun J=>?_
 ·have r:i<n:=by have:=uB J;omega
  refine zI (zA (zC (zP (yY (xq 2 [yJ 8 (i:Int)] [] ?_)))))
  refine yZ (yY (xq 2 [eS1 18 (yL d) n n,yJ 19 (i:Int)] [] ?_))
  refine xqk 20 (atA (yL d) (i*1)) (fun w R Q=>xQ (t:=33) (e:=61) (sz:=1) (x:=.tmp 18) (ix:=.tmp 19) (len:=n) (cap:=n) (i:=i) qS r) ?_
  obtain⟨a0,b0⟩:∃ x,q[i]! = x:=⟨_,rfl⟩
  refine xqk 21 (.slice a0.A n a0.cap) (fun w R Q=>cW (t:=61) (x:=.tmp 20) (j:=i) Q.1.1.2 p r b0) ?_
  refine xq 2 [yJ 22 (n:Int),yJ 23 0] [] ?_
  refine yZ (zP ?_)
  refine yC [(0,.v (.pointer (some ⟨τ.g,0,none⟩))),eS1 6 none 0 0,eS1 7 (yL d) n n,yJ 8 (i:Int),yJ 14 (n:Int),yJ 15 (i:Int),yJ 22 (n:Int),yJ 23 ((0:Nat):Int)] [] (fun w=>(((TOk τ w∧OwnD w m0 61 1 (yL d) n n (q.flatMap mrC))∧MrOk 59 4 qvC m0 w q)∧QMs w q)) (fun w Q=>⟨⟨⟨Q.1.1.1,Q.1.1.2⟩,Q.1.2⟩,Q.2⟩) ?_
  refine xU (fun W X Z=>∃ (k:Nat) (q:List (Mr Qv)) (Y:Nat→Nat→Int),X=ofL [(0,.v (.pointer (some ⟨τ.g,0,none⟩))),eS1 6 none 0 0,eS1 7 (yL d) n n,yJ 8 (i:Int),yJ 14 (n:Int),yJ 15 (i:Int),yJ 22 (n:Int),yJ 23 (k:Int)] []∧Z=(fun w=>(((TOk τ w∧OwnD w m0 61 1 (yL d) n n (q.flatMap mrC))∧MrOk 59 4 qvC m0 w q)∧QMs w q))∧(k≤n)∧(QG n n q Y)∧(∀ a b,a<n→b<n→(Y a b).natAbs≤2)∧W=(1+(n-k))) ((1+(n-0))) ⟨0,q,Y,rfl,rfl,(vQ _),p,U,rfl⟩ ?_
  rintro W X Z ⟨k,q,Y,rfl,rfl,hk,p,U,rfl⟩
  refine yY (xq 1 [yB 24 (decide ((k:Int)<(n:Int)))] [] ?_)
  refine yZ (zC ?_)
  refine yQ ((decide ((k:Int)<(n:Int)))) (fun K=>?_) fun K=>?_
  ·have N:k<n:=by have:=uB K;omega
   refine zI (zA (zC (zP (yY (xq 2 [yJ 9 (k:Int)] [] ?_)))))
   refine xe (zA ?_)
   refine yO 8 zO ?_
   refine xqg 2 [eS1 26 (yL d) n n,yJ 27 (i:Int)] ?_
   refine xqj 28 (atA (yL d) (i*1)) (fun w Q=>xQ (t:=33) (e:=61) (sz:=1) (x:=.tmp 26) (ix:=.tmp 27) (len:=n) (cap:=n) (i:=i) qS r) ?_
   obtain⟨f,o⟩:∃ x,q[i]! = x:=⟨_,rfl⟩
   refine xqj 29 (.slice f.A n f.cap) (fun w Q=>cW (t:=61) (x:=.tmp 28) (j:=i) Q.1.1.2 p r o) ?_
   refine xqg 2 [yJ 30 (k:Int),(31,.v (.pointer (some ⟨τ.g,0,none⟩)))] ?_
   refine Zjc 32 (b:=τ.g) (j:=0) (c:=.slice τ.A τ.l τ.c) 22 [.pointer (some ⟨τ.g,0,none⟩), yI 2] (fun x:{x:ShQ×Int // (fun x => -2≤x.2∧x.2≤2) x}=>(fun x=>iO x.1) x.1) (fun w=>((OwnD w m0 61 1 (yL d) n n (q.flatMap mrC)∧MrOk 59 4 qvC m0 w q)∧QMs w q)) (fun x w=>TOk τ w∧(fun x w=>zU w (iO x.1) ((x.2:Int):Rat)) x.1 w) (fun w Q=>TOk.cell Q.1.1.1) (Or.inr rfl) (fun w R Q=>(Zl6 τ wl _ hO (hO.old h0 R) Q.1.1.1 2 qD qD).mono (fun _ _ h=>Zd9 h (fun x L h=>h.boxT L))) (fun w w2 R Q L=>⟨⟨OwnD.tape Q.1.1.2 L S,MrOk.tape Q.1.2 L S⟩,QMs.tape Q.2 Q.1.1.1 L⟩) (fun x w Q=>⟨⟨⟨Q.2.1,Q.1.1.1⟩,Q.1.1.2⟩,Q.1.2⟩) fun T=>?_
   obtain⟨⟨⟨s,u,z,B,C,D,E,F⟩,H⟩,c0⟩:=T
   dsimp only at c0
   refine xf 0 [(0,.v (.pointer (some ⟨τ.g,0,none⟩))),eS1 6 none 0 0,eS1 7 (yL d) n n,yJ 8 (i:Int),yJ 14 (n:Int),yJ 15 (i:Int),yJ 22 (n:Int),yJ 23 (k:Int),eS1 29 f.A n f.cap,yJ 30 (k:Int),eR4 32 s u z B C D E F] [] ?_
   refine xqj 33 (atA f.A (k*4)) (fun w Q=>xQ (t:=61) (e:=59) (sz:=4) (x:=.tmp 29) (ix:=.tmp 30) (len:=n) (cap:=f.cap) (i:=k) (OwnD.ne (show OwnD _ m0 59 4 f.A f.cap f.xs.length (f.xs.flatMap qvC) by rw[←o];exact MrOk.at Q.1.2 (p.1.symm ▸ r)) (QG.cl p r o N)) N) ?_
   refine xz ?_
   refine Zey (t:=59) (x:=.tmp 33) (y:=.tmp 32) (e:=59) (k:=4) (enc:=qvC) (a:=i) (j:=k) (ys:=q) m0 (⟨(s,u,z,B,C,D,E,F),((H:Int):Rat)⟩:Qv) (.agg #[.bool s,.slice u z B,.bool C,.slice D E F]) (fun w=>(((OwnD w m0 61 1 (yL d) n n (q.flatMap mrC)∧QMs w q)∧TOk τ w)∧zU w (.agg #[.bool s,.slice u z B,.bool C,.slice D E F]) (((H:Int):Rat)))) iB qD (fun w Q=>Q.1.1.2) (p.1.symm ▸ r) o (QG.cl p r o N) (fun _ h=>Or.inl (uC (G ▸ uH _) h)) (by simp[qvC,Value.oneCell']) (Zeb _) rfl (fun w w' Q L=>⟨⟨⟨OwnD.apart Q.1.1.1 (show OwnD _ m0 59 4 f.A f.cap f.xs.length (f.xs.flatMap qvC) by rw[←o];exact MrOk.at Q.1.1.2 (p.1.symm ▸ r)) qD L,QMs.row Q.1.2 (show OwnD _ m0 59 4 f.A f.cap f.xs.length (f.xs.flatMap qvC) by rw[←o];exact MrOk.at Q.1.1.2 (p.1.symm ▸ r)) L⟩,TOk.row Q.2.1 (show OwnD _ m0 59 4 f.A f.cap f.xs.length (f.xs.flatMap qvC) by rw[←o];exact MrOk.at Q.1.1.2 (p.1.symm ▸ r)) S L⟩,zU.rowUp Q.2.2 (show OwnD _ m0 59 4 f.A f.cap f.xs.length (f.xs.flatMap qvC) by rw[←o];exact MrOk.at Q.1.1.2 (p.1.symm ▸ r)) L⟩) ?_
   refine xr 0 [(0,.v (.pointer (some ⟨τ.g,0,none⟩))),eS1 6 none 0 0,eS1 7 (yL d) n n,yJ 8 (i:Int),yJ 14 (n:Int),yJ 15 (i:Int),yJ 22 (n:Int),yJ 23 (k:Int)] [] ?_
   refine xe (xR (zA (zB (xq 1 [yJ 34 (IntKind.i64.wrap ((k:Int)+1))] [] ?_))))
   rw[yW ((k:Int)+1) (((k+1:Nat):Int)) qO]
   refine xq 1 [yJ 23 ((k+1:Nat):Int)] [] ?_
   refine xe ?_
   refine SXq.weak [(0,.v (.pointer (some ⟨τ.g,0,none⟩))),eS1 6 none 0 0,eS1 7 (yL d) n n,yJ 8 (i:Int),yJ 14 (n:Int),yJ 15 (i:Int),yJ 22 (n:Int),yJ 23 (((k+1):Nat):Int)] [] (Ψ:=fun w=>(((TOk τ w∧OwnD w m0 61 1 (yL d) n n ((q.set i ⟨f.A,f.cap,f.xs.set k (⟨(s,u,z,B,C,D,E,F),((H:Int):Rat)⟩:Qv)⟩).flatMap mrC))∧MrOk 59 4 qvC m0 w (q.set i ⟨f.A,f.cap,f.xs.set k (⟨(s,u,z,B,C,D,E,F),((H:Int):Rat)⟩:Qv)⟩))∧QMs w (q.set i ⟨f.A,f.cap,f.xs.set k (⟨(s,u,z,B,C,D,E,F),((H:Int):Rat)⟩:Qv)⟩))) (zY.of qK) qK (fun w Q=>⟨⟨⟨Q.1.1.2,(by rw[aC (p.1.symm ▸ r) o (tA ..)];exact Q.1.1.1.1)⟩,Q.2⟩,(QMs.set Q.1.1.1.2 (p.1.symm ▸ r) o Q.1.2)⟩) ?_
   exact xG ((1+(n-(k+1)))) qO ⟨(k+1),(q.set i ⟨f.A,f.cap,f.xs.set k (⟨(s,u,z,B,C,D,E,F),((H:Int):Rat)⟩:Qv)⟩),(updZ Y i k H),rfl,rfl,N,(QG.set p r o rfl),(Zn6 U qO),rfl⟩
  have l0:k=n:=by have:=uD K;omega
  refine xO (zH (zH (xY (xR (zA (zB (xq 1 [yJ 35 (IntKind.i64.wrap ((i:Int)+1))] [] ?_)))))))
  rw[yW ((i:Int)+1) (((i+1:Nat):Int)) qO]
  refine xq 1 [yJ 15 ((i+1:Nat):Int)] [] ?_
  refine xe ?_
  refine yP [(0,.v (.pointer (some ⟨τ.g,0,none⟩))),eS1 6 none 0 0,eS1 7 (yL d) n n,yJ 14 (n:Int),yJ 15 (((i+1):Nat):Int)] [] (fun w=>(((TOk τ w∧OwnD w m0 61 1 (yL d) n n (q.flatMap mrC))∧MrOk 59 4 qvC m0 w q)∧QMs w q)) (fun w Q=>⟨⟨⟨Q.1.1.1,Q.1.1.2⟩,Q.1.2⟩,Q.2⟩) ?_
  exact xG ((1+(n-(i+1)))) qO ⟨(i+1),q,Y,rfl,rfl,r,p,U,rfl⟩
 have n0:i=n:=by have:=uD J;omega
 refine xO (zH (zH (xY (zA (yY (xq 2 [eS1 36 (yL d) n n,eS1 37 (yL d) n n] [] ?_))))))
 refine xqc 24 [.slice (yL d) n n] 38 (fun x:{x:Nat × List (Mr Qv) // QG n n x.2 (fun a b=>Y b a)∧m0≤x.1}=>.slice (yL x.1.1) n n) _ (fun w R Q=>(Zpi (yL d) n n n q Y _ (QIn.of Q.1.1.2 Q.1.2 Q.2) p qO qO qO).mono (fun _ _ h=>Zec (m0:=m0) (G ▸ R.size) h)) fun T=>?_
 obtain⟨⟨d0,e0⟩,O,i0⟩:=T
 refine xqc 23 [.slice (yL d) n n,.slice (yL d0) n n] 39 (fun x:{x:Nat × List (Mr Qv) // QG n n x.2 (dO Y (fun a b=>Y b a) n)∧m0≤x.1}=>.slice (yL x.1.1) n n) _ (fun w R Q=>(ZnR (yL d) (yL d0) n n n n n q e0 Y (fun a b=>Y b a) _ (QIn.of Q.1.1.1.2 Q.1.1.2 Q.1.2) (QIn.of Q.2.1.1 Q.2.1.2 Q.2.2) p O qO qO qO qO (fun a b ha hb=>uC (U a b ha hb) qD) (fun a b ha hb=>uC (U b a hb ha) qD)).mono (fun _ _ h=>Zec (m0:=m0) (G ▸ R.size) h)) fun T=>?_
 obtain⟨⟨V,f0⟩,P,j0⟩:=T
 refine xq 1 [eS1 6 (yL V) n n] [] ?_
 refine yZ (zG ?_)
 refine yR (.slice (yL V) n n) fun w' R Q=>?_
 exact⟨(V,f0,dO Y (fun a b=>Y b a) n),⟨P,ZrS U hn⟩,rfl,R,Q.1.1.1.1.1,⟨⟨G ▸ Q.2.1.1,G ▸ Q.2.1.2⟩,Q.2.2⟩⟩
end Go.Proofs.YtenchljfmfgeoaaGreatDoor
namespace Go.Proofs.YtenchljfmfgeoaaGreatDoor
section
variable {n c i j k:Nat} {Z:Nat→Nat→Int}
theorem Zr7 (h:∀ a b,a<n→b<c→(Z a b).natAbs≤1000000000):∀ f∈(kR n c (fun a b=>cz (Z a b))).map ftW,Gd f:=fun f e=>by
 obtain⟨v,g,rfl⟩:=oS.1 e
 have d:=Zc5 (p:=fun v=>FvOk v∧Bv 100 v) (fun a b l m=>ZpG (z:=Z a b) (vE (h a b l m) qD)) v g
 exact Zr2 d.1 d.2
theorem ZrT:((kR n c (fun a b=>cz (Z a b))).map ftW).length=n*c:=by rw[vH,Zap]
end
end Go.Proofs.YtenchljfmfgeoaaGreatDoor
namespace Go.Proofs.YtenchljfmfgeoaaGreatDoor
open Go.RowKit Tryz
instance {m:Nat} {ts:List ByteArray}:Nonempty {x:Nat × List Qv // x.2.map (·.q)=ts.map (fun t=>valF (bytes t))∧m≤x.1}:=⟨⟨(m,ts.map (fun t=>⟨qv0.c,valF (bytes t)⟩)),by rw[pW];rfl,uH _⟩⟩
theorem SXi.size {N:Nat}{S0:Nat→Prop}{c:World}{s:St}{Φ:World→Prop}{P:Program}{b:Array Oper}{Q:Exit→Act→World→Prop}{i:Nat}(p:Nat→Prop)(e:∀ w,Fr S0 c w→Φ w→p w.heap.size)(K:∀ m1,p m1→SXi P N S0 c b Q i s (fun w=>Φ w∧m1≤w.heap.size)):SXi P N S0 c b Q i s Φ:=fun L a w hi =>
 K w.heap.size (e w hi.mem.ext hi.box.self) L a w ⟨hi.size,hi.df,hi.sl,hi.mem,fun f d=>⟨hi.box f d,d.size⟩⟩
theorem TOld.new {wl:World}{τ:Tap}(h:TOld wl τ):wl.heap.size≤τ.g:=by obtain⟨_,_,_,_,h⟩:=h;exact h
theorem Zq3 (A:qA)(l c:Nat)(zs:List Int)(a w:World)(b:Nat)(f:jF a A zs)(q:zs.length=l)(i:l≤c)(j:Ext a w)(k:b≤w.heap.size) :
 yA 19 #[.slice A l c] w (lQ (fun x:{τ:Tap // TOld a τ∧b≤τ.g}=>.pointer (some ⟨x.1.g,0,none⟩)) (fun x w=>TOk x.1 w) w):=by
 refine (Zqt A l c w i).mono ?_
 rintro e w' ⟨g,rfl,d,Q,m⟩
 refine⟨⟨⟨g,A,min l 400,c⟩,⟨zs.take 400,f.take 400,by rw[uP];show min 400 zs.length=min l 400;omega,by show min l 400≤1000000;omega,uC j.size d⟩,uC k d⟩,rfl,Q,fun S n o p=>?_⟩
 exact TOk.fr (τ:=⟨g,A,min l 400,c⟩) ⟨0,vQ _,m⟩ p (fun h=>by have r:g<w.heap.size:=(n _ h).1;omega)
theorem OwnD.boxT {w w':World}{m n c k b:Nat}{e:TypeId}{A:qA}{xs:List Value}(h:OwnD w' w.heap.size e k A c n xs)(_:Fr (fun i=>i=b) w w')(a:m≤w.heap.size):BoxT b w w' (fun v=>OwnD v m e k A c n xs):=fun S d f g=>OwnD.mono (h.fr g (fun i hi j=>by
 have l:=(h.blk hi).1
 have o:=(f i j).1
 omega)) a
instance:Nonempty {v:Nat // (fun v:Nat=>(v:Int)<3) v}:=⟨⟨0,by decide⟩⟩
theorem Zr8 (z:Int){n:Nat}(c:1≤n)(d:n≤4):∃ p:Nat,(IntKind.i64.wrap (z.tmod ((n:Nat):Int)+((n:Nat):Int))).tmod ((n:Nat):Int)=((p:Nat):Int)∧p<n:=by
 have b:(0:Int)<(n:Int):=qO
 have e:=Int.lt_tmod_of_pos z b
 have f:=Int.tmod_lt_of_pos z b
 rw[yW (z.tmod (n:Int)+(n:Int)) (z.tmod (n:Int)+(n:Int)) qO]
 have g:=Int.tmod_nonneg (a:=z.tmod (n:Int)+(n:Int)) (n:Int) qO
 have h:=Int.tmod_lt_of_pos (z.tmod (n:Int)+(n:Int)) b
 exact⟨((z.tmod (n:Int)+(n:Int)).tmod (n:Int)).toNat,qO,qO⟩
theorem ZrU {n c:Nat}{Z:Nat→Nat→Int}(h:∀ a b,a<n→b<c→(Z a b).natAbs≤1000000000):((kR n c (fun a b=>cz (Z a b))).map ftW).map ldV=kR n c (fun a b=>cz (Z a b)):=by
 rw[Zc6,Zc6]
 unfold kR
 exact ZaF fun a d=>List.map_congr_left fun b e=>Zr6 (vE (h a b (sP.1 d) (sP.1 e)) qD)
theorem MrOk.boxT {α:Type}{e:TypeId}{k m b:Nat}{enc:α→List Value}{w w':World}{ys:List (Mr α)}(h:MrOk e k enc w.heap.size w' ys)(d:Fr (fun i=>i=b) w w')(f:m≤w.heap.size):BoxT b w w' (fun v=>MrOk e k enc m v ys):=fun S a g c=>⟨fun y j=>(h.own y j).boxT d f S a g c,h.dif⟩
theorem QMs.boxT {n m b g:Nat}{w w':World}{ys:List (Mr Qv)}(h:(OwnD w' w.heap.size 61 1 (some ⟨g,0,none⟩) n n (ys.flatMap mrC)∧MrOk 59 4 qvC w.heap.size w' ys)∧QMs w' ys)(a:Fr (fun i=>i=b) w w')(d:m≤w.heap.size) :
 BoxT b w w' (fun v=>(OwnD v m 61 1 (some ⟨g,0,none⟩) n n (ys.flatMap mrC)∧MrOk 59 4 qvC m v ys)∧QMs v ys) :=
 ((OwnD.boxT h.1.1 a d).and (MrOk.boxT h.1.2 a d)).and (fun S e f c=>h.2.nrb (fun i hi=>by
  obtain⟨p,j,t,k,l,o⟩:=f i hi
  exact⟨t,k,l.fr a j,o⟩) c)
instance {n:Nat}:Nonempty {x:Nat × List (Mr Qv)×(Nat→Nat→Int) // (fun x:Nat × List (Mr Qv)×(Nat→Nat→Int)=>QG n n x.2.1 x.2.2∧∀ a b,a<n→b<n→(x.2.2 a b).natAbs≤16) x}:=by
 obtain⟨⟨⟨_,ys⟩,h,_⟩⟩:=(inferInstance:Nonempty {x:Nat × List (Mr Qv) // QG n n x.2 (fun _ _=>0)∧0≤x.1})
 exact⟨⟨(0,ys,fun _ _=>0),h,fun a b _ _=>by show (0:Int).natAbs≤16;decide⟩⟩
theorem Zdk (A:qA)(l c:Nat)(zs:List Int)(D:Int)(G:World)(hg:Glob G)(hz:zs.length=l)(hI:jF G A zs)(n0:l≤c) :
 yA 7 #[.slice A l c,.int .i64 D] G (RetV G (.bool true)):=by
 refine zQ (Φ:=fun w=>True) func7 rfl qK (fun w' hf=>trivial) ?_
 refine yY (xq 1 [yB 4 false] [] ?_)
 refine yZ (yY (xq 1 [eS1 14 A l c] [] ?_))
 refine xqc 19 [.slice A l c] 15 (fun x:{τ:Tap // TOld G τ∧0≤τ.g}=>.pointer (some ⟨x.1.g,0,none⟩)) _ (fun w R Q=>(Zq3 A l c zs G _ 0 hI hz n0 R (vQ _)).mono (fun _ _ h=>h)) fun⟨τ,V,_⟩=>?_
 refine SXi.size (fun u=>τ.g<u) (fun w R Q=>TOk.lt Q.2) fun u E=>?_
 have o0:=E
 have p0:G.heap.size≤u:=uC (TOld.new V) (rW E)
 refine xr 1 [yJ 1 D,yB 4 false,(5,.v (.pointer (some ⟨τ.g,0,none⟩)))] [] ?_
 refine yZ (yY (xq 1 [(16,.v (.pointer (some ⟨τ.g,0,none⟩)))] [] ?_))
 refine cU (b:=τ.g) (d:=17) (j:=0) (c:=.slice τ.A τ.l τ.c) 20 [.pointer (some ⟨τ.g,0,none⟩), yI 4] (fun x:{x:Nat // (fun v:Nat=>(v:Int)<4) x}=>(fun v=>yI (v:Int)) x.1) (fun w=>u≤w.heap.size) (fun x w=>TOk τ w∧(fun _ _=>True) x.1 w) (fun w Q=>TOk.cell Q.1.2) (Or.inl (TOld.new V)) (fun w R Q=>(Zea τ G 4 _ V R Q.1.2 qD qD).mono (fun _ _ h=>Zd9 h (fun x B h=>fun _ _ _ _=>trivial))) (fun w w2 R Q B=>uC Q.2 B.size) fun⟨W,s0⟩=>?_
 obtain⟨n,u0⟩:∃ n,n=W+1:=⟨_,rfl⟩
 have a0:1≤n:=qO
 have X:n≤4:=qO
 refine xr 1 [yJ 1 D,yB 4 false,(5,.v (.pointer (some ⟨τ.g,0,none⟩))),yJ 18 (IntKind.i64.wrap (1+(W:Int)))] [] ?_
 rw[(show IntKind.i64.wrap (1+(W:Int))=(n:Int) by rw[IntKind.wrap_i64];omega)]
 refine xq 1 [yJ 6 (n:Int)] [] ?_
 refine yZ (yY (xq 3 [(19,.v (.pointer (some ⟨τ.g,0,none⟩))),yJ 20 (n:Int),yJ 21 (n:Int)] [] ?_))
 refine cU (b:=τ.g) (d:=22) (j:=0) (c:=.slice τ.A τ.l τ.c) 31 [.pointer (some ⟨τ.g,0,none⟩), yI (n:Int), yI (n:Int)] (fun x:{x:Nat × List (Mr Qv)×(Nat→Nat→Int) // (fun x:Nat × List (Mr Qv)×(Nat→Nat→Int)=>QG n n x.2.1 x.2.2∧∀ a b,a<n→b<n→(x.2.2 a b).natAbs≤16) x}=>(fun x=>.slice (yL x.1) n n) x.1) (fun w=>u≤w.heap.size) (fun x w=>TOk τ w∧(fun x w=>(OwnD w u 61 1 (yL x.1) n n (x.2.1.flatMap mrC)∧MrOk 59 4 qvC u w x.2.1)∧QMs w x.2.1) x.1 w) (fun w Q=>TOk.cell Q.2.1) (Or.inl (TOld.new V)) (fun w R Q=>(ZhQ τ G _ V R Q.2.1 n a0 X).mono (fun _ _ h=>Zd9 h (fun x B h=>QMs.boxT h B Q.1))) (fun w w2 R Q B=>uC Q.1 B.size) fun xx=>?_
 obtain⟨⟨H,U,Y⟩,s,b0⟩:=xx
 dsimp only at s b0
 refine xr 1 [yJ 1 D,yB 4 false,(5,.v (.pointer (some ⟨τ.g,0,none⟩))),yJ 6 (n:Int),eS1 7 (yL H) n n] [] ?_
 refine yZ (zC ?_)
 obtain⟨p,hp,q⟩:=Zr8 D a0 X
 refine zB (xq 2 [yJ 23 D,yJ 24 (n:Int)] [] ?_)
 refine xqk 25 (yI (D.tmod (n:Int))) (fun w R Q=>Zew (t:=3) (k:=3) (x:=.tmp 23) (y:=.tmp 24) qO) ?_
 refine xq 3 [(27,.v (yI (IntKind.i64.wrap ((D.tmod (n:Int))+(n:Int))))),yJ 28 (n:Int)] [] ?_
 refine xqk 29 (yI (p:Int)) (fun w R Q=>by rw[←hp];exact Zew (t:=3) (k:=3) (x:=.tmp 27) (y:=.tmp 28) qO) ?_
 refine xq 1 [yJ 1 (p:Int)] [] ?_
 refine yZ (zC ?_)
 refine yO 10 zO ?_
 refine xqg 2 [eS1 30 (yL H) n n,yJ 31 (p:Int)] ?_
 refine xqj 32 (atA (yL H) (p*1)) (fun w Q=>xQ (t:=33) (e:=61) (sz:=1) (x:=.tmp 30) (ix:=.tmp 31) (len:=n) (cap:=n) (i:=p) qS q) ?_
 obtain⟨m,o⟩:∃ x,U[p]! = x:=⟨_,rfl⟩
 refine xqj 33 (.slice m.A n m.cap) (fun w Q=>cW (t:=61) (x:=.tmp 32) (j:=p) Q.2.2.1.1 s q o) ?_
 refine xqg 2 [yJ 34 (p:Int),(35,.v (.pointer (some ⟨τ.g,0,none⟩)))] ?_
 refine Zjc 36 (b:=τ.g) (j:=0) (c:=.slice τ.A τ.l τ.c) 20 [.pointer (some ⟨τ.g,0,none⟩), yI 3] (fun x:{x:Nat // (fun v:Nat=>(v:Int)<3) x}=>(fun v=>yI (v:Int)) x.1) (fun w=>(((u≤w.heap.size∧OwnD w u 61 1 (yL H) n n (U.flatMap mrC))∧MrOk 59 4 qvC u w U)∧QMs w U)) (fun x w=>TOk τ w∧(fun _ _=>True) x.1 w) (fun w Q=>TOk.cell Q.2.1) (Or.inl (TOld.new V)) (fun w R Q=>(Zea τ G 3 _ V R Q.2.1 qD qD).mono (fun _ _ h=>Zd9 h (fun x B h=>fun _ _ _ _=>trivial))) (fun w w2 R Q B=>⟨⟨⟨uC Q.1 B.size,OwnD.tape Q.2.2.1.1 B E⟩,MrOk.tape Q.2.2.1.2 B E⟩,QMs.tape Q.2.2.2 Q.2.1 B⟩) (fun x w Q=>⟨Q.1.1.1.1,⟨Q.2.1,⟨⟨Q.1.1.1.2,Q.1.1.2⟩,Q.1.2⟩⟩⟩) fun⟨C,t0⟩=>?_
 refine xf 0 [yB 4 false,eS1 7 (yL H) n n,eS1 33 m.A n m.cap,yJ 34 (p:Int),yJ 36 (C:Int)] [] ?_
 refine xqd 33 [yI (C:Int)] 37 iO _ (fun w R Q=>yM gY (ZnQ (C:Int) _ qO qO)) fun⟨c0,d0,e0,f0,t13,g0,h0,i0⟩=>?_
 refine xqd 32 [vR4 c0 d0 e0 f0 t13 g0 h0 i0] 38 iO _ (fun w R Q=>((show Calls _ _ _ _ (jE _ (((-(C:Int)):Int):Rat)) by rw[Rat.intCast_neg];exact Znh _ _ _ Q.2)).mono (fun _ _=>gY)) fun⟨I,J,K,L,M,N,O,P⟩=>?_
 refine xqj 39 (atA m.A (p*4)) (fun w Q=>xQ (t:=61) (e:=59) (sz:=4) (x:=.tmp 33) (ix:=.tmp 34) (len:=n) (cap:=m.cap) (i:=p) (OwnD.ne (show OwnD _ u 59 4 m.A m.cap m.xs.length (m.xs.flatMap qvC) by rw[←o];exact MrOk.at Q.2.2.1.2 (s.1.symm ▸ q)) (QG.cl s q o q)) q) ?_
 refine xz ?_
 refine Zey (t:=59) (x:=.tmp 39) (y:=.tmp 38) (e:=59) (k:=4) (enc:=qvC) (a:=p) (j:=p) (ys:=U) (r:=m) u (⟨(I,J,K,L,M,N,O,P),((-(C:Int):Int):Rat)⟩:Qv) (.agg #[.bool I,.slice J K L,.bool M,.slice N O P]) (fun w=>(((((u≤w.heap.size∧OwnD w u 61 1 (yL H) n n (U.flatMap mrC))∧QMs w U)∧TOk τ w)∧zU w (.agg #[.bool c0,.slice d0 e0 f0,.bool t13,.slice g0 h0 i0]) ((((C:Int):Int):Rat)))∧zU w (.agg #[.bool I,.slice J K L,.bool M,.slice N O P]) (((-(C:Int):Int):Rat)))) iB qD (fun w Q=>Q.1.1.1.1.2) (s.1.symm ▸ q) o (QG.cl s q o q) (fun _ h=>Or.inl (uC p0 h)) (by simp[qvC,Value.oneCell']) (Zeb _) rfl (fun w w' Q B=>⟨⟨⟨⟨⟨uC Q.1.1.1.1.1.1 B.size,OwnD.apart Q.1.1.1.1.1.2 (show OwnD _ u 59 4 m.A m.cap m.xs.length (m.xs.flatMap qvC) by rw[←o];exact MrOk.at Q.1.1.1.1.2 (s.1.symm ▸ q)) qD B⟩,QMs.row Q.1.1.1.2 (show OwnD _ u 59 4 m.A m.cap m.xs.length (m.xs.flatMap qvC) by rw[←o];exact MrOk.at Q.1.1.1.1.2 (s.1.symm ▸ q)) B⟩,TOk.row Q.1.1.2.1 (show OwnD _ u 59 4 m.A m.cap m.xs.length (m.xs.flatMap qvC) by rw[←o];exact MrOk.at Q.1.1.1.1.2 (s.1.symm ▸ q)) o0 B⟩,zU.rowUp Q.1.2 (show OwnD _ u 59 4 m.A m.cap m.xs.length (m.xs.flatMap qvC) by rw[←o];exact MrOk.at Q.1.1.1.1.2 (s.1.symm ▸ q)) B⟩,zU.rowUp Q.2 (show OwnD _ u 59 4 m.A m.cap m.xs.length (m.xs.flatMap qvC) by rw[←o];exact MrOk.at Q.1.1.1.1.2 (s.1.symm ▸ q)) B⟩) ?_
 obtain⟨Z,hZ⟩:∃ Z,Z=updZ Y p p (-(C:Int)):=⟨_,rfl⟩
 obtain⟨rs,S⟩:∃ l,l=(U.set p ⟨m.A,m.cap,m.xs.set p (⟨(I,J,K,L,M,N,O,P),((-(C:Int):Int):Rat)⟩:Qv)⟩):=⟨_,rfl⟩
 have q0:QG n n rs Z:=by rw[S,hZ];exact QG.set s q o rfl
 have F:∀ a b,a<n→b<n→(Z a b).natAbs≤1000000000:=by rw[hZ];exact Zn6 (fun a b ha hb=>uC (b0 a b ha hb) qD) qO
 have r0:Z p p≤0:=by rw[hZ];unfold updZ;rw[uQ ⟨rfl,rfl⟩];omega
 refine xr 0 [yB 4 false,eS1 7 (yL H) n n] [] ?_
 refine yZ (yY (xq 1 [eS1 41 (yL H) n n] [] ?_))
 refine xqc 16 [.slice (yL H) n n] 42 (fun x:Option Addr×Nat=>.agg #[yI (n:Int), yI (n:Int),.slice x.1 (n*n) x.2]) _ (fun w R Q=>(ZnX u H n n rs Z _ (by rw[S,aC (s.1.symm ▸ q) o (tA ..)];exact Q.1.1.1.1.1.2) (by rw[S];exact Q.2) (by rw[S];exact QMs.set Q.1.1.1.1.2 (s.1.symm ▸ q) o Q.1.2) q0 qO qO qO qO F).mono (fun _ _ h=>ZqU (m0:=u) Q.1.1.1.1.1.1 h)) fun⟨A9,c9⟩=>?_
 obtain⟨z,T⟩:∃ l,l=(kR n n (fun a b=>cz (Z a b))).map ftW:=⟨_,rfl⟩
 have j0:z.length=n*n:=by rw[T];exact ZrT
 have k0:∀ f∈z,Gd f:=by rw[T];exact Zr7 F
 have l0:SgJ 64 (z.map ldV) n n 0 (List.replicate (n*n) (false,0,0)):=by rw[T,ZrU F];exact ZrR X q F r0
 refine xqc 10 [.agg #[yI (n:Int), yI (n:Int),.slice A9 (n*n) c9], yI 64] 43 (fun b:{b:Nat // u≤b}=>.tuple #[.agg #[yI (n:Int), yI (n:Int),.slice (yL b.1) z.length z.length], yI 0]) _ (fun w R Q=>((show Calls _ _ _ _ (ZaD (fun v=>.tuple #[v, yI 0]) n n z _) by rw[T];exact Zl9 u n n A9 c9 Z _ (hg.ext R) Q.2 qO qO qO qO F)).mono (fun _ _ h=>ZaR (sh:=fun v=>.tuple #[v, yI 0]) (m0:=u) Q.1.1.1.1.1.1.1 h)) fun⟨ou,v0⟩=>?_
 refine xq 6 [(8,.p 8 0),yJ 9 0] [(8,29,[.v (yI (n:Int)),.v (yI (n:Int)),.v (.slice (yL ou) z.length z.length)])] ?_
 refine yZ (yY (xq 1 [(47,.v (.agg #[yI (n:Int), yI (n:Int),.slice (yL ou) z.length z.length]))] [] ?_))
 refine xqc 34 [.agg #[yI (n:Int), yI (n:Int),.slice (yL ou) z.length z.length], yI 64] 48 (fun _:Unit=>.tuple #[.agg #[yI 0, yI 0,.slice none 0 0], yI 7]) _ (fun w R Q=>yN ((show Calls _ _ _ _ (RetV _ (.tuple #[.agg #[yI 0, yI 0,.slice none 0 0], yI 7])) from Zpo u n (yL ou) z.length z 64 _ (hg.ext R) Q.2 (ZnT (r:=n) (c:=n) ⟨qO,qO⟩ ⟨qO,qO⟩ j0 k0) qD qD l0))) fun xx=>?_
 refine xq 6 [(10,.p 10 0),yJ 11 7] [(10,29,[.v (yI 0),.v (yI 0),.v (.slice none 0 0)])] ?_
 refine yZ (yY (xq 1 [(52,.v (.agg #[yI (n:Int), yI (n:Int),.slice (yL ou) z.length z.length]))] [] ?_))
 refine xqc 35 [.agg #[yI (n:Int), yI (n:Int),.slice (yL ou) z.length z.length], yI 64] 53 (fun _:Unit=>.tuple #[.agg #[yI 0, yI 0,.slice none 0 0], yI 7]) _ (fun w R Q=>yN ((show Calls _ _ _ _ (RetV _ (.tuple #[.agg #[yI 0, yI 0,.slice none 0 0], yI 7])) from Zq2 u n (yL ou) z.length z 64 _ (hg.ext R) Q.1.2 (ZnT (r:=n) (c:=n) ⟨qO,qO⟩ ⟨qO,qO⟩ j0 k0) qD qD l0))) fun xx=>?_
 refine xq 6 [(12,.p 12 0),yJ 13 7] [(12,29,[.v (yI 0),.v (yI 0),.v (.slice none 0 0)])] ?_
 refine yZ (zC (zB ?_))
 refine xqc 9 [] 56 (fun _:Unit=>.bool true) _ (fun w R Q=>yN (Zj8 _ (hg.ext R))) fun xx=>?_
 refine xq 15 [yB 69 true,(70,.v (.agg #[yI 0, yI 0,.slice none 0 0])),(71,.v (.agg #[yI 0, yI 0,.slice none 0 0]))] [] ?_
 refine xqc 12 [.agg #[yI 0, yI 0,.slice none 0 0],.agg #[yI 0, yI 0,.slice none 0 0]] 72 (fun _:Unit=>.bool true) _ (fun w R Q=>yN (Zhx _)) fun xx=>?_
 refine xq 4 [yB 74 true,(75,.v (.agg #[yI 0, yI 0,.slice none 0 0])),(76,.v (.agg #[yI 0, yI 0,.slice none 0 0]))] [] ?_
 refine xqc 12 [.agg #[yI 0, yI 0,.slice none 0 0],.agg #[yI 0, yI 0,.slice none 0 0]] 77 (fun _:Unit=>.bool true) _ (fun w R Q=>yN (Zhx _)) fun xx=>?_
 refine xq 2 [yB 4 true] [] ?_
 refine yZ (zG ?_)
 refine yR (.bool true) fun w' R Q=>?_
 exact⟨rfl,R⟩
end Go.Proofs.YtenchljfmfgeoaaGreatDoor
