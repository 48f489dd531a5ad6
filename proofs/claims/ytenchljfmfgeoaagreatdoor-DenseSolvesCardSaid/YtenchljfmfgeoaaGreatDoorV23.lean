/-
 My texts.
-/
import Derived.Test.YtenchljfmfgeoaaGreatDoorV22
import Derived.Deep.Onto
set_option maxRecDepth 100000
set_option maxHeartbeats 8000000
namespace Go.Proofs.YtenchljfmfgeoaaGreatDoor
open Go.RowKit Tryz
theorem Zl7 (p q:Nat)(w:World) :
 CallsD prog 128 #[.pointer (some ⟨p,0,none⟩),.pointer (some ⟨q,0,none⟩)] .returning w fun e c w'=>e=.returned (.tuple #[])∧c=.returning∧Ext w w':=by
 refine callsD_of_wpS func128 rfl fun d f b=>?_
 apply wpS_seq
 apply wpS_region
 simp[wpOpsS,go_sem,recoverD,b,ntmps128,Exit.thenS]
 refine wpS_of_wp ?_
 rw[show (#[Value.pointer (yL p),.pointer (yL q)] ++ ((Array.replicate 15 undef).setIfInBounds 4 .nilIface).setIfInBounds 0 .nilIface)=#[.pointer (yL p),.pointer (yL q),.nilIface,undef,undef,undef,.nilIface,undef,undef,undef,undef,undef,undef,undef,undef,undef,undef] from rfl]
 refine Zrn (N:=17) (S0:=fun _=>False) (sl:=[(0,.v (.pointer (yL p))),(1,.v (.pointer (yL q))),(2,.v .nilIface)]) (Φ:=fun w=>True) rfl rfl (fun w' g=>trivial) ?_
 refine yY (xr 2 [(0,.v (.pointer (yL p))),(1,.v (.pointer (yL q))),(2,.v .nilIface),yB 8 false] [] ?_)
 refine yZ (xb (zI (fun L a w' hi=>?_)))
 exact⟨hi.df,_,rfl,.tuple #[],by simp[results,Tryz.results128],rfl,b,hi.mem.ext⟩
theorem ZrR {fn:Func}{a:Array Value}{w:World}{p q:Nat}{T:TypeId}{zs:List Value}{e:Int}(k:fn.results=#[ResultVar.cell 2 T,ResultVar.cell 3 30])(l:a[2]? = some (.pointer (some ⟨p,0,none⟩)))(m:a[3]? = some (.pointer (some ⟨q,0,none⟩)))(n:Blk T w p zs.toArray)(o:Blk 30 w q #[.int .i64 e])(r:(teOf prog T).map (fun e=>(e.agg,e.size))=some (true,zs.length)):(results fn a).run prog w=.ok (.tuple #[.agg zs.toArray,.int .i64 e]) w:=by
 obtain⟨u,b,s⟩:=vQ.1 r
 injection s with ha hn
 have Q:(teOf prog 30).map (fun e=>e.agg)=some false:=qK
 obtain⟨v,d,f⟩:=vQ.1 Q
 have h:=bW (P:=prog) (w:=w) b (g:=p) (off:=0) (cs:=zs) hn.symm (fun j t=>by rw[vY,n.cell];simp[t]) ha
 have i:=ZbS (P:=prog) (w:=w) d (g:=q) (off:=0) (c:=.int .i64 e) (by rw[o.cell];rfl) f
 simp only[Instr.loadAt,Instr.sureAddr,Sem.run_bind,Sem.run_pure,Result.andThen_ok] at h i
 rw[ZfN,k,Array.mapM_eq_mapM_toList]
 simp[Zca,l,m,asAddr,h,i,Result.andThen_ok]
theorem Zg2 (f:FuncId)(cap:Array Value)(r c:Nat)(E:List Fv3)(w:World)(R:∀ w,(callFunc f cap).run prog w=.ok (.enter f cap) w)(U:∀ w1,Ext w w1→yA f cap w1 (dE (fun v=>v) r c E w1)) :
 yA 78 #[.func (.func f) #[] cap] w (dE (fun v=>.tuple #[v,.int .i64 0]) r c E w):=by
 have V:∀ (F:Fn) (g cap:Array Value) (w:World),(Instr.makeFunc F g cap).run prog w=.ok (.func F g cap) w:=fun _ _ _ _=>rfl
 go_enter_defers func78,ntmps78
 go_wp2_with fail
 generalize o:World.alloc (World.alloc w _) _=wb
 obtain⟨G,H,Q⟩:=Zcb o
 have I:=zh G
 have J:=zh H
 have K:=zh Q
 clear G H Q o
 refine (U _ K.out).mono ?_
 rintro e k ⟨b,d,rfl,L,M,N,m⟩
 have a:=zh (Blk.ext I.out m)
 have n:=zh (Blk.ext J.out m)
 have O:=zh M
 have W:=zh N
 have X:=zh L
 have s:=zh m
 have Y:k.cell? ⟨w.heap.size,0,none⟩=some (.int .i64 0):=by rw[Blk.cell a.out];rfl
 have Z:k.cell? ⟨w.heap.size,1,none⟩=some (.int .i64 0):=by rw[Blk.cell a.out];rfl
 have a0:k.cell? ⟨w.heap.size,2,none⟩=some (.slice none 0 0):=by rw[Blk.cell a.out];rfl
 have b0:=Blk.frozen a.out 0
 have c0:=Blk.frozen a.out 1
 have d0:=Blk.frozen a.out 2
 have e0:k.cell? ⟨w.heap.size+1,0,none⟩=some (.int .i64 0):=by rw[Blk.cell n.out];rfl
 have f0:=Blk.frozen n.out 0
 clear L M N m
 go_wp2_with fail
 have hp:w.heap.size<wb.heap.size:=Blk.lt I.out
 have hq:w.heap.size+1<wb.heap.size:=Blk.lt J.out
 have x:Hid (Blk 97 (((k.setCell ⟨w.heap.size,0,none⟩ (.int .i64 (r:Int))).setCell ⟨w.heap.size,1,none⟩ (.int .i64 (c:Int))).setCell ⟨w.heap.size,2,none⟩ (.slice (some ⟨b,0,none⟩) d.length d.length)) w.heap.size #[.int .i64 (r:Int),.int .i64 (c:Int),.slice (some ⟨b,0,none⟩) d.length d.length]):=zh (Blk.set_ (Blk.set_ (Blk.set_ a.out 0 (.int .i64 (r:Int))) 1 (.int .i64 (c:Int))) 2 (.slice (some ⟨b,0,none⟩) d.length d.length))
 have t:Hid (Fr (fun i=>i=w.heap.size) k (((k.setCell ⟨w.heap.size,0,none⟩ (.int .i64 (r:Int))).setCell ⟨w.heap.size,1,none⟩ (.int .i64 (c:Int))).setCell ⟨w.heap.size,2,none⟩ (.slice (some ⟨b,0,none⟩) d.length d.length))):=zh (Fr.setCell (S:=fun i=>i=w.heap.size) (p:=⟨w.heap.size,2,none⟩) (Fr.setCell (S:=fun i=>i=w.heap.size) (p:=⟨w.heap.size,1,none⟩) (Fr.setCell (S:=fun i=>i=w.heap.size) (p:=⟨w.heap.size,0,none⟩) (Fr.refl _ _) (Or.inl rfl) _) (Or.inl rfl) _) (Or.inl rfl) _)
 generalize ((k.setCell ⟨w.heap.size,0,none⟩ (.int .i64 (r:Int))).setCell ⟨w.heap.size,1,none⟩ (.int .i64 (c:Int))).setCell ⟨w.heap.size,2,none⟩ (.slice (some ⟨b,0,none⟩) d.length d.length)=w3 at *
 have y:=zh (Blk.fr n.out t.out (fun h=>by have h:w.heap.size+1=w.heap.size:=h;omega))
 have z:Hid (Blk 30 (w3.setCell ⟨w.heap.size+1,0,none⟩ (.int .i64 0)) (w.heap.size+1) #[.int .i64 0]):=zh (Blk.set_ y.out 0 (.int .i64 0))
 have u:Hid (Fr (fun i=>i=w.heap.size+1) w3 (w3.setCell ⟨w.heap.size+1,0,none⟩ (.int .i64 0))):=zh (Fr.setCell (S:=fun i=>i=w.heap.size+1) (p:=⟨w.heap.size+1,0,none⟩) (Fr.refl _ _) (Or.inl rfl) _)
 generalize w3.setCell ⟨w.heap.size+1,0,none⟩ (.int .i64 0)=w4 at *
 have A:=zh (Blk.fr x.out u.out (fun h=>by have h:w.heap.size=w.heap.size+1:=h;omega))
 have B:Hid (Fr (fun i=>i=w.heap.size∨i=w.heap.size+1) k w4):=zh ((t.out.mono (fun _ _ h=>Or.inl h)).trans (u.out.mono (fun _ _ h=>Or.inr h)))
 refine leaves_cons (f:=128) (args:=#[.pointer (some ⟨w.heap.size,0,none⟩),.pointer (some ⟨w.heap.size+1,0,none⟩)]) qS (by simp[go_sem]) ?_
 refine (Zl7 _ _ _).mono ?_
 rintro e u' w7 ⟨rfl,rfl,j⟩
 have P:wb.heap.size≤k.heap.size:=s.out.size
 have hW:Ext w w7:=((K.out.trans s.out).next B.out (fun i hi h=>by rcases h with h|h<;>omega)).trans j
 have C:=OwnD.ext (O.out.fr B.out (fun i hi h=>by have:=(O.out.blk hi).1;rcases h with h|h<;>omega)) j
 have D:=(W.out.nrb (fun i h=>by
  rcases h with h|h
  ·rw[h];exact⟨_,_,a.out,iO.list (l:=[.int .i64 0,.int .i64 0,.slice none 0 0]) qS⟩
  rw[h];exact⟨_,_,n.out,iO.list (l:=[.int .i64 0]) qS⟩) B.out).ext j
 exact⟨_,ZrR (p:=w.heap.size) (q:=w.heap.size+1) (T:=97) (zs:=[.int .i64 (r:Int),.int .i64 (c:Int),.slice (some ⟨b,0,none⟩) d.length d.length]) Tryz.results78 rfl rfl (A.out.ext j) (z.out.ext j) qK,b,d,rfl,X.out,OwnD.mono C qO,D,hW⟩
theorem aP {sh:Value→Value}{r c m0:Nat}{a:List Fv3}{w w':World}{e:Ending}(d:m0≤w.heap.size)(h:dE sh r c a w e w') :
 lR (fun x:{x:Nat × List Nb // x.2.map nbV=a∧m0≤x.1}=>sh (.agg #[.int .i64 ((r:Nat):Int),.int .i64 ((c:Nat):Int),.slice (some ⟨x.1.1,0,none⟩) x.1.2.length x.1.2.length])) (fun x w=>OwnD w m0 109 3 (some ⟨x.1.1,0,none⟩) x.1.2.length x.1.2.length (x.1.2.flatMap nbC)∧xD w x.1.2) w e w':=by
 obtain⟨b,g,rfl,i,f,j,Q⟩:=h
 exact⟨⟨(b,g),i,uB d (f.blk rfl).1⟩,rfl,Q,(f.boxN d).and (boxn Q (fun S k l m=>j.nrb l m))⟩
theorem jX {sh:Value→Value}{r c m0:Nat}{a:List (ByteArray×Int)}{w w':World}{e:Ending}(d:m0≤w.heap.size)(h:iE sh r c a w e w') :
 lR (fun b:{b:Nat // m0≤b}=>sh (.agg #[.int .i64 ((r:Nat):Int),.int .i64 ((c:Nat):Int),.slice (some ⟨b.1,0,none⟩) a.length a.length])) (fun b w=>OwnD w m0 76 2 (some ⟨b.1,0,none⟩) a.length a.length (a.flatMap flC)) w e w':=by
 obtain⟨b,rfl,f,Q⟩:=h
 exact⟨⟨b,uB d (f.blk rfl).1⟩,rfl,Q,f.boxN d⟩
theorem Zo8 (m n:Nat)(A:qA)(cap:Nat)(xs:List Nb)(b:Nat)(i:List Fv3)(w:World)(r:Glob w)(s:OwnD w m 109 3 A cap (n*n) (xs.flatMap nbC))(t:xD w xs)(u:xs.length=n*n)(y:n≤32)(k:8≤b)(l:b≤1024)(o:∀ x∈xs,FvOk (nbV x))(z:ZcZ b (xs.map nbV) n=some i) :
 yA 57 #[.agg #[.int .i64 ((n:Nat):Int),.int .i64 ((n:Nat):Int),.slice A (n*n) cap],.int .i64 ((b:Nat):Int)] w (dE (fun v=>.tuple #[v,.int .i64 0]) n n i w):=by
 obtain⟨m0,j⟩:∃ m,m=w.heap.size:=⟨_,rfl⟩
 refine zQ (Φ:=fun w=>True) func57 rfl qK (fun w' E=>trivial) ?_
 refine yY (xq 4 [(2,.p 2 0),(3,.p 3 0),(4,.p 4 0),yJ 5 0] [(4,97,[.v (yI 0),.v (yI 0),.v (.slice none 0 0)]),(3,3,[.v (yI (b:Int))]),(2,97,[.v (yI (n:Int)),.v (yI (n:Int)),.v (.slice A (n*n) cap)])] ?_)
 refine yZ (zC (yY (xq 5 [yB 10 (((n:Int):Int) != (n:Int))] [] ?_)))
 rw[(show (((n:Int):Int) != (n:Int))=false from eL rfl)]
 refine yZ (xb (zI (zA (zC ?_))))
 refine SXc.freezeN 2 97 [yI (n:Int), yI (n:Int),.slice A (n*n) cap] (fun d=>[(2,.v (.pointer (yL d))),(3,.p 3 0),(4,.p 4 0),yJ 5 0]) [(4,97,[.v (yI 0),.v (yI 0),.v (.slice none 0 0)]),(3,3,[.v (yI (b:Int))])] qK (fun _=>qK) qK qK (fun _=>qK) fun d B=>?_
 refine SXc.freezeN 3 3 [yI (b:Int)] (fun g=>[(2,.v (.pointer (yL d))),(3,.v (.pointer (yL g))),(4,.p 4 0),yJ 5 0]) [(4,97,[.v (yI 0),.v (yI 0),.v (.slice none 0 0)])] qK (fun _=>qK) qK qK (fun _=>qK) fun g C=>?_
 refine zB (xq 1 [(12,.v (.func (.func 95) #[] #[.pointer (yL d),.pointer (yL g)]))] [] ?_)
 refine xqc 78 [.func (.func 95) #[] #[.pointer (yL d),.pointer (yL g)]] 13 (fun x:{x:Nat × List Nb // x.2.map nbV=i∧m0≤x.1}=>.tuple #[.agg #[yI (n:Int), yI (n:Int),.slice (yL x.1.1) x.1.2.length x.1.2.length], yI 0]) _ (fun w R Q=>(Zg2 95 #[.pointer (yL d),.pointer (yL g)] n n i _ (fun _=>rfl) (fun F c=>ZnL m n A cap xs b d g i _ (r.ext (R.trans c)) (Q.1.2.ext c) (Q.2.ext c) (OwnD.ext s (R.trans c)) (xD.ext t (R.trans c)) u y k l o z)).mono (fun _ _ h=>aP (sh:=fun v=>.tuple #[v, yI 0]) (m0:=m0) (j ▸ R.size) h)) fun D=>?_
 obtain⟨⟨e,a⟩,f,q⟩:=D
 refine xq 4 [yJ 5 0] [(4,97,[.v (yI (n:Int)),.v (yI (n:Int)),.v (.slice (yL e) a.length a.length)])] ?_
 refine yZ (zH ?_)
 refine yR (.tuple #[.agg #[yI (n:Int), yI (n:Int),.slice (yL e) a.length a.length], yI 0]) fun w' R Q=>?_
 exact⟨e,a,rfl,f,j ▸ Q.2.1,Q.2.2,R⟩
theorem Zc3 (m r c:Nat)(A:qA)(cap n:Nat)(xs:List Nb)(w:World)(f:OwnD w m 109 3 A cap n (xs.flatMap nbC))(g:xD w xs)(i:xs.length=n)(j:Glob w)(k:n≤4096)(l:∀ x∈xs,wl x.m≤1000000∧(x.s=true→0<x.m)) :
 yA 77 #[.agg #[.int .i64 ((r:Nat):Int),.int .i64 ((c:Nat):Int),.slice A n cap],.int .i64 0] w (iE (fun v=>.tuple #[v,.int .i64 0]) r c (xs.map ftV) w):=by
 obtain⟨m0,d⟩:∃ m,m=w.heap.size:=⟨_,rfl⟩
 refine zQ (Φ:=fun w=>True) func77 rfl qK (fun w' o=>trivial) ?_
 refine yY (xq 3 [(2,.p 2 0),(4,.p 4 0),yJ 5 0] [(4,29,[.v (yI 0),.v (yI 0),.v (.slice none 0 0)]),(2,97,[.v (yI (r:Int)),.v (yI (c:Int)),.v (.slice A n cap)])] ?_)
 refine yZ (zC (yY (xq 2 [yB 7 false] [] ?_)))
 refine yZ (xb (zI (zA (yY (xq 1 [(10,.v (.agg #[yI (r:Int), yI (c:Int),.slice A n cap]))] [] ?_)))))
 refine xqc 127 [.agg #[yI (r:Int), yI (c:Int),.slice A n cap]] 11 (fun b:{b:Nat // m0≤b}=>.agg #[yI (r:Int), yI (c:Int),.slice (yL b.1) (xs.map ftV).length (xs.map ftV).length]) _ (fun w R Q=>(Zkb m r c A cap n xs _ (OwnD.ext f R) (xD.ext g R) i (j.ext R) k l).mono (fun _ _ h=>jX (sh:=fun v=>v) (m0:=m0) (d ▸ R.size) h)) fun⟨a,e⟩=>?_
 refine xq 2 [yJ 5 0] [(4,29,[.v (yI (r:Int)),.v (yI (c:Int)),.v (.slice (yL a) (xs.map ftV).length (xs.map ftV).length)])] ?_
 refine yZ (zH ?_)
 refine yR (.tuple #[.agg #[yI (r:Int), yI (c:Int),.slice (yL a) (xs.map ftV).length (xs.map ftV).length], yI 0]) fun w' R Q=>?_
 exact⟨a,rfl,d ▸ Q.2,R⟩
structure Fm where
 r:Nat
 c:Nat
 A:Option Addr
 cap:Nat
 fs:List (ByteArray×Int)
instance:Inhabited Fm:=⟨⟨0,0,none,0,[]⟩⟩
def fmC (x:Fm):List Value:=[.int .i64 ((x.r:Nat):Int),.int .i64 ((x.c:Nat):Int),.slice x.A x.fs.length x.cap]
theorem Zqy (x:Fm):(fmC x).length=3:=rfl
theorem Zd4 (x:Fm):∀ (k:IntKind) (z:Int),Value.int k z∈fmC x→k=.i64:=fun k z h=>by
 simp[fmC] at h;rcases h with h|h<;>exact h.1
structure Mx where
 r:Nat
 c:Nat
 A:Option Addr
 cap:Nat
 xs:List Nb
def mx0:Mx:=⟨0,0,none,0,[]⟩
instance:Inhabited Mx:=⟨mx0⟩
def mxC (x:Mx):List Value:=[.int .i64 ((x.r:Nat):Int),.int .i64 ((x.c:Nat):Int),.slice x.A x.xs.length x.cap]
theorem aQ (x:Mx):(mxC x).length=3:=rfl
theorem ZnM (x:Mx):∀ (k:IntKind) (z:Int),Value.int k z∈mxC x→k=.i64:=fun k z h=>by
 simp[mxC] at h;rcases h with h|h<;>exact h.1
def fmV (x:Fm):Nat × Nat × List Fv3:=(x.r,x.c,x.fs.map ldV)
def mxV (x:Mx):Nat × Nat × List Fv3:=(x.r,x.c,x.xs.map nbV)
structure FmG (x:Fm):Prop where
 hr:1≤x.r∧x.r≤32
 hc:1≤x.c∧x.c≤32
 hn:x.fs.length=x.r*x.c
 hv:∀ f∈x.fs,fvB (bytes f.1) f.2=true
 hs:∀ f∈x.fs,(bytes f.1).length≤1000
def MsOk (m:Nat) (w:World) (ys:List Mx):Prop:=∀ y∈ys,OwnD w m 109 3 y.A y.cap y.xs.length (y.xs.flatMap nbC)∧xD w y.xs
theorem Blk.same {T c:TypeId}{w:World}{i:Nat}{cs a:Array Value}(h:Blk T w i cs)(d:Blk c w i a):T=c:=by
 have f:w.heap[i]? = some (.cells cs T (0,0)):=h
 have b:w.heap[i]? = some (.cells a c (0,0)):=d
 rw[f] at b
 injection b with b
 injection b with _ e _
theorem OwnD.apart {w w':World}{m g n j c l k o:Nat}{e d:TypeId}{A f:qA}{xs a:List Value}(h:OwnD w m e k A c n xs)(p:OwnD w g d o f l j a)(b:e≠d)(q:Fr (fun i=>f=some ⟨i,0,none⟩) w w'):OwnD w' m e k A c n xs :=
 h.fr q (fun i hi r=>by
  obtain⟨_,_,s,_⟩:=h.blk hi
  obtain⟨_,_,t,_⟩:=p.blk r
  exact b (Blk.same s t))
theorem MsOk.row {m e k c n:Nat}{w w':World}{ys:List Mx}{A:qA}{l:List Value}(h:MsOk m w ys)(a:OwnD w e 97 k A c n l)(b:Fr (fun i=>A=some ⟨i,0,none⟩) w w'):MsOk m w' ys:=fun y d =>
 ⟨(h y d).1.apart a qD b,(h y d).2.row a b⟩
theorem MsOk.snoc {m:Nat}{w:World}{ys:List Mx}{x:Mx}(h:MsOk m w ys)(b:OwnD w m 109 3 x.A x.cap x.xs.length (x.xs.flatMap nbC)∧xD w x.xs):MsOk m w (ys ++ [x]):=fun y a=>by
 rcases tR.1 a with a|a
 ·exact h y a
 rw[rK.1 a];exact b
def ZpC (ls:List Fm) (nl:Nat) (w:World) (e:Ending) (w':World):Prop:=∃ b ms,e=.returned (.tuple #[.slice (some ⟨b,0,none⟩) nl nl,.int .i64 0])∧ms.map mxV=ls.map fmV∧OwnD w' w.heap.size 97 3 (some ⟨b,0,none⟩) nl nl (ms.flatMap mxC)∧MsOk w.heap.size w' ms∧Ext w w'
theorem Zfg (ml C nl:Nat)(ls:List Fm)(b:Nat)(w:World)(K:OwnD w ml 29 3 (some ⟨C,0,none⟩) nl nl (ls.flatMap fmC))(F:ls.length=nl)(X:nl≤2)(G:∀ x∈ls,OwnD w ml 76 2 x.A x.cap x.fs.length (x.fs.flatMap flC))(T:∀ x∈ls,FmG x)(U:8≤b)(V:b≤1024) :
 yA 76 #[.int .i64 ((b:Nat):Int),.slice (some ⟨C,0,none⟩) nl nl] w (ZpC ls nl w):=by
 obtain⟨m0,u⟩:∃ m,m=w.heap.size:=⟨_,rfl⟩
 refine zQ (Φ:=fun w=>True) func76 rfl qK (fun w' Y=>trivial) ?_
 refine yY (xq 2 [eS1 4 none 0 0,yJ 5 0] [] ?_)
 refine yZ (yY (xq 2 [yJ 12 (nl:Int)] [] ?_))
 refine yD (d:=13) (fun J:{b:Nat // m0≤b}=>.slice (yL J.1) nl nl) (fun J w=>OwnD w m0 97 3 (yL J.1) nl nl ((List.replicate nl mx0).flatMap mxC)) (fun w R Q=>fC (t:=123) (e:=97) (kl:=.i64) (kc:=.i64) (l:=.tmp 12) (c:=.tmp 12) (bytes:=40) (z:=.agg #[yI 0, yI 0,.slice none 0 0]) mx0 aQ qD rfl ZnM (u ▸ R.size) (by simp only[maxLen];omega) qO) fun⟨f,L⟩=>?_
 refine xr 1 [yJ 0 (b:Int),eS1 1 (yL C) nl nl,eS1 4 none 0 0,yJ 5 0,eS1 6 (yL f) nl nl] [] ?_
 refine yZ (zC (yY (xq 3 [eS1 14 (yL C) nl nl,yJ 15 (nl:Int),yJ 16 0] [] ?_)))
 refine yZ (zP ?_)
 refine yC [yJ 0 (b:Int),eS1 4 none 0 0,yJ 5 0,eS1 6 (yL f) nl nl,eS1 14 (yL C) nl nl,yJ 15 (nl:Int),yJ 16 ((0:Nat):Int)] [] (fun w=>(MsOk m0 w ([]:List Mx)∧OwnD w m0 97 3 (yL f) nl nl ((fill nl mx0 ([]:List Mx)).flatMap mxC))) (fun w Q=>⟨(fun _ h=>nomatch h),(by rw[ZcX];exact Q.2)⟩) ?_
 refine xU (fun M N O=>∃ (k:Nat) (s:List Mx),N=ofL [yJ 0 (b:Int),eS1 4 none 0 0,yJ 5 0,eS1 6 (yL f) nl nl,eS1 14 (yL C) nl nl,yJ 15 (nl:Int),yJ 16 (k:Int)] []∧O=(fun w=>(MsOk m0 w s∧OwnD w m0 97 3 (yL f) nl nl ((fill nl mx0 s).flatMap mxC)))∧(k≤nl)∧(s.map mxV=(ls.take k).map fmV)∧M=(1+(nl-k))) ((1+(nl-0))) ⟨0,([]:List Mx),rfl,rfl,(vL _),rfl,rfl⟩ ?_
 rintro M N O ⟨k,s,rfl,rfl,Z,I,rfl⟩
 refine yY (xq 1 [yB 17 (decide ((k:Int)<(nl:Int)))] [] ?_)
 refine yZ (zC ?_)
 refine yQ ((decide ((k:Int)<(nl:Int)))) (fun B=>?_) fun B=>?_
 ·have g:k<nl:=by have:=uC B;omega
  have D:s.length=k:=by have:=vI List.length I;rw[uU,uU,uQ] at this;omega
  refine zI (zA (zC (zP (yY (xq 1 [yJ 18 (k:Int)] [] ?_)))))
  refine xqk 19 (atA (yL C) (k*3)) (fun w R Q=>xJ (t:=179) (e:=29) (sz:=3) (x:=.tmp 14) (ix:=.tmp 16) (len:=nl) (cap:=nl) (i:=k) ((OwnD.ext K R).ne g) g) ?_
  obtain⟨x12,q⟩:∃ x,ls[k]! = x:=⟨_,rfl⟩
  refine xqk 20 (.agg #[yI ((x12.r:Nat):Int), yI ((x12.c:Nat):Int),.slice x12.A x12.fs.length x12.cap]) (fun w R Q=>by rw[←q];exact iD (t:=29) (x:=.tmp 19) (j:=k) (OwnD.ext K R) Zqy (F.symm ▸ g)) ?_
  refine xq 3 [yJ 7 (k:Int),(8,.p 8 0)] [(8,29,[.v (yI ((x12.r:Nat):Int)),.v (yI ((x12.c:Nat):Int)),.v (.slice x12.A x12.fs.length x12.cap)])] ?_
  refine yZ (yY (xq 1 [(22,.v (.agg #[yI ((x12.r:Nat):Int), yI ((x12.c:Nat):Int),.slice x12.A x12.fs.length x12.cap]))] [] ?_))
  have n:FmG x12:=by rw[←q];exact T _ (xM (F.symm ▸ g))
  refine xqc 126 [.agg #[yI ((x12.r:Nat):Int), yI ((x12.c:Nat):Int),.slice x12.A x12.fs.length x12.cap]] 23 (fun x:{x:Nat × List Nb // x.2.map nbV=x12.fs.map ldV∧m0≤x.1}=>.tuple #[.agg #[yI ((x12.r:Nat):Int), yI ((x12.c:Nat):Int),.slice (yL x.1.1) x.1.2.length x.1.2.length],.bool true]) _ (fun w R Q=>((show Calls _ _ _ _ (dE (fun v=>.tuple #[v,.bool true]) x12.r x12.c (x12.fs.map ldV) _) from ZnE ml x12.r x12.c x12.A x12.cap x12.fs _ (by rw[←q];exact OwnD.ext (G _ (xM (F.symm ▸ g))) R) n.hr n.hc n.hn n.hv n.hs)).mono (fun _ _ h=>aP (sh:=fun v=>.tuple #[v,.bool true]) (m0:=m0) (u ▸ R.size) h)) fun W=>?_
  obtain⟨⟨o,a⟩,E,P⟩:=W
  refine xq 6 [(9,.p 9 0),yB 10 true] [(9,97,[.v (yI ((x12.r:Nat):Int)),.v (yI ((x12.c:Nat):Int)),.v (.slice (yL o) a.length a.length)])] ?_
  refine yZ (zC (yY (xq 2 [yB 27 false] [] ?_)))
  refine yZ (xb (zI (zA (zB (xq 3 [eS1 28 (yL f) nl nl,yJ 29 (k:Int),(30,.v (.agg #[yI ((x12.r:Nat):Int), yI ((x12.c:Nat):Int),.slice (yL o) a.length a.length]))] [] ?_)))))
  refine xqk 31 (.pointer (some ⟨f,0+k*3,none⟩)) (fun w R Q=>iM (t:=123) (e:=97) (sz:=3) (x:=.tmp 28) (ix:=.tmp 29) (len:=nl) (cap:=nl) (i:=k) g) ?_
  refine dX (t:=97) (x:=.tmp 31) (y:=.tmp 30) (j:=k) (new:=mxC ((⟨x12.r,x12.c,yL o,a.length,a⟩:Mx))) m0 f (.agg #[yI ((x12.r:Nat):Int), yI ((x12.c:Nat):Int),.slice (yL o) a.length a.length]) (fun w=>((MsOk m0 w s∧OwnD w m0 109 3 (yL o) a.length a.length (a.flatMap nbC))∧xD w a)) (fun w Q=>Q.1.2) g rfl qD (fun h=>Or.inl (uB (u ▸ uG _) h)) (by simp[mxC,Value.oneCell']) (ZnM _) rfl (fun w w' Q G=>⟨⟨MsOk.row Q.1.1 Q.1.2 G,OwnD.apart Q.2.1 Q.1.2 qD G⟩,xD.row Q.2.2 Q.1.2 G⟩) ?_
  rw[←iL aQ ((fill nl mx0 s)) k ((⟨x12.r,x12.c,yL o,a.length,a⟩:Mx)) (by rw[ZcV qO];exact g),Zd2 D g]
  refine xr 0 [yJ 0 (b:Int),eS1 4 none 0 0,yJ 5 0,eS1 6 (yL f) nl nl,eS1 14 (yL C) nl nl,yJ 15 (nl:Int),yJ 16 (k:Int)] [] ?_
  refine xe (xS (zA (zB (xq 1 [yJ 32 (IntKind.i64.wrap ((k:Int)+1))] [] ?_))))
  rw[yW ((k:Int)+1) (((k+1:Nat):Int)) qO]
  refine xq 1 [yJ 16 ((k+1:Nat):Int)] [] ?_
  refine xe ?_
  refine yP [yJ 0 (b:Int),eS1 4 none 0 0,yJ 5 0,eS1 6 (yL f) nl nl,eS1 14 (yL C) nl nl,yJ 15 (nl:Int),yJ 16 (((k+1):Nat):Int)] [] (fun w=>(MsOk m0 w (s ++ [(⟨x12.r,x12.c,yL o,a.length,a⟩:Mx)])∧OwnD w m0 97 3 (yL f) nl nl ((fill nl mx0 (s ++ [(⟨x12.r,x12.c,yL o,a.length,a⟩:Mx)])).flatMap mxC))) (fun w Q=>⟨(MsOk.snoc Q.1.1.1 ⟨Q.1.1.2,Q.1.2⟩),Q.2⟩) ?_
  exact xH ((1+(nl-(k+1)))) qO ⟨(k+1),(s ++ [(⟨x12.r,x12.c,yL o,a.length,a⟩:Mx)]),rfl,rfl,g,(Zji I (F.symm ▸ g) (by rw[q];show (_,_,_)=(_,_,_);rw[E])),rfl⟩
 have H:k=nl:=by have:=uD B;omega
 have D:s.length=k:=by have:=vI List.length I;rw[uU,uU,uQ] at this;omega
 refine xO (zG (zG (xW (zA (zC (yY (xq 2 [yB 34 (decide ((b:Int)<8))] [] ?_)))))))
 rw[(show decide ((b:Int)<8)=false from uV qO)]
 refine xq 3 [yB 35 false,yB 37 (decide ((b:Int)>1024))] [] ?_
 rw[(show decide ((b:Int)>1024)=false from uV qO)]
 refine xq 1 [yB 38 false] [] ?_
 refine yZ (xb (zI (zA (yY (xq 3 [eS1 4 (yL f) nl nl,yJ 5 0] [] ?_)))))
 refine yZ (zH ?_)
 refine yR (.tuple #[.slice (yL f) nl nl, yI 0]) fun w' R Q=>?_
 exact⟨f,s,rfl,by rw[I,H,← F,pD],by have h:=Q.2;have S:=D;rw[H] at S;subst S;rw[ZcW] at h;exact u ▸ h,u ▸ Q.1,R⟩
structure Tap where
 g:Nat
 A:Option Addr
 l:Nat
 c:Nat
def TOld (wl:World) (τ:Tap):Prop:=∃ zs,jD wl τ.A zs∧zs.length=τ.l∧τ.l≤1000000∧wl.heap.size≤τ.g
def TOk (τ:Tap) (w:World):Prop:=∃ p,p≤τ.l∧TB w τ.g τ.A τ.l τ.c p
theorem TOk.fr {τ:Tap}{w w':World}{S:Nat→Prop}(h:TOk τ w)(a:Fr S w w')(b:¬ S τ.g):TOk τ w':=by
 obtain⟨p,c,d⟩:=h
 exact⟨p,c,Blk.fr d a b⟩
theorem TOk.ext {τ:Tap}{w w':World}(h:TOk τ w)(a:Ext w w'):TOk τ w':=h.fr a (fun f=>f)
theorem TOk.lt {τ:Tap}{w:World}(h:TOk τ w):τ.g<w.heap.size:=by
 obtain⟨p,b,a⟩:=h
 exact Blk.lt a
theorem TOk.nrb {τ:Tap}{w:World}(h:TOk τ w):NRB w τ.g:=by
 obtain⟨p,b,a⟩:=h
 exact⟨_,_,a,Zrm _ _ _ _⟩
theorem TOk.cell {τ:Tap}{w:World}(h:TOk τ w):w.cell? ⟨τ.g,0,none⟩=some (.slice τ.A τ.l τ.c):=by
 obtain⟨p,b,a⟩:=h
 rw[Blk.cell a];rfl
theorem TOk.boxT {τ:Tap}{w w':World}(h:TOk τ w'):BoxT τ.g w w' (TOk τ):=fun _ _ a b=>h.fr b (fun c=>(a _ c).2.1 rfl)
theorem TOld.old {wl a w:World}{τ:Tap}(h:TOld wl τ)(b:Ext wl a)(Q:Fr (fun i=>i=τ.g) a w):Ext wl w:=by
 obtain⟨_,_,_,_,c⟩:=h
 exact b.next Q (fun i hi e=>by have e:i=τ.g:=e;omega)
def RetT {α:Type} (τ:Tap) (sh:α→Value) (good:α→Prop) (φ:α→World→Prop) (w:World) (e:Ending) (w':World):Prop:=∃ x,good x∧e=.returned (sh x)∧Fr (fun i=>i=τ.g) w w'∧TOk τ w'∧φ x w'
theorem Zd5 {α:Type}{τ:Tap}{sh:α→Value}{a:α→Prop}{φ ψ:α→World→Prop}{w:World}{e:Ending}{w':World}(h:RetT τ sh a φ w e w')(c:∀ x,Fr (fun i=>i=τ.g) w w'→φ x w'→BoxT τ.g w w' (ψ x)) :
 ∃ x:{x:α // a x},e=.returned (sh x.1)∧Fr (fun i=>i=τ.g) w w'∧BoxT τ.g w w' (fun w=>TOk τ w∧ψ x.1 w):=by
 obtain⟨x,d,rfl,b,f,h⟩:=h
 exact⟨⟨x,d⟩,rfl,b,f.boxT.and (c x b h)⟩
theorem ZhK (τ:Tap)(wl:World)(n:Int)(w:World)(j:TOld wl τ)(k:Ext wl w)(m:TOk τ w)(a:0<n)(o:n≤1048576) :
 yA 20 #[.pointer (some ⟨τ.g,0,none⟩),.int .i64 n] w (RetT τ (fun v:Nat=>.int .i64 ((v:Nat):Int)) (fun v=>(v:Int)<n) (fun _ _=>True) w):=by
 obtain⟨q,d,r,s,t⟩:=j
 obtain⟨p,u,x⟩:=m
 refine (ZoX τ.g τ.A τ.l τ.c p q n w x u (jD.next d (k.mono (fun _ _ f=>f.elim):Fr (fun i=>i=τ.g) wl w) (d.apart t)) r s a o).mono ?_
 rintro e w' ⟨v,y,rfl,h,z,b⟩
 exact⟨v,h.1,rfl,z,⟨y,h.2,b⟩,trivial⟩
theorem OwnD.tape {w w':World}{m n c k g:Nat}{e:TypeId}{A:qA}{xs:List Value}(h:OwnD w m e k A c n xs)(a:Fr (fun i=>i=g) w w')(b:g<m):OwnD w' m e k A c n xs :=
 h.fr a (fun i hi e=>by have:=(h.blk hi).1;have e:i=g:=e;omega)
theorem TOk.row {w w':World}{τ:Tap}{m n c k:Nat}{e:TypeId}{A:qA}{xs:List Value}(h:TOk τ w)(a:OwnD w m e k A c n xs)(f:τ.g<m)(b:Fr (fun i=>A=some ⟨i,0,none⟩) w w'):TOk τ w' :=
 h.fr b (fun d=>by have:=(a.blk d).1;omega)
theorem TOk.nrb' {w:World}{τ:Tap}(h:TOk τ w):∀ i,i=τ.g→NRB w i:=fun i hi=>by rw[hi];exact h.nrb
structure Mr (α:Type) where
 A:Option Addr
 cap:Nat
 xs:List α
instance {α:Type}:Inhabited (Mr α):=⟨⟨none,0,[]⟩⟩
def mr0 {α:Type}:Mr α:=⟨none,0,[]⟩
def mrC {α:Type} (x:Mr α):List Value:=[.slice x.A x.xs.length x.cap]
theorem Zck {α:Type}(x:Mr α):(mrC x).length=1:=rfl
theorem ZnN {α:Type}(x:Mr α):∀ (k:IntKind) (z:Int),Value.int k z∈mrC x→k=.i64:=fun k z h=>by simp[mrC] at h
structure MrOk {α:Type} (e:TypeId) (k:Nat) (enc:α→List Value) (m:Nat) (w:World) (ys:List (Mr α)):Prop where
 own:∀ y∈ys,OwnD w m e k y.A y.cap y.xs.length (y.xs.flatMap enc)
 dif:ys.Pairwise (fun a b=>a.A≠b.A)
section
variable {α:Type} {e e':TypeId} {k k' m m' c n:Nat} {enc:α→List Value} {w w':World} {ys:List (Mr α)} {A:Option Addr} {l:List Value}
theorem MrOk.nil:MrOk e k enc m w []:=⟨fun _ h=>(by cases h),List.Pairwise.nil⟩
theorem MrOk.fr {S:Nat→Prop}(h:MrOk e k enc m w ys)(b:Fr S w w')(d:∀ y∈ys,∀ i,y.A=some ⟨i,0,none⟩→¬ S i):MrOk e k enc m w' ys:=⟨fun y a=>(h.own y a).fr b (d y a),h.dif⟩
theorem MrOk.apart (h:MrOk e k enc m w ys)(b:OwnD w m' e' k' A c n l)(a:e≠e')(d:Fr (fun i=>A=some ⟨i,0,none⟩) w w'):MrOk e k enc m w' ys:=⟨fun y f=>(h.own y f).apart b a d,h.dif⟩
theorem MrOk.snoc {x:Mr α}(h:MrOk e k enc m w ys)(f:OwnD w m e k x.A x.cap x.xs.length (x.xs.flatMap enc))(g:∀ y∈ys,y.A≠x.A):MrOk e k enc m w (ys ++ [x]):=by
 refine⟨fun y d=>?_,pA.2 ⟨h.dif,List.pairwise_singleton _ _,fun a i b j=>by rw[rK.1 j];exact g a i⟩⟩
 rcases tR.1 d with d|d
 ·exact h.own y d
 rw[rK.1 d];exact f
theorem MrOk.boxN (h:MrOk e k enc w.heap.size w' ys)(b:m≤w.heap.size):BoxN w w' (fun v=>MrOk e k enc m v ys):=fun S d a f=>⟨fun y g=>(h.own y g).boxN b S d a f,h.dif⟩
theorem MrOk.at (h:MrOk e k enc m w ys){a:Nat}(ha:a<ys.length):OwnD w m e k ys[a]!.A ys[a]!.cap ys[a]!.xs.length (ys[a]!.xs.flatMap enc):=h.own _ (xM ha)
theorem Zqz {a b:Nat}(h:ys.Pairwise (fun a b=>a.A≠b.A))(ha:a<ys.length)(d:b<ys.length)(f:a≠b):ys[a]!.A≠ys[b]!.A:=by
 rw[vP ys a ha,vP ys b d]
 have i:=pZ.1 h
 rcases qI f with g|g
 ·exact i a b ha d g
 exact (i b a d ha g).symm
theorem MrOk.set {a:Nat}{xs:List α}(h:MrOk e k enc m w ys)(ha:a<ys.length)(z:Fr (fun i=>ys[a]!.A=some ⟨i,0,none⟩) w w')(B:xs.length=ys[a]!.xs.length)(C:OwnD w' m e k ys[a]!.A ys[a]!.cap ys[a]!.xs.length (xs.flatMap enc)):MrOk e k enc m w' (ys.set a ⟨ys[a]!.A,ys[a]!.cap,xs⟩):=by
 refine⟨fun y f=>?_,?_⟩
 ·obtain⟨b,g,f⟩:=rO f
  rw[vT] at g
  rw[nC] at f
  by_cases d:a=b
  ·rw[uS d] at f
   subst f
   show OwnD w' m e k ys[a]!.A ys[a]!.cap xs.length _
   rw[B];exact C
  rw[uM d] at f
  subst f
  have j:=Zqz h.dif ha g d
  rw[vP ys b g] at j
  exact (h.own _ (sJ g)).fr z (fun i D E=>j (by rw[D];exact E))
 rw[pZ]
 intro b c g u p
 rw[vT] at g u
 have v:∀ (q:Nat) (r:q<(ys.set a ⟨ys[a]!.A,ys[a]!.cap,xs⟩).length),((ys.set a ⟨ys[a]!.A,ys[a]!.cap,xs⟩)[q]).A=(ys[q]'(by rw[vT] at r;exact r)).A:=fun q r=>by
  rw[nC]
  by_cases d:a=q
  ·subst d;rw[uS rfl];exact show ys[a]!.A=_ from vI Mr.A (vP ys a ha)
  rw[uM d]
 rw[v,v]
 exact pZ.1 h.dif b c g u p
theorem dO {a:Nat}{r:Mr α}{xs:List α}(ha:a<ys.length)(d:ys[a]! = r)(f:xs.length=r.xs.length):(ys.set a ⟨r.A,r.cap,xs⟩).flatMap mrC=ys.flatMap mrC:=by
 subst d
 rw[iL Zck _ _ _ ha]
 have b:=iL Zck ys a ys[a]! ha
 rw[show ys.set a ys[a]! = ys by rw[vP ys a ha];exact List.set_getElem_self ha] at b
 rw[show mrC (⟨ys[a]!.A,ys[a]!.cap,xs⟩:Mr α)=mrC ys[a]! by unfold mrC;rw[f]]
 exact b.symm
end
def RdD {α:Type} [Inhabited α] (e:TypeId) (k:Nat) (enc:α→List Value) (w:World) (A:Option Addr) (xs:List α):Prop:=∀ j i v,j<xs.length→(enc xs[j]!)[i]? = some v→∃ b off cur,A=some ⟨b,off,none⟩∧Blk e w b cur∧cur[off+(j*k+i)]? = some v
section
variable {α:Type} [Inhabited α] {e e':TypeId} {k k' m m' c n:Nat} {enc:α→List Value} {w w':World} {A A':Option Addr} {xs:List α} {l:List Value}
theorem RdD.fr {S:Nat→Prop}(h:RdD e k enc w A xs)(f:Fr S w w')(g:∀ b off cur,A=some ⟨b,off,none⟩→Blk e w b cur→¬ S b):RdD e k enc w' A xs:=fun j i v p q=>by
 obtain⟨b,off,cur,a,d,r⟩:=h j i v p q
 exact⟨b,off,cur,a,d.fr f (g b off cur a d),r⟩
theorem RdD.ext (h:RdD e k enc w A xs)(a:Ext w w'):RdD e k enc w' A xs:=h.fr a (fun _ _ _ _ _ f=>f)
theorem OwnD.rd (h:OwnD w m e k A c n (xs.flatMap enc))(b:∀ x,(enc x).length=k):RdD e k enc w A xs:=fun j i v f hv=>by
 have hi:i<k:=by
  rcases vO i (enc xs[j]!).length with h|h
  ·rwa [b] at h
  rw[vM h] at hv;cases hv
 have h4:=(dW b xs j i f hi).trans hv
 rcases h.2 with ⟨_,_,d⟩|⟨g,a,rfl,d,p,_,_,_,_,q⟩
 ·have:=h.1
  rw[d,tX] at this
  rw[vZ.1 this] at h4
  simp at h4
 refine⟨g,0,a,rfl,p,?_⟩
 rw[←q,oM] at h4
 split at h4
 ·rw[vY];simpa using h4
 cases h4
theorem RdD.ne (h:RdD e k enc w A xs)(a:∀ x,(enc x).length=k)(d:0<k){j:Nat}(f:j<xs.length):A≠none:=by
 obtain⟨b,g,_,i,_⟩:=h j 0 _ f (uN (by rw[a];exact d))
 rw[i];exact Option.some_ne_none _
end
section
variable {P:Program} {o:Oper} {ρ:Operand→Value} {w:World} {t e:TypeId} {x:Operand}
theorem Zcl {α:Type}[Inhabited α]{enc:α→List Value}{A:qA}{k j:Nat}{ys:List α}{e':TypeId}(h:RdD e' k enc w A ys)(f:∀ x,(enc x).length=k)(p:j<ys.length)(r:0<k:=by decide)(u:o.op=Op.load t x:=by kernel_rfl)(v:ρ x=atA A (j*k):=by kernel_rfl)(ha:(teOf P t).map (fun e=>(e.agg,e.size))=some (true,k):=by kernel_rfl) :
 (execOp ρ o).run P w=.ok (.value (.agg (enc ys[j]!).toArray)) w:=by
 obtain⟨D,d,y⟩:=vQ.1 ha
 injection y with ha hn
 obtain⟨g,off,_,rfl,_⟩:=h j 0 _ p (uN (by rw[f];exact r))
 have:=bW (P:=P) (w:=w) d (g:=g) (off:=off+j*k) (cs:=enc ys[j]!) (by rw[f];exact hn.symm) (fun i hi=>by
  obtain⟨b,q,z,a,B,C⟩:=h j i _ p (uN hi)
  injection a with a
  injection a with a e2
  subst a;subst e2
  rw[tY,B.cell,C,uN hi]
  rfl) ha
 simp only[execOp,u,v,atA,sS,jG,Sem.run_bind,this,Result.andThen_ok,Sem.run_pure]
theorem ZqA {α:Type}{A:qA}{m c n j:Nat}{ys:List (Mr α)}(h:OwnD w m e 1 A c n (ys.flatMap mrC))(a:j<ys.length)(d:o.op=Op.load t x:=by kernel_rfl)(f:ρ x=atA A (j*1):=by kernel_rfl)(ha:(teOf P t).map (fun e=>e.agg)=some false:=by kernel_rfl) :
 (execOp ρ o).run P w=.ok (.value (.slice ys[j]!.A ys[j]!.xs.length ys[j]!.cap)) w:=by
 have g:=dW Zck ys j 0 a qD
 obtain⟨b,rfl,_,i⟩:=h.at (v:=.slice ys[j]!.A ys[j]!.xs.length ys[j]!.cap) g
 exact xV i d (by rw[f,atA,sS,jG];rfl) ha
end
theorem Zl8 {α β:Type}[Inhabited α]{enc:α→List Value}{d:β→List Value}{P:Program}{o:Oper}{ρ:Operand→Value}{w:World}{m0 k k' n bytes:Nat}{t e e':TypeId}{kl kc:IntKind}{l c:Operand}{z:Value}{ys:List (Mr β)}(g:α)(F:∀ x,(enc x).length=k)(G:0<k)(H:z.cells.toList=enc g)(r:∀ x,∀ (k:IntKind) (z:Int),Value.int k z∈enc x→k=.i64)(I:MrOk e' k' d m0 w ys)(E:m0≤w.heap.size)(J:n≤maxLen)(u:bytes*n≤281474976710656)(K:o.op=Op.makeSlice t l c:=by kernel_rfl)(L:P.underlying t=some (.slice e):=by kernel_rfl)(a:(P.info? e).map (fun i=>(i.zero,i.size,i.bytes))=some (some z,k,bytes):=by kernel_rfl)(M:ρ l=.int kl (n:Int):=by kernel_rfl)(O:ρ c=.int kc (n:Int):=by kernel_rfl) :
 Does P o ρ w (DoR (fun b:{b:Nat // m0≤b∧∀ y∈ys,y.A≠some ⟨b,0,none⟩}=>.slice (some ⟨b.1,0,none⟩) n n) (fun b w=>OwnD w m0 e k (some ⟨b.1,0,none⟩) n n ((List.replicate n g).flatMap enc)) w):=by
 have j:∀ y w',DoR (fun b:{b:Nat // w.heap.size≤b}=>.slice (some ⟨b.1,0,none⟩) n n) (fun b v=>OwnD v w.heap.size e k (some ⟨b.1,0,none⟩) n n ((List.replicate n g).flatMap enc)) w y w' →
  DoR (fun b:{b:Nat // m0≤b∧∀ y∈ys,y.A≠some ⟨b,0,none⟩}=>.slice (some ⟨b.1,0,none⟩) n n) (fun b w=>OwnD w m0 e k (some ⟨b.1,0,none⟩) n n ((List.replicate n g).flatMap enc)) w y w':=fun y w' h=>by
  obtain⟨b,p,q,B⟩:=h
  refine⟨⟨b.1,uB E b.2,fun y R C=>?_⟩,p,q,fun S T D U=>(B S T D U).mono E⟩
  obtain⟨_,V,W,_⟩:=(I.own y R).blk C
  exact oH _ (uT W.lt b.2)
 rcases fC (P:=P) (w:=w) (m0:=w.heap.size) g F G H r (uG _) J u K L a M O with ⟨y,w',p,q⟩|⟨f,X,Y,p,q⟩
 ·exact Or.inl ⟨y,w',p,j _ _ q⟩
 refine Or.inr ⟨f,X,Y,p,q.mono (fun e w' h=>?_)⟩
 obtain⟨y,B,C⟩:=h
 exact⟨y,B,j _ _ C⟩
section
variable {N:Nat} {S0:Nat→Prop} {w0:World} {s:St} {Φ Φ2:World→Prop} {P:Program} {ops:Array Oper} {Q:Exit→Act→World→Prop}
theorem ZqB {i k n c j:Nat}{t e:TypeId}{x y:Operand}{xs new:List Value}(base:Nat)(A:qA)(v:Value)(f:∀ w,Φ w→OwnD w base e k A c n xs)(u:j<n)(B:new.length=k)(C:0<k)(d:∀ b,base≤b→w0.heap.size≤b∨S0 b)(D:∀ c,c∈new→c.oneCell'=true)(g:∀ (k:IntKind) (z:Int),Value.int k z∈new→k=.i64)(E:v.cells.toList=new)(F:∀ w w',Φ w→Fr (fun i=>A=some ⟨i,0,none⟩) w w'→OwnD w' base e k A c n (lI xs (j*k) new)→Φ2 w')(K:SXi P N S0 w0 ops Q (i+1) s Φ2)(p:Nat.blt i ops.size=true:=by kernel_rfl)(G:s.wantB ops (opAt ops i)=some true:=by kernel_rfl)(H:(opAt ops i).op=.store t x y:=by kernel_rfl)(I:(opAt ops i).dst=none:=by kernel_rfl)(J:(teOf P t).map (fun e=>e.size)=some k:=by kernel_rfl)(M:s.eval x=some (.v (atA A (j*k))):=by kernel_rfl)(O:s.eval y=some (.v v):=by kernel_rfl):SXi P N S0 w0 ops Q i s Φ:=by
 intro L a w hi
 obtain⟨b,rfl,_⟩:=OwnD.blkSome (f w hi.box.self) qO
 have q:s.eval x=some (.v (.pointer (some ⟨b,0+j*k,none⟩))):=by rw[M,atA,sS,jG]
 exact dX base b v (fun w'=>∃ w,Φ w∧Fr (fun i=>(some ⟨b,0,none⟩:Option Addr)=some ⟨i,0,none⟩) w w') f u B C (d b) D g E (fun w w' h r=>⟨w,h,r⟩) (K.facts (fun w' h=>by
  obtain⟨⟨w,h,r⟩,f⟩:=h
  exact F w w' h r f)) p G H I J q O L a w hi
theorem ZaT {α:Type}[Inhabited α]{enc:α→List Value}{i k a j:Nat}{t e:TypeId}{x y:Operand}{ys:List (Mr α)}{r:Mr α}(base:Nat)(new:α)(v:Value)(Ψ:World→Prop)(q:∀ x,(enc x).length=k)(D:0<k)(u:∀ w,Φ w→MrOk e k enc base w ys)(ha:a<ys.length)(E:ys[a]! = r)(B:j<r.xs.length)(d:∀ b,base≤b→w0.heap.size≤b∨S0 b)(F:∀ c,c∈enc new→c.oneCell'=true)(g:∀ (k:IntKind) (z:Int),Value.int k z∈enc new→k=.i64)(G:v.cells.toList=enc new)(H:∀ w w',Φ w→Fr (fun i=>r.A=some ⟨i,0,none⟩) w w'→Ψ w')(K:SXi P N S0 w0 ops Q (i+1) s (fun w=>Ψ w∧MrOk e k enc base w (ys.set a ⟨r.A,r.cap,r.xs.set j new⟩)))(p:Nat.blt i ops.size=true:=by kernel_rfl)(I:s.wantB ops (opAt ops i)=some true:=by kernel_rfl)(J:(opAt ops i).op=.store t x y:=by kernel_rfl)(L:(opAt ops i).dst=none:=by kernel_rfl)(M:(teOf P t).map (fun e=>e.size)=some k:=by kernel_rfl)(O:s.eval x=some (.v (atA r.A (j*k))):=by kernel_rfl)(R:s.eval y=some (.v v):=by kernel_rfl):SXi P N S0 w0 ops Q i s Φ:=by
 subst E
 exact ZqB base ys[a]!.A v (fun w h=>(u w h).at ha) B (q new) D d F g G (fun w w' h C f=>⟨H w w' h C,by
  rw[←iL q _ _ _ B] at f
  exact (u w h).set ha C (vT ..) f⟩) K p I J L M O R
end
structure Qv where
 c:ShQ
 q:Rat
def qv0:Qv:=⟨(false,none,0,0,false,none,0,0),0⟩
instance:Inhabited Qv:=⟨qv0⟩
def qvC (x:Qv):List Value:=[.bool x.c.1,.slice x.c.2.1 x.c.2.2.1 x.c.2.2.2.1,.bool x.c.2.2.2.2.1,.slice x.c.2.2.2.2.2.1 x.c.2.2.2.2.2.2.1 x.c.2.2.2.2.2.2.2]
theorem jM (x:Qv):(qvC x).length=4:=rfl
theorem Zbb (x:Qv):∀ (k:IntKind) (z:Int),Value.int k z∈qvC x→k=.i64:=fun k z h=>by simp[qvC] at h
def QsOk (w:World) (xs:List Qv):Prop:=∀ x∈xs,zS w (jJ x.c) x.q
theorem QsOk.nrb {S:Nat→Prop}{w w':World}{xs:List Qv}(h:QsOk w xs)(a:∀ i,S i→NRB w i)(b:Fr S w w'):QsOk w' xs:=fun x c=>(h x c).nrb a b
theorem QsOk.ext {w w':World}{xs:List Qv}(h:QsOk w xs)(a:Ext w w'):QsOk w' xs:=fun x b=>(h x b).ext a
theorem QsOk.zero (w:World)(n:Nat):QsOk w (List.replicate n qv0):=fun x a=>by rw[(rV.1 a).2];exact zS.nil w
structure Qr where
 A:Option Addr
 cap:Nat
 xs:List Qv
def qr0:Qr:=⟨none,0,[]⟩
instance:Inhabited Qr:=⟨qr0⟩
def qrC (x:Qr):List Value:=[.slice x.A x.xs.length x.cap]
theorem ZqC (x:Qr):(qrC x).length=1:=rfl
def RsOk (m:Nat) (w:World) (ys:List Qr):Prop:=∀ y∈ys,OwnD w m 59 4 y.A y.cap y.xs.length (y.xs.flatMap qvC)∧QsOk w y.xs
def qT (x:Qv):ByteArray:=⟨(xP x.q).toArray⟩
theorem ZnO (m:Nat)(A:qA)(cap:Nat)(xs:List Qv)(w:World)(v:OwnD w m 59 4 A cap xs.length (xs.flatMap qvC))(G:QsOk w xs)(H:xs.length≤1000)(B:∀ x∈xs,ml x.q.num.natAbs≤65536∧ml x.q.den≤65536) :
 yA 69 #[.slice A xs.length cap] w (fun e w'=>∃ b,e=.returned (.slice (some ⟨b,0,none⟩) xs.length xs.length)∧OwnD w' w.heap.size 9 1 (some ⟨b,0,none⟩) xs.length xs.length ((xs.map qT).flatMap stC)∧Ext w w'):=by
 obtain⟨r,p⟩:∃ m,m=w.heap.size:=⟨_,rfl⟩
 refine zQ (Φ:=fun w=>True) func69 rfl qK (fun w' I=>trivial) ?_
 refine yY (xq 1 [eS1 2 none 0 0] [] ?_)
 refine yZ (yY (xq 2 [yJ 6 ((xs.length:Nat):Int)] [] ?_))
 refine yD (d:=7) (fun s:{b:Nat // r≤b}=>.slice (yL s.1) xs.length xs.length) (fun s w=>OwnD w r 9 1 (yL s.1) xs.length xs.length ((List.replicate xs.length (⟨#[]⟩:ByteArray)).flatMap stC)) (fun w R Q=>fC (t:=22) (e:=9) (kl:=.i64) (kc:=.i64) (l:=.tmp 6) (c:=.tmp 6) (bytes:=16) (z:=.string ⟨#[]⟩) (⟨#[]⟩:ByteArray) ZaS qD rfl Zd0 (p ▸ R.size) (by simp only[maxLen];omega) qO) fun⟨f,C⟩=>?_
 refine xr 1 [eS1 0 A xs.length cap,eS1 2 none 0 0,eS1 3 (yL f) xs.length xs.length] [] ?_
 refine yZ (zC (yY (xq 1 [yJ 4 0] [] ?_)))
 refine yZ (zP ?_)
 refine yC [eS1 0 A xs.length cap,eS1 2 none 0 0,eS1 3 (yL f) xs.length xs.length,yJ 4 ((0:Nat):Int)] [] (fun w=>OwnD w r 9 1 (yL f) xs.length xs.length ((kZ qT ⟨#[]⟩ xs 0).flatMap stC)) (fun w Q=>(by rw[ZaE];exact Q.2)) ?_
 refine xU (fun D E F=>∃ (k:Nat),E=ofL [eS1 0 A xs.length cap,eS1 2 none 0 0,eS1 3 (yL f) xs.length xs.length,yJ 4 (k:Int)] []∧F=(fun w=>OwnD w r 9 1 (yL f) xs.length xs.length ((kZ qT ⟨#[]⟩ xs k).flatMap stC))∧(k≤xs.length)∧D=(1+(xs.length-k))) ((1+(xs.length-0))) ⟨0,rfl,rfl,(vL _),rfl⟩ ?_
 rintro D E F ⟨k,rfl,rfl,J,rfl⟩
 refine zC (yY (xq 4 [yB 11 (decide ((k:Int)<((xs.length:Nat):Int)))] [] ?_))
 refine xe (zA ?_)
 refine yQ ((decide ((k:Int)<((xs.length:Nat):Int)))) (fun o=>?_) fun o=>?_
 ·have g:k<xs.length:=by have:=uC o;omega
  refine zI (zA (zC (zP (zB (xq 4 [eS1 14 (yL f) xs.length xs.length,yJ 15 (k:Int),eS1 16 A xs.length cap,yJ 17 (k:Int)] [] ?_)))))
  refine xqk 18 (atA A (k*4)) (fun w R Q=>xJ (t:=61) (e:=59) (sz:=4) (x:=.tmp 16) (ix:=.tmp 17) (len:=xs.length) (cap:=cap) (i:=k) ((OwnD.ext v R).ne g) g) ?_
  obtain⟨a,n⟩:∃ x,xs[k]! = x:=⟨_,rfl⟩
  refine xqk 19 (.agg #[.bool a.c.1,.slice a.c.2.1 a.c.2.2.1 a.c.2.2.2.1,.bool a.c.2.2.2.2.1,.slice a.c.2.2.2.2.2.1 a.c.2.2.2.2.2.2.1 a.c.2.2.2.2.2.2.2]) (fun w R Q=>by rw[←n];exact iD (t:=59) (x:=.tmp 18) (j:=k) (OwnD.ext v R) jM g) ?_
  refine xqc 66 [vR4 a.c.1 a.c.2.1 a.c.2.2.1 a.c.2.2.2.1 a.c.2.2.2.2.1 a.c.2.2.2.2.2.1 a.c.2.2.2.2.2.2.1 a.c.2.2.2.2.2.2.2] 20 (fun _:Unit=>.string ⟨(xP a.q).toArray⟩) _ (fun w R Q=>yN (Znq _ a.q _ (show zS _ (jJ a.c) a.q by rw[←n];exact (QsOk.ext G R) _ (xM g)) (by rw[←n];exact (B _ (xM g)).1) (by rw[←n];exact (B _ (xM g)).2))) fun K=>?_
  refine xqk 21 (.pointer (some ⟨f,0+k*1,none⟩)) (fun w R Q=>iM (t:=22) (e:=9) (sz:=1) (x:=.tmp 14) (ix:=.tmp 15) (len:=xs.length) (cap:=xs.length) (i:=k) g) ?_
  refine dX (t:=9) (x:=.tmp 21) (y:=.tmp 20) (j:=k) (new:=stC ((⟨(xP a.q).toArray⟩:ByteArray))) r f (.string ⟨(xP a.q).toArray⟩) (fun w=>True) (fun w Q=>Q.1) g rfl qD (fun h=>Or.inl (uB (p ▸ uG _) h)) (by simp[stC,Value.oneCell']) (Zd0 _) rfl (fun w w' Q L=>trivial) ?_
  rw[←iL ZaS ((kZ qT ⟨#[]⟩ xs k)) k ((⟨(xP a.q).toArray⟩:ByteArray)) (by rw[ZbG];exact g),ZbI g (by rw[n];rfl)]
  refine xr 0 [eS1 0 A xs.length cap,eS1 2 none 0 0,eS1 3 (yL f) xs.length xs.length,yJ 4 (k:Int)] [] ?_
  refine xe (xS (zA (zB (xq 2 [yJ 13 (IntKind.i64.wrap ((k:Int)+1))] [] ?_))))
  rw[yW ((k:Int)+1) (((k+1:Nat):Int)) qO]
  refine xq 1 [yJ 4 ((k+1:Nat):Int)] [] ?_
  refine xe ?_
  refine yP [eS1 0 A xs.length cap,eS1 2 none 0 0,eS1 3 (yL f) xs.length xs.length,yJ 4 (((k+1):Nat):Int)] [] (fun w=>OwnD w r 9 1 (yL f) xs.length xs.length ((kZ qT ⟨#[]⟩ xs (k+1)).flatMap stC)) (fun w Q=>Q.2) ?_
  exact xH ((1+(xs.length-(k+1)))) qO ⟨(k+1),rfl,rfl,g,rfl⟩
 have u:k=xs.length:=by have:=uD o;omega
 refine xO (zG (zG (xW (zA (yY (xq 2 [eS1 2 (yL f) xs.length xs.length] [] ?_))))))
 refine yZ (zH ?_)
 refine yR (.slice (yL f) xs.length xs.length) fun w' R Q=>?_
 exact⟨f,rfl,by have h:=Q;rw[u,ZbH] at h;exact p ▸ h,R⟩
section
variable {P:Program} {o:Oper} {ρ:Operand→Value} {w:World} {t e:TypeId} {x:Operand}
theorem Zk0 {A:qA}{m c n j:Nat}{ys:List Qr}(h:OwnD w m e 1 A c n (ys.flatMap qrC))(a:j<ys.length)(d:o.op=Op.load t x:=by kernel_rfl)(f:ρ x=atA A (j*1):=by kernel_rfl)(ha:(teOf P t).map (fun e=>e.agg)=some false:=by kernel_rfl) :
 (execOp ρ o).run P w=.ok (.value (.slice ys[j]!.A ys[j]!.xs.length ys[j]!.cap)) w:=by
 have g:=dW ZqC ys j 0 a qD
 obtain⟨b,rfl,_,i⟩:=h.at (v:=.slice ys[j]!.A ys[j]!.xs.length ys[j]!.cap) g
 exact xV i d (by rw[f,atA,sS,jG];rfl) ha
end
theorem Zo9 {α:Type}{enc:α→List Value}{k:Nat}(a:∀ x,(enc x).length=k)(xs:List α):(xs.flatMap enc).length=xs.length*k:=by
 induction xs with
 | nil=>simp
 | cons x xs ih=>rw[sW,uK,ih,a,sK,rC,vU]
theorem ZqD (l:List ByteArray):∀ u∈l.flatMap stC,u.oneCell'=true:=fun u a=>by
 obtain⟨s,_,b⟩:=nB.1 a
 rw[rK.1 b];rfl
theorem ZnP {α β:Type}[Inhabited α]{l:List α}{k:Nat}{f:α→List β}(a:k<l.length):(l.take (k+1)).flatMap f=(l.take k).flatMap f ++ f l[k]! := by
 rw[tQ a,oF,vP l k a,oT]
theorem ZqE {m0 c:Nat}{xs:List Qv}{w w':World}{e:Ending}(a:m0≤w.heap.size)(f:xs.length=c)(h:∃ b,e=.returned (.slice (some ⟨b,0,none⟩) xs.length xs.length)∧OwnD w' w.heap.size 9 1 (some ⟨b,0,none⟩) xs.length xs.length ((xs.map qT).flatMap stC)∧Ext w w') :
 lR (fun b:{b:Nat // m0≤b}=>.slice (some ⟨b.1,0,none⟩) c c) (fun b w=>OwnD w m0 9 1 (some ⟨b.1,0,none⟩) c c ((xs.map qT).flatMap stC)) w e w':=by
 subst f
 obtain⟨b,rfl,d,Q⟩:=h
 exact⟨⟨b,uB a (d.blk rfl).1⟩,rfl,Q,d.boxN a⟩
def Zh9 (n c:Nat) (ys:List Qr) (w:World) (e:Ending) (w':World):Prop:=∃ A cap,e=.returned (.agg #[.int .i64 ((n:Nat):Int),.int .i64 ((c:Nat):Int),.slice A (n*c) cap])∧OwnD w' w.heap.size 9 1 A cap (n*c) ((ys.flatMap (fun r=>r.xs.map qT)).flatMap stC)∧Ext w w'
theorem Zpa (H s n c:Nat)(ys:List Qr)(w:World)(hO:OwnD w H 61 1 (some ⟨s,0,none⟩) n n (ys.flatMap qrC))(V:RsOk H w ys)(C:ys.length=n)(J:0<n)(hn:n≤64)(N:0<c)(c0:c≤64)(W:∀ y∈ys,y.xs.length=c)(hq:∀ y∈ys,∀ x∈y.xs,ml x.q.num.natAbs≤65536∧ml x.q.den≤65536) :
 yA 43 #[.slice (some ⟨s,0,none⟩) n n] w (Zh9 n c ys w):=by
 obtain⟨m0,D⟩:∃ m,m=w.heap.size:=⟨_,rfl⟩
 refine zQ (Φ:=fun w=>OwnD w H 61 1 (yL s) n n (ys.flatMap qrC)) func43 rfl qK (fun w' hf=>OwnD.ext hO hf) ?_
 refine yY (xq 1 [(2,.p 2 0)] [(2,24,[.v (yI 0),.v (yI 0),.v (.slice none 0 0)])] ?_)
 refine yZ (zC (yY (xq 3 [yB 7 (((n:Int):Int) == 0)] [] ?_)))
 rw[(show (((n:Int):Int) == 0)=false by simp;omega)]
 refine yZ (xb (zI (zA (yY (xq 3 [yJ 10 (n:Int),eS1 11 (yL s) n n] [] ?_)))))
 refine xqk 12 (atA (yL s) (0*1)) (fun w R Q=>xJ (t:=33) (e:=61) (sz:=1) (x:=.tmp 11) (ix:=(Operand.const (Value.int IntKind.i64 0))) (len:=n) (cap:=n) (i:=0) qS J) ?_
 obtain⟨E,I⟩:∃ x,ys[0]! = x:=⟨_,rfl⟩
 refine xqk 13 (.slice E.A E.xs.length E.cap) (fun w R Q=>by rw[←I];exact Zk0 (t:=61) (x:=.tmp 12) (j:=0) Q (C.symm ▸ J)) ?_
 have K:E.xs.length=c:=by rw[←I];exact W _ (xM (C.symm ▸ J))
 rw[K]
 refine xq 4 [(3,.p 3 0)] [(3,24,[.v (yI (n:Int)),.v (yI (c:Int)),.v (.slice none 0 0)])] ?_
 refine yZ (zC (yY (xq 1 [yJ 4 0] [] ?_)))
 refine yZ (zP ?_)
 refine yC [eS1 0 (yL s) n n,(2,.p 2 0),(3,.p 3 0),yJ 4 ((0:Nat):Int)] [(3,24,[.v (yI (n:Int)),.v (yI (c:Int)),.v (.slice none 0 0)]),(2,24,[.v (yI 0),.v (yI 0),.v (.slice none 0 0)])] (fun w=>(OwnD w H 61 1 (yL s) n n (ys.flatMap qrC)∧OwnD w m0 9 1 none 0 0 (([]:List ByteArray).flatMap stC))) (fun w Q=>⟨Q,(OwnD.nil _ _ _ _)⟩) ?_
 refine xU (fun X Y Z=>∃ (k p:Nat) (A:Option Addr) (cap:Nat) (l:List ByteArray),Y=ofL [eS1 0 (yL s) n n,(2,.p 2 0),(3,.p 3 0),yJ 4 (k:Int)] [(3,24,[.v (yI (n:Int)),.v (yI (c:Int)),.v (.slice A p cap)]),(2,24,[.v (yI 0),.v (yI 0),.v (.slice none 0 0)])]∧Z=(fun w=>(OwnD w H 61 1 (yL s) n n (ys.flatMap qrC)∧OwnD w m0 9 1 A cap p (l.flatMap stC)))∧(k≤n)∧(p=k*c)∧(l=(ys.take k).flatMap (fun r=>r.xs.map qT))∧(p=0→A=none)∧X=(1+(n-k))) ((1+(n-0))) ⟨0,0,none,0,([]:List ByteArray),rfl,rfl,(vL _),(by rw[tX]),rfl,(fun _=>rfl),rfl⟩ ?_
 rintro X Y Z ⟨k,p,A,cap,l,rfl,rfl,hk,O,M,S,rfl⟩
 refine zC (yY (xq 4 [yB 19 (decide ((k:Int)<(n:Int)))] [] ?_))
 refine xe (zA ?_)
 refine yQ ((decide ((k:Int)<(n:Int)))) (fun u=>?_) fun u=>?_
 ·have g:k<n:=by have:=uC u;omega
  have T:k*c≤64*64:=uZ qO qO
  refine zI (zA (zC (zP ?_)))
  refine yO 7 zL ?_
  refine xqg 4 [eS1 23 A p cap,eS1 24 (yL s) n n,yJ 25 (k:Int)] ?_
  refine xqj 26 (atA (yL s) (k*1)) (fun w Q=>xJ (t:=33) (e:=61) (sz:=1) (x:=.tmp 24) (ix:=.tmp 25) (len:=n) (cap:=n) (i:=k) qS g) ?_
  obtain⟨a,f⟩:∃ x,ys[k]! = x:=⟨_,rfl⟩
  refine xqj 27 (.slice a.A a.xs.length a.cap) (fun w Q=>by rw[←f];exact Zk0 (t:=61) (x:=.tmp 26) (j:=k) Q.1 (C.symm ▸ g)) ?_
  have B:a.xs.length=c:=by rw[←f];exact W _ (xM (C.symm ▸ g))
  refine xqd 69 [.slice a.A a.xs.length a.cap] 28 (fun b:{b:Nat // m0≤b}=>.slice (yL b.1) c c) _ (fun w R Q=>(ZnO H a.A a.cap a.xs _ (by have h:=((V _ (xM (C.symm ▸ g))).1);rw[f] at h;exact OwnD.ext h R) (by have h:=((V _ (xM (C.symm ▸ g))).2);rw[f] at h;exact QsOk.ext h R) qO (by have h:=hq _ (xM (C.symm ▸ g));rw[f] at h;exact h)).mono (fun _ _ h=>ZqE (m0:=m0) (D ▸ R.size) B h)) fun⟨U,a0⟩=>?_
  refine xz ?_
  refine Zqr (d:=29) (k:=1) (n:=p) (m:=c) (cap:=cap) (bytes:=16) (t:=22) (e:=9) (s0:=.tmp 23) (x:=.tmp 28) (xs:=l.flatMap stC) (news:=((a.xs.map qT).flatMap stC)) (z:=.string ⟨#[]⟩) m0 A (fun j hj h=>Or.inl (D ▸ h)) U c (fun w=>OwnD w H 61 1 (yL s) n n (ys.flatMap qrC)) (fun w R Q=>D ▸ R.size) (fun w Q=>Q.1.2) (fun w Q=>OwnD.news Q.2) (by rw[Zo9 ZaS,uU,B]) qD rfl (iO.list qS) N (ZqD _) (Zgg Zd0 _) (by simp only[maxLen];omega) qO S (fun w w' R Q hF=>OwnD.apart Q.1.1 Q.1.2 qD hF) fun F G b0=>?_
  refine xr 2 [eS1 0 (yL s) n n,(2,.p 2 0),(3,.p 3 0),yJ 4 (k:Int)] [(3,24,[.v (yI (n:Int)),.v (yI (c:Int)),.v (.slice F (p+c) G)]),(2,24,[.v (yI 0),.v (yI 0),.v (.slice none 0 0)])] ?_
  refine xe (xS (zA (zB (xq 2 [yJ 21 (IntKind.i64.wrap ((k:Int)+1))] [] ?_))))
  rw[yW ((k:Int)+1) (((k+1:Nat):Int)) qO]
  refine xq 1 [yJ 4 ((k+1:Nat):Int)] [] ?_
  refine xe ?_
  refine yP [eS1 0 (yL s) n n,(2,.p 2 0),(3,.p 3 0),yJ 4 (((k+1):Nat):Int)] [(3,24,[.v (yI (n:Int)),.v (yI (c:Int)),.v (.slice F (p+c) G)]),(2,24,[.v (yI 0),.v (yI 0),.v (.slice none 0 0)])] (fun w=>(OwnD w H 61 1 (yL s) n n (ys.flatMap qrC)∧OwnD w m0 9 1 F G (p+c) ((l ++ a.xs.map qT).flatMap stC))) (fun w Q=>⟨Q.1,(by rw[oF];exact Q.2)⟩) ?_
  exact xH ((1+(n-(k+1)))) qO ⟨(k+1),(p+c),F,G,(l ++ a.xs.map qT),rfl,rfl,g,(by rw[O,rC]),(by rw[M,ZnP (C.symm ▸ g),f]),(fun h=>qO),rfl⟩
 have L:k=n:=by have:=uD u;omega
 have T:k*c≤64*64:=uZ qO qO
 refine xO (zG (zG (xW (zA (yY (xq 2 [] [(2,24,[.v (yI (n:Int)),.v (yI (c:Int)),.v (.slice A p cap)])] ?_))))))
 refine yZ (zH ?_)
 refine yR (.agg #[yI (n:Int), yI (c:Int),.slice A p cap]) fun w' R Q=>?_
 exact⟨A,cap,by rw[O,L],by have h:=Q.2;rw[M,L,← C,pD] at h;rw[O,L] at h;exact D ▸ h,R⟩
theorem Zg3 {ls:List Fm}{c m0:Nat}{w w':World}{e:Ending}(g:m0≤w.heap.size)(h:ZpC ls c w e w') :
 lR (fun x:{x:Nat × List Mx // x.2.map mxV=ls.map fmV∧m0≤x.1}=>.tuple #[.slice (some ⟨x.1.1,0,none⟩) c c,.int .i64 0]) (fun x w=>OwnD w m0 97 3 (some ⟨x.1.1,0,none⟩) c c (x.1.2.flatMap mxC)∧MsOk m0 w x.1.2) w e w':=by
 obtain⟨b,l,rfl,m,i,j,Q⟩:=h
 exact⟨⟨(b,l),m,uB g (i.blk rfl).1⟩,rfl,Q,(i.boxN g).and (fun S d a f y k=>⟨(j y k).1.boxN g S d a f,boxn Q (fun S a d f=>(j y k).2.nrb d f) S d a f⟩)⟩
theorem Zrs {a:List Mx}{b:Fm}{x:Mx}(h:a.map mxV=[b].map fmV)(d:a.length=1)(f:a[0]! = x):x.r=b.r∧x.c=b.c∧x.xs.map nbV=b.fs.map ldV:=by
 match a,d with
 | [y],_ =>
  have e:y=x:=f
  subst e
  injection h with h _
  injection h with h1 h
  injection h with h2 h3
  exact⟨h1,h2,h3⟩
theorem Zrt {f:ByteArray×Int}(a:fvB (bytes f.1) f.2=true)(c:(bytes f.1).length≤1000):FvOk (ldV f):=by
 have h:=ZcS a
 have b:ldR (bytes f.1) f.2=⟨(xI (bytes f.1)).1,zO (xI (bytes f.1)).2,f.2,0⟩:=uS a
 refine⟨Zpy qO,?_,Zrr,?_⟩
 ·unfold ldV;rw[b];exact⟨h.1,h.2.1⟩
 unfold ldV;rw[b];exact h.2.2.2
theorem Zk1 {x:Fm}(h:FmG x):∀ v∈x.fs.map ldV,FvOk v:=fun v b=>by
 obtain⟨f,a,rfl⟩:=pY.1 b
 exact Zrt (h.hv f a) (h.hs f a)
theorem Zd6 {x:Fm}{xs:List Nb}(h:FmG x)(a:xs.map nbV=x.fs.map ldV):∀ y∈xs,FvOk (nbV y):=fun y b=>Zk1 h _ (by rw[←a];exact qE b)
def ftW (v:Fv3):ByteArray×Int:=(⟨(Lib.itoa (sg v.1 v.2.1)).toArray⟩,v.2.2)
theorem Zru {A:List Fv3}(h:∀ v∈A,FvOk v)(i:Nat):FvOk (at3 A i):=by
 unfold at3
 rw[sD]
 cases e:A[i]? with
 | none=>exact Zgm
 | some v=>exact h v (pV e)
theorem ZnQ {b i j n:Nat}{L:List Fv3}(c:0<b)(a:b≤4096):∀ (f k:Nat) (t t1:Fv3),FvOk t→chK b L i j n f k t=some t1→FvOk t1
 | 0,_,t,t1,ht,h=>by injection h with h;exact h ▸ ht
 | f+1,k,t,t1,ht,h=>by
  obtain⟨v,d,e⟩:=tB.1 h
  exact ZnQ c a f (k+1) v t1 (Zc0 c a d) e
theorem Zrv {b i j n:Nat}{L:List Fv3}{t v:Fv3}(c:0<b)(a:b≤4096)(e:FvOk t)(h:chE b L i j n t=some v):FvOk v:=by
 by_cases d:j<i
 ·exact ZgY (Zg0 c a) (Zg1 d h rfl)
 exact ZgY (Zjj e c a) (Zc1 d h).2
theorem ZnR {b n j:Nat}{A:List Fv3}(g:∀ v∈A,FvOk v)(e:0<b)(a:b≤4096):∀ (f i:Nat) (L c:List Fv3),(∀ v∈L,FvOk v)→chI b A n j f i L=some c→(∀ v∈c,FvOk v)∧c.length=L.length
 | 0,_,L,c,hL,h=>by injection h with h;exact h ▸ ⟨hL,rfl⟩
 | f+1,i,L,c,hL,h=>by
  obtain⟨t,k,l⟩:=tB.1 h
  obtain⟨v,m,o⟩:=tB.1 l
  have p:=Zrv e a (ZnQ e a _ _ _ _ (Zru g _) k) m
  have:=ZnR g e a f (i+1) _ c (fun u d=>by
   rcases sH d with d|d
   ·exact hL u d
   rw[d];exact p) o
  rwa [vT] at this
theorem ZnS {b n:Nat}{A:List Fv3}(d:∀ v∈A,FvOk v)(e:0<b)(c:b≤4096):∀ (f j:Nat) (L a:List Fv3),(∀ v∈L,FvOk v)→chJ b A n f j L=some a→(∀ v∈a,FvOk v)∧a.length=L.length
 | 0,_,L,a,hL,h=>by injection h with h;exact h ▸ ⟨hL,rfl⟩
 | f+1,j,L,a,hL,h=>by
  obtain⟨k,l,m⟩:=tB.1 h
  have g:=ZnR d e c _ _ _ _ hL l
  have i:=ZnS d e c f (j+1) k a g.1 m
  exact⟨i.1,i.2.trans g.2⟩
theorem Zpb (k:Nat):∀ v∈List.replicate k ((false,0,0):Fv3),FvOk v:=fun v a=>by rw[(rV.1 a).2];exact Zgm
theorem ZqF {b n:Nat}{A c:List Fv3}(d:∀ v∈A,FvOk v)(e:0<b)(a:b≤4096)(h:ZcZ b A n=some c):∀ v∈c,FvOk v:=(ZnS d e a _ _ _ _ (Zpb _) h).1
theorem Zk2 {b n j:Nat}{A:List Fv3}:∀ (f i:Nat) (L a:List Fv3),chI b A n j f i L=some a→a.length=L.length
 | 0,_,L,a,h=>by injection h with h;rw[h]
 | f+1,i,L,a,h=>by
  obtain⟨t,e,c⟩:=tB.1 h
  obtain⟨v,g,d⟩:=tB.1 c
  rw[Zk2 f (i+1) _ a d,vT]
theorem Zk3 {b n:Nat}{A:List Fv3}:∀ (f j:Nat) (L a:List Fv3),chJ b A n f j L=some a→a.length=L.length
 | 0,_,L,a,h=>by injection h with h;rw[h]
 | f+1,j,L,a,h=>by
  obtain⟨c,d,e⟩:=tB.1 h
  rw[Zk3 f (j+1) c a e,Zk2 _ _ _ _ d]
theorem Zpc {b n:Nat}{A a:List Fv3}(h:ZcZ b A n=some a):a.length=n*n:=by rw[Zk3 _ _ _ _ h,sF]
theorem Zl9 (ml n:Nat)(A:qA)(cap:Nat)(o:List (ByteArray×Int))(b:Nat)(l:List Fv3)(w:World)(P:Glob w)(X:OwnD w ml 76 2 A cap o.length (o.flatMap flC))(u:FmG ⟨n,n,A,cap,o⟩)(E:8≤b)(F:b≤1024)(J:ZcZ b (o.map ldV) n=some l) :
 yA 53 #[.agg #[.int .i64 ((n:Nat):Int),.int .i64 ((n:Nat):Int),.slice A o.length cap],.int .i64 ((b:Nat):Int),.func (.func 57) #[] #[]] w (iE (fun v=>.tuple #[v,.int .i64 0]) n n (l.map ftW) w):=by
 obtain⟨m0,q⟩:∃ m,m=w.heap.size:=⟨_,rfl⟩
 refine zQ (Φ:=fun w=>True) func53 rfl qK (fun w' hf=>trivial) ?_
 refine yY (xq 3 [(3,.p 3 0),(6,.p 6 0),yJ 7 0] [(6,29,[.v (yI 0),.v (yI 0),.v (.slice none 0 0)]),(3,29,[.v (yI (n:Int)),.v (yI (n:Int)),.v (.slice A o.length cap)])] ?_)
 refine yZ (yY (xq 2 [yJ 11 (b:Int),(12,.v (.agg #[yI (n:Int), yI (n:Int),.slice A o.length cap]))] [] ?_))
 refine yD (d:=13) (fun K:{b:Nat // m0≤b}=>.slice (yL K.1) 1 1) (fun K Y=>Blk 29 Y K.1 #[yI (n:Int), yI (n:Int),.slice A o.length cap]) (fun w R Q=>aC (m0:=m0) (q ▸ R.size) (t:=179) (e:=29) (n:=1) (sz:=3) (z:=.agg #[yI 0, yI 0,.slice none 0 0]) (parts:=#[(0,Operand.tmp 12)]) qK qK qK qK qK qK) fun⟨y,S⟩=>?_
 refine xr 0 [yJ 1 (b:Int),(2,.v (.func (.func 57) #[] #[])),(6,.p 6 0),yJ 7 0,yJ 11 (b:Int),eS1 13 (yL y) 1 1] [(6,29,[.v (yI 0),.v (yI 0),.v (.slice none 0 0)])] ?_
 refine xqc 76 [yI (b:Int),.slice (yL y) 1 1] 14 (fun x:{x:Nat × List Mx // x.2.map mxV=[(⟨n,n,A,cap,o⟩:Fm)].map fmV∧m0≤x.1}=>.tuple #[.slice (yL x.1.1) 1 1, yI 0]) _ (fun w R Q=>(Zfg 0 y 1 [⟨n,n,A,cap,o⟩] b _ (show OwnD _ 0 29 3 _ 1 1 ([(⟨n,n,A,cap,o⟩:Fm)].flatMap fmC) from OwnD.ofBlk (xs:=fmC ⟨n,n,A,cap,o⟩) Q.2 (vL _) rfl qD (Zd4 _)) rfl qD (fun x G=>by rw[rK.1 G];exact OwnD.mono (OwnD.ext X R) (vL _)) (fun x G=>by rw[rK.1 G];exact u) E F).mono (fun _ _ h=>Zg3 (m0:=m0) (q ▸ R.size) h)) fun L=>?_
 obtain⟨⟨B,I⟩,H,T⟩:=L
 have s:I.length=1:=by have:=vI List.length H;rw[uU,uU] at this;exact this
 refine xq 5 [eS1 8 (yL B) 1 1,yJ 9 0] [] ?_
 refine yZ (zC (yY (xq 2 [yB 18 false] [] ?_)))
 refine yZ (xb (zI (zA (yY (xq 2 [(21,.v (.func (.func 57) #[] #[])),eS1 22 (yL B) 1 1] [] ?_)))))
 refine xqk 23 (atA (yL B) (0*3)) (fun w R Q=>xJ (t:=123) (e:=97) (sz:=3) (x:=.tmp 22) (ix:=.const (yI 0)) (len:=1) (cap:=1) (i:=0) qS qD) ?_
 obtain⟨a,k⟩:∃ x,I[0]! = x:=⟨_,rfl⟩
 refine xqk 24 (.agg #[yI ((a.r:Nat):Int), yI ((a.c:Nat):Int),.slice a.A a.xs.length a.cap]) (fun w R Q=>by rw[←k];exact iD (t:=97) (x:=.tmp 23) (j:=0) Q.2.1 aQ (by rw[s];decide)) ?_
 obtain⟨Z,e2,M⟩:=Zrs H s k
 have e4:a.xs.length=n*n:=by have:=vI List.length M;rw[uU,uU] at this;rw[this];exact u.hn
 refine xq 1 [yJ 25 (b:Int)] [] ?_
 refine xqc 57 [.agg #[yI ((a.r:Nat):Int), yI ((a.c:Nat):Int),.slice a.A a.xs.length a.cap], yI (b:Int)] 26 (fun x:{x:Nat × List Nb // x.2.map nbV=l∧m0≤x.1}=>.tuple #[.agg #[yI (n:Int), yI (n:Int),.slice (yL x.1.1) x.1.2.length x.1.2.length], yI 0]) _ (fun w R Q=>((show Calls _ _ _ _ (dE (fun v=>.tuple #[v, yI 0]) n n l _) by rw[Z,e2,e4];exact Zo8 m0 n a.A a.cap a.xs b l _ (P.ext R) (by have h:=(Q.2.2 _ (xM (by rw[s];decide:0<I.length))).1;rw[k,e4] at h;exact h) (by have h:=(Q.2.2 _ (xM (by rw[s];decide:0<I.length))).2;rw[k] at h;exact h) e4 u.hr.2 E F (Zd6 u M) (by rw[M];exact J))).mono (fun _ _ h=>aP (sh:=fun v=>.tuple #[v, yI 0]) (m0:=m0) (q ▸ R.size) h)) fun L=>?_
 obtain⟨⟨C,f⟩,g,U⟩:=L
 refine xq 2 [(27,.v (.agg #[yI (n:Int), yI (n:Int),.slice (yL C) f.length f.length])),yJ 28 0] [] ?_
 have N:(f.map ftV)=l.map ftW:=by rw[←g,qZ];rfl
 have O:f.length≤4096:=by have V:=Zpc J;rw[←g,uU] at V;have:=uZ u.hr.2 u.hr.2;rw[V];exact uB this qD
 refine xqc 77 [.agg #[yI (n:Int), yI (n:Int),.slice (yL C) f.length f.length], yI 0] 29 (fun b:{b:Nat // m0≤b}=>.tuple #[.agg #[yI (n:Int), yI (n:Int),.slice (yL b.1) (l.map ftW).length (l.map ftW).length], yI 0]) _ (fun w R Q=>((show Calls _ _ _ _ (iE (fun v=>.tuple #[v, yI 0]) n n (l.map ftW) _) by rw[←N];exact Zc3 m0 n n (yL C) f.length f.length f _ Q.2.1 Q.2.2 rfl (P.ext R) O (fun x G=>(fun h=>⟨uB h.1 qD,h.2.2.2⟩:FvOk (nbV x)→_) (ZqF (Zk1 u) qO qO J _ (by rw[←g];exact qE G))))).mono (fun _ _ h=>jX (sh:=fun v=>.tuple #[v, yI 0]) (m0:=m0) (q ▸ R.size) h)) fun⟨D,W⟩=>?_
 refine xq 4 [yJ 7 0] [(6,29,[.v (yI (n:Int)),.v (yI (n:Int)),.v (.slice (yL D) (l.map ftW).length (l.map ftW).length)])] ?_
 refine yZ (zH ?_)
 refine yR (.tuple #[.agg #[yI (n:Int), yI (n:Int),.slice (yL D) (l.map ftW).length (l.map ftW).length], yI 0]) fun w' R Q=>?_
 exact⟨D,rfl,q ▸ Q.2,R⟩
theorem Zjl (ml n:Nat)(A:qA)(cap:Nat)(a:List (ByteArray×Int))(b:Nat)(c:List Fv3)(w:World)(j:Glob w)(k:OwnD w ml 76 2 A cap a.length (a.flatMap flC))(l:FmG ⟨n,n,A,cap,a⟩)(f:8≤b)(g:b≤1024)(o:ZcZ b (a.map ldV) n=some c) :
 yA 34 #[.agg #[.int .i64 ((n:Nat):Int),.int .i64 ((n:Nat):Int),.slice A a.length cap],.int .i64 ((b:Nat):Int)] w (iE (fun v=>.tuple #[v,.int .i64 0]) n n (c.map ftW) w):=by
 obtain⟨m0,e⟩:∃ m,m=w.heap.size:=⟨_,rfl⟩
 refine zQ (Φ:=fun w=>True) func34 rfl qK (fun w' q=>trivial) ?_
 refine yY (xq 3 [(2,.p 2 0),(4,.p 4 0),yJ 5 0] [(4,29,[.v (yI 0),.v (yI 0),.v (.slice none 0 0)]),(2,29,[.v (yI (n:Int)),.v (yI (n:Int)),.v (.slice A a.length cap)])] ?_)
 refine yZ (yY (xq 2 [(6,.v (.agg #[yI (n:Int), yI (n:Int),.slice A a.length cap])),yJ 7 (b:Int)] [] ?_))
 refine xqc 53 [.agg #[yI (n:Int), yI (n:Int),.slice A a.length cap], yI (b:Int),.func (.func 57) #[] #[]] 8 (fun b:{b:Nat // m0≤b}=>.tuple #[.agg #[yI (n:Int), yI (n:Int),.slice (yL b.1) (c.map ftW).length (c.map ftW).length], yI 0]) _ (fun w R Q=>(Zl9 ml n A cap a b c _ (j.ext R) (OwnD.ext k R) l f g o).mono (fun _ _ h=>jX (sh:=fun v=>.tuple #[v, yI 0]) (m0:=m0) (e ▸ R.size) h)) fun⟨d,i⟩=>?_
 refine xq 4 [yJ 5 0] [(4,29,[.v (yI (n:Int)),.v (yI (n:Int)),.v (.slice (yL d) (c.map ftW).length (c.map ftW).length)])] ?_
 refine yZ (zH ?_)
 refine yR (.tuple #[.agg #[yI (n:Int), yI (n:Int),.slice (yL d) (c.map ftW).length (c.map ftW).length], yI 0]) fun w' R Q=>?_
 exact⟨d,rfl,e ▸ Q.2,R⟩
end Go.Proofs.YtenchljfmfgeoaaGreatDoor
namespace Go.Proofs.YtenchljfmfgeoaaGreatDoor
theorem few (s:Bool){n o j b:Nat}(e:Int)(d:0<b)(a:n=o*2^j)(c:o%2=1)(f:n<2^b)(g:okE (e+(j:Int))):wX s n 1 e b=⟨s,o,e+(j:Int),0⟩:=by
 have h:0<n:=by rw[a];exact sL qO (p2 j)
 rw[←kR s n e d]
 unfold lD
 rw[uS (lA.2 f)]
 unfold wT
 rw[uM qO,a,Za5 c,ZaL c,uS g]
theorem ZbN {e:Int}(a : -1000≤e)(b:e≤1000):okE e:=by unfold okE;omega
theorem rd4:wW [52]=some ((4:Int):Rat):=Za7.2 (bE (n:=4) qD qD qD)
theorem rd2:wW [50]=some ((2:Int):Rat):=Za7.2 (bE (n:=2) qD qD qD)
theorem rd5:wW [53]=some ((5:Int):Rat):=Za7.2 (bE (n:=5) qD qD qD)
theorem Zma {l:List UInt8}{n o j:Nat}(h:wW l=some ((n:Int):Rat))(a:n=o*2^j)(b:o%2=1)(c:n<256)(d:j≤1000):kK l 8=⟨false,o,(j:Int),0⟩:=by
 unfold kK
 rw[uS (by rw[h];rfl),uS qO,bL h]
 unfold rndF
 rw[qR,oJ]
 show wX (decide ((n:Int)<0)) n 1 0 8=_
 rw[show decide ((n:Int)<0)=false from uV qO,few false 0 qD a b c (ZbN qO qO),Int.zero_add]
theorem r4:kK [52] 8=⟨false,1,2,0⟩:=Zma (n:=4) (o:=1) (j:=2) rd4 qD qD qD qD
theorem r2:kK [50] 8=⟨false,1,1,0⟩:=Zma (n:=2) (o:=1) (j:=1) rd2 qD qD qD qD
theorem r5:kK [53] 8=⟨false,5,0,0⟩:=Zma (n:=5) (o:=5) (j:=0) rd5 qD qD qD qD
theorem Zjm {n:Nat}{c:UInt8}(a:Lib.decDigits n=[c]):Lib.itoa ((n:Nat):Int)=[c]:=by rw[fI,a]
theorem it1:Lib.itoa 1=[49]:=Zjm (n:=1) (by rw[fV qO];rfl)
theorem it5:Lib.itoa 5=[53]:=Zjm (n:=5) (by rw[fV qO];rfl)
theorem it2:Lib.itoa 2=[50]:=Zjm (n:=2) (by rw[fV qO];rfl)
theorem Zjn {c d:UInt8}{o:Nat}{e:Int}(h:kK [c] 8=⟨false,o,e,0⟩)(a:Lib.itoa (sg false o)=[d]):rdF 8 ⟨#[c]⟩=(⟨#[d]⟩,e):=by
 unfold rdF
 rw[show bytes ⟨#[c]⟩=[c] from rfl,h]
 show ((⟨(Lib.itoa (sg false o)).toArray⟩:ByteArray),e)=_
 rw[a]
def kF:List (ByteArray×Int):=[(⟨#[49]⟩,2),(⟨#[49]⟩,1),(⟨#[49]⟩,1),(⟨#[53]⟩,0)]
theorem Zpd:[(⟨#[52]⟩:ByteArray),⟨#[50]⟩,⟨#[50]⟩,⟨#[53]⟩].map (rdF 8)=kF:=by
 simp only[oG,oS]
 rw[Zjn r4 it1,Zjn r2 it1,Zjn r5 it5]
 rfl
def kA:List Fv3:=[(false,1,2),(false,1,1),(false,1,1),(false,5,0)]
theorem ZqG:kF.map ldV=kA:=by
 unfold kF kA
 simp only[oG,oS]
 refine congr (vI _ ?_) (congr (vI _ ?_) (congr (vI _ ?_) (congr (vI _ ?_) rfl)))
 all_goals (unfold ldV ldR;rw[uS qD];rfl)
theorem Zeq {r:FR}{s:Bool}{m:Nat}{e:Int}(h:r=⟨s,m,e,0⟩):musT r=some (s,m,e):=by subst h;rfl
theorem Zrw:blen 1=1:=Zel (k:=0) qD qD
theorem Zk4:musT (Zeo (false,1,2) 8)=some (false,1,1):=by
 refine Zeq ?_
 show fK false 1 2 8=_
 unfold fK
 rw[uM qD,uM qD]
 have a:sqK 1 2 8 = -6:=by unfold sqK;rw[Zrw];decide
 have b:fq 1 1 (-16)=65536:=by have:=ZaM 1 16;rw[show (-((16:Nat):Int)) = -16 from rfl] at this;rw[this]
 have hi:isq 65536=256:=Zf3 qD qD
 have c:sqM 1 2 8=128:=by
  unfold sqM iN
  rw[a,show (2:Int)-2*(-6)+2=16 from rfl,b,hi]
  decide
 unfold Zbw wT
 rw[a,c,uM qD,show (128:Nat)=1*2^7 from rfl,Za5 qD,ZaL qD,uS (ZbN qD qD)]
 rfl
theorem Zrx:musT (divV (false,1,1) (false,1,1) 8)=some (false,1,0):=by
 refine Zeq ?_
 show ZaC false 1 1 0 8=_
 unfold ZaC
 rw[uM qD]
 exact few (n:=1) (o:=1) (j:=0) (b:=8) false 0 qD qD qD qD (ZbN qD qD)
theorem Zry:jS (false,5,0) (false,1,0) (false,1,0) 8=some (false,1,2):=by
 unfold jS
 rw[show musT (mulV (false,1,0) (false,1,0) 8)=some (false,1,0) from Zeq (few (n:=1) (o:=1) (j:=0) false 0 qD qD qD qD (ZbN qD qD))]
 show musT (subV (false,5,0) (false,1,0) 8)=_
 refine Zeq ?_
 show sumR false 5 0 true 1 0 8=_
 unfold sumR addR
 rw[uM qD,uM qD]
 exact few (n:=4) (o:=1) (j:=2) (b:=8) false 0 qD qD qD qD (ZbN qD qD)
theorem Zfi {b n i j f:Nat}{A L:List Fv3}{t v:Fv3}(a:chK b L i j n j 0 (at3 A (i*n+j))=some t)(Q:chE b L i j n t=some v):chI b A n j (f+1) i L=chI b A n j f (i+1) (L.set (i*n+j) v):=by
 show (chK b L i j n j 0 (at3 A (i*n+j))).bind _=_
 rw[a]
 show (chE b L i j n t).bind _=_
 rw[Q]
 rfl
def kL:List Fv3:=[(false,1,1),(false,0,0),(false,1,0),(false,1,1)]
theorem ZqH:ZcZ 8 kA 2=some kL:=by
 have a:chI 8 kA 2 0 2 0 [(false,0,0),(false,0,0),(false,0,0),(false,0,0)]=some [(false,1,1),(false,0,0),(false,1,0),(false,0,0)]:=by
  rw[Zfi (t:=(false,1,2)) (v:=(false,1,1)) rfl (by unfold chE;rw[uM qD,uM qD];exact Zk4)]
  rw[Zfi (t:=(false,1,1)) (v:=(false,1,0)) rfl (by unfold chE;rw[uS qD];exact Zrx)]
  rfl
 have b:chI 8 kA 2 1 1 1 [(false,1,1),(false,0,0),(false,1,0),(false,0,0)]=some kL:=by
  rw[Zfi (t:=(false,1,2)) (v:=(false,1,1)) (by show (jS (false,5,0) (false,1,0) (false,1,0) 8).bind _=_;rw[Zry];rfl) (by unfold chE;rw[uM qD,uM qD];exact Zk4)]
  rfl
 show (chI 8 kA 2 0 2 0 [(false,0,0),(false,0,0),(false,0,0),(false,0,0)]).bind _=_
 rw[a]
 show (chI 8 kA 2 1 1 1 [(false,1,1),(false,0,0),(false,1,0),(false,0,0)]).bind _=_
 rw[b]
 rfl
def kG:List (ByteArray×Int):=[(⟨#[49]⟩,1),(⟨#[48]⟩,0),(⟨#[49]⟩,0),(⟨#[49]⟩,1)]
theorem ZnT:kL.map ftW=kG:=by
 unfold kL kG
 simp only[oG,oS]
 unfold ftW
 show [((⟨(Lib.itoa 1).toArray⟩:ByteArray),(1:Int)),(⟨(Lib.itoa 0).toArray⟩,0),(⟨(Lib.itoa 1).toArray⟩,0),(⟨(Lib.itoa 1).toArray⟩,1)]=_
 rw[it1,ZdU]
theorem Zpe:kG.map exV=[⟨#[50]⟩,⟨#[48]⟩,⟨#[49]⟩,⟨#[50]⟩]:=by
 have a:flM [49]=1:=qD
 have b:exT [49] 1=[50]:=by
  unfold exT;rw[uS (fv_1 qD qD),a,uM qD,uM qD];exact it2
 have c:exT [49] 0=[49]:=by
  unfold exT;rw[uS (fv_1 qD qD),a,uM qD,uM qD];exact it1
 have d:exT [48] 0=[48]:=Zja qD qD
 unfold kG
 simp only[oG,oS]
 unfold exV
 show [(⟨(exT [49] 1).toArray⟩:ByteArray),⟨(exT [48] 0).toArray⟩,⟨(exT [49] 0).toArray⟩,⟨(exT [49] 1).toArray⟩]=_
 rw[b,c,d]
end Go.Proofs.YtenchljfmfgeoaaGreatDoor
namespace Go.Proofs.YtenchljfmfgeoaaGreatDoor
open Go.RowKit Tryz
def kS:List ByteArray:=[⟨#[52]⟩,⟨#[50]⟩,⟨#[50]⟩,⟨#[53]⟩]
theorem Zrz {w:World}{b:Nat}(h:Blk 9 w b #[.string ⟨#[52]⟩,.string ⟨#[50]⟩,.string ⟨#[50]⟩,.string ⟨#[53]⟩]):SRd w (some ⟨b,0,none⟩) kS:=fun i hi=>by
 refine⟨b,0,rfl,h.lt,?_⟩
 rw[h.cell,vY]
 match i,hi with
 | 0,_=>rfl
 | 1,_=>rfl
 | 2,_=>rfl
 | 3,_=>rfl
theorem Zpf:mtB (2:Nat) (2:Nat) kS=true:=by
 unfold mtB
 rw[vJ qD,Bool.true_and]
 show ([(⟨#[52]⟩:ByteArray),⟨#[50]⟩,⟨#[50]⟩,⟨#[53]⟩]:List ByteArray).all (fun s=>(wW (bytes s)).isSome)=true
 simp only[rI,List.all_nil]
 rw[show bytes ⟨#[52]⟩=[52] from rfl,show bytes ⟨#[50]⟩=[50] from rfl,show bytes ⟨#[53]⟩=[53] from rfl,rd4,rd2,rd5]
 rfl
theorem ZrA:∀ s∈kS,(kK (bytes s) 8).err=0:=fun s a=>by
 simp only[kS,pM,nD,or_false] at a
 rcases a with rfl|rfl|rfl|rfl
 ·rw[show bytes ⟨#[52]⟩=[52] from rfl,r4]
 ·rw[show bytes ⟨#[50]⟩=[50] from rfl,r2]
 ·rw[show bytes ⟨#[50]⟩=[50] from rfl,r2]
 rw[show bytes ⟨#[53]⟩=[53] from rfl,r5]
theorem kF_g (A:qA)(cap:Nat):FmG ⟨2,2,A,cap,kF⟩:=by
 refine⟨by show 1≤2∧2≤32;decide,by show 1≤2∧2≤32;decide,rfl,fun f a=>?_,fun f a=>?_⟩
 all_goals (simp only[kF,pM,nD,or_false] at a;rcases a with rfl|rfl|rfl|rfl<;>decide)
theorem kG_g (A:qA)(cap:Nat):FmG ⟨2,2,A,cap,kG⟩:=by
 refine⟨by show 1≤2∧2≤32;decide,by show 1≤2∧2≤32;decide,rfl,fun f a=>?_,fun f a=>?_⟩
 all_goals (simp only[kG,pM,nD,or_false] at a;rcases a with rfl|rfl|rfl|rfl<;>decide)
theorem kG_x:∀ x∈kG,-1000≤x.2∧x.2≤1000:=fun f a=>by
 simp only[kG,pM,nD,or_false] at a
 rcases a with rfl|rfl|rfl|rfl<;>decide
theorem ZqI {m0:Nat}{w w':World}{e:Ending}(c:m0≤w.heap.size)(h:∃ b,e=.returned (.tuple #[.agg #[.int .i64 ((2:Nat):Int),.int .i64 ((2:Nat):Int),.slice (some ⟨b,0,none⟩) kG.length kG.length],.int .i64 0])∧OwnD w' w.heap.size 9 1 (some ⟨b,0,none⟩) kG.length kG.length ((kG.map exV).flatMap stC)∧Ext w w') :
 lR (fun b:{b:Nat // m0≤b}=>.tuple #[.agg #[.int .i64 2,.int .i64 2,.slice (some ⟨b.1,0,none⟩) 4 4],.int .i64 0]) (fun b w=>OwnD w m0 9 1 (some ⟨b.1,0,none⟩) 4 4 [.string ⟨#[50]⟩,.string ⟨#[48]⟩,.string ⟨#[49]⟩,.string ⟨#[50]⟩]) w e w':=by
 obtain⟨b,rfl,a,Q⟩:=h
 rw[Zpe] at a
 exact⟨⟨b,uB c (a.blk rfl).1⟩,rfl,Q,a.boxN c⟩
theorem Zkc (w:World)(o:Glob w) :
 yA 9 #[] w (RetV w (.bool true)):=by
 obtain⟨m0,j⟩:∃ m,m=w.heap.size:=⟨_,rfl⟩
 refine zQ (Φ:=fun w=>True) func9 rfl qK (fun w' C=>trivial) ?_
 refine yY (xq 1 [yB 0 false] [] ?_)
 refine yZ (zC (zB ?_))
 refine yD (d:=8) (fun q:{b:Nat // m0≤b}=>.slice (yL q.1) 4 4) (fun q B=>Blk 9 B q.1 #[.string ⟨#[52]⟩,.string ⟨#[50]⟩,.string ⟨#[50]⟩,.string ⟨#[53]⟩]) (fun w R Q=>aC (m0:=m0) (j ▸ R.size) (t:=22) (e:=9) (n:=4) (sz:=1) (z:=.string ⟨#[]⟩) (parts:=#[(0,Operand.const (Value.string { data:=#[52] })),(1,Operand.const (Value.string { data:=#[50] })),(2,Operand.const (Value.string { data:=#[50] })),(3,Operand.const (Value.string { data:=#[53] }))]) qK qK qK qK qK qK) fun⟨l,s⟩=>?_
 refine xr 1 [yB 0 false,(9,.v (.agg #[yI 2, yI 2,.slice (yL l) 4 4]))] [] ?_
 refine xqc 10 [.agg #[yI 2, yI 2,.slice (yL l) 4 4], yI 8] 10 (fun b:{b:Nat // m0≤b}=>.tuple #[.agg #[yI 2, yI 2,.slice (yL b.1) 4 4], yI 0]) _ (fun w R Q=>((show Calls _ _ _ _ (Zpz 2 2 kF _) by rw[←Zpd];exact ZhJ 2 2 (yL l) 4 kS 8 _ (o.ext R) (Zrz Q.2) qD Zpf qD qD qD qD qD ZrA)).mono (fun _ _ h=>jX (sh:=fun v=>.tuple #[v, yI 0]) (m0:=m0) (r:=2) (c:=2) (j ▸ R.size) h)) fun⟨k,u⟩=>?_
 refine xq 6 [(1,.p 1 0),yJ 2 0] [(1,29,[.v (yI 2),.v (yI 2),.v (.slice (yL k) 4 4)])] ?_
 refine yZ (yY (xq 1 [(14,.v (.agg #[yI 2, yI 2,.slice (yL k) 4 4]))] [] ?_))
 refine xqc 34 [.agg #[yI 2, yI 2,.slice (yL k) 4 4], yI 8] 15 (fun b:{b:Nat // m0≤b}=>.tuple #[.agg #[yI 2, yI 2,.slice (yL b.1) 4 4], yI 0]) _ (fun w R Q=>((show Calls _ _ _ _ (iE (fun v=>.tuple #[v, yI 0]) 2 2 kG _) by rw[←ZnT];exact Zjl m0 2 (yL k) 4 kF 8 kL _ (o.ext R) Q.2 (kF_g _ _) qD qD (by rw[ZqG];exact ZqH))).mono (fun _ _ h=>jX (sh:=fun v=>.tuple #[v, yI 0]) (m0:=m0) (r:=2) (c:=2) (j ▸ R.size) h)) fun⟨f,y⟩=>?_
 refine xq 6 [(3,.p 3 0),yJ 4 0] [(3,29,[.v (yI 2),.v (yI 2),.v (.slice (yL f) 4 4)])] ?_
 refine yZ (yY (xq 1 [(19,.v (.agg #[yI 2, yI 2,.slice (yL f) 4 4]))] [] ?_))
 refine xqc 36 [.agg #[yI 2, yI 2,.slice (yL f) 4 4]] 20 (fun b:{b:Nat // m0≤b}=>.tuple #[.agg #[yI 2, yI 2,.slice (yL b.1) 4 4], yI 0]) _ (fun w R Q=>(Zl2 m0 2 2 (yL f) 4 kG _ Q.2 (o.ext R) (kG_g (yL f) 4).hr (kG_g (yL f) 4).hc rfl (kG_g (yL f) 4).hv (kG_g (yL f) 4).hs kG_x).mono (fun _ _ h=>ZqI (m0:=m0) (j ▸ R.size) h)) fun⟨a,A⟩=>?_
 refine xq 6 [(5,.p 5 0),yJ 6 0] [(5,24,[.v (yI 2),.v (yI 2),.v (.slice (yL a) 4 4)])] ?_
 refine yZ (yY (xq 15 [yB 33 true,yB 37 ((((4:Nat):Int):Int) == 4)] [] ?_))
 rw[(show ((((4:Nat):Int):Int) == 4)=true from rfl)]
 refine xq 4 [yB 39 true,eS1 41 (yL a) 4 4] [] ?_
 refine xqk 42 (.pointer (some ⟨a,0+0*1,none⟩)) (fun w R Q=>iM (t:=22) (e:=9) (sz:=1) (x:=.tmp 41) (ix:=(Operand.const (Value.int IntKind.i64 0))) (len:=4) (cap:=4) (i:=0) qD) ?_
 refine xqk 43 (.string ⟨#[50]⟩) (fun w R Q=>xV (t:=9) (x:=.tmp 42) (g:=a) (off:=0) (OwnD.news Q.2 0 _ rfl)) ?_
 refine xq 1 [yB 44 ((⟨#[50]⟩:ByteArray).toList == (⟨#[50]⟩:ByteArray).toList)] [] ?_
 rw[ZcA]
 refine xq 4 [yB 46 true,eS1 48 (yL a) 4 4] [] ?_
 refine xqk 49 (.pointer (some ⟨a,0+1*1,none⟩)) (fun w R Q=>iM (t:=22) (e:=9) (sz:=1) (x:=.tmp 48) (ix:=(Operand.const (Value.int IntKind.i64 1))) (len:=4) (cap:=4) (i:=1) qD) ?_
 refine xqk 50 (.string ⟨#[48]⟩) (fun w R Q=>xV (t:=9) (x:=.tmp 49) (g:=a) (off:=1) (OwnD.news Q.2 1 _ rfl)) ?_
 refine xq 1 [yB 51 ((⟨#[48]⟩:ByteArray).toList == (⟨#[48]⟩:ByteArray).toList)] [] ?_
 rw[ZcA]
 refine xq 4 [yB 53 true,eS1 55 (yL a) 4 4] [] ?_
 refine xqk 56 (.pointer (some ⟨a,0+2*1,none⟩)) (fun w R Q=>iM (t:=22) (e:=9) (sz:=1) (x:=.tmp 55) (ix:=(Operand.const (Value.int IntKind.i64 2))) (len:=4) (cap:=4) (i:=2) qD) ?_
 refine xqk 57 (.string ⟨#[49]⟩) (fun w R Q=>xV (t:=9) (x:=.tmp 56) (g:=a) (off:=2) (OwnD.news Q.2 2 _ rfl)) ?_
 refine xq 1 [yB 58 ((⟨#[49]⟩:ByteArray).toList == (⟨#[49]⟩:ByteArray).toList)] [] ?_
 rw[ZcA]
 refine xr 4 [yB 0 false,yB 60 true,eS1 62 (yL a) 4 4] [] ?_
 refine xqk 63 (.pointer (some ⟨a,0+3*1,none⟩)) (fun w R Q=>iM (t:=22) (e:=9) (sz:=1) (x:=.tmp 62) (ix:=(Operand.const (Value.int IntKind.i64 3))) (len:=4) (cap:=4) (i:=3) qD) ?_
 refine xqk 64 (.string ⟨#[50]⟩) (fun w R Q=>xV (t:=9) (x:=.tmp 63) (g:=a) (off:=3) (OwnD.news Q.2 3 _ rfl)) ?_
 refine xq 1 [yB 65 ((⟨#[50]⟩:ByteArray).toList == (⟨#[50]⟩:ByteArray).toList)] [] ?_
 rw[ZcA]
 refine xq 2 [yB 0 true] [] ?_
 refine yZ (zH ?_)
 refine yR (.bool true) fun w' R Q=>?_
 exact⟨rfl,R⟩
theorem ZqJ {m0 n c:Nat}{ys:List Qr}{w w':World}{e:Ending}(b:m0≤w.heap.size)(h:Zh9 n c ys w e w') :
 lR (fun x:Option Addr×Nat=>.agg #[.int .i64 ((n:Nat):Int),.int .i64 ((c:Nat):Int),.slice x.1 (n*c) x.2]) (fun x w=>OwnD w m0 9 1 x.1 x.2 (n*c) ((ys.flatMap (fun r=>r.xs.map qT)).flatMap stC)) w e w':=by
 obtain⟨A,a,rfl,d,Q⟩:=h
 exact⟨(A,a),rfl,Q,d.boxN b⟩
theorem ZnU (e b n c:Nat)(ys:List Qr)(w:World)(l:OwnD w e 61 1 (some ⟨b,0,none⟩) n n (ys.flatMap qrC))(j:RsOk e w ys)(o:ys.length=n)(f:0<n)(r:n≤64)(g:0<c)(i:c≤64)(s:∀ y∈ys,y.xs.length=c)(t:∀ y∈ys,∀ x∈y.xs,ml x.q.num.natAbs≤65536∧ml x.q.den≤65536) :
 yA 16 #[.slice (some ⟨b,0,none⟩) n n] w (Zh9 n c ys w):=by
 obtain⟨m0,d⟩:∃ m,m=w.heap.size:=⟨_,rfl⟩
 refine zQ (Φ:=fun w=>True) func16 rfl qK (fun w' u=>trivial) ?_
 refine yY (xq 1 [(2,.p 2 0)] [(2,24,[.v (yI 0),.v (yI 0),.v (.slice none 0 0)])] ?_)
 refine yZ (yY (xq 1 [eS1 3 (yL b) n n] [] ?_))
 refine xqc 43 [.slice (yL b) n n] 4 (fun x:Option Addr×Nat=>.agg #[yI (n:Int), yI (c:Int),.slice x.1 (n*c) x.2]) _ (fun w R Q=>(Zpa e b n c ys _ (OwnD.ext l R) (fun y k=>⟨OwnD.ext (j y k).1 R,QsOk.ext (j y k).2 R⟩) o f r g i s t).mono (fun _ _ h=>ZqJ (m0:=m0) (d ▸ R.size) h)) fun⟨A,a⟩=>?_
 refine xq 1 [] [(2,24,[.v (yI (n:Int)),.v (yI (c:Int)),.v (.slice A (n*c) a)])] ?_
 refine yZ (zH ?_)
 refine yR (.agg #[yI (n:Int), yI (c:Int),.slice A (n*c) a]) fun w' R Q=>?_
 exact⟨A,a,rfl,d ▸ Q.2,R⟩
instance {p q m0:Nat}:Nonempty {x:Nat × List Qr // x.2.map (fun r=>r.xs.map (·.q))=List.replicate p (List.replicate q 0)∧m0≤x.1}:=⟨⟨(m0,List.replicate p ⟨none,0,List.replicate q qv0⟩),by
 refine⟨?_,uG _⟩
 rw[List.map_replicate,List.map_replicate];rfl⟩⟩
theorem ZqK {w:World}{m c n:Nat}{A:qA}{ts:List ByteArray}(h:OwnD w m 9 1 A c n (ts.flatMap stC)):SRd w A ts:=fun i hi=>by
 have d:=dW ZaS ts i 0 hi qD
 obtain⟨b,e,f,a⟩:=h.at (v:=.string ts[i]!) d
 exact⟨b,0,e,f,by rw[tT,tD] at a;exact a⟩
theorem rd0:wW [48]=some ((0:Int):Rat):=Za7.2 (bE (n:=0) qD qD qD)
theorem r0:kK [48] 8=⟨false,0,0,0⟩:=by
 unfold kK
 rw[uS (by rw[rd0];rfl),uS qO,bL rd0]
 rfl
structure Ef where
 s:Bool
 A:Option Addr
 l:Nat
 c:Nat
 e:Int
 z:Int
def ef0:Ef:=⟨false,none,0,0,0,0⟩
instance:Inhabited Ef:=⟨ef0⟩
instance {β:Type} {m:Nat} {ys:List (Mr β)}:Nonempty {b:Nat // m≤b∧∀ y∈ys,y.A≠some ⟨b,0,none⟩}:=by
 refine⟨⟨m+(ys.map (fun y=>match y.A with | some a=>a.block+1 | none=>0)).sum,Nat.le_add_right _ _,fun y hy h=>?_⟩⟩
 have h1:∀ (l:List (Mr β)),y∈l→(match y.A with | some a=>a.block+1 | none=>0)≤(l.map (fun y=>match y.A with | some a=>a.block+1 | none=>0)).sum:=fun l hl=>by
  induction l with
  | nil=>cases hl
  | cons x l ih =>
   rw[oG,List.sum_cons]
   rcases pM.1 hl with e|e
   ·subst e;exact Nat.le_add_right _ _
   have:=ih e;omega
 have h2:=h1 ys hy
 rw[h] at h2
 dsimp only at h2
 omega
theorem ZnV {w:World}{s:Bool}{A:qA}{l c:Nat}{z:Int}(h:zZ w (.agg #[.bool s,.slice A l c]) z):zS w (.agg #[.bool s,.slice A l c,.bool false,.slice none 0 0]) ((z:Int):Rat):=⟨s,false,A,none,l,c,0,0,rfl,h,zZ.nil w⟩
theorem zS.tape {w w':World}{τ:Tap}{v:Value}{z:Rat}(h:zS w v z)(a:TOk τ w)(b:Fr (fun i=>i=τ.g) w w'):zS w' v z:=h.nrb a.nrb' b
theorem zS.rowUp {w w':World}{m n c k:Nat}{e:TypeId}{A:qA}{xs:List Value}{v:Value}{z:Rat}(h:zS w v z)(a:OwnD w m e k A c n xs)(b:Fr (fun i=>A=some ⟨i,0,none⟩) w w'):zS w' v z:=h.nrb (fun _ hi=>a.nrb hi) b
section
variable {w w':World} {m m0 n c k i j:Nat} {e:TypeId} {A A':Option Addr} {l:List Value} {ms rs:List (Mr Qv)} {τ:Tap}
def QMs (w:World) (ms:List (Mr Qv)):Prop:=∀ y∈ms,QsOk w y.xs
theorem QMs.nrb {S:Nat→Prop}(h:QMs w ms)(a:∀ i,S i→NRB w i)(b:Fr S w w'):QMs w' ms:=fun y d=>(h y d).nrb a b
theorem QMs.ext (h:QMs w ms)(a:Ext w w'):QMs w' ms:=fun y b=>(h y b).ext a
theorem QMs.row (h:QMs w ms)(a:OwnD w m e k A c n l)(b:Fr (fun i=>A=some ⟨i,0,none⟩) w w'):QMs w' ms:=h.nrb (fun _ hi=>a.nrb hi) b
theorem QMs.tape (h:QMs w ms)(a:TOk τ w)(b:Fr (fun i=>i=τ.g) w w'):QMs w' ms:=h.nrb a.nrb' b
theorem QMs.zero (h:ms.map (·.xs)=List.replicate n (List.replicate c qv0)):QMs w ms:=fun y b=>by
 have a:y.xs∈ms.map (·.xs):=qE b
 rw[h] at a
 rw[(rV.1 a).2]
 exact QsOk.zero w c
theorem QMs.set {y:Mr Qv}{x:Qv}(h:QMs w ms)(hi:i<ms.length)(f:ms[i]! = y)(g:zS w (jJ x.c) x.q):QMs w (ms.set i ⟨y.A,y.cap,y.xs.set j x⟩):=fun z p u d=>by
 rcases sH p with a|a
 ·exact h z a u d
 subst a
 rcases sH d with b|b
 ·exact h y (f ▸ xM hi) u b
 subst b;exact g
theorem QMs.app (h:QMs w ms)(a:QMs w rs):QMs w (ms ++ rs):=fun y b=>(tR.1 b).elim (h y) (a y)
theorem MrOk.tape {α:Type}{enc:α→List Value}{ys:List (Mr α)}{g:Nat}(h:MrOk e k enc m w ys)(b:Fr (fun i=>i=g) w w')(f:g<m):MrOk e k enc m w' ys:=h.fr b (fun y d i hi a=>by
 have p:=((h.own y d).blk hi).1
 have a:i=g:=a
 omega)
theorem setg {α:Type}[Inhabited α]{l:List α}{i a:Nat}{x:α}(ha:a<l.length):(l.set i x)[a]! = if i=a then x else l[a]! := by
 rw[vP _ a (by rw[vT];exact ha),nC,vP l a ha]
def QG (n c:Nat) (ms:List (Mr Qv)) (Z:Nat→Nat→Int):Prop:=ms.length=n∧(∀ a,a<n→ms[a]!.xs.length=c)∧∀ a b,a<n→b<c→ms[a]!.xs[b]!.q=((Z a b:Int):Rat)
def updZ (Z:Nat→Nat→Int) (i j:Nat) (z:Int):Nat→Nat→Int:=fun a b=>if i=a∧j=b then z else Z a b
theorem QG.zero (h:ms.map (·.xs)=List.replicate n (List.replicate c qv0)):QG n c ms (fun _ _=>0):=by
 have f:ms.length=n:=by have:=vI List.length h;rwa [uU,sF] at this
 have g:∀ a,a<n→ms[a]!.xs=List.replicate c qv0:=fun a d=>by
  have p:ms[a]!.xs∈ms.map (·.xs):=qE (xM (f.symm ▸ d))
  rw[h] at p
  exact (rV.1 p).2
 refine⟨f,fun a d=>by rw[g a d,sF],fun a b d q=>?_⟩
 rw[g a d,vP _ b (by rw[sF];exact q),pJ];rfl
theorem QG.cl {Z:Nat→Nat→Int}{x:Mr Qv}(h:QG n c ms Z)(hi:i<n)(a:ms[i]! = x)(b:j<c):j<x.xs.length:=by rw[←a,h.2.1 i hi];exact b
theorem QG.mem {Z:Nat→Nat→Int}{x:Mr Qv}(h:QG n c ms Z)(hi:i<n)(a:ms[i]! = x):x∈ms:=a ▸ xM (h.1.symm ▸ hi)
theorem QG.q {Z:Nat→Nat→Int}{x:Mr Qv}{v:Qv}(h:QG n c ms Z)(hi:i<n)(a:ms[i]! = x)(b:j<c)(d:x.xs[j]! = v):v.q=((Z i j:Int):Rat):=by rw[←d,← a];exact h.2.2 i j hi b
theorem QG.congr {Z Y:Nat→Nat→Int}(h:QG n c ms Z)(e:∀ a b,a<n→b<c→Z a b=Y a b):QG n c ms Y:=⟨h.1,h.2.1,fun a b d f=>by rw[h.2.2 a b d f,e a b d f]⟩
theorem QG.set {Z:Nat→Nat→Int}{y:Mr Qv}{x:Qv}{z:Int}(h:QG n c ms Z)(hi:i<n)(s:ms[i]! = y)(B:x.q=((z:Int):Rat)):QG n c (ms.set i ⟨y.A,y.cap,y.xs.set j x⟩) (updZ Z i j z):=by
 obtain⟨p,u,v⟩:=h
 have f:y.xs.length=c:=s ▸ u i hi
 refine⟨by rw[vT];exact p,fun a d=>?_,fun a b d r=>?_⟩
 ·rw[setg (p.symm ▸ d)]
  by_cases e:i=a
  ·rw[uS e];show (y.xs.set j x).length=c;rw[vT];exact f
  rw[uM e];exact u a d
 rw[setg (p.symm ▸ d)]
 unfold updZ
 by_cases e:i=a
 ·rw[uS e]
  subst e
  show (y.xs.set j x)[b]!.q=_
  rw[setg (f.symm ▸ r)]
  by_cases g:j=b
  ·rw[uS g,uS ⟨rfl,g⟩];exact B
  rw[uM g,uM (fun h=>g h.2),← s];exact v i b d r
 rw[uM e,uM (fun h=>e h.1)];exact v a b d r
structure QIn (m:Nat) (w:World) (A:Option Addr) (cap n:Nat) (rs:List (Mr Qv)):Prop where
 row:∃ mq,OwnD w mq 61 1 A cap n (rs.flatMap mrC)
 rlt:∀ i,A=some ⟨i,0,none⟩→i<m
 rd:∀ y∈rs,RdD 59 4 qvC w y.A y.xs
 qs:QMs w rs
 lt:∀ y∈rs,∀ b off,y.A=some ⟨b,off,none⟩→b<m
theorem QIn.up {s u cap:Nat}(h:QIn m w A cap n rs)(a:OwnD w m e k A' s u l)(d:Fr (fun i=>A'=some ⟨i,0,none⟩) w w'):QIn m w' A cap n rs:=by
 obtain⟨⟨v,z⟩,p,B,C,q⟩:=h
 refine⟨⟨v,z.fr d (fun i hi f=>?_)⟩,p,fun y r=>(B y r).fr d (fun b g D E _ f=>?_),C.row a d,q⟩
 ·have F:=p i hi
  have G:=(a.blk f).1
  omega
 have F:=q y r b g E
 have G:=(a.blk f).1
 omega
theorem QIn.ext {cap:Nat}(h:QIn m w A cap n rs)(a:Ext w w'):QIn m w' A cap n rs:=by
 obtain⟨⟨b,d⟩,f,g,p,q⟩:=h
 exact⟨⟨b,d.ext a⟩,f,fun y r=>(g y r).ext a,p.ext a,q⟩
theorem QIn.of {cap:Nat}(d:OwnD w m0 61 1 A cap n (rs.flatMap mrC))(f:MrOk 59 4 qvC m w rs)(p:QMs w rs):QIn w.heap.size w A cap n rs:=by
 refine⟨⟨_,d⟩,fun i hi=>?_,fun y a=>(f.own y a).rd jM,p,fun y a b q hb=>?_⟩
 ·obtain⟨_,_,h,_⟩:=d.blk hi
  exact h.lt
 have r:=f.own y a
 rcases r.2 with ⟨s,_,_⟩|⟨g,u,v,B,z,_⟩
 ·rw[s] at hb;cases hb
 rw[v] at hb
 injection hb with hb
 injection hb with hb
 rw[←hb];exact z.lt
theorem QIn.ne {cap:Nat}(h:QIn m w A cap n rs)(hi:i<n):A≠none:=by obtain⟨b,a⟩:=h.row;exact OwnD.ne a hi
theorem QIn.rdat {cap:Nat}{Z:Nat→Nat→Int}{x:Mr Qv}(h:QIn m w A cap n rs)(a:QG n c rs Z)(hi:i<n)(b:rs[i]! = x):RdD 59 4 qvC w x.A x.xs:=h.rd x (a.mem hi b)
theorem QIn.rne {cap:Nat}{Z:Nat→Nat→Int}{x:Mr Qv}(h:QIn m w A cap n rs)(a:QG n c rs Z)(hi:i<n)(b:rs[i]! = x)(d:j<c):x.A≠none:=RdD.ne (h.rdat a hi b) jM qD (a.cl hi b d)
theorem QMs.num {Z:Nat→Nat→Int}{x:Mr Qv}{v:Qv}(h:QMs w rs)(a:QG n c rs Z)(hi:i<n)(b:rs[i]! = x)(d:j<c)(f:x.xs[j]! = v):zS w (jJ v.c) ((Z i j:Int):Rat):=by
 rw[←a.q hi b d f]
 exact h x (a.mem hi b) v (f ▸ xM (a.cl hi b d))
end
section
variable {P:Program} {o:Oper} {ρ:Operand→Value} {w:World} {t e:TypeId} {x:Operand} {A:Option Addr} {m n c j cap:Nat} {rs:List (Mr Qv)} {Z:Nat→Nat→Int} {y:Mr Qv}
theorem dP (h:OwnD w m e 1 A cap n (rs.flatMap mrC))(a:QG n c rs Z)(b:j<n)(d:rs[j]! = y)(f:o.op=Op.load t x:=by kernel_rfl)(g:ρ x=atA A (j*1):=by kernel_rfl)(ha:(teOf P t).map (fun e=>e.agg)=some false:=by kernel_rfl) :
 (execOp ρ o).run P w=.ok (.value (.slice y.A c y.cap)) w:=by
 subst d
 rw[←a.2.1 j b]
 exact ZqA h (a.1.symm ▸ b) f g ha
theorem eM (h:QIn m w A cap n rs)(a:QG n c rs Z)(b:j<n)(d:rs[j]! = y)(f:o.op=Op.load t x:=by kernel_rfl)(g:ρ x=atA A (j*1):=by kernel_rfl)(ha:(teOf P t).map (fun e=>e.agg)=some false:=by kernel_rfl) :
 (execOp ρ o).run P w=.ok (.value (.slice y.A c y.cap)) w:=by
 obtain⟨q,p⟩:=h.row
 exact dP p a b d f g ha
end
def RetQ (n c:Nat) (Z:Nat→Nat→Int) (w:World) (en:Ending) (w':World):Prop:=∃ b ys,en=.returned (.slice (some ⟨b,0,none⟩) n n)∧QG n c ys Z∧OwnD w' w.heap.size 61 1 (some ⟨b,0,none⟩) n n (ys.flatMap mrC)∧MrOk 59 4 qvC w.heap.size w' ys∧QMs w' ys∧Ext w w'
theorem Zao {n c m0:Nat}{Z:Nat→Nat→Int}{w w':World}{d:Ending}(a:m0≤w.heap.size)(h:RetQ n c Z w d w') :
 lR (fun x:{x:Nat × List (Mr Qv) // QG n c x.2 Z∧m0≤x.1}=>.slice (some ⟨x.1.1,0,none⟩) n n) (fun x w=>(OwnD w m0 61 1 (some ⟨x.1.1,0,none⟩) n n (x.1.2.flatMap mrC)∧MrOk 59 4 qvC m0 w x.1.2)∧QMs w x.1.2) w d w':=by
 obtain⟨b,g,rfl,p,f,q,r,Q⟩:=h
 exact⟨⟨(b,g),p,uB a (f.blk rfl).1⟩,rfl,Q,((f.boxN a).and (q.boxN a)).and (boxn Q (fun S s u v=>r.nrb u v))⟩
instance {n c m0:Nat} {Z:Nat→Nat→Int}:Nonempty {x:Nat × List (Mr Qv) // QG n c x.2 Z∧m0≤x.1}:=by
 refine⟨⟨(m0,(List.range n).map (fun a=>⟨none,0,(List.range c).map (fun b=>⟨qv0.c,((Z a b:Int):Rat)⟩)⟩)),⟨by simp,fun a ha=>?_,fun a b ha hb=>?_⟩,uG _⟩⟩
 ·show (((List.range n).map _)[a]! : Mr Qv).xs.length=c
  rw[vP _ a (by simpa using ha)];simp
 show (((List.range n).map _)[a]! : Mr Qv).xs[b]!.q=_
 rw[vP _ a (by simpa using ha),nE,vP _ b (by simpa using hb),nE];simp
theorem ZnW (n:Int)(w:World)(g : -9223372036854775808≤n)(h:n≤9223372036854775807) :
 yA 33 #[.int .i64 n] w (jU w ((n:Int):Rat)):=by
 refine zQ (Φ:=fun w=>True) func33 rfl qK (fun w' q=>trivial) ?_
 refine yY (xq 1 [(2,.p 2 0)] [bR4 2 59 false none 0 0 false none 0 0] ?_)
 refine yZ (yY (xq 1 [yJ 3 n] [] ?_))
 refine xqc 56 [yI n] 4 wR _ (fun w R Q=>yM wF (ZdB n _ g h)) fun⟨a,b,d,f⟩=>?_
 refine xq 2 [] [bR4 2 59 a b d f false none 0 0] ?_
 refine yZ (zH ?_)
 refine yR (.agg #[.bool a,.slice b d f,.bool false,.slice none 0 0]) fun w' R Q=>?_
 exact⟨_,rfl,ZnV Q.2,R⟩
theorem Zc4 (τ:Tap)(wl w:World)(D:TOld wl τ)(F:Ext wl w)(G:TOk τ w)(k:Int)(H:0≤k)(K:k≤1000) :
 yA 22 #[.pointer (some ⟨τ.g,0,none⟩),.int .i64 k] w (RetT τ (fun x:ShQ×Int=>jJ x.1) (fun x => -k≤x.2∧x.2≤k) (fun x w=>zS w (jJ x.1) ((x.2:Int):Rat)) w):=by
 refine ZhI (fun i=>i=τ.g) (Φ:=fun w=>TOk τ w) func22 rfl qK (fun w' I=>G.ext I) ?_
 refine yY (xq 1 [(4,.p 4 0)] [bR4 4 59 false none 0 0 false none 0 0] ?_)
 refine yZ (yY (xq 3 [(5,.v (.pointer (some ⟨τ.g,0,none⟩))),yJ 7 (IntKind.i64.wrap (2*k))] [] ?_))
 rw[(show IntKind.i64.wrap (2*k)=2*k by rw[IntKind.wrap_i64];omega)]
 refine xq 1 [yJ 8 (IntKind.i64.wrap ((2*k)+1))] [] ?_
 rw[(show IntKind.i64.wrap (2*k+1)=2*k+1 by rw[IntKind.wrap_i64];omega)]
 refine aN (b:=τ.g) (d:=9) (j:=0) (c:=.slice τ.A τ.l τ.c) 20 [.pointer (some ⟨τ.g,0,none⟩), yI (2*k+1)] (fun x:{x:Nat // (fun v=>(v:Int)<(2*k+1)) x}=>(fun v=>yI (v:Int)) x.1) (fun w=>True) (fun x w=>TOk τ w∧(fun _ _=>True) x.1 w) (fun w Q=>TOk.cell Q) (Or.inr rfl) (fun w R Q=>(ZhK τ wl ((2*k+1)) _ D (D.old F R) Q qO qO).mono (fun _ _ h=>Zd5 h (fun x J h=>fun _ _ _ _=>trivial))) (fun w L R Q J=>trivial) fun⟨a,E⟩=>?_
 refine xr 2 [(4,.p 4 0),yJ 11 (IntKind.i64.wrap ((a:Int)-k))] [bR4 4 59 false none 0 0 false none 0 0] ?_
 rw[(show IntKind.i64.wrap ((a:Int)-k)=(a:Int)-k by rw[IntKind.wrap_i64];omega)]
 refine xqc 33 [yI ((a:Int)-k)] 12 jJ _ (fun w R Q=>yM fY (ZnW ((a:Int)-k) _ qO qO)) fun⟨f,q,r,s,u,z,B,C⟩=>?_
 refine xq 1 [] [bR4 4 59 f q r s u z B C] ?_
 refine yZ (zH ?_)
 refine yR (.agg #[.bool f,.slice q r s,.bool u,.slice z B C]) fun w' R Q=>?_
 exact⟨(⟨f,q,r,s,u,z,B,C⟩,(a:Int)-k),⟨by show -k≤(a:Int)-k;omega,by show (a:Int)-k≤k;omega⟩,rfl,R,Q.1.2.1,Q.2⟩
theorem ZaG (n c:Nat)(w:World)(K:n≤1000)(L:c≤1000) :
 yA 17 #[.int .i64 ((n:Nat):Int),.int .i64 ((c:Nat):Int)] w (RetQ n c (fun _ _=>0) w):=by
 obtain⟨m0,p⟩:∃ m,m=w.heap.size:=⟨_,rfl⟩
 refine zQ (Φ:=fun w=>True) func17 rfl qK (fun w' M=>trivial) ?_
 refine yY (xq 1 [eS1 4 none 0 0] [] ?_)
 refine yZ (yY (xq 1 [yJ 7 (n:Int)] [] ?_))
 refine yD (d:=8) (fun u:{b:Nat // m0≤b}=>.slice (yL u.1) n n) (fun u w=>OwnD w m0 61 1 (yL u.1) n n ((List.replicate n (mr0:Mr Qv)).flatMap mrC)) (fun w R Q=>fC (t:=33) (e:=61) (kl:=.i64) (kc:=.i64) (l:=.tmp 7) (c:=.tmp 7) (bytes:=24) (z:=.slice none 0 0) (mr0:Mr Qv) Zck qD rfl ZnN (p ▸ R.size) (by simp only[maxLen];omega) qO) fun⟨a,D⟩=>?_
 refine xr 1 [yJ 0 (n:Int),yJ 1 (c:Int),eS1 4 none 0 0,eS1 5 (yL a) n n] [] ?_
 refine yZ (zC (yY (xq 1 [yJ 6 0] [] ?_)))
 refine yZ (zP ?_)
 refine yC [yJ 0 (n:Int),yJ 1 (c:Int),eS1 4 none 0 0,eS1 5 (yL a) n n,yJ 6 ((0:Nat):Int)] [] (fun w=>(MrOk 59 4 qvC m0 w ([]:List (Mr Qv))∧OwnD w m0 61 1 (yL a) n n ((fill n (mr0:Mr Qv) ([]:List (Mr Qv))).flatMap mrC))) (fun w Q=>⟨MrOk.nil,(by rw[ZcX];exact Q.2)⟩) ?_
 refine xU (fun E F G=>∃ (k:Nat) (g:List (Mr Qv)),F=ofL [yJ 0 (n:Int),yJ 1 (c:Int),eS1 4 none 0 0,eS1 5 (yL a) n n,yJ 6 (k:Int)] []∧G=(fun w=>(MrOk 59 4 qvC m0 w g∧OwnD w m0 61 1 (yL a) n n ((fill n (mr0:Mr Qv) g).flatMap mrC)))∧(k≤n)∧(g.length=k)∧(g.map (·.xs)=List.replicate k (List.replicate c qv0))∧E=(1+(n-k))) ((1+(n-0))) ⟨0,([]:List (Mr Qv)),rfl,rfl,(vL _),rfl,rfl,rfl⟩ ?_
 rintro E F G ⟨k,g,rfl,rfl,N,v,s,rfl⟩
 refine zC (yY (xq 3 [yB 11 (decide ((k:Int)<(n:Int)))] [] ?_))
 refine xe (zA ?_)
 refine yQ ((decide ((k:Int)<(n:Int)))) (fun q=>?_) fun q=>?_
 ·have r:k<n:=by have:=uC q;omega
  refine zI (zA (zC (zP (zB (xq 3 [eS1 14 (yL a) n n,yJ 15 (k:Int),yJ 16 (c:Int)] [] ?_)))))
  refine yD (d:=17) (fun u:{b:Nat // m0≤b∧∀ y∈g,y.A≠yL b}=>.slice (yL u.1) c c) (fun u w=>OwnD w m0 59 4 (yL u.1) c c ((List.replicate c qv0).flatMap qvC)) (fun w R Q=>Zl8 (t:=61) (e:=59) (kl:=.i64) (kc:=.i64) (l:=.tmp 16) (c:=.tmp 16) (bytes:=64) (z:=.agg #[.bool false,.slice none 0 0,.bool false,.slice none 0 0]) qv0 jM qD rfl Zbb Q.1 (p ▸ R.size) (by simp only[maxLen];omega) qO) fun⟨f,H,B⟩=>?_
  refine xr 0 [yJ 0 (n:Int),yJ 1 (c:Int),eS1 4 none 0 0,eS1 5 (yL a) n n,yJ 6 (k:Int),eS1 14 (yL a) n n,yJ 15 (k:Int),eS1 17 (yL f) c c] [] ?_
  refine xqk 18 (.pointer (some ⟨a,0+k*1,none⟩)) (fun w R Q=>iM (t:=33) (e:=61) (sz:=1) (x:=.tmp 14) (ix:=.tmp 15) (len:=n) (cap:=n) (i:=k) r) ?_
  refine dX (t:=61) (x:=.tmp 18) (y:=.tmp 17) (j:=k) (new:=mrC ((⟨yL f,c,List.replicate c qv0⟩:Mr Qv))) m0 a (.slice (yL f) c c) (fun w=>(MrOk 59 4 qvC m0 w g∧OwnD w m0 59 4 (yL f) c c ((List.replicate c qv0).flatMap qvC))) (fun w Q=>Q.1.2) r rfl qD (fun h=>Or.inl (uB (p ▸ uG _) h)) (by simp[mrC,Value.oneCell']) (ZnN _) (by unfold mrC;rw[sF];rfl) (fun w w' Q I=>⟨MrOk.apart Q.1.1 Q.1.2 qD I,OwnD.apart Q.2 Q.1.2 qD I⟩) ?_
  rw[←iL Zck ((fill n (mr0:Mr Qv) g)) k ((⟨yL f,c,List.replicate c qv0⟩:Mr Qv)) (by rw[ZcV qO];exact r),Zd2 v r]
  refine xr 0 [yJ 0 (n:Int),yJ 1 (c:Int),eS1 4 none 0 0,eS1 5 (yL a) n n,yJ 6 (k:Int)] [] ?_
  refine xe (xS (zA (zB (xq 2 [yJ 13 (IntKind.i64.wrap ((k:Int)+1))] [] ?_))))
  rw[yW ((k:Int)+1) (((k+1:Nat):Int)) qO]
  refine xq 1 [yJ 6 ((k+1:Nat):Int)] [] ?_
  refine xe ?_
  refine yP [yJ 0 (n:Int),yJ 1 (c:Int),eS1 4 none 0 0,eS1 5 (yL a) n n,yJ 6 (((k+1):Nat):Int)] [] (fun w=>(MrOk 59 4 qvC m0 w (g ++ [(⟨yL f,c,List.replicate c qv0⟩:Mr Qv)])∧OwnD w m0 61 1 (yL a) n n ((fill n (mr0:Mr Qv) (g ++ [(⟨yL f,c,List.replicate c qv0⟩:Mr Qv)])).flatMap mrC))) (fun w Q=>⟨(MrOk.snoc Q.1.1 (by show OwnD _ _ _ _ _ _ (List.replicate c qv0).length _;rw[sF];exact Q.1.2) B),Q.2⟩) ?_
  exact xH ((1+(n-(k+1)))) qO ⟨(k+1),(g ++ [(⟨yL f,c,List.replicate c qv0⟩:Mr Qv)]),rfl,rfl,r,(by rw[uK,v];rfl),(by rw[nI,s,pR];rfl),rfl⟩
 have C:k=n:=by have:=uD q;omega
 refine xO (zG (zG (xW (zA (yY (xq 2 [eS1 4 (yL a) n n] [] ?_))))))
 refine yZ (zH ?_)
 refine yR (.slice (yL a) n n) fun w' R Q=>?_
 exact⟨a,g,rfl,QG.zero (by rw[C] at s;exact s),by have h:=Q.2;have J:=v;rw[C] at J;subst J;rw[ZcW] at h;exact p ▸ h,p ▸ Q.1,QMs.zero s,R⟩
theorem Zpg {c i k:Nat}{Y Z:Nat→Nat→Int}(h:∀ a b,a<c→(b<i∨(b=i∧a<k))→Y a b=Z b a):∀ a b,a<c→(b<i∨(b=i∧a<k+1))→updZ Y k i (Z i k) a b=Z b a:=fun a b f g=>by
 unfold updZ
 by_cases e:k=a∧i=b
 ·rw[uS e,e.1,e.2]
 rw[uM e];exact h a b f qO
def sumZ (f:Nat→Int):Nat→Int
 | 0=>0
 | k+1=>sumZ f k+f k
def wO (Z1 Z2:Nat→Nat→Int) (d a b:Nat):Int:=sumZ (fun q=>Z1 a q*Z2 q b) d
def TS (Z1 Z2:Nat→Nat→Int) (d i k j a b:Nat):Int:=if a<i then wO Z1 Z2 d a b else if a=i then (if b<j then wO Z1 Z2 (k+1) a b else wO Z1 Z2 k a b) else 0
section
variable {Z1 Z2 Y:Nat→Nat→Int} {n c d i j k a b:Nat}
theorem ZqL (a b:Nat):TS Z1 Z2 d 0 0 0 a b=0:=by
 unfold TS
 rw[uM (qC _)]
 by_cases e:a=0
 ·rw[uS e,uM (qC _)];rfl
 rw[uM e]
theorem ZqM:TS Z1 Z2 d i d 0 a b=TS Z1 Z2 d (i+1) 0 0 a b:=by
 unfold TS
 rw[uM (qC _),uM (qC _)]
 by_cases e:a<i
 ·rw[uS e,uS qO]
 rw[uM e]
 by_cases f:a=i
 ·rw[uS f,uS qO]
 rw[uM f,uM qO]
 split<;>rfl
theorem ZrB (e:b<c):TS Z1 Z2 d i k c a b=TS Z1 Z2 d i (k+1) 0 a b:=by
 unfold TS
 rw[uS e,uM (qC _)]
theorem ZqN (g:Z1 i k=0):TS Z1 Z2 d i k j a b=TS Z1 Z2 d i (k+1) 0 a b:=by
 unfold TS
 rw[uM (qC b)]
 by_cases e:a<i
 ·rw[uS e,uS e]
 rw[uM e,uM e]
 by_cases f:a=i
 ·rw[uS f,uS f]
  subst f
  have h:wO Z1 Z2 (k+1) a b=wO Z1 Z2 k a b:=by
   show wO Z1 Z2 k a b+Z1 a k*Z2 k b=_
   rw[g,nL,Int.add_zero]
  split
  ·rfl
  exact h.symm
 rw[uM f,uM f]
theorem ZrC (hi:i<n)(m:j<c)(h:∀ a b,a<n→b<c→Y a b=TS Z1 Z2 d i k j a b):∀ a b,a<n→b<c→updZ Y i j (Y i j+Z1 i k*Z2 k j) a b=TS Z1 Z2 d i k (j+1) a b:=fun a b o p=>by
 unfold updZ
 by_cases e:i=a∧j=b
 ·obtain⟨rfl,rfl⟩:=e
  rw[uS ⟨rfl,rfl⟩,h i j hi m]
  unfold TS
  rw[uM (oH _),uS rfl,uM (oH _),uM (oH _),uS rfl,uS (pX _)]
  rfl
 rw[uM e,h a b o p]
 unfold TS
 by_cases f:a<i
 ·rw[uS f,uS f]
 rw[uM f,uM f]
 by_cases g:a=i
 ·rw[uS g,uS g]
  by_cases l:b<j
  ·rw[uS l,uS qO]
  rw[uM l,uM qO]
 rw[uM g,uM g]
theorem ZqO (ha:a<n):TS Z1 Z2 d n 0 0 a b=wO Z1 Z2 d a b:=by unfold TS;rw[uS ha]
theorem Zer {x y:Int}{p q:Nat}(e:x.natAbs≤p)(f:y.natAbs≤q):(x*y).natAbs≤p*q:=by rw[Int.natAbs_mul];exact uZ e f
theorem ZrD {x y:Int}(e:x.natAbs≤1000)(f:y.natAbs≤1000):(x*y).natAbs≤1000000000:=uB (Zer e f) qD
theorem Zfj {p q:Nat}:∀ (d:Nat),(∀ r,r<d→(Z1 a r).natAbs≤p)→(∀ r,r<d→(Z2 r b).natAbs≤q)→(wO Z1 Z2 d a b).natAbs≤d*(p*q)
 | 0,_,_=>by show (0:Int).natAbs≤_;simp
 | d+1,h1,h2=>by
  have e:=Zfj d (fun r f=>h1 r qO) (fun r f=>h2 r qO)
  have g:=Zer (h1 d qO) (h2 d qO)
  show (wO Z1 Z2 d a b+Z1 a d*Z2 d b).natAbs≤_
  rw[rC]
  exact uB (Int.natAbs_add_le _ _) (Nat.add_le_add e g)
theorem ZrS (e:∀ a b,a<n→b<d→(Z1 a b).natAbs≤1000)(f:∀ a b,a<d→b<c→(Z2 a b).natAbs≤1000)(l:d≤64)(hi:i<n)(g:j<c)(m:k<d):(TS Z1 Z2 d i k j i j).natAbs≤1000000000:=by
 unfold TS
 rw[uM (oH _),uS rfl,uM (oH _)]
 exact uB (Zfj k (fun r h=>e i r hi qO) (fun r h=>f r j qO g)) (uB (uE _ (show k≤64 by omega)) qD)
theorem Zph {z:Int}(h:z≠0):(z.sign != 0)=true:=by
 rw[bne_iff_ne];exact fun e=>h (Int.sign_eq_zero_iff_zero.1 e)
theorem ZbO {z:Int}(h:z.natAbs≤1000000000):gL ((z:Int):Rat):=by
 unfold gL
 rw[qR,oJ]
 exact⟨uB (Zgd (k:=10) (vG h qD)) qD,uB (Zgd (k:=1) qD) qD⟩
theorem Zpi (h:∀ a b,Y a b=if a=b∧a<i then 1 else 0):∀ a b,updZ Y i i 1 a b=if a=b∧a<i+1 then 1 else 0:=fun a b=>by
 unfold updZ
 rw[h a b]
 by_cases e:i=a∧i=b
 ·rw[uS e,uS qO]
 rw[uM e]
 by_cases f:a=b∧a<i
 ·rw[uS f,uS qO]
 rw[uM f,uM qO]
end
theorem Zpj (v:qA)(cap n c:Nat)(C:List (Mr Qv))(Z:Nat→Nat→Int)(w:World)(M:QIn w.heap.size w v cap n C)(K:QG n c C Z)(L:0<n)(hn:n≤64)(hc:c≤64) :
 yA 24 #[.slice v n cap] w (RetQ c n (fun a b=>Z b a) w):=by
 obtain⟨m0,D⟩:∃ m,m=w.heap.size:=⟨_,rfl⟩
 refine zQ (Φ:=fun w=>QIn m0 w v cap n C) func24 rfl qK (fun w' hf=>(by rw[D];exact M.ext hf)) ?_
 refine yY (xq 1 [eS1 2 none 0 0] [] ?_)
 refine yZ (yY (xq 1 [eS1 6 v n cap] [] ?_))
 refine xqk 7 (atA v (0*1)) (fun w R Q=>xJ (t:=33) (e:=61) (sz:=1) (x:=.tmp 6) (ix:=(Operand.const (Value.int IntKind.i64 0))) (len:=n) (cap:=cap) (i:=0) (QIn.ne Q L) L) ?_
 obtain⟨N,O⟩:∃ x,C[0]! = x:=⟨_,rfl⟩
 refine xqk 8 (.slice N.A c N.cap) (fun w R Q=>eM (t:=61) (x:=.tmp 7) (j:=0) Q K L O) ?_
 refine xq 3 [yJ 9 (c:Int),yJ 11 (n:Int)] [] ?_
 refine xqc 17 [yI (c:Int), yI (n:Int)] 12 (fun x:{x:Nat × List (Mr Qv) // QG c n x.2 (fun _ _=>0)∧m0≤x.1}=>.slice (yL x.1.1) c c) _ (fun w R Q=>(ZaG c n _ qO qO).mono (fun _ _ h=>Zao (m0:=m0) (D ▸ R.size) h)) fun xx=>?_
 obtain⟨⟨g,B⟩,J,a0⟩:=xx
 refine xq 1 [eS1 3 (yL g) c c] [] ?_
 refine yZ (zC (yY (xq 1 [yJ 4 0] [] ?_)))
 refine yZ (zP ?_)
 refine yC [eS1 0 v n cap,eS1 2 none 0 0,eS1 3 (yL g) c c,yJ 4 ((0:Nat):Int)] [] (fun w=>(((QIn m0 w v cap n C∧OwnD w m0 61 1 (yL g) c c (B.flatMap mrC))∧MrOk 59 4 qvC m0 w B)∧QMs w B)) (fun w Q=>⟨⟨⟨Q.1,Q.2.1.1⟩,Q.2.1.2⟩,Q.2.2⟩) ?_
 refine xU (fun P S T=>∃ (i:Nat) (u:List (Mr Qv)) (Y:Nat→Nat→Int),S=ofL [eS1 0 v n cap,eS1 2 none 0 0,eS1 3 (yL g) c c,yJ 4 (i:Int)] []∧T=(fun w=>(((QIn m0 w v cap n C∧OwnD w m0 61 1 (yL g) c c (u.flatMap mrC))∧MrOk 59 4 qvC m0 w u)∧QMs w u))∧(i≤n)∧(QG c n u Y)∧(∀ a b,a<c→b<i→Y a b=Z b a)∧P=(1+(n-i))) ((1+(n-0))) ⟨0,B,(fun _ _=>0),rfl,rfl,(vL _),J,(fun a b _ h=>qO),rfl⟩ ?_
 rintro P S T ⟨i,u,Y,rfl,rfl,hi,r,U,rfl⟩
 refine zC (yY (xq 4 [yB 16 (decide ((i:Int)<(n:Int)))] [] ?_))
 refine xe (zA ?_)
 refine yQ ((decide ((i:Int)<(n:Int)))) (fun E=>?_) fun E=>?_
 ·have s:i<n:=by have:=uC E;omega
  refine zI (zA (zC (zP (yY (xq 1 [yJ 5 0] [] ?_)))))
  refine yZ (zP ?_)
  refine yC [eS1 0 v n cap,eS1 2 none 0 0,eS1 3 (yL g) c c,yJ 4 (i:Int),yJ 5 ((0:Nat):Int)] [] (fun w=>(((QIn m0 w v cap n C∧OwnD w m0 61 1 (yL g) c c (u.flatMap mrC))∧MrOk 59 4 qvC m0 w u)∧QMs w u)) (fun w Q=>⟨⟨⟨Q.1.1.1,Q.1.1.2⟩,Q.1.2⟩,Q.2⟩) ?_
  refine xU (fun P S T=>∃ (k:Nat) (u:List (Mr Qv)) (Y:Nat→Nat→Int),S=ofL [eS1 0 v n cap,eS1 2 none 0 0,eS1 3 (yL g) c c,yJ 4 (i:Int),yJ 5 (k:Int)] []∧T=(fun w=>(((QIn m0 w v cap n C∧OwnD w m0 61 1 (yL g) c c (u.flatMap mrC))∧MrOk 59 4 qvC m0 w u)∧QMs w u))∧(k≤c)∧(QG c n u Y)∧(∀ a b,a<c→(b<i∨(b=i∧a<k))→Y a b=Z b a)∧P=(1+(c-k))) ((1+(c-0))) ⟨0,u,Y,rfl,rfl,(vL _),r,(fun a b V h=>U a b V qO),rfl⟩ ?_
  rintro P S T ⟨k,u,Y,rfl,rfl,hk,r,U,rfl⟩
  refine zC (yY (xq 3 [yJ 19 (k:Int),eS1 20 v n cap,yJ 21 (i:Int)] [] ?_))
  refine xqk 22 (atA v (i*1)) (fun w R Q=>xJ (t:=33) (e:=61) (sz:=1) (x:=.tmp 20) (ix:=.tmp 21) (len:=n) (cap:=cap) (i:=i) (QIn.ne Q.1.1.1 s) s) ?_
  obtain⟨W,X⟩:∃ x,C[i]! = x:=⟨_,rfl⟩
  refine xqk 23 (.slice W.A c W.cap) (fun w R Q=>eM (t:=61) (x:=.tmp 22) (j:=i) Q.1.1.1 K s X) ?_
  refine xq 2 [yB 25 (decide ((k:Int)<(c:Int)))] [] ?_
  refine xe (zA ?_)
  refine yQ ((decide ((k:Int)<(c:Int)))) (fun F=>?_) fun F=>?_
  ·have o:k<c:=by have:=uC F;omega
   refine zI (zA (zC (zP ?_)))
   refine yO 13 zL ?_
   refine xqg 2 [eS1 28 (yL g) c c,yJ 29 (k:Int)] ?_
   refine xqj 30 (atA (yL g) (k*1)) (fun w Q=>xJ (t:=33) (e:=61) (sz:=1) (x:=.tmp 28) (ix:=.tmp 29) (len:=c) (cap:=c) (i:=k) qS o) ?_
   obtain⟨f,p⟩:∃ x,u[k]! = x:=⟨_,rfl⟩
   refine xqj 31 (.slice f.A n f.cap) (fun w Q=>dP (t:=61) (x:=.tmp 30) (j:=k) Q.1.1.2 r o p) ?_
   refine xqg 3 [yJ 32 (i:Int),eS1 33 v n cap,yJ 34 (i:Int)] ?_
   refine xqj 35 (atA v (i*1)) (fun w Q=>xJ (t:=33) (e:=61) (sz:=1) (x:=.tmp 33) (ix:=.tmp 34) (len:=n) (cap:=cap) (i:=i) (QIn.ne Q.1.1.1 s) s) ?_
   obtain⟨G,z⟩:∃ x,C[i]! = x:=⟨_,rfl⟩
   refine xqj 36 (.slice G.A c G.cap) (fun w Q=>eM (t:=61) (x:=.tmp 35) (j:=i) Q.1.1.1 K s z) ?_
   refine xqg 1 [yJ 37 (k:Int)] ?_
   refine xqj 38 (atA G.A (k*4)) (fun w Q=>xJ (t:=61) (e:=59) (sz:=4) (x:=.tmp 36) (ix:=.tmp 37) (len:=c) (cap:=G.cap) (i:=k) (QIn.rne Q.1.1.1 K s z o) o) ?_
   obtain⟨l,H⟩:∃ x,G.xs[k]! = x:=⟨_,rfl⟩
   refine xqj 39 (.agg #[.bool l.c.1,.slice l.c.2.1 l.c.2.2.1 l.c.2.2.2.1,.bool l.c.2.2.2.2.1,.slice l.c.2.2.2.2.2.1 l.c.2.2.2.2.2.2.1 l.c.2.2.2.2.2.2.2]) (fun w Q=>by rw[←H];exact Zcl (t:=59) (x:=.tmp 38) (j:=k) (QIn.rdat Q.1.1.1 K s z) jM (QG.cl K s z o)) ?_
   refine xqj 40 (atA f.A (i*4)) (fun w Q=>xJ (t:=61) (e:=59) (sz:=4) (x:=.tmp 31) (ix:=.tmp 32) (len:=n) (cap:=f.cap) (i:=i) (OwnD.ne (show OwnD _ m0 59 4 f.A f.cap f.xs.length (f.xs.flatMap qvC) by rw[←p];exact MrOk.at Q.1.2 (r.1.symm ▸ o)) (QG.cl r o p s)) s) ?_
   refine xz ?_
   have I:=QG.q K s z o H
   refine ZaT (t:=59) (x:=.tmp 40) (y:=.tmp 39) (e:=59) (k:=4) (enc:=qvC) (a:=k) (j:=i) (ys:=u) m0 l (.agg #[.bool l.c.1,.slice l.c.2.1 l.c.2.2.1 l.c.2.2.2.1,.bool l.c.2.2.2.2.1,.slice l.c.2.2.2.2.2.1 l.c.2.2.2.2.2.2.1 l.c.2.2.2.2.2.2.2]) (fun w=>((QIn m0 w v cap n C∧OwnD w m0 61 1 (yL g) c c (u.flatMap mrC))∧QMs w u)) jM qD (fun w Q=>Q.1.2) (r.1.symm ▸ o) p (QG.cl r o p s) (fun _ h=>Or.inl (uB (D ▸ uG _) h)) (by simp[qvC,Value.oneCell']) (Zbb _) rfl (fun w w' Q hF=>⟨⟨QIn.up Q.1.1.1 (show OwnD _ m0 59 4 f.A f.cap f.xs.length (f.xs.flatMap qvC) by rw[←p];exact MrOk.at Q.1.2 (r.1.symm ▸ o)) hF,OwnD.apart Q.1.1.2 (show OwnD _ m0 59 4 f.A f.cap f.xs.length (f.xs.flatMap qvC) by rw[←p];exact MrOk.at Q.1.2 (r.1.symm ▸ o)) qD hF⟩,QMs.row Q.2 (show OwnD _ m0 59 4 f.A f.cap f.xs.length (f.xs.flatMap qvC) by rw[←p];exact MrOk.at Q.1.2 (r.1.symm ▸ o)) hF⟩) ?_
   refine xr 0 [eS1 0 v n cap,eS1 2 none 0 0,eS1 3 (yL g) c c,yJ 4 (i:Int),yJ 5 (k:Int)] [] ?_
   refine xe (xS (zA (zB (xq 2 [yJ 27 (IntKind.i64.wrap ((k:Int)+1))] [] ?_))))
   rw[yW ((k:Int)+1) (((k+1:Nat):Int)) qO]
   refine xq 1 [yJ 5 ((k+1:Nat):Int)] [] ?_
   refine xe ?_
   refine yP [eS1 0 v n cap,eS1 2 none 0 0,eS1 3 (yL g) c c,yJ 4 (i:Int),yJ 5 (((k+1):Nat):Int)] [] (fun w=>(((QIn m0 w v cap n C∧OwnD w m0 61 1 (yL g) c c ((u.set k ⟨f.A,f.cap,f.xs.set i l⟩).flatMap mrC))∧MrOk 59 4 qvC m0 w (u.set k ⟨f.A,f.cap,f.xs.set i l⟩))∧QMs w (u.set k ⟨f.A,f.cap,f.xs.set i l⟩))) (fun w Q=>⟨⟨⟨Q.1.1.1,(by rw[dO (r.1.symm ▸ o) p (vT ..)];exact Q.1.1.2)⟩,Q.2⟩,(QMs.set Q.1.2 (r.1.symm ▸ o) p (by rw[I];exact QMs.num (QIn.qs Q.1.1.1) K s z o H))⟩) ?_
   exact xH ((1+(c-(k+1)))) qO ⟨(k+1),(u.set k ⟨f.A,f.cap,f.xs.set i l⟩),(updZ Y k i (Z i k)),rfl,rfl,o,(QG.set r o p I),(Zpg U),rfl⟩
  have b0:k=c:=by have:=uD F;omega
  refine xO (zG (zG (xW (xS (zA (zB (xq 2 [yJ 18 (IntKind.i64.wrap ((i:Int)+1))] [] ?_)))))))
  rw[yW ((i:Int)+1) (((i+1:Nat):Int)) qO]
  refine xq 1 [yJ 4 ((i+1:Nat):Int)] [] ?_
  refine xe ?_
  refine yP [eS1 0 v n cap,eS1 2 none 0 0,eS1 3 (yL g) c c,yJ 4 (((i+1):Nat):Int)] [] (fun w=>(((QIn m0 w v cap n C∧OwnD w m0 61 1 (yL g) c c (u.flatMap mrC))∧MrOk 59 4 qvC m0 w u)∧QMs w u)) (fun w Q=>⟨⟨⟨Q.1.1.1,Q.1.1.2⟩,Q.1.2⟩,Q.2⟩) ?_
  exact xH ((1+(n-(i+1)))) qO ⟨(i+1),u,Y,rfl,rfl,s,r,(fun a b V h=>U a b V qO),rfl⟩
 have c0:i=n:=by have:=uD E;omega
 refine xO (zG (zG (xW (zA (yY (xq 2 [eS1 2 (yL g) c c] [] ?_))))))
 refine yZ (zH ?_)
 refine yR (.slice (yL g) c c) fun w' R Q=>?_
 exact⟨g,u,rfl,r.congr (fun a b V hb=>U a b V qO),D ▸ Q.1.1.2,D ▸ Q.1.2,Q.2,R⟩
theorem ZhL (F B:qA)(l f n d c:Nat)(P L:List (Mr Qv))(Z1 Z2:Nat→Nat→Int)(w:World)(q0:QIn w.heap.size w F l n P)(r0:QIn w.heap.size w B f d L)(H:QG n d P Z1)(M:QG d c L Z2)(K:0<d)(hn:n≤64)(hd:d≤64)(hc:c≤64)(o0:∀ a b,a<n→b<d→(Z1 a b).natAbs≤1000)(p0:∀ a b,a<d→b<c→(Z2 a b).natAbs≤1000) :
 yA 23 #[.slice F n l,.slice B d f] w (RetQ n c (wO Z1 Z2 d) w):=by
 obtain⟨m0,c0⟩:∃ m,m=w.heap.size:=⟨_,rfl⟩
 refine zQ (Φ:=fun w=>(QIn m0 w F l n P∧QIn m0 w B f d L)) func23 rfl qK (fun w' hf=>⟨(by rw[c0];exact q0.ext hf),(by rw[c0];exact r0.ext hf)⟩) ?_
 refine yY (xq 1 [eS1 4 none 0 0] [] ?_)
 refine yZ (yY (xq 3 [yJ 10 (n:Int),eS1 11 B d f] [] ?_))
 refine xqk 12 (atA B (0*1)) (fun w R Q=>xJ (t:=33) (e:=61) (sz:=1) (x:=.tmp 11) (ix:=(Operand.const (Value.int IntKind.i64 0))) (len:=d) (cap:=f) (i:=0) (QIn.ne Q.2 K) K) ?_
 obtain⟨s0,t0⟩:∃ x,L[0]! = x:=⟨_,rfl⟩
 refine xqk 13 (.slice s0.A c s0.cap) (fun w R Q=>eM (t:=61) (x:=.tmp 12) (j:=0) Q.2 M K t0) ?_
 refine xq 1 [yJ 14 (c:Int)] [] ?_
 refine xqc 17 [yI (n:Int), yI (c:Int)] 15 (fun x:{x:Nat × List (Mr Qv) // QG n c x.2 (fun _ _=>0)∧m0≤x.1}=>.slice (yL x.1.1) n n) _ (fun w R Q=>(ZaG n c _ qO qO).mono (fun _ _ h=>Zao (m0:=m0) (c0 ▸ R.size) h)) fun xx=>?_
 obtain⟨⟨g,b0⟩,j0,G0⟩:=xx
 refine xq 1 [eS1 5 (yL g) n n] [] ?_
 refine yZ (zC (yY (xq 1 [yJ 6 0] [] ?_)))
 refine yZ (zP ?_)
 refine yC [eS1 0 F n l,eS1 1 B d f,eS1 4 none 0 0,eS1 5 (yL g) n n,yJ 6 ((0:Nat):Int)] [] (fun w=>((((QIn m0 w F l n P∧QIn m0 w B f d L)∧OwnD w m0 61 1 (yL g) n n (b0.flatMap mrC))∧MrOk 59 4 qvC m0 w b0)∧QMs w b0)) (fun w Q=>⟨⟨⟨⟨Q.1.1,Q.1.2⟩,Q.2.1.1⟩,Q.2.1.2⟩,Q.2.2⟩) ?_
 refine xU (fun nn ss ff=>∃ (i:Nat) (s:List (Mr Qv)) (Y:Nat→Nat→Int),ss=ofL [eS1 0 F n l,eS1 1 B d f,eS1 4 none 0 0,eS1 5 (yL g) n n,yJ 6 (i:Int)] []∧ff=(fun w=>((((QIn m0 w F l n P∧QIn m0 w B f d L)∧OwnD w m0 61 1 (yL g) n n (s.flatMap mrC))∧MrOk 59 4 qvC m0 w s)∧QMs w s))∧(i≤n)∧(QG n c s Y)∧(∀ a b,a<n→b<c→Y a b=TS Z1 Z2 d i 0 0 a b)∧nn=(1+(n-i))) ((1+(n-0))) ⟨0,b0,(fun _ _=>0),rfl,rfl,(vL _),j0,(fun a b _ _=>(ZqL a b).symm),rfl⟩ ?_
 rintro nn ss ff ⟨i,s,Y,rfl,rfl,hi,q,hY,rfl⟩
 refine zC (yY (xq 4 [yB 19 (decide ((i:Int)<(n:Int)))] [] ?_))
 refine xe (zA ?_)
 refine yQ ((decide ((i:Int)<(n:Int)))) (fun d0=>?_) fun d0=>?_
 ·have p:i<n:=by have:=uC d0;omega
  refine zI (zA (zC (zP (yY (xq 1 [yJ 7 0] [] ?_)))))
  refine yZ (zP ?_)
  refine yC [eS1 0 F n l,eS1 1 B d f,eS1 4 none 0 0,eS1 5 (yL g) n n,yJ 6 (i:Int),yJ 7 ((0:Nat):Int)] [] (fun w=>((((QIn m0 w F l n P∧QIn m0 w B f d L)∧OwnD w m0 61 1 (yL g) n n (s.flatMap mrC))∧MrOk 59 4 qvC m0 w s)∧QMs w s)) (fun w Q=>⟨⟨⟨⟨Q.1.1.1.1,Q.1.1.1.2⟩,Q.1.1.2⟩,Q.1.2⟩,Q.2⟩) ?_
  refine xU (fun nn ss ff=>∃ (k:Nat) (s:List (Mr Qv)) (Y:Nat→Nat→Int),ss=ofL [eS1 0 F n l,eS1 1 B d f,eS1 4 none 0 0,eS1 5 (yL g) n n,yJ 6 (i:Int),yJ 7 (k:Int)] []∧ff=(fun w=>((((QIn m0 w F l n P∧QIn m0 w B f d L)∧OwnD w m0 61 1 (yL g) n n (s.flatMap mrC))∧MrOk 59 4 qvC m0 w s)∧QMs w s))∧(k≤d)∧(QG n c s Y)∧(∀ a b,a<n→b<c→Y a b=TS Z1 Z2 d i k 0 a b)∧nn=(1+(d-k))) ((1+(d-0))) ⟨0,s,Y,rfl,rfl,(vL _),q,hY,rfl⟩ ?_
  rintro nn ss ff ⟨k,s,Y,rfl,rfl,hk,q,hY,rfl⟩
  refine zC (yY (xq 4 [yB 25 (decide ((k:Int)<(d:Int)))] [] ?_))
  refine xe (zA ?_)
  refine yQ ((decide ((k:Int)<(d:Int)))) (fun e0=>?_) fun e0=>?_
  ·have u:k<d:=by have:=uC e0;omega
   refine zI (zA (zC (zP (yY (xq 1 [yJ 8 0] [] ?_)))))
   refine yZ (zP ?_)
   refine yC [eS1 0 F n l,eS1 1 B d f,eS1 4 none 0 0,eS1 5 (yL g) n n,yJ 6 (i:Int),yJ 7 (k:Int),yJ 8 ((0:Nat):Int)] [] (fun w=>((((QIn m0 w F l n P∧QIn m0 w B f d L)∧OwnD w m0 61 1 (yL g) n n (s.flatMap mrC))∧MrOk 59 4 qvC m0 w s)∧QMs w s)) (fun w Q=>⟨⟨⟨⟨Q.1.1.1.1,Q.1.1.1.2⟩,Q.1.1.2⟩,Q.1.2⟩,Q.2⟩) ?_
   refine xU (fun nn ss ff=>∃ (j:Nat) (s:List (Mr Qv)) (Y:Nat→Nat→Int),ss=ofL [eS1 0 F n l,eS1 1 B d f,eS1 4 none 0 0,eS1 5 (yL g) n n,yJ 6 (i:Int),yJ 7 (k:Int),yJ 8 (j:Int)] []∧ff=(fun w=>((((QIn m0 w F l n P∧QIn m0 w B f d L)∧OwnD w m0 61 1 (yL g) n n (s.flatMap mrC))∧MrOk 59 4 qvC m0 w s)∧QMs w s))∧(j≤c)∧(QG n c s Y)∧(∀ a b,a<n→b<c→Y a b=TS Z1 Z2 d i k j a b)∧nn=(1+(c-j))) ((1+(c-0))) ⟨0,s,Y,rfl,rfl,(vL _),q,hY,rfl⟩ ?_
   rintro nn ss ff ⟨j,s,Y,rfl,rfl,hj,q,hY,rfl⟩
   refine zC (zC ?_)
   by_cases z:j<c
   ·refine zB (xq 2 [yJ 28 (j:Int),eS1 29 B d f] [] ?_)
    refine xqk 30 (atA B (0*1)) (fun w R Q=>xJ (t:=33) (e:=61) (sz:=1) (x:=.tmp 29) (ix:=(Operand.const (Value.int IntKind.i64 0))) (len:=d) (cap:=f) (i:=0) (QIn.ne Q.1.1.1.2 K) K) ?_
    obtain⟨u0,v0⟩:∃ x,L[0]! = x:=⟨_,rfl⟩
    refine xqk 31 (.slice u0.A c u0.cap) (fun w R Q=>eM (t:=61) (x:=.tmp 30) (j:=0) Q.1.1.1.2 M K v0) ?_
    refine xq 2 [yB 33 (decide ((j:Int)<(c:Int)))] [] ?_
    rw[(show decide ((j:Int)<(c:Int))=true from vJ qO)]
    refine xq 3 [yB 34 true,eS1 35 F n l,yJ 36 (i:Int)] [] ?_
    refine xqk 37 (atA F (i*1)) (fun w R Q=>xJ (t:=33) (e:=61) (sz:=1) (x:=.tmp 35) (ix:=.tmp 36) (len:=n) (cap:=l) (i:=i) (QIn.ne Q.1.1.1.1 p) p) ?_
    obtain⟨f0,I⟩:∃ x,P[i]! = x:=⟨_,rfl⟩
    refine xqk 38 (.slice f0.A d f0.cap) (fun w R Q=>eM (t:=61) (x:=.tmp 37) (j:=i) Q.1.1.1.1 H p I) ?_
    refine xq 1 [yJ 39 (k:Int)] [] ?_
    refine xqk 40 (atA f0.A (k*4)) (fun w R Q=>xJ (t:=61) (e:=59) (sz:=4) (x:=.tmp 38) (ix:=.tmp 39) (len:=d) (cap:=f0.cap) (i:=k) (QIn.rne Q.1.1.1.1 H p I u) u) ?_
    obtain⟨r,g0⟩:∃ x,f0.xs[k]! = x:=⟨_,rfl⟩
    refine xqk 41 (.agg #[.bool r.c.1,.slice r.c.2.1 r.c.2.2.1 r.c.2.2.2.1,.bool r.c.2.2.2.2.1,.slice r.c.2.2.2.2.2.1 r.c.2.2.2.2.2.2.1 r.c.2.2.2.2.2.2.2]) (fun w R Q=>by rw[←g0];exact Zcl (t:=59) (x:=.tmp 40) (j:=k) (QIn.rdat Q.1.1.1.1 H p I) jM (QG.cl H p I u)) ?_
    by_cases hz:Z1 i k=0
    ·refine xqc 45 [vR4 r.c.1 r.c.2.1 r.c.2.2.1 r.c.2.2.2.1 r.c.2.2.2.2.1 r.c.2.2.2.2.2.1 r.c.2.2.2.2.2.2.1 r.c.2.2.2.2.2.2.2] 42 (fun _:Unit=>yI 0) _ (fun w R Q=>(Zgc _ _ _ (QMs.num (QIn.qs Q.1.1.1.1) H p I u g0)).mono (fun _ _ h=>zM h (by rw[qR,hz];rfl))) fun xx=>?_
     refine xq 2 [yB 44 false] [] ?_
     refine yZ (xb (xO (zG (zG (xW (xS (zA (zB (xq 2 [yJ 27 (IntKind.i64.wrap ((k:Int)+1))] [] ?_)))))))))
     rw[yW ((k:Int)+1) (((k+1:Nat):Int)) qO]
     refine xq 1 [yJ 7 ((k+1:Nat):Int)] [] ?_
     refine xe ?_
     refine yP [eS1 0 F n l,eS1 1 B d f,eS1 4 none 0 0,eS1 5 (yL g) n n,yJ 6 (i:Int),yJ 7 (((k+1):Nat):Int)] [] (fun w=>((((QIn m0 w F l n P∧QIn m0 w B f d L)∧OwnD w m0 61 1 (yL g) n n (s.flatMap mrC))∧MrOk 59 4 qvC m0 w s)∧QMs w s)) (fun w Q=>⟨⟨⟨⟨Q.1.1.1.1.1,Q.1.1.1.1.2⟩,Q.1.1.1.2⟩,Q.1.1.2⟩,Q.1.2⟩) ?_
     exact xH ((1+(d-(k+1)))) qO ⟨(k+1),s,Y,rfl,rfl,u,q,(fun a b ha hb=>by rw[hY a b ha hb];exact ZqN hz),rfl⟩
    refine xqc 45 [vR4 r.c.1 r.c.2.1 r.c.2.2.1 r.c.2.2.2.1 r.c.2.2.2.2.1 r.c.2.2.2.2.2.1 r.c.2.2.2.2.2.2.1 r.c.2.2.2.2.2.2.2] 42 (fun _:Unit=>yI (Z1 i k).sign) _ (fun w R Q=>(Zgc _ _ _ (QMs.num (QIn.qs Q.1.1.1.1) H p I u g0)).mono (fun _ _ h=>zM h (by rw[qR]))) fun xx=>?_
    refine xq 1 [yB 43 (((Z1 i k).sign:Int) != 0)] [] ?_
    rw[(show ((Z1 i k).sign != 0)=true from Zph hz)]
    refine xq 1 [yB 44 true] [] ?_
    refine yZ (xa (zI (zA (zC (zP ?_)))))
    have H0:(Y i j).natAbs≤1000000000:=by rw[hY i j p z];exact ZrS o0 p0 hd p z u
    have I0:(Z1 i k*Z2 k j).natAbs≤1000000000:=ZrD (o0 i k p u) (p0 k j u z)
    refine dM 29 [0,0,3,7,0,0,0,96,224,0,992,2016,0,0,12288,28672,0,126976,258048,0,0,1572864,3670016,0,16252928,33030144,67104768,134217696,268435455] qK qK zL ?_
    refine xqg 2 [eS1 47 (yL g) n n,yJ 48 (i:Int)] ?_
    refine xqj 49 (atA (yL g) (i*1)) (fun w Q=>xJ (t:=33) (e:=61) (sz:=1) (x:=.tmp 47) (ix:=.tmp 48) (len:=n) (cap:=n) (i:=i) qS p) ?_
    obtain⟨o,v⟩:∃ x,s[i]! = x:=⟨_,rfl⟩
    refine xqj 50 (.slice o.A c o.cap) (fun w Q=>dP (t:=61) (x:=.tmp 49) (j:=i) Q.1.1.1.2 q p v) ?_
    refine xqg 3 [yJ 51 (j:Int),eS1 52 (yL g) n n,yJ 53 (i:Int)] ?_
    refine xqj 54 (atA (yL g) (i*1)) (fun w Q=>xJ (t:=33) (e:=61) (sz:=1) (x:=.tmp 52) (ix:=.tmp 53) (len:=n) (cap:=n) (i:=i) qS p) ?_
    obtain⟨G,J⟩:∃ x,s[i]! = x:=⟨_,rfl⟩
    refine xqj 55 (.slice G.A c G.cap) (fun w Q=>dP (t:=61) (x:=.tmp 54) (j:=i) Q.1.1.1.2 q p J) ?_
    refine xqg 1 [yJ 56 (j:Int)] ?_
    refine xqj 57 (atA G.A (j*4)) (fun w Q=>xJ (t:=61) (e:=59) (sz:=4) (x:=.tmp 55) (ix:=.tmp 56) (len:=c) (cap:=G.cap) (i:=j) (OwnD.ne (show OwnD _ m0 59 4 G.A G.cap G.xs.length (G.xs.flatMap qvC) by rw[←J];exact MrOk.at Q.1.1.2 (q.1.symm ▸ p)) (QG.cl q p J z)) z) ?_
    obtain⟨C,k0⟩:∃ x,G.xs[j]! = x:=⟨_,rfl⟩
    refine xqj 58 (.agg #[.bool C.c.1,.slice C.c.2.1 C.c.2.2.1 C.c.2.2.2.1,.bool C.c.2.2.2.2.1,.slice C.c.2.2.2.2.2.1 C.c.2.2.2.2.2.2.1 C.c.2.2.2.2.2.2.2]) (fun w Q=>by rw[←k0];exact Zcl (t:=59) (x:=.tmp 57) (j:=j) (OwnD.rd (show OwnD _ m0 59 4 G.A G.cap G.xs.length (G.xs.flatMap qvC) by rw[←J];exact MrOk.at Q.1.1.2 (q.1.symm ▸ p)) jM) jM (QG.cl q p J z)) ?_
    refine xqg 2 [eS1 59 F n l,yJ 60 (i:Int)] ?_
    refine xqj 61 (atA F (i*1)) (fun w Q=>xJ (t:=33) (e:=61) (sz:=1) (x:=.tmp 59) (ix:=.tmp 60) (len:=n) (cap:=l) (i:=i) (QIn.ne Q.1.1.1.1.1 p) p) ?_
    obtain⟨h0,N⟩:∃ x,P[i]! = x:=⟨_,rfl⟩
    refine xqj 62 (.slice h0.A d h0.cap) (fun w Q=>eM (t:=61) (x:=.tmp 61) (j:=i) Q.1.1.1.1.1 H p N) ?_
    refine xqg 1 [yJ 63 (k:Int)] ?_
    refine xqj 64 (atA h0.A (k*4)) (fun w Q=>xJ (t:=61) (e:=59) (sz:=4) (x:=.tmp 62) (ix:=.tmp 63) (len:=d) (cap:=h0.cap) (i:=k) (QIn.rne Q.1.1.1.1.1 H p N u) u) ?_
    obtain⟨D,l0⟩:∃ x,h0.xs[k]! = x:=⟨_,rfl⟩
    refine xqj 65 (.agg #[.bool D.c.1,.slice D.c.2.1 D.c.2.2.1 D.c.2.2.2.1,.bool D.c.2.2.2.2.1,.slice D.c.2.2.2.2.2.1 D.c.2.2.2.2.2.2.1 D.c.2.2.2.2.2.2.2]) (fun w Q=>by rw[←l0];exact Zcl (t:=59) (x:=.tmp 64) (j:=k) (QIn.rdat Q.1.1.1.1.1 H p N) jM (QG.cl H p N u)) ?_
    refine xqg 2 [eS1 66 B d f,yJ 67 (k:Int)] ?_
    refine xqj 68 (atA B (k*1)) (fun w Q=>xJ (t:=33) (e:=61) (sz:=1) (x:=.tmp 66) (ix:=.tmp 67) (len:=d) (cap:=f) (i:=k) (QIn.ne Q.1.1.1.1.2 u) u) ?_
    obtain⟨i0,O⟩:∃ x,L[k]! = x:=⟨_,rfl⟩
    refine xqj 69 (.slice i0.A c i0.cap) (fun w Q=>eM (t:=61) (x:=.tmp 68) (j:=k) Q.1.1.1.1.2 M u O) ?_
    refine xqg 1 [yJ 70 (j:Int)] ?_
    refine xqj 71 (atA i0.A (j*4)) (fun w Q=>xJ (t:=61) (e:=59) (sz:=4) (x:=.tmp 69) (ix:=.tmp 70) (len:=c) (cap:=i0.cap) (i:=j) (QIn.rne Q.1.1.1.1.2 M u O z) z) ?_
    obtain⟨E,n0⟩:∃ x,i0.xs[j]! = x:=⟨_,rfl⟩
    refine xqj 72 (.agg #[.bool E.c.1,.slice E.c.2.1 E.c.2.2.1 E.c.2.2.2.1,.bool E.c.2.2.2.2.1,.slice E.c.2.2.2.2.2.1 E.c.2.2.2.2.2.2.1 E.c.2.2.2.2.2.2.2]) (fun w Q=>by rw[←n0];exact Zcl (t:=59) (x:=.tmp 71) (j:=j) (QIn.rdat Q.1.1.1.1.2 M u O) jM (QG.cl M u O z)) ?_
    refine xqd 47 [vR4 D.c.1 D.c.2.1 D.c.2.2.1 D.c.2.2.2.1 D.c.2.2.2.2.1 D.c.2.2.2.2.2.1 D.c.2.2.2.2.2.2.1 D.c.2.2.2.2.2.2.2,vR4 E.c.1 E.c.2.1 E.c.2.2.1 E.c.2.2.2.1 E.c.2.2.2.2.1 E.c.2.2.2.2.2.1 E.c.2.2.2.2.2.2.1 E.c.2.2.2.2.2.2.2] 73 jJ _ (fun w R Q=>yM fY ((show Calls _ _ _ _ (jU _ ((((Z1 i k)*(Z2 k j)):Int):Rat)) by rw[Rat.intCast_mul];exact Znn _ _ _ _ _ (QMs.num (QIn.qs Q.1.1.1.1.1) H p N u l0) (QMs.num (QIn.qs Q.1.1.1.1.2) M u O z n0) (ZbO (uB (o0 i k p u) qD)) (ZbO (uB (p0 k j u z) qD))))) fun⟨w0,x0,y0,z0,A0,B0,C0,D0⟩=>?_
    refine xqd 46 [vR4 C.c.1 C.c.2.1 C.c.2.2.1 C.c.2.2.2.1 C.c.2.2.2.2.1 C.c.2.2.2.2.2.1 C.c.2.2.2.2.2.2.1 C.c.2.2.2.2.2.2.2,vR4 w0 x0 y0 z0 A0 B0 C0 D0] 74 jJ _ (fun w R Q=>((show Calls _ _ _ _ (jU _ ((((Y i j)+((Z1 i k)*(Z2 k j))):Int):Rat)) by rw[Rat.intCast_add];exact Znm _ _ _ _ _ (QMs.num Q.1.1.2 q p J z k0) Q.2 (ZbO H0) (ZbO I0))).mono (fun _ _=>fY)) fun⟨S,T,U,V,W,X,Z,a0⟩=>?_
    refine xqj 75 (atA o.A (j*4)) (fun w Q=>xJ (t:=61) (e:=59) (sz:=4) (x:=.tmp 50) (ix:=.tmp 51) (len:=c) (cap:=o.cap) (i:=j) (OwnD.ne (show OwnD _ m0 59 4 o.A o.cap o.xs.length (o.xs.flatMap qvC) by rw[←v];exact MrOk.at Q.1.1.2 (q.1.symm ▸ p)) (QG.cl q p v z)) z) ?_
    refine xz ?_
    refine ZaT (t:=59) (x:=.tmp 75) (y:=.tmp 74) (e:=59) (k:=4) (enc:=qvC) (a:=i) (j:=j) (ys:=s) m0 (⟨(S,T,U,V,W,X,Z,a0),((((Y i j)+((Z1 i k)*(Z2 k j))):Int):Rat)⟩:Qv) (.agg #[.bool S,.slice T U V,.bool W,.slice X Z a0]) (fun w=>(((((QIn m0 w F l n P∧QIn m0 w B f d L)∧OwnD w m0 61 1 (yL g) n n (s.flatMap mrC))∧QMs w s)∧zS w (.agg #[.bool w0,.slice x0 y0 z0,.bool A0,.slice B0 C0 D0]) (((((Z1 i k)*(Z2 k j)):Int):Rat)))∧zS w (.agg #[.bool S,.slice T U V,.bool W,.slice X Z a0]) (((((Y i j)+((Z1 i k)*(Z2 k j))):Int):Rat)))) jM qD (fun w Q=>Q.1.1.1.1.2) (q.1.symm ▸ p) v (QG.cl q p v z) (fun _ h=>Or.inl (uB (c0 ▸ uG _) h)) (by simp[qvC,Value.oneCell']) (Zbb _) rfl (fun w w' Q hF=>⟨⟨⟨⟨⟨QIn.up Q.1.1.1.1.1.1.1 (show OwnD _ m0 59 4 o.A o.cap o.xs.length (o.xs.flatMap qvC) by rw[←v];exact MrOk.at Q.1.1.1.1.2 (q.1.symm ▸ p)) hF,QIn.up Q.1.1.1.1.1.1.2 (show OwnD _ m0 59 4 o.A o.cap o.xs.length (o.xs.flatMap qvC) by rw[←v];exact MrOk.at Q.1.1.1.1.2 (q.1.symm ▸ p)) hF⟩,OwnD.apart Q.1.1.1.1.1.2 (show OwnD _ m0 59 4 o.A o.cap o.xs.length (o.xs.flatMap qvC) by rw[←v];exact MrOk.at Q.1.1.1.1.2 (q.1.symm ▸ p)) qD hF⟩,QMs.row Q.1.1.1.2 (show OwnD _ m0 59 4 o.A o.cap o.xs.length (o.xs.flatMap qvC) by rw[←v];exact MrOk.at Q.1.1.1.1.2 (q.1.symm ▸ p)) hF⟩,zS.rowUp Q.1.2 (show OwnD _ m0 59 4 o.A o.cap o.xs.length (o.xs.flatMap qvC) by rw[←v];exact MrOk.at Q.1.1.1.1.2 (q.1.symm ▸ p)) hF⟩,zS.rowUp Q.2 (show OwnD _ m0 59 4 o.A o.cap o.xs.length (o.xs.flatMap qvC) by rw[←v];exact MrOk.at Q.1.1.1.1.2 (q.1.symm ▸ p)) hF⟩) ?_
    refine xr 0 [eS1 0 F n l,eS1 1 B d f,eS1 4 none 0 0,eS1 5 (yL g) n n,yJ 6 (i:Int),yJ 7 (k:Int),yJ 8 (j:Int)] [] ?_
    refine xe (xS (zA (zB (xq 2 [yJ 46 (IntKind.i64.wrap ((j:Int)+1))] [] ?_))))
    rw[yW ((j:Int)+1) (((j+1:Nat):Int)) qO]
    refine xq 1 [yJ 8 ((j+1:Nat):Int)] [] ?_
    refine xe ?_
    refine SXq.weak [eS1 0 F n l,eS1 1 B d f,eS1 4 none 0 0,eS1 5 (yL g) n n,yJ 6 (i:Int),yJ 7 (k:Int),yJ 8 (((j+1):Nat):Int)] [] (Ψ:=fun w=>((((QIn m0 w F l n P∧QIn m0 w B f d L)∧OwnD w m0 61 1 (yL g) n n ((s.set i ⟨o.A,o.cap,o.xs.set j (⟨(S,T,U,V,W,X,Z,a0),((((Y i j)+((Z1 i k)*(Z2 k j))):Int):Rat)⟩:Qv)⟩).flatMap mrC))∧MrOk 59 4 qvC m0 w (s.set i ⟨o.A,o.cap,o.xs.set j (⟨(S,T,U,V,W,X,Z,a0),((((Y i j)+((Z1 i k)*(Z2 k j))):Int):Rat)⟩:Qv)⟩))∧QMs w (s.set i ⟨o.A,o.cap,o.xs.set j (⟨(S,T,U,V,W,X,Z,a0),((((Y i j)+((Z1 i k)*(Z2 k j))):Int):Rat)⟩:Qv)⟩))) (zV.of qK) qK (fun w Q=>⟨⟨⟨⟨Q.1.1.1.1.1.1,Q.1.1.1.1.1.2⟩,(by rw[dO (q.1.symm ▸ p) v (vT ..)];exact Q.1.1.1.1.2)⟩,Q.2⟩,(QMs.set Q.1.1.1.2 (q.1.symm ▸ p) v Q.1.2)⟩) ?_
    exact xH ((1+(c-(j+1)))) qO ⟨(j+1),(s.set i ⟨o.A,o.cap,o.xs.set j (⟨(S,T,U,V,W,X,Z,a0),((((Y i j)+((Z1 i k)*(Z2 k j))):Int):Rat)⟩:Qv)⟩),(updZ Y i j (Y i j+Z1 i k*Z2 k j)),rfl,rfl,z,(QG.set q p v rfl),(ZrC p z hY),rfl⟩
   have J0:j=c:=qO
   refine zB (xq 2 [yJ 28 (j:Int),eS1 29 B d f] [] ?_)
   refine xqk 30 (atA B (0*1)) (fun w R Q=>xJ (t:=33) (e:=61) (sz:=1) (x:=.tmp 29) (ix:=(Operand.const (Value.int IntKind.i64 0))) (len:=d) (cap:=f) (i:=0) (QIn.ne Q.1.1.1.2 K) K) ?_
   obtain⟨E0,F0⟩:∃ x,L[0]! = x:=⟨_,rfl⟩
   refine xqk 31 (.slice E0.A c E0.cap) (fun w R Q=>eM (t:=61) (x:=.tmp 30) (j:=0) Q.1.1.1.2 M K F0) ?_
   refine xq 2 [yB 33 (decide ((j:Int)<(c:Int)))] [] ?_
   rw[(show decide ((j:Int)<(c:Int))=false from uV qO)]
   refine xq 11 [yB 44 false] [] ?_
   refine yZ (xb (xO (zG (zG (xW (xS (zA (zB (xq 2 [yJ 27 (IntKind.i64.wrap ((k:Int)+1))] [] ?_)))))))))
   rw[yW ((k:Int)+1) (((k+1:Nat):Int)) qO]
   refine xq 1 [yJ 7 ((k+1:Nat):Int)] [] ?_
   refine xe ?_
   refine yP [eS1 0 F n l,eS1 1 B d f,eS1 4 none 0 0,eS1 5 (yL g) n n,yJ 6 (i:Int),yJ 7 (((k+1):Nat):Int)] [] (fun w=>((((QIn m0 w F l n P∧QIn m0 w B f d L)∧OwnD w m0 61 1 (yL g) n n (s.flatMap mrC))∧MrOk 59 4 qvC m0 w s)∧QMs w s)) (fun w Q=>⟨⟨⟨⟨Q.1.1.1.1,Q.1.1.1.2⟩,Q.1.1.2⟩,Q.1.2⟩,Q.2⟩) ?_
   exact xH ((1+(d-(k+1)))) qO ⟨(k+1),s,Y,rfl,rfl,u,q,(fun a b ha hb=>by rw[hY a b ha hb,J0];exact ZrB hb),rfl⟩
  have K0:k=d:=by have:=uD e0;omega
  refine xO (zG (zG (xW (xS (zA (zB (xq 2 [yJ 21 (IntKind.i64.wrap ((i:Int)+1))] [] ?_)))))))
  rw[yW ((i:Int)+1) (((i+1:Nat):Int)) qO]
  refine xq 1 [yJ 6 ((i+1:Nat):Int)] [] ?_
  refine xe ?_
  refine yP [eS1 0 F n l,eS1 1 B d f,eS1 4 none 0 0,eS1 5 (yL g) n n,yJ 6 (((i+1):Nat):Int)] [] (fun w=>((((QIn m0 w F l n P∧QIn m0 w B f d L)∧OwnD w m0 61 1 (yL g) n n (s.flatMap mrC))∧MrOk 59 4 qvC m0 w s)∧QMs w s)) (fun w Q=>⟨⟨⟨⟨Q.1.1.1.1,Q.1.1.1.2⟩,Q.1.1.2⟩,Q.1.2⟩,Q.2⟩) ?_
  exact xH ((1+(n-(i+1)))) qO ⟨(i+1),s,Y,rfl,rfl,p,q,(fun a b ha hb=>by rw[hY a b ha hb,K0];exact ZqM),rfl⟩
 have L0:i=n:=by have:=uD d0;omega
 refine xO (zG (zG (xW (zA (yY (xq 2 [eS1 4 (yL g) n n] [] ?_))))))
 refine yZ (zH ?_)
 refine yR (.slice (yL g) n n) fun w' R Q=>?_
 exact⟨g,s,rfl,q.congr (fun a b ha hb=>by rw[hY a b ha hb];exact ZqO (L0 ▸ ha)),c0 ▸ Q.1.1.2,c0 ▸ Q.1.2,Q.2,R⟩
theorem Zpk (n:Nat)(w:World)(P:n≤64) :
 yA 21 #[.int .i64 ((n:Nat):Int)] w (RetQ n n (fun a b=>if a=b then 1 else 0) w):=by
 obtain⟨m0,F⟩:∃ m,m=w.heap.size:=⟨_,rfl⟩
 refine zQ (Φ:=fun w=>True) func21 rfl qK (fun w' S=>trivial) ?_
 refine yY (xq 1 [eS1 2 none 0 0] [] ?_)
 refine yZ (yY (xq 2 [yJ 5 (n:Int),yJ 6 (n:Int)] [] ?_))
 refine xqc 17 [yI (n:Int), yI (n:Int)] 7 (fun x:{x:Nat × List (Mr Qv) // QG n n x.2 (fun _ _=>0)∧m0≤x.1}=>.slice (yL x.1.1) n n) _ (fun w R Q=>(ZaG n n _ qO qO).mono (fun _ _ h=>Zao (m0:=m0) (F ▸ R.size) h)) fun N=>?_
 obtain⟨⟨g,C⟩,G,H⟩:=N
 refine xq 1 [eS1 3 (yL g) n n] [] ?_
 refine yZ (zC (yY (xq 1 [yJ 4 0] [] ?_)))
 refine yZ (zP ?_)
 refine yC [yJ 0 (n:Int),eS1 2 none 0 0,eS1 3 (yL g) n n,yJ 4 ((0:Nat):Int)] [] (fun w=>((OwnD w m0 61 1 (yL g) n n (C.flatMap mrC)∧MrOk 59 4 qvC m0 w C)∧QMs w C)) (fun w Q=>⟨⟨Q.2.1.1,Q.2.1.2⟩,Q.2.2⟩) ?_
 refine xU (fun J K L=>∃ (i:Nat) (D:List (Mr Qv)) (Y:Nat→Nat→Int),K=ofL [yJ 0 (n:Int),eS1 2 none 0 0,eS1 3 (yL g) n n,yJ 4 (i:Int)] []∧L=(fun w=>((OwnD w m0 61 1 (yL g) n n (D.flatMap mrC)∧MrOk 59 4 qvC m0 w D)∧QMs w D))∧(i≤n)∧(QG n n D Y)∧(∀ a b,Y a b=if a=b∧a<i then 1 else 0)∧J=(1+(n-i))) ((1+(n-0))) ⟨0,C,(fun _ _=>0),rfl,rfl,(vL _),G,(fun a b=>(uM qO).symm),rfl⟩ ?_
 rintro J K L ⟨i,D,Y,rfl,rfl,hi,p,M,rfl⟩
 refine zC (yY (xq 3 [yB 10 (decide ((i:Int)<(n:Int)))] [] ?_))
 refine xe (zA ?_)
 refine yQ ((decide ((i:Int)<(n:Int)))) (fun E=>?_) fun E=>?_
 ·have o:i<n:=by have:=uC E;omega
  refine zI (zA (zC (zP ?_)))
  refine yO 7 zL ?_
  refine xqg 2 [eS1 13 (yL g) n n,yJ 14 (i:Int)] ?_
  refine xqj 15 (atA (yL g) (i*1)) (fun w Q=>xJ (t:=33) (e:=61) (sz:=1) (x:=.tmp 13) (ix:=.tmp 14) (len:=n) (cap:=n) (i:=i) qS o) ?_
  obtain⟨f,l⟩:∃ x,D[i]! = x:=⟨_,rfl⟩
  refine xqj 16 (.slice f.A n f.cap) (fun w Q=>dP (t:=61) (x:=.tmp 15) (j:=i) Q.1.1 p o l) ?_
  refine xqg 1 [yJ 17 (i:Int)] ?_
  refine xqd 33 [yI 1] 18 jJ _ (fun w R Q=>yM fY (ZnW 1 _ qD qD)) fun⟨q,r,s,u,t13,v,z,B⟩=>?_
  refine xqj 19 (atA f.A (i*4)) (fun w Q=>xJ (t:=61) (e:=59) (sz:=4) (x:=.tmp 16) (ix:=.tmp 17) (len:=n) (cap:=f.cap) (i:=i) (OwnD.ne (show OwnD _ m0 59 4 f.A f.cap f.xs.length (f.xs.flatMap qvC) by rw[←l];exact MrOk.at Q.1.2 (p.1.symm ▸ o)) (QG.cl p o l o)) o) ?_
  refine xz ?_
  refine ZaT (t:=59) (x:=.tmp 19) (y:=.tmp 18) (e:=59) (k:=4) (enc:=qvC) (a:=i) (j:=i) (ys:=D) m0 (⟨(q,r,s,u,t13,v,z,B),((1:Int):Rat)⟩:Qv) (.agg #[.bool q,.slice r s u,.bool t13,.slice v z B]) (fun w=>((OwnD w m0 61 1 (yL g) n n (D.flatMap mrC)∧QMs w D)∧zS w (.agg #[.bool q,.slice r s u,.bool t13,.slice v z B]) (((1:Int):Rat)))) jM qD (fun w Q=>Q.1.1.2) (p.1.symm ▸ o) l (QG.cl p o l o) (fun _ h=>Or.inl (uB (F ▸ uG _) h)) (by simp[qvC,Value.oneCell']) (Zbb _) rfl (fun w w' Q I=>⟨⟨OwnD.apart Q.1.1.1 (show OwnD _ m0 59 4 f.A f.cap f.xs.length (f.xs.flatMap qvC) by rw[←l];exact MrOk.at Q.1.1.2 (p.1.symm ▸ o)) qD I,QMs.row Q.1.2 (show OwnD _ m0 59 4 f.A f.cap f.xs.length (f.xs.flatMap qvC) by rw[←l];exact MrOk.at Q.1.1.2 (p.1.symm ▸ o)) I⟩,zS.rowUp Q.2 (show OwnD _ m0 59 4 f.A f.cap f.xs.length (f.xs.flatMap qvC) by rw[←l];exact MrOk.at Q.1.1.2 (p.1.symm ▸ o)) I⟩) ?_
  refine xr 0 [yJ 0 (n:Int),eS1 2 none 0 0,eS1 3 (yL g) n n,yJ 4 (i:Int)] [] ?_
  refine xe (xS (zA (zB (xq 2 [yJ 12 (IntKind.i64.wrap ((i:Int)+1))] [] ?_))))
  rw[yW ((i:Int)+1) (((i+1:Nat):Int)) qO]
  refine xq 1 [yJ 4 ((i+1:Nat):Int)] [] ?_
  refine xe ?_
  refine yP [yJ 0 (n:Int),eS1 2 none 0 0,eS1 3 (yL g) n n,yJ 4 (((i+1):Nat):Int)] [] (fun w=>((OwnD w m0 61 1 (yL g) n n ((D.set i ⟨f.A,f.cap,f.xs.set i (⟨(q,r,s,u,t13,v,z,B),((1:Int):Rat)⟩:Qv)⟩).flatMap mrC)∧MrOk 59 4 qvC m0 w (D.set i ⟨f.A,f.cap,f.xs.set i (⟨(q,r,s,u,t13,v,z,B),((1:Int):Rat)⟩:Qv)⟩))∧QMs w (D.set i ⟨f.A,f.cap,f.xs.set i (⟨(q,r,s,u,t13,v,z,B),((1:Int):Rat)⟩:Qv)⟩))) (fun w Q=>⟨⟨(by rw[dO (p.1.symm ▸ o) l (vT ..)];exact Q.1.1.1),Q.2⟩,(QMs.set Q.1.1.2 (p.1.symm ▸ o) l Q.1.2)⟩) ?_
  exact xH ((1+(n-(i+1)))) qO ⟨(i+1),(D.set i ⟨f.A,f.cap,f.xs.set i (⟨(q,r,s,u,t13,v,z,B),((1:Int):Rat)⟩:Qv)⟩),(updZ Y i i 1),rfl,rfl,o,(QG.set p o l rfl),(Zpi M),rfl⟩
 have O:i=n:=by have:=uD E;omega
 refine xO (zG (zG (xW (zA (yY (xq 2 [eS1 2 (yL g) n n] [] ?_))))))
 refine yZ (zH ?_)
 refine yR (.slice (yL g) n n) fun w' R Q=>?_
 exact⟨g,D,rfl,p.congr (fun a b T U=>by rw[M a b];by_cases e:a=b<;>simp[e]<;>omega),F ▸ Q.1.1,F ▸ Q.1.2,Q.2,R⟩
theorem Blk.ext' {T:TypeId}{w w':World}{g:Nat}{cs:Array Value}(h:Blk T w g cs)(a:Ext w w'):Blk T w' g cs:=h.fr a (fun f=>f)
theorem ZqP {α:Type}[Inhabited α]{l:List α}{i a:Nat}{x:α}(ha:a<l.length):(l.set i x)[a]! = if i=a then x else l[a]! := by
 rw[vP _ a (by rw[vT];exact ha),nC,vP l a ha]
theorem Zes {xs:List Nb}{a:List (ByteArray×Int)}(h:xs.map nbV=a.map ldV){q:Nat}(c:q<a.length):nbV xs[q]! = ldV a[q]! := by
 have d:xs.length=a.length:=by have:=vI List.length h;rwa [uU,uU] at this
 have b:=vI (fun l=>l[q]?) h
 simp only[pP] at b
 rw[uN qO,uN c] at b
 rw[vP xs q qO,vP a q c]
 injection b
theorem Zk5 {r c:Nat}{V:Nat→Nat→Fv3}(h:∀ i j,i<r→j<c→FvOk (V i j)):∀ v∈xF r c V,FvOk v:=fun v a=>by
 obtain⟨i,hi,a⟩:=nB.1 a
 obtain⟨j,b,rfl⟩:=pY.1 a
 exact h i j (sP.1 hi) (sP.1 b)
instance {vs:List Fv3} {m0:Nat}:Nonempty {x:Nat × List Nb // x.2.map nbV=vs∧m0≤x.1}:=⟨⟨(m0,vs.map (fun v=>(⟨v.1,none,0,0,v.2.1,v.2.2⟩:Nb))),by
 refine⟨?_,uG _⟩
 show (vs.map _).map nbV=vs
 rw[qZ]
 exact List.map_id'' (fun v=>rfl) vs⟩⟩
theorem Zet {α:Type}{x a b:α}(h:x ∈ [a,b]):x=a∨x=b:=by simpa using h
theorem Zgn {b:List Mx}{ls:List Fm}{j:Nat}{x:Mx}{y:Fm}(h:b.map mxV=ls.map fmV)(d:ls[j]? = some y)(e:b[j]! = x):x.r=y.r∧x.c=y.c∧x.xs.map nbV=y.fs.map ldV:=by
 have g:b.length=ls.length:=by have:=vI List.length h;rwa [uU,uU] at this
 have f:j<ls.length:=(List.getElem?_eq_some_iff.1 d).1
 have a:=vI (fun l=>l[j]?) h
 simp only[pP] at a
 rw[d,uN (show j<b.length by omega)] at a
 rw[vP b j qO] at e
 rw[e] at a
 injection a with a
 injection a with h2 h3
 injection h3 with h3 h4
 exact⟨h2,h3,h4⟩
instance:Nonempty {x:Int×Int // (fun x:Int×Int=>TF x.1 x.2) x}:=⟨⟨(0,0),Or.inl ⟨rfl,rfl⟩,by decide,by decide,by decide⟩⟩
def Gd (f:ByteArray×Int):Prop:=fvB (bytes f.1) f.2=true∧(bytes f.1).length≤1000
theorem Zgo {r c cap:Nat}{A:qA}{a:List (ByteArray×Int)}(d:1≤r∧r≤32)(e:1≤c∧c≤32)(g:a.length=r*c)(h:∀ f∈a,Gd f):FmG ⟨r,c,A,cap,a⟩:=⟨d,e,g,fun f b=>(h f b).1,fun f b=>(h f b).2⟩
theorem Zmb {z:Int}(h:blen z.natAbs≤65):(Lib.itoa z).length≤1000:=uB (ZkE (k:=20) qD (uT (lA.1 h) qD)) qD
theorem ZqQ {z x:Int}(h:(z=0∧x=0)∨(z%2=1∧okE x))(a:blen z.natAbs≤65):Gd (⟨(Lib.itoa z).toArray⟩,x):=by
 refine⟨?_,?_⟩
 ·show fvB (Lib.itoa z) x=true
  rw[ZkD];exact vJ h
 exact Zmb a
theorem Zk6 {z x:Int}(h:(z=0∧x=0)∨(z%2=1∧okE x)):ldV (⟨(Lib.itoa z).toArray⟩,x)=(decide (z<0),z.natAbs,x):=by
 unfold ldV
 show ((ldR (Lib.itoa z) x).s,(ldR (Lib.itoa z) x).m,(ldR (Lib.itoa z) x).e)=_
 have a:fvB (Lib.itoa z) x=true:=by rw[ZkD];exact vJ h
 unfold ldR
 rw[uS a,cK,fW]
theorem ZnY {s:Bool}{m:Nat}(h:m%2=1):sg s m%2=1:=by cases s<;>simp[sg]<;>omega
theorem ZnZ (s:Bool)(m:Nat):(sg s m).natAbs=m:=by cases s<;>simp[sg]
theorem ZrT {v:Fv3}{E:Int}(h:FvOk v)(hb:Bv E v):Gd (ftW v):=by
 refine ZqQ ?_ (by rw[ZnZ];exact hb.1)
 rcases h.2.2.1 with h0|a
 ·exact Or.inl ⟨by rw[h0];cases v.1<;>rfl,hb.2.2 h0⟩
 exact Or.inr ⟨ZnY a,h.2.1⟩
theorem Zc5 {α:Type}{r c:Nat}{V:Nat→Nat→α}{p:α→Prop}(h:∀ i j,i<r→j<c→p (V i j)):∀ v∈xF r c V,p v:=fun v a=>by
 obtain⟨i,hi,a⟩:=nB.1 a
 obtain⟨j,b,rfl⟩:=pY.1 a
 exact h i j (sP.1 hi) (sP.1 b)
theorem Zfk {α β:Type}{r c:Nat}{V:Nat→Nat→α}{f:α→β}:(xF r c V).map f=xF r c (fun i j=>f (V i j)):=by
 unfold xF
 rw[List.map_flatMap]
 congr 1
 exact funext fun i=>by rw[qZ];rfl
def cz (z:Int):Fv3:=(decide (z<0),oddM z.natAbs,((tzn z.natAbs:Nat):Int))
theorem Zap:oddM 0=0:=by unfold oddM;exact Nat.zero_div _
theorem Zbc:tzn 0=0:=by rw[tzn,dif_pos (Or.inl rfl)]
theorem Zk7:cz 0=(false,0,0):=by
 show (decide ((0:Int)<0),oddM (0:Int).natAbs,((tzn (0:Int).natAbs:Nat):Int))=_
 rw[nJ,Zap,Zbc];rfl
theorem Zn0:cz 1=(false,1,0):=by
 show (decide ((1:Int)<0),oddM (1:Int).natAbs,((tzn (1:Int).natAbs:Nat):Int))=_
 have h:=ZaL (o:=1) qD 0
 have a:=ZgR (n:=1) qD
 rw[show (1:Int).natAbs=1 from rfl,a,show oddM 1=1 from h];rfl
theorem Zaq {n:Nat}:oddM n*2^tzn n=n:=by
 rcases uJ n with h|h
 ·subst h;rw[Zap,tX]
 exact (jW h).2.symm
theorem Zeu {n:Nat}(h:n≠0):0<oddM n:=by have:=(jW (show 0<n by omega)).1;omega
theorem Zc6 {n:Nat}(h:oddM n=0):n=0:=by
 rcases uJ n with a|a
 ·exact a
 have:=Zeu (n:=n) qO;omega
theorem Zmc {n:Nat}(h:n<2^64):tzn n≤64:=by
 rcases uJ n with a|a
 ·subst a;rw[Zbc];decide
 have f:=Zaq (n:=n)
 have d:=Zeu (n:=n) qO
 rcases vO 64 (tzn n) with b|b
 ·have e:=vA (show 0<2 by decide) (show 64≤tzn n by omega)
  have g:=uZ d e
  omega
 exact b
theorem Zev {s:Bool}{n k:Nat}{z:Int}(f:n*2^k=z.natAbs)(i:z.natAbs<2^64)(j:z≠0→s=decide (z<0)):musT (wX s n 1 ((k:Nat):Int) 64)=some (cz z)∧(wX s n 1 ((k:Nat):Int) 64).err=0:=by
 rcases uJ n with d|d
 ·subst d
  rw[tX] at f
  have:z=0:=qO
  subst this
  rw[eJ,Zk7]
  exact⟨rfl,rfl⟩
 have g:z≠0:=fun e=>by
  subst e
  have:=sL d (p2 k)
  rw[f] at this
  exact absurd this qD
 have a:=jW d
 have h:oddM z.natAbs=oddM n∧tzn z.natAbs=tzn n+k:=by
  have l:z.natAbs=oddM n*2^(tzn n+k):=by rw[uR,← uH,← a.2];exact f.symm
  rw[l]
  exact⟨ZaL a.1 _,Za5 a.1 _⟩
 have p:=Zmc i
 have m:n<2^64:=by
  have:=Nat.le_mul_of_pos_right n (p2 k)
  omega
 have o:=few s (k:Int) (b:=64) qD a.2 a.1 m (ZbN qO qO)
 rw[o]
 refine⟨?_,rfl⟩
 show some (s,oddM n,(k:Int)+((tzn n:Nat):Int))=_
 unfold cz
 rw[h.1,h.2,j g,show (k:Int)+((tzn n:Nat):Int)=((tzn n+k:Nat):Int) by omega]
theorem ZrE {a b:Int}(h:(a*b).natAbs<2^64):musT (mulV (cz a) (cz b) 64)=some (cz (a*b)):=by
 have j:=Zev (s:=decide (a<0) != decide (b<0)) (n:=oddM a.natAbs*oddM b.natAbs) (k:=tzn a.natAbs+tzn b.natAbs) (z:=a*b) (by
  rw[Int.natAbs_mul,uR,rL,Zaq,Zaq]) h (fun g=>by
  have d:a≠0:=fun e=>g (by rw[e,nL])
  have f:b≠0:=fun e=>g (by rw[e,Int.mul_zero])
  rcases oL d with d|d<;>rcases oL f with f|f
  ·rw[vJ d,vJ f,uV (by have:=Int.mul_pos_of_neg_of_neg d f;omega)];rfl
  ·rw[vJ d,uV qO,vJ (Int.mul_neg_of_neg_of_pos d f)];rfl
  ·rw[uV qO,vJ f,vJ (Int.mul_neg_of_pos_of_neg d f)];rfl
  rw[uV qO,uV qO,uV (by have:=Int.mul_pos d f;omega)];rfl)
 have i:=j.1
 rw[sZ] at i
 exact i
theorem Zn1 (s:Bool)(n k:Nat):sg s (n*2^k)=sg s n*2^k:=by cases s<;>simp[sg,Int.neg_mul]
theorem ZpD (z:Int):sg (decide (z<0)) z.natAbs=z:=by
 rcases oP z 0 with h|h
 ·rw[vJ h];unfold sg;rw[uS rfl];omega
 rw[uV qO];unfold sg;rw[uM qD];omega
theorem ZrF (s:Bool)(n:Nat):sg (!s) n = -sg s n:=by cases s<;>simp[sg]
theorem ZrG {a b:Int}(h:(a-b).natAbs<2^64):musT (subV (cz a) (cz b) 64)=some (cz (a-b)):=by
 unfold subV sumR
 show musT (if oddM a.natAbs=0 then wX (if oddM b.natAbs=0 then decide (b<0) else !decide (b<0)) (oddM b.natAbs) 1 ((tzn b.natAbs:Nat):Int) 64 else if oddM b.natAbs=0 then wX (decide (a<0)) (oddM a.natAbs) 1 ((tzn a.natAbs:Nat):Int) 64 else addR (decide (a<0)) (oddM a.natAbs) ((tzn a.natAbs:Nat):Int) (if oddM b.natAbs=0 then decide (b<0) else !decide (b<0)) (oddM b.natAbs) ((tzn b.natAbs:Nat):Int) 64)=_
 by_cases o:oddM a.natAbs=0
 ·have i:a=0:=by have:=Zc6 o;omega
  rw[uS o]
  refine (Zev (by rw[Zaq,i,Int.zero_sub,Int.natAbs_neg]) h (fun j=>?_)).1
  have d:b≠0:=qO
  rw[uM (fun e=>d (by have:=Zc6 e;omega)),i]
  rcases oL d with k|k
  ·rw[vJ k,uV qO];rfl
  rw[uV qO,vJ qO];rfl
 rw[uM o]
 by_cases l:oddM b.natAbs=0
 ·have d:b=0:=by have:=Zc6 l;omega
  rw[uS l,d,Int.sub_zero]
  rw[d,Int.sub_zero] at h
  exact (Zev Zaq h (fun _=>rfl)).1
 rw[uM l,uM l]
 obtain⟨m,s,p,q⟩:∃ m:Nat,min ((tzn a.natAbs:Nat):Int) ((tzn b.natAbs:Nat):Int)=(m:Int)∧m≤tzn a.natAbs∧m≤tzn b.natAbs:=⟨min (tzn a.natAbs) (tzn b.natAbs),qO,Nat.min_le_left _ _,Nat.min_le_right _ _⟩
 unfold addR
 rw[s,show (((tzn a.natAbs:Nat):Int)-(m:Int)).toNat=tzn a.natAbs-m by omega,show (((tzn b.natAbs:Nat):Int)-(m:Int)).toNat=tzn b.natAbs-m by omega]
 generalize t:sg (decide (a<0)) (oddM a.natAbs*2^(tzn a.natAbs-m))+sg (!decide (b<0)) (oddM b.natAbs*2^(tzn b.natAbs-m))=S
 have f:S*2^m=a-b:=by
  rw[←t,Int.add_mul,← Zn1,← Zn1,uH,uH,← uR,← uR,qJ p,qJ q,Zaq,Zaq,ZrF,ZpD,ZpD]
  omega
 have r:(0:Int)<2^m:=Int.pow_pos qD
 refine (Zev (by rw[←f,Int.natAbs_mul,Int.natAbs_pow];rfl) h (fun j=>?_)).1
 rw[←f]
 rcases Int.lt_trichotomy S 0 with g|g|g
 ·rw[vJ g,vJ (Int.mul_neg_of_neg_of_pos g r)]
 ·rw[g,nL] at f;exact absurd f.symm j
 rw[uV qO,uV (by have:=Int.mul_pos g r;omega)]
theorem ZrH {a:Int}(h:a.natAbs<2^64):musT (divV (cz a) (cz 1) 64)=some (cz a):=by
 rw[Zn0]
 show musT (ZaC (decide (a<0) != false) (oddM a.natAbs) 1 (((tzn a.natAbs:Nat):Int)-0) 64)=_
 unfold ZaC
 rw[uM qD,Int.sub_zero]
 exact (Zev Zaq h (fun _=>by cases decide (a<0)<;>rfl)).1
theorem Zk8 {t x y:Int}(b:t.natAbs≤1000000000)(a:(x*y).natAbs≤1000000000):jS (cz t) (cz x) (cz y) 64=some (cz (t-x*y)):=by
 unfold jS
 rw[ZrE (vG a qD),Option.bind_some]
 exact ZrG (vG (show (t-x*y).natAbs≤2000000000 by omega) qD)
theorem ZpE {z:Int}(h:z.natAbs<2^64):FvOk (cz z)∧Bv 100 (cz z):=by
 have f:=Zmc h
 have b:oddM z.natAbs<2^64:=vG (vK _ _) h
 refine⟨⟨ZgZ (qF b) qD,ZbN (show -1000≤((tzn z.natAbs:Nat):Int) by omega) (show ((tzn z.natAbs:Nat):Int)≤1000 by omega),?_,fun d=>?_⟩,⟨lA.2 (rY b qD),⟨show -100≤((tzn z.natAbs:Nat):Int) by omega,show ((tzn z.natAbs:Nat):Int)≤100 by omega⟩,fun a=>?_⟩⟩
 ·rcases uJ z.natAbs with a|a
  ·left;show oddM z.natAbs=0;rw[a,Zap]
  right;exact (jW a).1
 ·have:z<0:=uC d
  exact Zeu qO
 have e:z.natAbs=0:=Zc6 a
 show ((tzn z.natAbs:Nat):Int)=0
 rw[e,Zbc];rfl
theorem ZqR:sgnV (cz 1)≠0:=by rw[Zn0];decide
def zT (z:Int):ByteArray:=⟨(xP ((z:Int):Rat)).toArray⟩
theorem rd_z (z:Int):wW (bytes (zT z))=some ((z:Int):Rat):=Za7.2 rfl
theorem ZrU {z:Int}(h:z.natAbs<2^64):(bytes (zT z)).length≤570:=by
 show (xP ((z:Int):Rat)).length≤570
 unfold xP
 rw[uS (oJ _),qR]
 exact uB (ZkE (k:=20) qD (uT h qD)) qD
theorem ZpF {z:Int}(h:z.natAbs<2^64):(kK (bytes (zT z)) 64).err=0∧fvR (kK (bytes (zT z)) 64)=cz z:=by
 have a:=Zev (s:=decide (z<0)) (n:=z.natAbs) (k:=0) (z:=z) (by rw[tA,tT]) h (fun _=>rfl)
 have b:kK (bytes (zT z)) 64=wX (decide (z<0)) z.natAbs 1 ((0:Nat):Int) 64:=by
  unfold kK
  rw[uS (by rw[rd_z];rfl),uS qO,bL (rd_z z)]
  unfold rndF
  rw[qR,oJ];rfl
 rw[b]
 exact⟨a.2,(jE a.1).2.symm⟩
theorem ZrV {z:Int}(h:z.natAbs<2^64):rdF 64 (zT z)=ftW (cz z):=by
 obtain⟨a,b⟩:=ZpF h
 unfold rdF frT frE
 rw[uS a,uS a,← b];rfl
theorem ZrW {z:Int}(h:z.natAbs<2^64):ldV (ftW (cz z))=cz z:=by
 have d:=Zmc h
 show ldV (⟨(Lib.itoa (sg (decide (z<0)) (oddM z.natAbs))).toArray⟩,((tzn z.natAbs:Nat):Int))=_
 rcases uJ z.natAbs with a|a
 ·have:z=0:=qO
  subst this
  rw[Zk6 (Or.inl ⟨by rw[nJ,Zap];rfl,by rw[nJ,Zbc];rfl⟩),nJ,Zap,Zbc,Zk7];rfl
 have b:=(jW a).1
 rw[Zk6 (Or.inr ⟨ZnY b,ZbN qO qO⟩)]
 unfold cz
 rw[ZnZ]
 congr 1
 have e:=Zeu (n:=z.natAbs) qO
 cases decide (z<0)<;>simp[sg]<;>omega
section
variable {n c:Nat} {Z:Nat→Nat→Int} {ms:List (Mr Qv)}
def toQr (y:Mr Qv):Qr:=⟨y.A,y.cap,y.xs⟩
theorem Zn2 (ms:List (Mr Qv)):(ms.map toQr).flatMap qrC=ms.flatMap mrC:=by rw[List.flatMap_map];rfl
theorem Zjo {α:Type}[Inhabited α]{l:List α}{n:Nat}(h:l.length=n):l=(List.range n).map (fun i=>l[i]!):=List.ext_getElem (by simp[h]) (fun i a b=>by rw[nE,List.getElem_range,vP l i a])
theorem Zc7 {α β:Type}{f g:α→List β}:∀ {l:List α},(∀ a∈l,f a=g a)→l.flatMap f=l.flatMap g
 | [],_=>rfl
 | a :: l,h=>by rw[sW,sW,h a qL,Zc7 (fun b d=>h b (List.mem_cons_of_mem _ d))]
theorem QG.txt (h:QG n c ms Z):(ms.map toQr).flatMap (fun r=>r.xs.map qT)=xF n c (fun a b=>zT (Z a b)):=by
 rw[List.flatMap_map]
 show ms.flatMap (fun r=>r.xs.map qT)=_
 rw[Zjo h.1,List.flatMap_map]
 unfold xF
 refine Zc7 fun a d=>?_
 have d:=sP.1 d
 show (ms[a]!).xs.map qT=_
 rw[Zjo (h.2.1 a d),qZ]
 refine List.map_congr_left fun b e=>?_
 show qT (ms[a]!).xs[b]! = _
 unfold qT zT
 rw[h.2.2 a b d (sP.1 e)]
theorem QG.fit (h:QG n c ms Z)(j:∀ a b,a<n→b<c→(Z a b).natAbs≤1000000000):∀ y∈ms.map toQr,∀ x∈y.xs,ml x.q.num.natAbs≤65536∧ml x.q.den≤65536:=fun y l x m=>by
 obtain⟨u,o,rfl⟩:=pY.1 l
 obtain⟨a,f,rfl⟩:=rO o
 obtain⟨b,g,rfl⟩:=rO (show x∈(ms[a]).xs from m)
 have d:a<n:=by rw[←h.1];exact f
 have i:ms[a]=ms[a]! := (vP ms a f).symm
 have e:b<c:=by rw[←h.2.1 a d,← i];exact g
 have p:(ms[a]).xs[b]=ms[a]!.xs[b]! := by rw[←vP (ms[a]).xs b g,i]
 show ml ((ms[a]).xs[b]).q.num.natAbs≤65536∧ml ((ms[a]).xs[b]).q.den≤65536
 rw[p,h.2.2 a b d e,qR,oJ]
 exact⟨uB (Zgd (k:=10) (vG (j a b d e) qD)) qD,uB (Zgd (k:=1) qD) qD⟩
theorem QG.col (h:QG n c ms Z):∀ y∈ms.map toQr,y.xs.length=c:=fun y d=>by
 obtain⟨u,e,rfl⟩:=pY.1 d
 obtain⟨a,b,rfl⟩:=rO e
 show (ms[a]).xs.length=c
 rw[←vP ms a b]
 exact h.2.1 a (by rw[←h.1];exact b)
end
theorem ZbP (m b n c:Nat)(ms:List (Mr Qv))(Z:Nat→Nat→Int)(w:World)(k:OwnD w m 61 1 (some ⟨b,0,none⟩) n n (ms.flatMap mrC))(l:MrOk 59 4 qvC m w ms)(o:QMs w ms)(f:QG n c ms Z)(g:0<n)(p:n≤64)(i:0<c)(q:c≤64)(r:∀ a b,a<n→b<c→(Z a b).natAbs≤1000000000) :
 yA 16 #[.slice (some ⟨b,0,none⟩) n n] w (fun e w'=>∃ A d,e=.returned (.agg #[.int .i64 ((n:Nat):Int),.int .i64 ((c:Nat):Int),.slice A (n*c) d])∧OwnD w' w.heap.size 9 1 A d (n*c) ((xF n c (fun a b=>zT (Z a b))).flatMap stC)∧Ext w w'):=by
 have h:=ZnU m b n c (ms.map toQr) w (by rw[Zn2];exact k) (fun y s=>by
  obtain⟨u,j,rfl⟩:=pY.1 s
  exact⟨l.own u j,o u j⟩) (by rw[uU];exact f.1) g p i q f.col (f.fit r)
 unfold Zh9 at h
 rw[f.txt] at h
 exact h
theorem Zew {m0 n c:Nat}{ts:List ByteArray}{w w':World}{e:Ending}(a:m0≤w.heap.size)(h:∃ A cap,e=.returned (.agg #[.int .i64 ((n:Nat):Int),.int .i64 ((c:Nat):Int),.slice A (n*c) cap])∧OwnD w' w.heap.size 9 1 A cap (n*c) (ts.flatMap stC)∧Ext w w') :
 lR (fun x:Option Addr×Nat=>.agg #[.int .i64 ((n:Nat):Int),.int .i64 ((c:Nat):Int),.slice x.1 (n*c) x.2]) (fun x w=>OwnD w m0 9 1 x.1 x.2 (n*c) (ts.flatMap stC)) w e w':=by
 obtain⟨A,cap,rfl,b,Q⟩:=h
 exact⟨(A,cap),rfl,Q,b.boxN a⟩
theorem ZaH (m n c:Nat)(A:qA)(cap:Nat)(Z:Nat→Nat→Int)(w:World)(l:Glob w)(j:OwnD w m 9 1 A cap (n*c) ((xF n c (fun a b=>zT (Z a b))).flatMap stC))(o:0<n)(p:n≤4)(q:0<c)(r:c≤4)(s:∀ a b,a<n→b<c→(Z a b).natAbs≤1000000000) :
 yA 10 #[.agg #[.int .i64 ((n:Nat):Int),.int .i64 ((c:Nat):Int),.slice A (n*c) cap],.int .i64 64] w (iE (fun v=>.tuple #[v,.int .i64 0]) n c ((xF n c (fun a b=>cz (Z a b))).map ftW) w):=by
 obtain⟨i,d⟩:∃ i,i=xF n c (fun a b=>zT (Z a b)):=⟨_,rfl⟩
 have k:i.length=n*c:=by rw[d,eA]
 have g:∀ a b,a<n→b<c→(Z a b).natAbs<2^64:=fun a b e f=>vG (s a b e f) qD
 have t:n*c≤4*4:=uZ p r
 rw[←d] at j
 have h:=ZhJ n c A cap i 64 w l (ZqK j) (by rw[d];exact Zc5 fun a b e f=>ZrU (g a b e f)) (by
  unfold mtB
  rw[vJ ⟨qO,qO,qO,qO,by rw[k,tS]⟩,Bool.true_and,d]
  exact vH.2 (Zc5 fun a b e f=>by rw[rd_z];rfl)) qD qD qO qO qO (by rw[d];exact Zc5 fun a b e f=>(ZpF (g a b e f)).1)
 rw[k] at h
 rw[show (xF n c (fun a b=>cz (Z a b))).map ftW=i.map (rdF 64) by
  rw[d,Zfk,Zfk]
  unfold xF
  exact Zc7 fun a e=>List.map_congr_left fun b f=>(ZrV (g a b (sP.1 e) (sP.1 f))).symm]
 exact h
def PD (r c:Nat) (ys:List Nb) (X:Nat→Nat→Fv3) (D:Nat→Nat→Prop):Prop:=ys.length=r*c∧∀ a b,a<r→b<c→D a b→nbV ys[a*c+b]! = X a b
section
variable {r c i j:Nat} {ys:List Nb} {X:Nat→Nat→Fv3} {D D':Nat→Nat→Prop}
theorem PD.start (h:∀ a b,a<r→b<c→¬ D a b):PD r c (List.replicate (r*c) nb0) X D:=⟨qS,fun a b d e f=>absurd f (h a b d e)⟩
theorem PD.mono (h:PD r c ys X D)(f:∀ a b,a<r→b<c→D' a b→D a b):PD r c ys X D':=⟨h.1,fun a b d e g=>h.2 a b d e (f a b d e g)⟩
theorem PD.set {z:Nb}(h:PD r c ys X D)(hi:i<r)(q:j<c)(m:nbV z=X i j)(n:∀ a b,a<r→b<c→D' a b→D a b∨(a=i∧b=j)):PD r c (ys.set (i*c+j) z) X D':=by
 refine⟨by rw[vT];exact h.1,fun a b f g o=>?_⟩
 rw[ZqP (by rw[h.1];exact gidx f g)]
 by_cases e:i*c+j=a*c+b
 ·rw[uS e]
  have k:a=i:=by
   rcases qW a i with d|d|d
   ·have:=uE c (show a+1≤i by omega)
    rw[rC] at this
    omega
   ·exact d
   have:=uE c (show i+1≤a by omega)
   rw[rC] at this
   omega
  subst k
  have l:b=j:=qO
  subst l
  exact m
 rw[uM e]
 rcases n a b f g o with d|⟨d,p⟩
 ·exact h.2 a b f g d
 exact absurd (by rw[d,p]) e
theorem PD.fin (h:PD r c ys X D)(f:∀ a b,a<r→b<c→D a b):ys.map nbV=xF r c X:=ZnX (by rw[uU];exact h.1) (fun i j hi d=>by
 have e:i*c+j<ys.length:=by rw[h.1];exact gidx hi d
 rw[vP _ _ (by rw[uU];exact e),nE,← vP ys _ e]
 exact h.2 i j hi d (f i j hi d))
end
theorem Zgp (t d:Nb)(b:Nat)(v:Fv3)(w:World)(C:Glob w)(E:NbOk w t)(y:NbOk w d)(u:FvOk (nbV t))(x:FvOk (nbV d))(F:8≤b)(G:b≤1024)(H:sgnV (nbV d)≠0)(z:musT (divV (nbV t) (nbV d) b)=some v) :
 yA 84 #[yV t.s t.A t.l t.c t.e, yV d.s d.A d.l d.c d.e,.int .i64 ((b:Nat):Int)] w (Zl6 v w):=by
 refine zQ (Φ:=fun w=>True) func84 rfl qK (fun w' J=>trivial) ?_
 refine yY (xq 3 [(3,.p 3 0),(4,.p 4 0),(6,.p 6 0)] [yF 6 109 false none 0 0 0,yF 4 109 d.s d.A d.l d.c d.e,yF 3 109 t.s t.A t.l t.c t.e] ?_)
 refine yZ (zC (yY (xq 1 [(7,.v (yV d.s d.A d.l d.c d.e))] [] ?_)))
 refine xqc 97 [yV d.s d.A d.l d.c d.e] 8 (fun _:Unit=>yI (sgnV (nbV d))) _ (fun w R Q=>yN (Zgl d.s d.A d.l d.c d.m d.e _ (y.ext R))) fun I=>?_
 refine xq 1 [yB 9 (((sgnV (nbV d)):Int) == 0)] [] ?_
 rw[(show ((sgnV (nbV d):Int) == 0)=false from rN.2 H)]
 refine yZ (xb (zI (zA (yY (xq 3 [(11,.v (yV t.s t.A t.l t.c t.e)),(12,.v (yV d.s d.A d.l d.c d.e)),yJ 13 (b:Int)] [] ?_)))))
 obtain⟨a,f⟩:=yE (divV (nbV t) (nbV d) b)
 have o:a.err=0:=by rw[←f];exact (jE z).1
 have B:FvOk (fvR a):=by rw[←f];exact Zg0 qO qO (by rw[f];exact o)
 refine xqc 96 [yV t.s t.A t.l t.c t.e, yV d.s d.A d.l d.c d.e, yI (b:Int)] 14 (fun q:ShN=>.tuple #[yV a.s q.1 q.2.1 q.2.2 a.e, yI 0]) _ (fun w R Q=>((show Calls _ _ _ _ (xZ w a) by rw[←f];exact ZhA t.s t.A t.l t.c t.m t.e d.s d.A d.l d.c d.m d.e b qO qO _ (C.ext R) (E.ext R) u.wl u.lo u.hi (y.ext R) x.wl x.lo x.hi)).mono (fun _ _ h=>Zba o h)) fun⟨g,k,n⟩=>?_
 refine xq 2 [(15,.v (yV a.s g k n a.e)),yJ 16 0] [] ?_
 refine xqc 90 [yV a.s g k n a.e, yI 0] 17 (fun _:Unit=>.agg #[.bool a.s,.slice g k n, yI a.e]) _ (fun w R Q=>yN (Za9 a.s g k n a.e _)) fun I=>?_
 refine xq 1 [] [yF 6 109 a.s g k n a.e] ?_
 refine yZ (zH ?_)
 refine yR (yV a.s g k n a.e) fun w' R Q=>?_
 exact⟨(⟨a.s,g,k,n,a.m,a.e⟩:Nb),rfl,by rw[(jE z).2,f];rfl,Q.1.2,R⟩
theorem Zmd (m n c:Nat)(A B:qA)(cap o:Nat)(xs zs:List Nb)(b F C G:Nat)(X:Nat→Nat→Fv3)(T:Nat→Nat→Nat→Fv3)(w:World)(hg:Glob w)(l0:Blk 97 w F #[.int .i64 ((n:Nat):Int),.int .i64 ((n:Nat):Int),.slice A (n*n) cap])(n0:Blk 97 w C #[.int .i64 ((n:Nat):Int),.int .i64 ((c:Nat):Int),.slice B (n*c) o])(o0:Blk 3 w G #[.int .i64 ((b:Nat):Int)])(p0:OwnD w m 109 3 A cap (n*n) (xs.flatMap nbC))(q0:xD w xs)(N:xs.length=n*n)(r0:∀ x∈xs,FvOk (nbV x))(y0:OwnD w m 109 3 B o (n*c) (zs.flatMap nbC))(z0:xD w zs)(c0:zs.length=n*c)(A0:∀ x∈zs,FvOk (nbV x))(hn:n≤32)(hc:c≤32)(s0:8≤b)(t0:b≤1024)(hX:∀ i j,i<n→j<c→FvOk (X i j))(B0:∀ i j,i<n→j<c→T i j 0=nbV zs[i*c+j]!)(C0:∀ i j k,i<n→j<c→k<i→jS (T i j k) (nbV xs[i*n+k]!) (X k j) b=some (T i j (k+1)))(hD:∀ i j,i<n→j<c→sgnV (nbV xs[i*n+i]!)≠0∧musT (divV (T i j i) (nbV xs[i*n+i]!) b)=some (X i j)) :
 yA 79 #[.pointer (some ⟨C,0,none⟩),.pointer (some ⟨F,0,none⟩),.pointer (some ⟨G,0,none⟩)] w (dE (fun v=>v) n c (xF n c X) w):=by
 obtain⟨m0,O⟩:∃ m,m=w.heap.size:=⟨_,rfl⟩
 have F0:F<m0:=O ▸ l0.lt
 have G0:C<m0:=O ▸ n0.lt
 have H0:G<m0:=O ▸ o0.lt
 refine zQ (Φ:=fun w=>((Blk 97 w F #[yI (n:Int), yI (n:Int),.slice A (n*n) cap]∧Blk 97 w C #[yI (n:Int), yI (c:Int),.slice B (n*c) o])∧Blk 3 w G #[yI (b:Int)])) func79 rfl qK (fun w' hf=>⟨⟨Blk.ext' l0 hf,Blk.ext' n0 hf⟩,Blk.ext' o0 hf⟩) ?_
 refine yY (xq 1 [(3,.p 3 0)] [(3,97,[.v (yI 0),.v (yI 0),.v (.slice none 0 0)])] ?_)
 refine yZ (yY (xq 1 [(9,.v (.pointer (yL C)))] [] ?_))
 refine xqk 10 (yI (n:Int)) (fun w R Q=>xV (t:=3) (x:=.tmp 9) (g:=C) (off:=0) (Blk.news Q.1.2 0 _ rfl)) ?_
 refine xq 1 [(11,.v (.pointer (some ⟨C,0+1,none⟩)))] [] ?_
 refine xqk 12 (yI (c:Int)) (fun w R Q=>xV (t:=3) (x:=.tmp 11) (g:=C) (off:=0+1) (Blk.news Q.1.2 1 _ rfl)) ?_
 refine xqc 80 [yI (n:Int), yI (c:Int)] 13 (fun b:{b:Nat // m0≤b}=>.agg #[yI (n:Int), yI (c:Int),.slice (yL b.1) (n*c) (n*c)]) _ (fun w R Q=>(ZbJ n c _ qO qO).mono (fun _ _ h=>ZbK (m0:=m0) (O ▸ R.size) rfl h)) fun⟨f,u0⟩=>?_
 refine xq 2 [(4,.p 4 0)] [(4,97,[.v (yI (n:Int)),.v (yI (c:Int)),.v (.slice (yL f) (n*c) (n*c))])] ?_
 refine yZ (zC (yY (xq 1 [(14,.v (.pointer (some ⟨C,0+1,none⟩)))] [] ?_)))
 refine xqk 15 (yI (c:Int)) (fun w R Q=>xV (t:=3) (x:=.tmp 14) (g:=C) (off:=0+1) (Blk.news Q.1.1.2 1 _ rfl)) ?_
 refine xq 1 [yJ 16 0] [] ?_
 refine yZ (zP ?_)
 refine yC [(0,.v (.pointer (yL C))),(1,.v (.pointer (yL F))),(2,.v (.pointer (yL G))),(3,.p 3 0),(4,.p 4 0),yJ 15 (c:Int),yJ 16 ((0:Nat):Int)] [(4,97,[.v (yI (n:Int)),.v (yI (c:Int)),.v (.slice (yL f) (n*c) (n*c))]),(3,97,[.v (yI 0),.v (yI 0),.v (.slice none 0 0)])] (fun w=>((((Blk 97 w F #[yI (n:Int), yI (n:Int),.slice A (n*n) cap]∧Blk 97 w C #[yI (n:Int), yI (c:Int),.slice B (n*c) o])∧Blk 3 w G #[yI (b:Int)])∧xD w (List.replicate (n*c) nb0))∧OwnD w m0 109 3 (yL f) (n*c) (n*c) ((List.replicate (n*c) nb0).flatMap nbC))) (fun w Q=>⟨⟨⟨⟨Q.1.1.1,Q.1.1.2⟩,Q.1.2⟩,(xD.zero _ _)⟩,(by exact Q.2)⟩) ?_
 refine xU (fun nn ss ff=>∃ (q:Nat) (ys:List Nb),ss=ofL [(0,.v (.pointer (yL C))),(1,.v (.pointer (yL F))),(2,.v (.pointer (yL G))),(3,.p 3 0),(4,.p 4 0),yJ 15 (c:Int),yJ 16 (q:Int)] [(4,97,[.v (yI (n:Int)),.v (yI (c:Int)),.v (.slice (yL f) (n*c) (n*c))]),(3,97,[.v (yI 0),.v (yI 0),.v (.slice none 0 0)])]∧ff=(fun w=>((((Blk 97 w F #[yI (n:Int), yI (n:Int),.slice A (n*n) cap]∧Blk 97 w C #[yI (n:Int), yI (c:Int),.slice B (n*c) o])∧Blk 3 w G #[yI (b:Int)])∧xD w ys)∧OwnD w m0 109 3 (yL f) (n*c) (n*c) (ys.flatMap nbC)))∧(q≤c)∧(PD n c ys X (fun _ b=>b<q))∧nn=(1+(c-q))) ((1+(c-0))) ⟨0,(List.replicate (n*c) nb0),rfl,rfl,(vL _),(PD.start (fun a b _ _ h=>absurd h (qC _))),rfl⟩ ?_
 rintro nn ss ff ⟨q,ys,rfl,rfl,hq,P,rfl⟩
 refine yY (xq 1 [yB 17 (decide ((q:Int)<(c:Int)))] [] ?_)
 refine yZ (zC ?_)
 refine yQ ((decide ((q:Int)<(c:Int)))) (fun S=>?_) fun S=>?_
 ·have E:q<c:=by have:=uC S;omega
  refine zI (zA (zC (zP (yY (xq 2 [yJ 5 (q:Int)] [] ?_)))))
  refine yZ (yY (xq 1 [(19,.v (.pointer (yL C)))] [] ?_))
  refine xqk 20 (yI (n:Int)) (fun w R Q=>xV (t:=3) (x:=.tmp 19) (g:=C) (off:=0) (Blk.news Q.1.1.1.2 0 _ rfl)) ?_
  refine xq 1 [yJ 21 0] [] ?_
  refine yZ (zP ?_)
  refine yC [(0,.v (.pointer (yL C))),(1,.v (.pointer (yL F))),(2,.v (.pointer (yL G))),(3,.p 3 0),(4,.p 4 0),yJ 5 (q:Int),yJ 15 (c:Int),yJ 16 (q:Int),yJ 20 (n:Int),yJ 21 ((0:Nat):Int)] [(4,97,[.v (yI (n:Int)),.v (yI (c:Int)),.v (.slice (yL f) (n*c) (n*c))]),(3,97,[.v (yI 0),.v (yI 0),.v (.slice none 0 0)])] (fun w=>((((Blk 97 w F #[yI (n:Int), yI (n:Int),.slice A (n*n) cap]∧Blk 97 w C #[yI (n:Int), yI (c:Int),.slice B (n*c) o])∧Blk 3 w G #[yI (b:Int)])∧xD w ys)∧OwnD w m0 109 3 (yL f) (n*c) (n*c) (ys.flatMap nbC))) (fun w Q=>⟨⟨⟨⟨Q.1.1.1.1,Q.1.1.1.2⟩,Q.1.1.2⟩,Q.1.2⟩,Q.2⟩) ?_
  refine xU (fun nn ss ff=>∃ (i:Nat) (ys:List Nb),ss=ofL [(0,.v (.pointer (yL C))),(1,.v (.pointer (yL F))),(2,.v (.pointer (yL G))),(3,.p 3 0),(4,.p 4 0),yJ 5 (q:Int),yJ 15 (c:Int),yJ 16 (q:Int),yJ 20 (n:Int),yJ 21 (i:Int)] [(4,97,[.v (yI (n:Int)),.v (yI (c:Int)),.v (.slice (yL f) (n*c) (n*c))]),(3,97,[.v (yI 0),.v (yI 0),.v (.slice none 0 0)])]∧ff=(fun w=>((((Blk 97 w F #[yI (n:Int), yI (n:Int),.slice A (n*n) cap]∧Blk 97 w C #[yI (n:Int), yI (c:Int),.slice B (n*c) o])∧Blk 3 w G #[yI (b:Int)])∧xD w ys)∧OwnD w m0 109 3 (yL f) (n*c) (n*c) (ys.flatMap nbC)))∧(i≤n)∧(PD n c ys X (fun a b=>b<q∨(b=q∧a<i)))∧nn=(1+(n-i))) ((1+(n-0))) ⟨0,ys,rfl,rfl,(vL _),(P.mono (fun a b _ _ h=>qO)),rfl⟩ ?_
  rintro nn ss ff ⟨i,ys,rfl,rfl,hi,P,rfl⟩
  refine yY (xq 1 [yB 22 (decide ((i:Int)<(n:Int)))] [] ?_)
  refine yZ (zC ?_)
  refine yQ ((decide ((i:Int)<(n:Int)))) (fun U=>?_) fun U=>?_
  ·have y:i<n:=by have:=uC U;omega
   refine zI (zA (zC (zP (yY (xq 2 [yJ 6 (i:Int)] [] ?_)))))
   refine yZ (zC (zB ?_))
   refine xqk 24 (.agg #[yI (n:Int), yI (c:Int),.slice B (n*c) o]) (fun w R Q=>aO (t:=97) (x:=.tmp 0) (g:=C) (cs:=[yI (n:Int), yI (c:Int),.slice B (n*c) o]) Q.1.1.1.2) ?_
   refine xq 2 [yJ 25 (i:Int),yJ 26 (q:Int)] [] ?_
   obtain⟨x13,K⟩:∃ x,zs[i*c+q]! = x:=⟨_,rfl⟩
   have d0:FvOk (nbV x13):=by rw[←K];exact A0 _ (xM (by rw[c0];exact (gidx y E)))
   have e0:NbOk w x13:=by rw[←K];exact z0 _ (xM (by rw[c0];exact (gidx y E)))
   refine xqc 81 [.agg #[yI (n:Int), yI (c:Int),.slice B (n*c) o], yI (i:Int), yI (q:Int)] 27 (fun _:Unit=>.agg #[.bool x13.s,.slice x13.A x13.l x13.c, yI x13.e]) _ (fun w R Q=>((show Calls _ _ _ _ (RetV _ (yV x13.s x13.A x13.l x13.c x13.e)) by rw[←K];exact gT m n c B o (n*c) zs i q _ (OwnD.ext y0 R) c0 qO qO (gidx y E) (by have:=uZ (show n≤32 by omega) (show c≤32 by omega);omega))).mono (fun _ _ h=>Zd3 h (zF.ext e0 R))) fun xx=>?_
   refine xq 2 [(7,.p 7 0)] [yF 7 109 x13.s x13.A x13.l x13.c x13.e] ?_
   refine yZ (zC (yY (xq 2 [yJ 28 (i:Int),yJ 29 0] [] ?_)))
   refine yZ (zP ?_)
   refine yC [(0,.v (.pointer (yL C))),(1,.v (.pointer (yL F))),(2,.v (.pointer (yL G))),(3,.p 3 0),(4,.p 4 0),yJ 5 (q:Int),yJ 6 (i:Int),(7,.p 7 0),yJ 15 (c:Int),yJ 16 (q:Int),yJ 20 (n:Int),yJ 21 (i:Int),yJ 28 (i:Int),yJ 29 ((0:Nat):Int)] [yF 7 109 x13.s x13.A x13.l x13.c x13.e,(4,97,[.v (yI (n:Int)),.v (yI (c:Int)),.v (.slice (yL f) (n*c) (n*c))]),(3,97,[.v (yI 0),.v (yI 0),.v (.slice none 0 0)])] (fun w=>(((((Blk 97 w F #[yI (n:Int), yI (n:Int),.slice A (n*n) cap]∧Blk 97 w C #[yI (n:Int), yI (c:Int),.slice B (n*c) o])∧Blk 3 w G #[yI (b:Int)])∧xD w ys)∧OwnD w m0 109 3 (yL f) (n*c) (n*c) (ys.flatMap nbC))∧NbOk w x13)) (fun w Q=>⟨⟨⟨⟨⟨Q.1.1.1.1.1,Q.1.1.1.1.2⟩,Q.1.1.1.2⟩,Q.1.1.2⟩,Q.1.2⟩,Q.2⟩) ?_
   refine xU (fun nn ss ff=>∃ (k:Nat) (t:Nb),ss=ofL [(0,.v (.pointer (yL C))),(1,.v (.pointer (yL F))),(2,.v (.pointer (yL G))),(3,.p 3 0),(4,.p 4 0),yJ 5 (q:Int),yJ 6 (i:Int),(7,.p 7 0),yJ 15 (c:Int),yJ 16 (q:Int),yJ 20 (n:Int),yJ 21 (i:Int),yJ 28 (i:Int),yJ 29 (k:Int)] [yF 7 109 t.s t.A t.l t.c t.e,(4,97,[.v (yI (n:Int)),.v (yI (c:Int)),.v (.slice (yL f) (n*c) (n*c))]),(3,97,[.v (yI 0),.v (yI 0),.v (.slice none 0 0)])]∧ff=(fun w=>(((((Blk 97 w F #[yI (n:Int), yI (n:Int),.slice A (n*n) cap]∧Blk 97 w C #[yI (n:Int), yI (c:Int),.slice B (n*c) o])∧Blk 3 w G #[yI (b:Int)])∧xD w ys)∧OwnD w m0 109 3 (yL f) (n*c) (n*c) (ys.flatMap nbC))∧NbOk w t))∧(k≤i)∧(FvOk (nbV t))∧(nbV t=T i q k)∧nn=(1+(i-k))) ((1+(i-0))) ⟨0,x13,rfl,rfl,(vL _),d0,(by rw[←K];exact (B0 i q y E).symm),rfl⟩ ?_
   rintro nn ss ff ⟨k,t,rfl,rfl,hk,v0,hT,rfl⟩
   refine yY (xq 1 [yB 30 (decide ((k:Int)<(i:Int)))] [] ?_)
   refine yZ (zC ?_)
   refine yQ ((decide ((k:Int)<(i:Int)))) (fun V=>?_) fun V=>?_
   ·have w0:k<i:=by have:=uC V;omega
    have J:k<n:=qO
    refine zI (zA (zC (zP (yY (xq 2 [yJ 8 (k:Int)] [] ?_)))))
    refine xe (zA ?_)
    refine yO 11 zL ?_
    refine xqg 1 [(32,.v (yV t.s t.A t.l t.c t.e))] ?_
    refine xqj 33 (.agg #[yI (n:Int), yI (n:Int),.slice A (n*n) cap]) (fun w Q=>aO (t:=97) (x:=.tmp 1) (g:=F) (cs:=[yI (n:Int), yI (n:Int),.slice A (n*n) cap]) Q.1.1.1.1.1) ?_
    refine xqg 2 [yJ 34 (i:Int),yJ 35 (k:Int)] ?_
    obtain⟨x15,L⟩:∃ x,xs[i*n+k]! = x:=⟨_,rfl⟩
    have f0:FvOk (nbV x15):=by rw[←L];exact r0 _ (xM (by rw[N];exact (gidx y J)))
    have g0:NbOk w x15:=by rw[←L];exact q0 _ (xM (by rw[N];exact (gidx y J)))
    refine xqd 81 [.agg #[yI (n:Int), yI (n:Int),.slice A (n*n) cap], yI (i:Int), yI (k:Int)] 36 (fun _:Unit=>.agg #[.bool x15.s,.slice x15.A x15.l x15.c, yI x15.e]) _ (fun w R Q=>yN ((show Calls _ _ _ _ (RetV _ (yV x15.s x15.A x15.l x15.c x15.e)) by rw[←L];exact gT m n n A cap (n*n) xs i k _ (OwnD.ext p0 R) N qO qO (gidx y J) (by have:=uZ (show n≤32 by omega) (show n≤32 by omega);omega)))) fun xx=>?_
    refine xqg 3 [(37,.v (.agg #[yI (n:Int), yI (c:Int),.slice (yL f) (n*c) (n*c)])),yJ 38 (k:Int),yJ 39 (q:Int)] ?_
    obtain⟨u,W⟩:∃ x,ys[k*c+q]! = x:=⟨_,rfl⟩
    have Y:nbV u=X k q:=by rw[←W];exact P.2 k q J E qO
    have h0:FvOk (nbV u):=by rw[Y];exact hX k q J E
    refine xqd 81 [.agg #[yI (n:Int), yI (c:Int),.slice (yL f) (n*c) (n*c)], yI (k:Int), yI (q:Int)] 40 (fun _:Unit=>.agg #[.bool u.s,.slice u.A u.l u.c, yI u.e]) _ (fun w R Q=>yN ((show Calls _ _ _ _ (RetV _ (yV u.s u.A u.l u.c u.e)) by rw[←W];exact gT m0 n c (yL f) (n*c) (n*c) ys k q _ Q.1.1.2 P.1 qO qO (gidx J E) (by have:=uZ (show n≤32 by omega) (show c≤32 by omega);omega)))) fun xx=>?_
    refine xqj 41 (yI (b:Int)) (fun w Q=>xV (t:=3) (x:=.tmp 2) (g:=G) (off:=0) (Blk.news Q.1.1.1.2 0 _ rfl)) ?_
    have a0:jS (nbV t) (nbV x15) (nbV u) b=some (T i q (k+1)):=by rw[hT,← L,Y];exact C0 i q k y E w0
    refine xqd 82 [yV t.s t.A t.l t.c t.e, yV x15.s x15.A x15.l x15.c x15.e, yV u.s u.A u.l u.c u.e, yI (b:Int)] 42 (fun z:{z:Nb // nbV z=T i q (k+1)}=>.agg #[.bool z.1.s,.slice z.1.A z.1.l z.1.c, yI z.1.e]) _ (fun w R Q=>yM Zcj (Zff t x15 u b (T i q (k+1)) _ (hg.ext R) Q.1.1.2 (zF.ext g0 R) (show NbOk _ u by rw[←W];exact Q.1.1.1.1.2 _ (xM (by rw[P.1];exact (gidx J E)))) v0 f0 h0 s0 t0 a0)) fun⟨H,b0⟩=>?_
    have i0:FvOk (nbV H):=by rw[b0];exact Zc0 qO qO a0
    refine xz (xq 1 [] [yF 7 109 H.s H.A H.l H.c H.e] ?_)
    refine xe (xS (zA (zB (xq 1 [yJ 43 (IntKind.i64.wrap ((k:Int)+1))] [] ?_))))
    rw[yW ((k:Int)+1) (((k+1:Nat):Int)) qO]
    refine xq 1 [yJ 29 ((k+1:Nat):Int)] [] ?_
    refine xe ?_
    refine yP [(0,.v (.pointer (yL C))),(1,.v (.pointer (yL F))),(2,.v (.pointer (yL G))),(3,.p 3 0),(4,.p 4 0),yJ 5 (q:Int),yJ 6 (i:Int),(7,.p 7 0),yJ 15 (c:Int),yJ 16 (q:Int),yJ 20 (n:Int),yJ 21 (i:Int),yJ 28 (i:Int),yJ 29 (((k+1):Nat):Int)] [yF 7 109 H.s H.A H.l H.c H.e,(4,97,[.v (yI (n:Int)),.v (yI (c:Int)),.v (.slice (yL f) (n*c) (n*c))]),(3,97,[.v (yI 0),.v (yI 0),.v (.slice none 0 0)])] (fun w=>(((((Blk 97 w F #[yI (n:Int), yI (n:Int),.slice A (n*n) cap]∧Blk 97 w C #[yI (n:Int), yI (c:Int),.slice B (n*c) o])∧Blk 3 w G #[yI (b:Int)])∧xD w ys)∧OwnD w m0 109 3 (yL f) (n*c) (n*c) (ys.flatMap nbC))∧NbOk w H)) (fun w Q=>⟨⟨⟨⟨⟨Q.1.1.1.1.1.1.1.1,Q.1.1.1.1.1.1.1.2⟩,Q.1.1.1.1.1.1.2⟩,Q.1.1.1.1.1.2⟩,Q.1.1.1.1.2⟩,Q.2⟩) ?_
    exact xH ((1+(i-(k+1)))) qO ⟨(k+1),H,rfl,rfl,w0,i0,b0,rfl⟩
   have D0:k=i:=by have:=uD V;omega
   have E0:nbV t=T i q i:=by have h:=hT;rw[D0] at h;exact h
   refine xO (zG (zG (xW (zA ?_))))
   refine yO 10 zL ?_
   refine xqg 4 [(44,.v (.agg #[yI (n:Int), yI (c:Int),.slice (yL f) (n*c) (n*c)])),yJ 45 (i:Int),yJ 46 (q:Int),(47,.v (yV t.s t.A t.l t.c t.e))] ?_
   refine xqj 48 (.agg #[yI (n:Int), yI (n:Int),.slice A (n*n) cap]) (fun w Q=>aO (t:=97) (x:=.tmp 1) (g:=F) (cs:=[yI (n:Int), yI (n:Int),.slice A (n*n) cap]) Q.1.1.1.1.1) ?_
   refine xqg 2 [yJ 49 (i:Int),yJ 50 (i:Int)] ?_
   obtain⟨x18,M⟩:∃ x,xs[i*n+i]! = x:=⟨_,rfl⟩
   have j0:FvOk (nbV x18):=by rw[←M];exact r0 _ (xM (by rw[N];exact (gidx y y)))
   have k0:NbOk w x18:=by rw[←M];exact q0 _ (xM (by rw[N];exact (gidx y y)))
   refine xqd 81 [.agg #[yI (n:Int), yI (n:Int),.slice A (n*n) cap], yI (i:Int), yI (i:Int)] 51 (fun _:Unit=>.agg #[.bool x18.s,.slice x18.A x18.l x18.c, yI x18.e]) _ (fun w R Q=>yN ((show Calls _ _ _ _ (RetV _ (yV x18.s x18.A x18.l x18.c x18.e)) by rw[←M];exact gT m n n A cap (n*n) xs i i _ (OwnD.ext p0 R) N qO qO (gidx y y) (by have:=uZ (show n≤32 by omega) (show n≤32 by omega);omega)))) fun xx=>?_
   refine xqj 52 (yI (b:Int)) (fun w Q=>xV (t:=3) (x:=.tmp 2) (g:=G) (off:=0) (Blk.news Q.1.1.1.2 0 _ rfl)) ?_
   have Z:=hD i q y E
   rw[M,← E0] at Z
   refine xqd 84 [yV t.s t.A t.l t.c t.e, yV x18.s x18.A x18.l x18.c x18.e, yI (b:Int)] 53 (fun z:{z:Nb // nbV z=X i q}=>.agg #[.bool z.1.s,.slice z.1.A z.1.l z.1.c, yI z.1.e]) _ (fun w R Q=>yM Zcj (Zgp t x18 b (X i q) _ (hg.ext R) Q.1.2 (zF.ext k0 R) v0 j0 s0 t0 Z.1 Z.2)) fun⟨I,x0⟩=>?_
   refine xz ?_
   refine aN (b:=f) (d:=54) (j:=0) (c:=.bool ys[0]!.s) 83 [.agg #[yI (n:Int), yI (c:Int),.slice (yL f) (n*c) (n*c)], yI (i:Int), yI (q:Int), yV I.s I.A I.l I.c I.e] (fun _:Unit=>.tuple #[]) (fun w=>(((Blk 97 w F #[yI (n:Int), yI (n:Int),.slice A (n*n) cap]∧Blk 97 w C #[yI (n:Int), yI (c:Int),.slice B (n*c) o])∧Blk 3 w G #[yI (b:Int)])∧xD w (ys.set (i*c+q) I))) (fun _ w=>OwnD w m0 109 3 (yL f) (n*c) (n*c) ((ys.set (i*c+q) I).flatMap nbC)) (fun w Q=>ZbM Q.1.1.1.2 (by rw[P.1];have:=(gidx y E);omega)) (Or.inl (O ▸ u0)) (fun w R Q=>yM Zc2 (ZcY m0 n c f (n*c) (n*c) ys i q I _ Q.1.1.1.2 P.1 qO qO (gidx y E) (by have:=uZ (show n≤32 by omega) (show c≤32 by omega);omega))) (fun w w' R Q hF=>⟨⟨⟨Blk.fr Q.1.1.1.1.1.1.1 hF (fun h=>by have h:F=f:=h;omega),Blk.fr Q.1.1.1.1.1.1.2 hF (fun h=>by have h:C=f:=h;omega)⟩,Blk.fr Q.1.1.1.1.1.2 hF (fun h=>by have h:G=f:=h;omega)⟩,xD.set (xD.nrb Q.1.1.1.1.2 (fun i e=>by subst e;exact OwnD.nrb Q.1.1.1.2 rfl) hF) (zF.nrb Q.2 (fun i e=>by subst e;exact OwnD.nrb Q.1.1.1.2 rfl) hF)⟩) fun _=>?_
   refine xr 0 [(0,.v (.pointer (yL C))),(1,.v (.pointer (yL F))),(2,.v (.pointer (yL G))),(3,.p 3 0),(4,.p 4 0),yJ 5 (q:Int),yJ 15 (c:Int),yJ 16 (q:Int),yJ 20 (n:Int),yJ 21 (i:Int)] [(4,97,[.v (yI (n:Int)),.v (yI (c:Int)),.v (.slice (yL f) (n*c) (n*c))]),(3,97,[.v (yI 0),.v (yI 0),.v (.slice none 0 0)])] ?_
   refine xe (xS (zA (zB (xq 1 [yJ 55 (IntKind.i64.wrap ((i:Int)+1))] [] ?_))))
   rw[yW ((i:Int)+1) (((i+1:Nat):Int)) qO]
   refine xq 1 [yJ 21 ((i+1:Nat):Int)] [] ?_
   refine xe ?_
   refine yP [(0,.v (.pointer (yL C))),(1,.v (.pointer (yL F))),(2,.v (.pointer (yL G))),(3,.p 3 0),(4,.p 4 0),yJ 5 (q:Int),yJ 15 (c:Int),yJ 16 (q:Int),yJ 20 (n:Int),yJ 21 (((i+1):Nat):Int)] [(4,97,[.v (yI (n:Int)),.v (yI (c:Int)),.v (.slice (yL f) (n*c) (n*c))]),(3,97,[.v (yI 0),.v (yI 0),.v (.slice none 0 0)])] (fun w=>((((Blk 97 w F #[yI (n:Int), yI (n:Int),.slice A (n*n) cap]∧Blk 97 w C #[yI (n:Int), yI (c:Int),.slice B (n*c) o])∧Blk 3 w G #[yI (b:Int)])∧xD w (ys.set (i*c+q) I))∧OwnD w m0 109 3 (yL f) (n*c) (n*c) ((ys.set (i*c+q) I).flatMap nbC))) (fun w Q=>⟨⟨⟨⟨Q.1.1.1.1,Q.1.1.1.2⟩,Q.1.1.2⟩,Q.1.2⟩,Q.2⟩) ?_
   exact xH ((1+(n-(i+1)))) qO ⟨(i+1),(ys.set (i*c+q) I),rfl,rfl,y,(P.set y E x0 (fun a b _ _ h=>qO)),rfl⟩
  have I0:i=n:=by have:=uD U;omega
  refine xO (zG (zG (xW (xS (zA (zB (xq 1 [yJ 56 (IntKind.i64.wrap ((q:Int)+1))] [] ?_)))))))
  rw[yW ((q:Int)+1) (((q+1:Nat):Int)) qO]
  refine xq 1 [yJ 16 ((q+1:Nat):Int)] [] ?_
  refine xe ?_
  refine yP [(0,.v (.pointer (yL C))),(1,.v (.pointer (yL F))),(2,.v (.pointer (yL G))),(3,.p 3 0),(4,.p 4 0),yJ 15 (c:Int),yJ 16 (((q+1):Nat):Int)] [(4,97,[.v (yI (n:Int)),.v (yI (c:Int)),.v (.slice (yL f) (n*c) (n*c))]),(3,97,[.v (yI 0),.v (yI 0),.v (.slice none 0 0)])] (fun w=>((((Blk 97 w F #[yI (n:Int), yI (n:Int),.slice A (n*n) cap]∧Blk 97 w C #[yI (n:Int), yI (c:Int),.slice B (n*c) o])∧Blk 3 w G #[yI (b:Int)])∧xD w ys)∧OwnD w m0 109 3 (yL f) (n*c) (n*c) (ys.flatMap nbC))) (fun w Q=>⟨⟨⟨⟨Q.1.1.1.1,Q.1.1.1.2⟩,Q.1.1.2⟩,Q.1.2⟩,Q.2⟩) ?_
  exact xH ((1+(c-(q+1)))) qO ⟨(q+1),ys,rfl,rfl,E,(P.mono (fun a b _ _ h=>qO)),rfl⟩
 have J0:q=c:=by have:=uD S;omega
 refine xO (zG (zG (xW (zA (yY (xq 2 [] [(3,97,[.v (yI (n:Int)),.v (yI (c:Int)),.v (.slice (yL f) (n*c) (n*c))])] ?_))))))
 refine yZ (zH ?_)
 refine yR (.agg #[yI (n:Int), yI (c:Int),.slice (yL f) (n*c) (n*c)]) fun w' R Q=>?_
 exact⟨f,ys,by rw[P.1],P.fin (fun a b _ hb=>qO),by rw[P.1];exact O ▸ Q.2,Q.1.2,R⟩
theorem Zme (m n c:Nat)(A B:qA)(cap o:Nat)(xs zs:List Nb)(b F C G:Nat)(X:Nat→Nat→Fv3)(T:Nat→Nat→Nat→Fv3)(w:World)(hg:Glob w)(l0:Blk 97 w F #[.int .i64 ((n:Nat):Int),.int .i64 ((n:Nat):Int),.slice A (n*n) cap])(n0:Blk 97 w C #[.int .i64 ((n:Nat):Int),.int .i64 ((c:Nat):Int),.slice B (n*c) o])(o0:Blk 3 w G #[.int .i64 ((b:Nat):Int)])(p0:OwnD w m 109 3 A cap (n*n) (xs.flatMap nbC))(q0:xD w xs)(N:xs.length=n*n)(r0:∀ x∈xs,FvOk (nbV x))(x0:OwnD w m 109 3 B o (n*c) (zs.flatMap nbC))(y0:xD w zs)(c0:zs.length=n*c)(z0:∀ x∈zs,FvOk (nbV x))(hn:n≤32)(hc:c≤32)(s0:8≤b)(t0:b≤1024)(hX:∀ i j,i<n→j<c→FvOk (X i j))(A0:∀ i j,i<n→j<c→T i j (i+1)=nbV zs[i*c+j]!)(B0:∀ i j k,i<n→j<c→i<k→k<n→jS (T i j k) (nbV xs[k*n+i]!) (X k j) b=some (T i j (k+1)))(hD:∀ i j,i<n→j<c→sgnV (nbV xs[i*n+i]!)≠0∧musT (divV (T i j n) (nbV xs[i*n+i]!) b)=some (X i j)) :
 yA 85 #[.pointer (some ⟨C,0,none⟩),.pointer (some ⟨F,0,none⟩),.pointer (some ⟨G,0,none⟩)] w (dE (fun v=>v) n c (xF n c X) w):=by
 obtain⟨m0,O⟩:∃ m,m=w.heap.size:=⟨_,rfl⟩
 have F0:F<m0:=O ▸ l0.lt
 have G0:C<m0:=O ▸ n0.lt
 have H0:G<m0:=O ▸ o0.lt
 refine zQ (Φ:=fun w=>((Blk 97 w F #[yI (n:Int), yI (n:Int),.slice A (n*n) cap]∧Blk 97 w C #[yI (n:Int), yI (c:Int),.slice B (n*c) o])∧Blk 3 w G #[yI (b:Int)])) func85 rfl qK (fun w' hf=>⟨⟨Blk.ext' l0 hf,Blk.ext' n0 hf⟩,Blk.ext' o0 hf⟩) ?_
 refine yY (xq 1 [(3,.p 3 0)] [(3,97,[.v (yI 0),.v (yI 0),.v (.slice none 0 0)])] ?_)
 refine yZ (yY (xq 1 [(9,.v (.pointer (yL C)))] [] ?_))
 refine xqk 10 (yI (n:Int)) (fun w R Q=>xV (t:=3) (x:=.tmp 9) (g:=C) (off:=0) (Blk.news Q.1.2 0 _ rfl)) ?_
 refine xq 1 [(11,.v (.pointer (some ⟨C,0+1,none⟩)))] [] ?_
 refine xqk 12 (yI (c:Int)) (fun w R Q=>xV (t:=3) (x:=.tmp 11) (g:=C) (off:=0+1) (Blk.news Q.1.2 1 _ rfl)) ?_
 refine xqc 80 [yI (n:Int), yI (c:Int)] 13 (fun b:{b:Nat // m0≤b}=>.agg #[yI (n:Int), yI (c:Int),.slice (yL b.1) (n*c) (n*c)]) _ (fun w R Q=>(ZbJ n c _ qO qO).mono (fun _ _ h=>ZbK (m0:=m0) (O ▸ R.size) rfl h)) fun⟨f,u0⟩=>?_
 refine xq 2 [(4,.p 4 0)] [(4,97,[.v (yI (n:Int)),.v (yI (c:Int)),.v (.slice (yL f) (n*c) (n*c))])] ?_
 refine yZ (zC (yY (xq 1 [(14,.v (.pointer (some ⟨C,0+1,none⟩)))] [] ?_)))
 refine xqk 15 (yI (c:Int)) (fun w R Q=>xV (t:=3) (x:=.tmp 14) (g:=C) (off:=0+1) (Blk.news Q.1.1.2 1 _ rfl)) ?_
 refine xq 1 [yJ 16 0] [] ?_
 refine yZ (zP ?_)
 refine yC [(0,.v (.pointer (yL C))),(1,.v (.pointer (yL F))),(2,.v (.pointer (yL G))),(3,.p 3 0),(4,.p 4 0),yJ 15 (c:Int),yJ 16 ((0:Nat):Int)] [(4,97,[.v (yI (n:Int)),.v (yI (c:Int)),.v (.slice (yL f) (n*c) (n*c))]),(3,97,[.v (yI 0),.v (yI 0),.v (.slice none 0 0)])] (fun w=>((((Blk 97 w F #[yI (n:Int), yI (n:Int),.slice A (n*n) cap]∧Blk 97 w C #[yI (n:Int), yI (c:Int),.slice B (n*c) o])∧Blk 3 w G #[yI (b:Int)])∧xD w (List.replicate (n*c) nb0))∧OwnD w m0 109 3 (yL f) (n*c) (n*c) ((List.replicate (n*c) nb0).flatMap nbC))) (fun w Q=>⟨⟨⟨⟨Q.1.1.1,Q.1.1.2⟩,Q.1.2⟩,(xD.zero _ _)⟩,(by exact Q.2)⟩) ?_
 refine xU (fun nn ss ff=>∃ (q:Nat) (ys:List Nb),ss=ofL [(0,.v (.pointer (yL C))),(1,.v (.pointer (yL F))),(2,.v (.pointer (yL G))),(3,.p 3 0),(4,.p 4 0),yJ 15 (c:Int),yJ 16 (q:Int)] [(4,97,[.v (yI (n:Int)),.v (yI (c:Int)),.v (.slice (yL f) (n*c) (n*c))]),(3,97,[.v (yI 0),.v (yI 0),.v (.slice none 0 0)])]∧ff=(fun w=>((((Blk 97 w F #[yI (n:Int), yI (n:Int),.slice A (n*n) cap]∧Blk 97 w C #[yI (n:Int), yI (c:Int),.slice B (n*c) o])∧Blk 3 w G #[yI (b:Int)])∧xD w ys)∧OwnD w m0 109 3 (yL f) (n*c) (n*c) (ys.flatMap nbC)))∧(q≤c)∧(PD n c ys X (fun _ b=>b<q))∧nn=(1+(c-q))) ((1+(c-0))) ⟨0,(List.replicate (n*c) nb0),rfl,rfl,(vL _),(PD.start (fun a b _ _ h=>absurd h (qC _))),rfl⟩ ?_
 rintro nn ss ff ⟨q,ys,rfl,rfl,hq,P,rfl⟩
 refine yY (xq 1 [yB 17 (decide ((q:Int)<(c:Int)))] [] ?_)
 refine yZ (zC ?_)
 refine yQ ((decide ((q:Int)<(c:Int)))) (fun S=>?_) fun S=>?_
 ·have E:q<c:=by have:=uC S;omega
  refine zI (zA (zC (zP (yY (xq 2 [yJ 5 (q:Int)] [] ?_)))))
  refine yZ (yY (xq 1 [(19,.v (.pointer (yL C)))] [] ?_))
  refine xqk 20 (yI (n:Int)) (fun w R Q=>xV (t:=3) (x:=.tmp 19) (g:=C) (off:=0) (Blk.news Q.1.1.1.2 0 _ rfl)) ?_
  refine xq 1 [yJ 21 (IntKind.i64.wrap ((n:Int)-1))] [] ?_
  rw[(show IntKind.i64.wrap ((n:Int)-1)=(n:Int)-1 by rw[IntKind.wrap_i64];omega)]
  refine xq 1 [yJ 6 ((n:Int)-1)] [] ?_
  refine yZ (zP ?_)
  refine yC [(0,.v (.pointer (yL C))),(1,.v (.pointer (yL F))),(2,.v (.pointer (yL G))),(3,.p 3 0),(4,.p 4 0),yJ 5 (q:Int),yJ 6 ((n:Int)-1),yJ 15 (c:Int),yJ 16 (q:Int)] [(4,97,[.v (yI (n:Int)),.v (yI (c:Int)),.v (.slice (yL f) (n*c) (n*c))]),(3,97,[.v (yI 0),.v (yI 0),.v (.slice none 0 0)])] (fun w=>((((Blk 97 w F #[yI (n:Int), yI (n:Int),.slice A (n*n) cap]∧Blk 97 w C #[yI (n:Int), yI (c:Int),.slice B (n*c) o])∧Blk 3 w G #[yI (b:Int)])∧xD w ys)∧OwnD w m0 109 3 (yL f) (n*c) (n*c) (ys.flatMap nbC))) (fun w Q=>⟨⟨⟨⟨Q.1.1.1.1,Q.1.1.1.2⟩,Q.1.1.2⟩,Q.1.2⟩,Q.2⟩) ?_
  refine xU (fun nn ss ff=>∃ (i:Nat) (ys:List Nb),ss=ofL [(0,.v (.pointer (yL C))),(1,.v (.pointer (yL F))),(2,.v (.pointer (yL G))),(3,.p 3 0),(4,.p 4 0),yJ 5 (q:Int),yJ 6 ((i:Int)-1),yJ 15 (c:Int),yJ 16 (q:Int)] [(4,97,[.v (yI (n:Int)),.v (yI (c:Int)),.v (.slice (yL f) (n*c) (n*c))]),(3,97,[.v (yI 0),.v (yI 0),.v (.slice none 0 0)])]∧ff=(fun w=>((((Blk 97 w F #[yI (n:Int), yI (n:Int),.slice A (n*n) cap]∧Blk 97 w C #[yI (n:Int), yI (c:Int),.slice B (n*c) o])∧Blk 3 w G #[yI (b:Int)])∧xD w ys)∧OwnD w m0 109 3 (yL f) (n*c) (n*c) (ys.flatMap nbC)))∧(i≤n)∧(PD n c ys X (fun a b=>b<q∨(b=q∧i≤a)))∧nn=(1+i)) ((1+n)) ⟨n,ys,rfl,rfl,(uG _),(P.mono (fun a b _ _ h=>qO)),rfl⟩ ?_
  rintro nn ss ff ⟨i,ys,rfl,rfl,hi,P,rfl⟩
  refine zC (yY (xq 2 [(23,.v (.bool (decide (((i:Int)-1)≥0))))] [] ?_))
  refine xe (zA ?_)
  refine yQ ((decide (((i:Int)-1)≥0))) (fun U=>?_) fun U=>?_
  ·obtain⟨p,hp⟩:∃ p,i=p+1:=⟨i-1,by have:=uC U;omega⟩
   have y:p<n:=qO
   rw[show ((i:Int)-1)=(p:Int) by omega]
   refine zI (zA (zC (zP (zC (zB ?_)))))
   refine xqk 26 (.agg #[yI (n:Int), yI (c:Int),.slice B (n*c) o]) (fun w R Q=>aO (t:=97) (x:=.tmp 0) (g:=C) (cs:=[yI (n:Int), yI (c:Int),.slice B (n*c) o]) Q.1.1.1.2) ?_
   refine xq 2 [yJ 27 (p:Int),yJ 28 (q:Int)] [] ?_
   obtain⟨x13,K⟩:∃ x,zs[p*c+q]! = x:=⟨_,rfl⟩
   have d0:FvOk (nbV x13):=by rw[←K];exact z0 _ (xM (by rw[c0];exact (gidx y E)))
   have e0:NbOk w x13:=by rw[←K];exact y0 _ (xM (by rw[c0];exact (gidx y E)))
   refine xqc 81 [.agg #[yI (n:Int), yI (c:Int),.slice B (n*c) o], yI (p:Int), yI (q:Int)] 29 (fun _:Unit=>.agg #[.bool x13.s,.slice x13.A x13.l x13.c, yI x13.e]) _ (fun w R Q=>((show Calls _ _ _ _ (RetV _ (yV x13.s x13.A x13.l x13.c x13.e)) by rw[←K];exact gT m n c B o (n*c) zs p q _ (OwnD.ext x0 R) c0 qO qO (gidx y E) (by have:=uZ (show n≤32 by omega) (show c≤32 by omega);omega))).mono (fun _ _ h=>Zd3 h (zF.ext e0 R))) fun xx=>?_
   refine xq 2 [(7,.p 7 0)] [yF 7 109 x13.s x13.A x13.l x13.c x13.e] ?_
   refine yZ (zC (yY (xq 2 [yJ 31 (IntKind.i64.wrap ((p:Int)+1))] [] ?_)))
   rw[(show IntKind.i64.wrap ((p:Int)+1)=((p+1:Nat):Int) by rw[IntKind.wrap_i64];omega)]
   refine xq 1 [yJ 8 ((p+1:Nat):Int)] [] ?_
   refine yZ (zP ?_)
   refine yC [(0,.v (.pointer (yL C))),(1,.v (.pointer (yL F))),(2,.v (.pointer (yL G))),(3,.p 3 0),(4,.p 4 0),yJ 5 (q:Int),yJ 6 (p:Int),(7,.p 7 0),yJ 8 (((p+1):Nat):Int),yJ 15 (c:Int),yJ 16 (q:Int)] [yF 7 109 x13.s x13.A x13.l x13.c x13.e,(4,97,[.v (yI (n:Int)),.v (yI (c:Int)),.v (.slice (yL f) (n*c) (n*c))]),(3,97,[.v (yI 0),.v (yI 0),.v (.slice none 0 0)])] (fun w=>(((((Blk 97 w F #[yI (n:Int), yI (n:Int),.slice A (n*n) cap]∧Blk 97 w C #[yI (n:Int), yI (c:Int),.slice B (n*c) o])∧Blk 3 w G #[yI (b:Int)])∧xD w ys)∧OwnD w m0 109 3 (yL f) (n*c) (n*c) (ys.flatMap nbC))∧NbOk w x13)) (fun w Q=>⟨⟨⟨⟨⟨Q.1.1.1.1.1,Q.1.1.1.1.2⟩,Q.1.1.1.2⟩,Q.1.1.2⟩,Q.1.2⟩,Q.2⟩) ?_
   refine xU (fun nn ss ff=>∃ (k:Nat) (t:Nb),ss=ofL [(0,.v (.pointer (yL C))),(1,.v (.pointer (yL F))),(2,.v (.pointer (yL G))),(3,.p 3 0),(4,.p 4 0),yJ 5 (q:Int),yJ 6 (p:Int),(7,.p 7 0),yJ 8 (k:Int),yJ 15 (c:Int),yJ 16 (q:Int)] [yF 7 109 t.s t.A t.l t.c t.e,(4,97,[.v (yI (n:Int)),.v (yI (c:Int)),.v (.slice (yL f) (n*c) (n*c))]),(3,97,[.v (yI 0),.v (yI 0),.v (.slice none 0 0)])]∧ff=(fun w=>(((((Blk 97 w F #[yI (n:Int), yI (n:Int),.slice A (n*n) cap]∧Blk 97 w C #[yI (n:Int), yI (c:Int),.slice B (n*c) o])∧Blk 3 w G #[yI (b:Int)])∧xD w ys)∧OwnD w m0 109 3 (yL f) (n*c) (n*c) (ys.flatMap nbC))∧NbOk w t))∧(p+1≤k)∧(k≤n)∧(FvOk (nbV t))∧(nbV t=T p q k)∧nn=(1+(n-k))) ((1+(n-(p+1)))) ⟨(p+1),x13,rfl,rfl,(uG _),qO,d0,(by rw[←K];exact (A0 p q y E).symm),rfl⟩ ?_
   rintro nn ss ff ⟨k,t,rfl,rfl,I0,hk,v0,hT,rfl⟩
   refine zC (yY (xq 2 [yJ 32 (k:Int),(33,.v (.pointer (yL C)))] [] ?_))
   refine xqk 34 (yI (n:Int)) (fun w R Q=>xV (t:=3) (x:=.tmp 33) (g:=C) (off:=0) (Blk.news Q.1.1.1.1.2 0 _ rfl)) ?_
   refine xq 1 [yB 35 (decide ((k:Int)<(n:Int)))] [] ?_
   refine xe (zA ?_)
   refine yQ ((decide ((k:Int)<(n:Int)))) (fun V=>?_) fun V=>?_
   ·have C0:k<n:=by have:=uC V;omega
    have J:k<n:=qO
    refine zI (zA (zC (zP ?_)))
    refine yO 11 zL ?_
    refine xqg 1 [(38,.v (yV t.s t.A t.l t.c t.e))] ?_
    refine xqj 39 (.agg #[yI (n:Int), yI (n:Int),.slice A (n*n) cap]) (fun w Q=>aO (t:=97) (x:=.tmp 1) (g:=F) (cs:=[yI (n:Int), yI (n:Int),.slice A (n*n) cap]) Q.1.1.1.1.1) ?_
    refine xqg 2 [yJ 40 (k:Int),yJ 41 (p:Int)] ?_
    obtain⟨x15,L⟩:∃ x,xs[k*n+p]! = x:=⟨_,rfl⟩
    have f0:FvOk (nbV x15):=by rw[←L];exact r0 _ (xM (by rw[N];exact (gidx J y)))
    have g0:NbOk w x15:=by rw[←L];exact q0 _ (xM (by rw[N];exact (gidx J y)))
    refine xqd 81 [.agg #[yI (n:Int), yI (n:Int),.slice A (n*n) cap], yI (k:Int), yI (p:Int)] 42 (fun _:Unit=>.agg #[.bool x15.s,.slice x15.A x15.l x15.c, yI x15.e]) _ (fun w R Q=>yN ((show Calls _ _ _ _ (RetV _ (yV x15.s x15.A x15.l x15.c x15.e)) by rw[←L];exact gT m n n A cap (n*n) xs k p _ (OwnD.ext p0 R) N qO qO (gidx J y) (by have:=uZ (show n≤32 by omega) (show n≤32 by omega);omega)))) fun xx=>?_
    refine xqg 3 [(43,.v (.agg #[yI (n:Int), yI (c:Int),.slice (yL f) (n*c) (n*c)])),yJ 44 (k:Int),yJ 45 (q:Int)] ?_
    obtain⟨u,W⟩:∃ x,ys[k*c+q]! = x:=⟨_,rfl⟩
    have Y:nbV u=X k q:=by rw[←W];exact P.2 k q J E qO
    have h0:FvOk (nbV u):=by rw[Y];exact hX k q J E
    refine xqd 81 [.agg #[yI (n:Int), yI (c:Int),.slice (yL f) (n*c) (n*c)], yI (k:Int), yI (q:Int)] 46 (fun _:Unit=>.agg #[.bool u.s,.slice u.A u.l u.c, yI u.e]) _ (fun w R Q=>yN ((show Calls _ _ _ _ (RetV _ (yV u.s u.A u.l u.c u.e)) by rw[←W];exact gT m0 n c (yL f) (n*c) (n*c) ys k q _ Q.1.1.2 P.1 qO qO (gidx J E) (by have:=uZ (show n≤32 by omega) (show c≤32 by omega);omega)))) fun xx=>?_
    refine xqj 47 (yI (b:Int)) (fun w Q=>xV (t:=3) (x:=.tmp 2) (g:=G) (off:=0) (Blk.news Q.1.1.1.2 0 _ rfl)) ?_
    have a0:jS (nbV t) (nbV x15) (nbV u) b=some (T p q (k+1)):=by rw[hT,← L,Y];exact B0 p q k y E qO J
    refine xqd 82 [yV t.s t.A t.l t.c t.e, yV x15.s x15.A x15.l x15.c x15.e, yV u.s u.A u.l u.c u.e, yI (b:Int)] 48 (fun z:{z:Nb // nbV z=T p q (k+1)}=>.agg #[.bool z.1.s,.slice z.1.A z.1.l z.1.c, yI z.1.e]) _ (fun w R Q=>yM Zcj (Zff t x15 u b (T p q (k+1)) _ (hg.ext R) Q.1.1.2 (zF.ext g0 R) (show NbOk _ u by rw[←W];exact Q.1.1.1.1.2 _ (xM (by rw[P.1];exact (gidx J E)))) v0 f0 h0 s0 t0 a0)) fun⟨H,b0⟩=>?_
    have i0:FvOk (nbV H):=by rw[b0];exact Zc0 qO qO a0
    refine xz (xq 1 [] [yF 7 109 H.s H.A H.l H.c H.e] ?_)
    refine xe (xS (zA (zB (xq 2 [yJ 37 (IntKind.i64.wrap ((k:Int)+1))] [] ?_))))
    rw[yW ((k:Int)+1) (((k+1:Nat):Int)) qO]
    refine xq 1 [yJ 8 ((k+1:Nat):Int)] [] ?_
    refine xe ?_
    refine yP [(0,.v (.pointer (yL C))),(1,.v (.pointer (yL F))),(2,.v (.pointer (yL G))),(3,.p 3 0),(4,.p 4 0),yJ 5 (q:Int),yJ 6 (p:Int),(7,.p 7 0),yJ 8 (((k+1):Nat):Int),yJ 15 (c:Int),yJ 16 (q:Int)] [yF 7 109 H.s H.A H.l H.c H.e,(4,97,[.v (yI (n:Int)),.v (yI (c:Int)),.v (.slice (yL f) (n*c) (n*c))]),(3,97,[.v (yI 0),.v (yI 0),.v (.slice none 0 0)])] (fun w=>(((((Blk 97 w F #[yI (n:Int), yI (n:Int),.slice A (n*n) cap]∧Blk 97 w C #[yI (n:Int), yI (c:Int),.slice B (n*c) o])∧Blk 3 w G #[yI (b:Int)])∧xD w ys)∧OwnD w m0 109 3 (yL f) (n*c) (n*c) (ys.flatMap nbC))∧NbOk w H)) (fun w Q=>⟨⟨⟨⟨⟨Q.1.1.1.1.1.1.1.1,Q.1.1.1.1.1.1.1.2⟩,Q.1.1.1.1.1.1.2⟩,Q.1.1.1.1.1.2⟩,Q.1.1.1.1.2⟩,Q.2⟩) ?_
    exact xH ((1+(n-(k+1)))) qO ⟨(k+1),H,rfl,rfl,qO,C0,i0,b0,rfl⟩
   have D0:k=n:=by have:=uD V;omega
   have E0:nbV t=T p q n:=by have h:=hT;rw[D0] at h;exact h
   refine xO (zG (zG (xW (zA ?_))))
   refine yO 10 zL ?_
   refine xqg 4 [(49,.v (.agg #[yI (n:Int), yI (c:Int),.slice (yL f) (n*c) (n*c)])),yJ 50 (p:Int),yJ 51 (q:Int),(52,.v (yV t.s t.A t.l t.c t.e))] ?_
   refine xqj 53 (.agg #[yI (n:Int), yI (n:Int),.slice A (n*n) cap]) (fun w Q=>aO (t:=97) (x:=.tmp 1) (g:=F) (cs:=[yI (n:Int), yI (n:Int),.slice A (n*n) cap]) Q.1.1.1.1.1) ?_
   refine xqg 2 [yJ 54 (p:Int),yJ 55 (p:Int)] ?_
   obtain⟨x18,M⟩:∃ x,xs[p*n+p]! = x:=⟨_,rfl⟩
   have j0:FvOk (nbV x18):=by rw[←M];exact r0 _ (xM (by rw[N];exact (gidx y y)))
   have k0:NbOk w x18:=by rw[←M];exact q0 _ (xM (by rw[N];exact (gidx y y)))
   refine xqd 81 [.agg #[yI (n:Int), yI (n:Int),.slice A (n*n) cap], yI (p:Int), yI (p:Int)] 56 (fun _:Unit=>.agg #[.bool x18.s,.slice x18.A x18.l x18.c, yI x18.e]) _ (fun w R Q=>yN ((show Calls _ _ _ _ (RetV _ (yV x18.s x18.A x18.l x18.c x18.e)) by rw[←M];exact gT m n n A cap (n*n) xs p p _ (OwnD.ext p0 R) N qO qO (gidx y y) (by have:=uZ (show n≤32 by omega) (show n≤32 by omega);omega)))) fun xx=>?_
   refine xqj 57 (yI (b:Int)) (fun w Q=>xV (t:=3) (x:=.tmp 2) (g:=G) (off:=0) (Blk.news Q.1.1.1.2 0 _ rfl)) ?_
   have Z:=hD p q y E
   rw[M,← E0] at Z
   refine xqd 84 [yV t.s t.A t.l t.c t.e, yV x18.s x18.A x18.l x18.c x18.e, yI (b:Int)] 58 (fun z:{z:Nb // nbV z=X p q}=>.agg #[.bool z.1.s,.slice z.1.A z.1.l z.1.c, yI z.1.e]) _ (fun w R Q=>yM Zcj (Zgp t x18 b (X p q) _ (hg.ext R) Q.1.2 (zF.ext k0 R) v0 j0 s0 t0 Z.1 Z.2)) fun⟨I,w0⟩=>?_
   refine xz ?_
   refine aN (b:=f) (d:=59) (j:=0) (c:=.bool ys[0]!.s) 83 [.agg #[yI (n:Int), yI (c:Int),.slice (yL f) (n*c) (n*c)], yI (p:Int), yI (q:Int), yV I.s I.A I.l I.c I.e] (fun _:Unit=>.tuple #[]) (fun w=>(((Blk 97 w F #[yI (n:Int), yI (n:Int),.slice A (n*n) cap]∧Blk 97 w C #[yI (n:Int), yI (c:Int),.slice B (n*c) o])∧Blk 3 w G #[yI (b:Int)])∧xD w (ys.set (p*c+q) I))) (fun _ w=>OwnD w m0 109 3 (yL f) (n*c) (n*c) ((ys.set (p*c+q) I).flatMap nbC)) (fun w Q=>ZbM Q.1.1.1.2 (by rw[P.1];have:=(gidx y E);omega)) (Or.inl (O ▸ u0)) (fun w R Q=>yM Zc2 (ZcY m0 n c f (n*c) (n*c) ys p q I _ Q.1.1.1.2 P.1 qO qO (gidx y E) (by have:=uZ (show n≤32 by omega) (show c≤32 by omega);omega))) (fun w w' R Q hF=>⟨⟨⟨Blk.fr Q.1.1.1.1.1.1.1 hF (fun h=>by have h:F=f:=h;omega),Blk.fr Q.1.1.1.1.1.1.2 hF (fun h=>by have h:C=f:=h;omega)⟩,Blk.fr Q.1.1.1.1.1.2 hF (fun h=>by have h:G=f:=h;omega)⟩,xD.set (xD.nrb Q.1.1.1.1.2 (fun i e=>by subst e;exact OwnD.nrb Q.1.1.1.2 rfl) hF) (zF.nrb Q.2 (fun i e=>by subst e;exact OwnD.nrb Q.1.1.1.2 rfl) hF)⟩) fun _=>?_
   refine xr 0 [(0,.v (.pointer (yL C))),(1,.v (.pointer (yL F))),(2,.v (.pointer (yL G))),(3,.p 3 0),(4,.p 4 0),yJ 5 (q:Int),yJ 6 (p:Int),yJ 15 (c:Int),yJ 16 (q:Int)] [(4,97,[.v (yI (n:Int)),.v (yI (c:Int)),.v (.slice (yL f) (n*c) (n*c))]),(3,97,[.v (yI 0),.v (yI 0),.v (.slice none 0 0)])] ?_
   refine xe (xS (zA (zB (xq 2 [yJ 25 (IntKind.i64.wrap ((p:Int)-1))] [] ?_))))
   rw[(show IntKind.i64.wrap ((p:Int)-1)=(p:Int)-1 by rw[IntKind.wrap_i64];omega)]
   refine xq 1 [yJ 6 ((p:Int)-1)] [] ?_
   refine xe ?_
   refine yP [(0,.v (.pointer (yL C))),(1,.v (.pointer (yL F))),(2,.v (.pointer (yL G))),(3,.p 3 0),(4,.p 4 0),yJ 5 (q:Int),yJ 6 ((p:Int)-1),yJ 15 (c:Int),yJ 16 (q:Int)] [(4,97,[.v (yI (n:Int)),.v (yI (c:Int)),.v (.slice (yL f) (n*c) (n*c))]),(3,97,[.v (yI 0),.v (yI 0),.v (.slice none 0 0)])] (fun w=>((((Blk 97 w F #[yI (n:Int), yI (n:Int),.slice A (n*n) cap]∧Blk 97 w C #[yI (n:Int), yI (c:Int),.slice B (n*c) o])∧Blk 3 w G #[yI (b:Int)])∧xD w (ys.set (p*c+q) I))∧OwnD w m0 109 3 (yL f) (n*c) (n*c) ((ys.set (p*c+q) I).flatMap nbC))) (fun w Q=>⟨⟨⟨⟨Q.1.1.1.1,Q.1.1.1.2⟩,Q.1.1.2⟩,Q.1.2⟩,Q.2⟩) ?_
   exact xH ((1+p)) qO ⟨p,(ys.set (p*c+q) I),rfl,rfl,qO,(P.set y E w0 (fun a b _ _ h=>qO)),rfl⟩
  have J0:i=0:=by have:=uD U;omega
  refine xO (zG (zG (xW (xS (zA (zB (xq 1 [yJ 60 (IntKind.i64.wrap ((q:Int)+1))] [] ?_)))))))
  rw[yW ((q:Int)+1) (((q+1:Nat):Int)) qO]
  refine xq 1 [yJ 16 ((q+1:Nat):Int)] [] ?_
  refine xe ?_
  refine yP [(0,.v (.pointer (yL C))),(1,.v (.pointer (yL F))),(2,.v (.pointer (yL G))),(3,.p 3 0),(4,.p 4 0),yJ 15 (c:Int),yJ 16 (((q+1):Nat):Int)] [(4,97,[.v (yI (n:Int)),.v (yI (c:Int)),.v (.slice (yL f) (n*c) (n*c))]),(3,97,[.v (yI 0),.v (yI 0),.v (.slice none 0 0)])] (fun w=>((((Blk 97 w F #[yI (n:Int), yI (n:Int),.slice A (n*n) cap]∧Blk 97 w C #[yI (n:Int), yI (c:Int),.slice B (n*c) o])∧Blk 3 w G #[yI (b:Int)])∧xD w ys)∧OwnD w m0 109 3 (yL f) (n*c) (n*c) (ys.flatMap nbC))) (fun w Q=>⟨⟨⟨⟨Q.1.1.1.1,Q.1.1.1.2⟩,Q.1.1.2⟩,Q.1.2⟩,Q.2⟩) ?_
  exact xH ((1+(c-(q+1)))) qO ⟨(q+1),ys,rfl,rfl,E,(P.mono (fun a b _ _ h=>qO)),rfl⟩
 have K0:q=c:=by have:=uD S;omega
 refine xO (zG (zG (xW (zA (yY (xq 2 [] [(3,97,[.v (yI (n:Int)),.v (yI (c:Int)),.v (.slice (yL f) (n*c) (n*c))])] ?_))))))
 refine yZ (zH ?_)
 refine yR (.agg #[yI (n:Int), yI (c:Int),.slice (yL f) (n*c) (n*c)]) fun w' R Q=>?_
 exact⟨f,ys,by rw[P.1],P.fin (fun a b _ hb=>qO),by rw[P.1];exact O ▸ Q.2,Q.1.2,R⟩
end Go.Proofs.YtenchljfmfgeoaaGreatDoor
