/-
 My texts.
-/
import Derived.Test.YtenchljfmfgeoaaGreatDoorW22
import Derived.Deep.Onto
set_option maxRecDepth 100000
set_option maxHeartbeats 8000000
namespace Go.Proofs.YtenchljfmfgeoaaGreatDoor
open Go.RowKit Tryz
theorem Zl1 (p q:Nat)(w:World) :
 CallsD prog 128 #[.pointer (some ⟨p,0,none⟩),.pointer (some ⟨q,0,none⟩)] .returning w fun e c w'=>e=.returned (.tuple #[])∧c=.returning∧Ext w w':=by
 refine callsD_of_wpS func128 rfl fun d f b=>?_
 apply wpS_seq
 apply wpS_region
 simp[wpOpsS,go_sem,recoverD,b,ntmps128,Exit.thenS]
 refine wpS_of_wp ?_
 rw[show (#[Value.pointer (yL p),.pointer (yL q)] ++ ((Array.replicate 15 undef).setIfInBounds 4 .nilIface).setIfInBounds 0 .nilIface)=#[.pointer (yL p),.pointer (yL q),.nilIface,undef,undef,undef,.nilIface,undef,undef,undef,undef,undef,undef,undef,undef,undef,undef] from rfl]
 refine Zny (N:=17) (S0:=fun _=>False) (sl:=[(0,.v (.pointer (yL p))),(1,.v (.pointer (yL q))),(2,.v .nilIface)]) (Φ:=fun w=>True) rfl rfl (fun w' g=>trivial) ?_
 refine yY (xr 2 [(0,.v (.pointer (yL p))),(1,.v (.pointer (yL q))),(2,.v .nilIface),yB 8 false] [] ?_)
 refine yZ (xb (zI (fun L a w' hi=>?_)))
 exact⟨hi.df,_,rfl,.tuple #[],by simp[results,Tryz.results128],rfl,b,hi.mem.ext⟩
theorem ZpE {fn:Func}{a:Array Value}{w:World}{p q:Nat}{T:TypeId}{zs:List Value}{e:Int}(k:fn.results=#[ResultVar.cell 2 T,ResultVar.cell 3 30])(l:a[2]? = some (.pointer (some ⟨p,0,none⟩)))(m:a[3]? = some (.pointer (some ⟨q,0,none⟩)))(n:Blk T w p zs.toArray)(o:Blk 30 w q #[.int .i64 e])(r:(teOf prog T).map (fun e=>(e.agg,e.size))=some (true,zs.length)):(results fn a).run prog w=.ok (.tuple #[.agg zs.toArray,.int .i64 e]) w:=by
 obtain⟨u,b,s⟩:=vI.1 r
 injection s with ha hn
 have Q:(teOf prog 30).map (fun e=>e.agg)=some false:=qK
 obtain⟨v,d,f⟩:=vI.1 Q
 have h:=bV (P:=prog) (w:=w) b (g:=p) (off:=0) (cs:=zs) hn.symm (fun j t=>by rw[vW,n.cell];simp[t]) ha
 have i:=ZbN (P:=prog) (w:=w) d (g:=q) (off:=0) (c:=.int .i64 e) (by rw[o.cell];rfl) f
 simp only[Instr.loadAt,Instr.sureAddr,Sem.run_bind,Sem.run_pure,Result.andThen_ok] at h i
 rw[ZfK,k,Array.mapM_eq_mapM_toList]
 simp[Zb7,l,m,asAddr,h,i,Result.andThen_ok]
theorem ZqB (f:FuncId)(cap:Array Value)(r c:Nat)(E:List Fv3)(w:World)(R:∀ w,(callFunc f cap).run prog w=.ok (.enter f cap) w)(U:∀ w1,Ext w w1→yA f cap w1 (ZbG (fun v=>v) r c E w1)) :
 yA 78 #[.func (.func f) #[] cap] w (ZbG (fun v=>.tuple #[v,.int .i64 0]) r c E w):=by
 have V:∀ (F:Fn) (g cap:Array Value) (w:World),(Instr.makeFunc F g cap).run prog w=.ok (.func F g cap) w:=fun _ _ _ _=>rfl
 go_enter_defers func78,ntmps78
 go_wp2_with fail
 generalize o:World.alloc (World.alloc w _) _=wb
 obtain⟨G,H,Q⟩:=ZaJ o
 have I:=zh G
 have J:=zh H
 have K:=zh Q
 clear G H Q o
 refine (U _ K.out).mono ?_
 rintro e k ⟨b,d,rfl,L,M,N,m⟩
 have a:=zh (Blk.ext I.out m)
 have n:=zh (Blk.ext J.out m)
 have O:=zh M
 have W:=zh N
 have X:=zh L
 have s:=zh m
 have Y:k.cell? ⟨w.heap.size,0,none⟩=some (.int .i64 0):=by rw[Blk.cell a.out];rfl
 have Z:k.cell? ⟨w.heap.size,1,none⟩=some (.int .i64 0):=by rw[Blk.cell a.out];rfl
 have a0:k.cell? ⟨w.heap.size,2,none⟩=some (.slice none 0 0):=by rw[Blk.cell a.out];rfl
 have b0:=Blk.frozen a.out 0
 have c0:=Blk.frozen a.out 1
 have d0:=Blk.frozen a.out 2
 have e0:k.cell? ⟨w.heap.size+1,0,none⟩=some (.int .i64 0):=by rw[Blk.cell n.out];rfl
 have f0:=Blk.frozen n.out 0
 clear L M N m
 go_wp2_with fail
 have hp:w.heap.size<wb.heap.size:=Blk.lt I.out
 have hq:w.heap.size+1<wb.heap.size:=Blk.lt J.out
 have x:Hid (Blk 97 (((k.setCell ⟨w.heap.size,0,none⟩ (.int .i64 (r:Int))).setCell ⟨w.heap.size,1,none⟩ (.int .i64 (c:Int))).setCell ⟨w.heap.size,2,none⟩ (.slice (some ⟨b,0,none⟩) d.length d.length)) w.heap.size #[.int .i64 (r:Int),.int .i64 (c:Int),.slice (some ⟨b,0,none⟩) d.length d.length]):=zh (Blk.set_ (Blk.set_ (Blk.set_ a.out 0 (.int .i64 (r:Int))) 1 (.int .i64 (c:Int))) 2 (.slice (some ⟨b,0,none⟩) d.length d.length))
 have t:Hid (Fr (fun i=>i=w.heap.size) k (((k.setCell ⟨w.heap.size,0,none⟩ (.int .i64 (r:Int))).setCell ⟨w.heap.size,1,none⟩ (.int .i64 (c:Int))).setCell ⟨w.heap.size,2,none⟩ (.slice (some ⟨b,0,none⟩) d.length d.length))):=zh (Fr.setCell (S:=fun i=>i=w.heap.size) (p:=⟨w.heap.size,2,none⟩) (Fr.setCell (S:=fun i=>i=w.heap.size) (p:=⟨w.heap.size,1,none⟩) (Fr.setCell (S:=fun i=>i=w.heap.size) (p:=⟨w.heap.size,0,none⟩) (Fr.refl _ _) (Or.inl rfl) _) (Or.inl rfl) _) (Or.inl rfl) _)
 generalize ((k.setCell ⟨w.heap.size,0,none⟩ (.int .i64 (r:Int))).setCell ⟨w.heap.size,1,none⟩ (.int .i64 (c:Int))).setCell ⟨w.heap.size,2,none⟩ (.slice (some ⟨b,0,none⟩) d.length d.length)=w3 at *
 have y:=zh (Blk.fr n.out t.out (fun h=>by have h:w.heap.size+1=w.heap.size:=h;omega))
 have z:Hid (Blk 30 (w3.setCell ⟨w.heap.size+1,0,none⟩ (.int .i64 0)) (w.heap.size+1) #[.int .i64 0]):=zh (Blk.set_ y.out 0 (.int .i64 0))
 have u:Hid (Fr (fun i=>i=w.heap.size+1) w3 (w3.setCell ⟨w.heap.size+1,0,none⟩ (.int .i64 0))):=zh (Fr.setCell (S:=fun i=>i=w.heap.size+1) (p:=⟨w.heap.size+1,0,none⟩) (Fr.refl _ _) (Or.inl rfl) _)
 generalize w3.setCell ⟨w.heap.size+1,0,none⟩ (.int .i64 0)=w4 at *
 have A:=zh (Blk.fr x.out u.out (fun h=>by have h:w.heap.size=w.heap.size+1:=h;omega))
 have B:Hid (Fr (fun i=>i=w.heap.size∨i=w.heap.size+1) k w4):=zh ((t.out.mono (fun _ _ h=>Or.inl h)).trans (u.out.mono (fun _ _ h=>Or.inr h)))
 refine leaves_cons (f:=128) (args:=#[.pointer (some ⟨w.heap.size,0,none⟩),.pointer (some ⟨w.heap.size+1,0,none⟩)]) qS (by simp[go_sem]) ?_
 refine (Zl1 _ _ _).mono ?_
 rintro e u' w7 ⟨rfl,rfl,j⟩
 have P:wb.heap.size≤k.heap.size:=s.out.size
 have hW:Ext w w7:=((K.out.trans s.out).next B.out (fun i hi h=>by rcases h with h|h<;>omega)).trans j
 have C:=OwnD.ext (O.out.fr B.out (fun i hi h=>by have:=(O.out.blk hi).1;rcases h with h|h<;>omega)) j
 have D:=(W.out.nrb (fun i h=>by
  rcases h with h|h
  ·rw[h];exact⟨_,_,a.out,iK.list (l:=[.int .i64 0,.int .i64 0,.slice none 0 0]) qS⟩
  rw[h];exact⟨_,_,n.out,iK.list (l:=[.int .i64 0]) qS⟩) B.out).ext j
 exact⟨_,ZpE (p:=w.heap.size) (q:=w.heap.size+1) (T:=97) (zs:=[.int .i64 (r:Int),.int .i64 (c:Int),.slice (some ⟨b,0,none⟩) d.length d.length]) Tryz.results78 rfl rfl (A.out.ext j) (z.out.ext j) qK,b,d,rfl,X.out,OwnD.mono C qO,D,hW⟩
theorem ZgS {sh:Value→Value}{r c m0:Nat}{a:List Fv3}{w w':World}{e:Ending}(d:m0≤w.heap.size)(h:ZbG sh r c a w e w') :
 lQ (fun x:{x:Nat × List Nb // x.2.map nbV=a∧m0≤x.1}=>sh (.agg #[.int .i64 ((r:Nat):Int),.int .i64 ((c:Nat):Int),.slice (some ⟨x.1.1,0,none⟩) x.1.2.length x.1.2.length])) (fun x w=>OwnD w m0 109 3 (some ⟨x.1.1,0,none⟩) x.1.2.length x.1.2.length (x.1.2.flatMap nbC)∧xF w x.1.2) w e w':=by
 obtain⟨b,g,rfl,i,f,j,Q⟩:=h
 exact⟨⟨(b,g),i,uC d (f.blk rfl).1⟩,rfl,Q,(f.boxN d).and (boxn Q (fun S k l m=>j.nrb l m))⟩
theorem ZaR {sh:Value→Value}{r c m0:Nat}{a:List (ByteArray×Int)}{w w':World}{e:Ending}(d:m0≤w.heap.size)(h:ZaD sh r c a w e w') :
 lQ (fun b:{b:Nat // m0≤b}=>sh (.agg #[.int .i64 ((r:Nat):Int),.int .i64 ((c:Nat):Int),.slice (some ⟨b.1,0,none⟩) a.length a.length])) (fun b w=>OwnD w m0 76 2 (some ⟨b.1,0,none⟩) a.length a.length (a.flatMap flC)) w e w':=by
 obtain⟨b,rfl,f,Q⟩:=h
 exact⟨⟨b,uC d (f.blk rfl).1⟩,rfl,Q,f.boxN d⟩
theorem Zo8 (m n:Nat)(A:qA)(cap:Nat)(xs:List Nb)(b:Nat)(i:List Fv3)(w:World)(r:Glob w)(s:OwnD w m 109 3 A cap (n*n) (xs.flatMap nbC))(t:xF w xs)(u:xs.length=n*n)(y:n≤32)(k:8≤b)(l:b≤1024)(o:∀ x∈xs,FvOk (nbV x))(z:Zc0 b (xs.map nbV) n=some i) :
 yA 57 #[.agg #[.int .i64 ((n:Nat):Int),.int .i64 ((n:Nat):Int),.slice A (n*n) cap],.int .i64 ((b:Nat):Int)] w (ZbG (fun v=>.tuple #[v,.int .i64 0]) n n i w):=by
 obtain⟨m0,j⟩:∃ m,m=w.heap.size:=⟨_,rfl⟩
 refine zQ (Φ:=fun w=>True) func57 rfl qK (fun w' E=>trivial) ?_
 refine yY (xq 4 [(2,.p 2 0),(3,.p 3 0),(4,.p 4 0),yJ 5 0] [(4,97,[.v (yI 0),.v (yI 0),.v (.slice none 0 0)]),(3,3,[.v (yI (b:Int))]),(2,97,[.v (yI (n:Int)),.v (yI (n:Int)),.v (.slice A (n*n) cap)])] ?_)
 refine yZ (zC (yY (xq 5 [yB 10 (((n:Int):Int) != (n:Int))] [] ?_)))
 rw[(show (((n:Int):Int) != (n:Int))=false from Zff rfl)]
 refine yZ (xb (zI (zA (zC ?_))))
 refine SXc.freezeN 2 97 [yI (n:Int), yI (n:Int),.slice A (n*n) cap] (fun d=>[(2,.v (.pointer (yL d))),(3,.p 3 0),(4,.p 4 0),yJ 5 0]) [(4,97,[.v (yI 0),.v (yI 0),.v (.slice none 0 0)]),(3,3,[.v (yI (b:Int))])] qK (fun _=>qK) qK qK (fun _=>qK) fun d B=>?_
 refine SXc.freezeN 3 3 [yI (b:Int)] (fun g=>[(2,.v (.pointer (yL d))),(3,.v (.pointer (yL g))),(4,.p 4 0),yJ 5 0]) [(4,97,[.v (yI 0),.v (yI 0),.v (.slice none 0 0)])] qK (fun _=>qK) qK qK (fun _=>qK) fun g C=>?_
 refine zB (xq 1 [(12,.v (.func (.func 95) #[] #[.pointer (yL d),.pointer (yL g)]))] [] ?_)
 refine xqc 78 [.func (.func 95) #[] #[.pointer (yL d),.pointer (yL g)]] 13 (fun x:{x:Nat × List Nb // x.2.map nbV=i∧m0≤x.1}=>.tuple #[.agg #[yI (n:Int), yI (n:Int),.slice (yL x.1.1) x.1.2.length x.1.2.length], yI 0]) _ (fun w R Q=>(ZqB 95 #[.pointer (yL d),.pointer (yL g)] n n i _ (fun _=>rfl) (fun F c=>ZnG m n A cap xs b d g i _ (r.ext (R.trans c)) (Q.1.2.ext c) (Q.2.ext c) (OwnD.ext s (R.trans c)) (xF.ext t (R.trans c)) u y k l o z)).mono (fun _ _ h=>ZgS (sh:=fun v=>.tuple #[v, yI 0]) (m0:=m0) (j ▸ R.size) h)) fun D=>?_
 obtain⟨⟨e,a⟩,f,q⟩:=D
 refine xq 4 [yJ 5 0] [(4,97,[.v (yI (n:Int)),.v (yI (n:Int)),.v (.slice (yL e) a.length a.length)])] ?_
 refine yZ (zG ?_)
 refine yR (.tuple #[.agg #[yI (n:Int), yI (n:Int),.slice (yL e) a.length a.length], yI 0]) fun w' R Q=>?_
 exact⟨e,a,rfl,f,j ▸ Q.2.1,Q.2.2,R⟩
theorem Zl2 (m r c:Nat)(A:qA)(cap n:Nat)(xs:List Nb)(w:World)(f:OwnD w m 109 3 A cap n (xs.flatMap nbC))(g:xF w xs)(i:xs.length=n)(j:Glob w)(k:n≤4096)(l:∀ x∈xs,wl x.m≤1000000∧(x.s=true→0<x.m)) :
 yA 77 #[.agg #[.int .i64 ((r:Nat):Int),.int .i64 ((c:Nat):Int),.slice A n cap],.int .i64 0] w (ZaD (fun v=>.tuple #[v,.int .i64 0]) r c (xs.map ftV) w):=by
 obtain⟨m0,d⟩:∃ m,m=w.heap.size:=⟨_,rfl⟩
 refine zQ (Φ:=fun w=>True) func77 rfl qK (fun w' o=>trivial) ?_
 refine yY (xq 3 [(2,.p 2 0),(4,.p 4 0),yJ 5 0] [(4,29,[.v (yI 0),.v (yI 0),.v (.slice none 0 0)]),(2,97,[.v (yI (r:Int)),.v (yI (c:Int)),.v (.slice A n cap)])] ?_)
 refine yZ (zC (yY (xq 2 [yB 7 false] [] ?_)))
 refine yZ (xb (zI (zA (yY (xq 1 [(10,.v (.agg #[yI (r:Int), yI (c:Int),.slice A n cap]))] [] ?_)))))
 refine xqc 127 [.agg #[yI (r:Int), yI (c:Int),.slice A n cap]] 11 (fun b:{b:Nat // m0≤b}=>.agg #[yI (r:Int), yI (c:Int),.slice (yL b.1) (xs.map ftV).length (xs.map ftV).length]) _ (fun w R Q=>(Zj7 m r c A cap n xs _ (OwnD.ext f R) (xF.ext g R) i (j.ext R) k l).mono (fun _ _ h=>ZaR (sh:=fun v=>v) (m0:=m0) (d ▸ R.size) h)) fun⟨a,e⟩=>?_
 refine xq 2 [yJ 5 0] [(4,29,[.v (yI (r:Int)),.v (yI (c:Int)),.v (.slice (yL a) (xs.map ftV).length (xs.map ftV).length)])] ?_
 refine yZ (zG ?_)
 refine yR (.tuple #[.agg #[yI (r:Int), yI (c:Int),.slice (yL a) (xs.map ftV).length (xs.map ftV).length], yI 0]) fun w' R Q=>?_
 exact⟨a,rfl,d ▸ Q.2,R⟩
structure Fm where
 r:Nat
 c:Nat
 A:Option Addr
 cap:Nat
 fs:List (ByteArray×Int)
instance:Inhabited Fm:=⟨⟨0,0,none,0,[]⟩⟩
def fmC (x:Fm):List Value:=[.int .i64 ((x.r:Nat):Int),.int .i64 ((x.c:Nat):Int),.slice x.A x.fs.length x.cap]
theorem ZqC (x:Fm):(fmC x).length=3:=rfl
theorem Zjb (x:Fm):∀ (k:IntKind) (z:Int),Value.int k z∈fmC x→k=.i64:=fun k z h=>by
 simp[fmC] at h;rcases h with h|h<;>exact h.1
structure Mx where
 r:Nat
 c:Nat
 A:Option Addr
 cap:Nat
 xs:List Nb
def mx0:Mx:=⟨0,0,none,0,[]⟩
instance:Inhabited Mx:=⟨mx0⟩
def mxC (x:Mx):List Value:=[.int .i64 ((x.r:Nat):Int),.int .i64 ((x.c:Nat):Int),.slice x.A x.xs.length x.cap]
theorem Zch (x:Mx):(mxC x).length=3:=rfl
theorem ZnH (x:Mx):∀ (k:IntKind) (z:Int),Value.int k z∈mxC x→k=.i64:=fun k z h=>by
 simp[mxC] at h;rcases h with h|h<;>exact h.1
def fmV (x:Fm):Nat × Nat × List Fv3:=(x.r,x.c,x.fs.map ldV)
def mxV (x:Mx):Nat × Nat × List Fv3:=(x.r,x.c,x.xs.map nbV)
structure FmG (x:Fm):Prop where
 hr:1≤x.r∧x.r≤32
 hc:1≤x.c∧x.c≤32
 hn:x.fs.length=x.r*x.c
 hv:∀ f∈x.fs,fvB (bytes f.1) f.2=true
 hs:∀ f∈x.fs,(bytes f.1).length≤1000
def MsOk (m:Nat) (w:World) (ys:List Mx):Prop:=∀ y∈ys,OwnD w m 109 3 y.A y.cap y.xs.length (y.xs.flatMap nbC)∧xF w y.xs
theorem Blk.same {T c:TypeId}{w:World}{i:Nat}{cs a:Array Value}(h:Blk T w i cs)(d:Blk c w i a):T=c:=by
 have f:w.heap[i]? = some (.cells cs T (0,0)):=h
 have b:w.heap[i]? = some (.cells a c (0,0)):=d
 rw[f] at b
 injection b with b
 injection b with _ e _
theorem OwnD.apart {w w':World}{m g n j c l k o:Nat}{e d:TypeId}{A f:qA}{xs a:List Value}(h:OwnD w m e k A c n xs)(p:OwnD w g d o f l j a)(b:e≠d)(q:Fr (fun i=>f=some ⟨i,0,none⟩) w w'):OwnD w' m e k A c n xs :=
 h.fr q (fun i hi r=>by
  obtain⟨_,_,s,_⟩:=h.blk hi
  obtain⟨_,_,t,_⟩:=p.blk r
  exact b (Blk.same s t))
theorem MsOk.row {m e k c n:Nat}{w w':World}{ys:List Mx}{A:qA}{l:List Value}(h:MsOk m w ys)(a:OwnD w e 97 k A c n l)(b:Fr (fun i=>A=some ⟨i,0,none⟩) w w'):MsOk m w' ys:=fun y d =>
 ⟨(h y d).1.apart a qD b,(h y d).2.row a b⟩
theorem MsOk.snoc {m:Nat}{w:World}{ys:List Mx}{x:Mx}(h:MsOk m w ys)(b:OwnD w m 109 3 x.A x.cap x.xs.length (x.xs.flatMap nbC)∧xF w x.xs):MsOk m w (ys ++ [x]):=fun y a=>by
 rcases rA.1 a with a|a
 ·exact h y a
 rw[sE.1 a];exact b
def ZpF (ls:List Fm) (nl:Nat) (w:World) (e:Ending) (w':World):Prop:=∃ b ms,e=.returned (.tuple #[.slice (some ⟨b,0,none⟩) nl nl,.int .i64 0])∧ms.map mxV=ls.map fmV∧OwnD w' w.heap.size 97 3 (some ⟨b,0,none⟩) nl nl (ms.flatMap mxC)∧MsOk w.heap.size w' ms∧Ext w w'
theorem Zfj (ml C nl:Nat)(D:List Fm)(b:Nat)(w:World)(L:OwnD w ml 29 3 (some ⟨C,0,none⟩) nl nl (D.flatMap fmC))(G:D.length=nl)(Y:nl≤2)(H:∀ x∈D,OwnD w ml 76 2 x.A x.cap x.fs.length (x.fs.flatMap flC))(U:∀ x∈D,FmG x)(V:8≤b)(W:b≤1024) :
 yA 76 #[.int .i64 ((b:Nat):Int),.slice (some ⟨C,0,none⟩) nl nl] w (ZpF D nl w):=by
 obtain⟨m0,u⟩:∃ m,m=w.heap.size:=⟨_,rfl⟩
 refine zQ (Φ:=fun w=>True) func76 rfl qK (fun w' Z=>trivial) ?_
 refine yY (xq 2 [eS1 4 none 0 0,yJ 5 0] [] ?_)
 refine yZ (yY (xq 2 [yJ 12 (nl:Int)] [] ?_))
 refine yD (d:=13) (fun K:{b:Nat // m0≤b}=>.slice (yL K.1) nl nl) (fun K w=>OwnD w m0 97 3 (yL K.1) nl nl ((List.replicate nl mx0).flatMap mxC)) (fun w R Q=>fB (t:=123) (e:=97) (kl:=.i64) (kc:=.i64) (l:=.tmp 12) (c:=.tmp 12) (bytes:=40) (z:=.agg #[yI 0, yI 0,.slice none 0 0]) mx0 Zch qD rfl ZnH (u ▸ R.size) (by simp only[maxLen];omega) qO) fun⟨f,M⟩=>?_
 refine xr 1 [yJ 0 (b:Int),eS1 1 (yL C) nl nl,eS1 4 none 0 0,yJ 5 0,eS1 6 (yL f) nl nl] [] ?_
 refine yZ (zC (yY (xq 3 [eS1 14 (yL C) nl nl,yJ 15 (nl:Int),yJ 16 0] [] ?_)))
 refine yZ (zP ?_)
 refine yC [yJ 0 (b:Int),eS1 4 none 0 0,yJ 5 0,eS1 6 (yL f) nl nl,eS1 14 (yL C) nl nl,yJ 15 (nl:Int),yJ 16 ((0:Nat):Int)] [] (fun w=>(MsOk m0 w ([]:List Mx)∧OwnD w m0 97 3 (yL f) nl nl ((fill nl mx0 ([]:List Mx)).flatMap mxC))) (fun w Q=>⟨(fun _ h=>nomatch h),(by rw[ZcX];exact Q.2)⟩) ?_
 refine xU (fun N O P=>∃ (k:Nat) (s:List Mx),O=ofL [yJ 0 (b:Int),eS1 4 none 0 0,yJ 5 0,eS1 6 (yL f) nl nl,eS1 14 (yL C) nl nl,yJ 15 (nl:Int),yJ 16 (k:Int)] []∧P=(fun w=>(MsOk m0 w s∧OwnD w m0 97 3 (yL f) nl nl ((fill nl mx0 s).flatMap mxC)))∧(k≤nl)∧(s.map mxV=(D.take k).map fmV)∧N=(1+(nl-k))) ((1+(nl-0))) ⟨0,([]:List Mx),rfl,rfl,(vQ _),rfl,rfl⟩ ?_
 rintro N O P ⟨k,s,rfl,rfl,hk,J,rfl⟩
 refine yY (xq 1 [yB 17 (decide ((k:Int)<(nl:Int)))] [] ?_)
 refine yZ (zC ?_)
 refine yQ ((decide ((k:Int)<(nl:Int)))) (fun B=>?_) fun B=>?_
 ·have g:k<nl:=by have:=uB B;omega
  have E:s.length=k:=by have:=vK List.length J;rw[vH,vH,uP] at this;omega
  refine zI (zA (zC (zP (yY (xq 1 [yJ 18 (k:Int)] [] ?_)))))
  refine xqk 19 (atA (yL C) (k*3)) (fun w R Q=>xQ (t:=179) (e:=29) (sz:=3) (x:=.tmp 14) (ix:=.tmp 16) (len:=nl) (cap:=nl) (i:=k) ((OwnD.ext L R).ne g) g) ?_
  obtain⟨x12,q⟩:∃ x,D[k]! = x:=⟨_,rfl⟩
  refine xqk 20 (.agg #[yI ((x12.r:Nat):Int), yI ((x12.c:Nat):Int),.slice x12.A x12.fs.length x12.cap]) (fun w R Q=>by rw[←q];exact eN (t:=29) (x:=.tmp 19) (j:=k) (OwnD.ext L R) ZqC (G.symm ▸ g)) ?_
  refine xq 3 [yJ 7 (k:Int),(8,.p 8 0)] [(8,29,[.v (yI ((x12.r:Nat):Int)),.v (yI ((x12.c:Nat):Int)),.v (.slice x12.A x12.fs.length x12.cap)])] ?_
  refine yZ (yY (xq 1 [(22,.v (.agg #[yI ((x12.r:Nat):Int), yI ((x12.c:Nat):Int),.slice x12.A x12.fs.length x12.cap]))] [] ?_))
  have n:FmG x12:=by rw[←q];exact U _ (xV (G.symm ▸ g))
  refine xqc 126 [.agg #[yI ((x12.r:Nat):Int), yI ((x12.c:Nat):Int),.slice x12.A x12.fs.length x12.cap]] 23 (fun x:{x:Nat × List Nb // x.2.map nbV=x12.fs.map ldV∧m0≤x.1}=>.tuple #[.agg #[yI ((x12.r:Nat):Int), yI ((x12.c:Nat):Int),.slice (yL x.1.1) x.1.2.length x.1.2.length],.bool true]) _ (fun w R Q=>((show Calls _ _ _ _ (ZbG (fun v=>.tuple #[v,.bool true]) x12.r x12.c (x12.fs.map ldV) _) from ZnB ml x12.r x12.c x12.A x12.cap x12.fs _ (by rw[←q];exact OwnD.ext (H _ (xV (G.symm ▸ g))) R) n.hr n.hc n.hn n.hv n.hs)).mono (fun _ _ h=>ZgS (sh:=fun v=>.tuple #[v,.bool true]) (m0:=m0) (u ▸ R.size) h)) fun X=>?_
  obtain⟨⟨o,a⟩,F,S⟩:=X
  refine xq 6 [(9,.p 9 0),yB 10 true] [(9,97,[.v (yI ((x12.r:Nat):Int)),.v (yI ((x12.c:Nat):Int)),.v (.slice (yL o) a.length a.length)])] ?_
  refine yZ (zC (yY (xq 2 [yB 27 false] [] ?_)))
  refine yZ (xb (zI (zA (zB (xq 3 [eS1 28 (yL f) nl nl,yJ 29 (k:Int),(30,.v (.agg #[yI ((x12.r:Nat):Int), yI ((x12.c:Nat):Int),.slice (yL o) a.length a.length]))] [] ?_)))))
  refine xqk 31 (.pointer (some ⟨f,0+k*3,none⟩)) (fun w R Q=>iJ (t:=123) (e:=97) (sz:=3) (x:=.tmp 28) (ix:=.tmp 29) (len:=nl) (cap:=nl) (i:=k) g) ?_
  refine dN (t:=97) (x:=.tmp 31) (y:=.tmp 30) (j:=k) (new:=mxC ((⟨x12.r,x12.c,yL o,a.length,a⟩:Mx))) m0 f (.agg #[yI ((x12.r:Nat):Int), yI ((x12.c:Nat):Int),.slice (yL o) a.length a.length]) (fun w=>((MsOk m0 w s∧OwnD w m0 109 3 (yL o) a.length a.length (a.flatMap nbC))∧xF w a)) (fun w Q=>Q.1.2) g rfl qD (fun h=>Or.inl (uC (u ▸ uH _) h)) (by simp[mxC,Value.oneCell']) (ZnH _) rfl (fun w w' Q H=>⟨⟨MsOk.row Q.1.1 Q.1.2 H,OwnD.apart Q.2.1 Q.1.2 qD H⟩,xF.row Q.2.2 Q.1.2 H⟩) ?_
  rw[←iI Zch ((fill nl mx0 s)) k ((⟨x12.r,x12.c,yL o,a.length,a⟩:Mx)) (by rw[ZcV qO];exact g),Zd8 E g]
  refine xr 0 [yJ 0 (b:Int),eS1 4 none 0 0,yJ 5 0,eS1 6 (yL f) nl nl,eS1 14 (yL C) nl nl,yJ 15 (nl:Int),yJ 16 (k:Int)] [] ?_
  refine xe (xR (zA (zB (xq 1 [yJ 32 (IntKind.i64.wrap ((k:Int)+1))] [] ?_))))
  rw[yW ((k:Int)+1) (((k+1:Nat):Int)) qO]
  refine xq 1 [yJ 16 ((k+1:Nat):Int)] [] ?_
  refine xe ?_
  refine yP [yJ 0 (b:Int),eS1 4 none 0 0,yJ 5 0,eS1 6 (yL f) nl nl,eS1 14 (yL C) nl nl,yJ 15 (nl:Int),yJ 16 (((k+1):Nat):Int)] [] (fun w=>(MsOk m0 w (s ++ [(⟨x12.r,x12.c,yL o,a.length,a⟩:Mx)])∧OwnD w m0 97 3 (yL f) nl nl ((fill nl mx0 (s ++ [(⟨x12.r,x12.c,yL o,a.length,a⟩:Mx)])).flatMap mxC))) (fun w Q=>⟨(MsOk.snoc Q.1.1.1 ⟨Q.1.1.2,Q.1.2⟩),Q.2⟩) ?_
  exact xG ((1+(nl-(k+1)))) qO ⟨(k+1),(s ++ [(⟨x12.r,x12.c,yL o,a.length,a⟩:Mx)]),rfl,rfl,g,(Zi5 J (G.symm ▸ g) (by rw[q];show (_,_,_)=(_,_,_);rw[F])),rfl⟩
 have I:k=nl:=by have:=uD B;omega
 have E:s.length=k:=by have:=vK List.length J;rw[vH,vH,uP] at this;omega
 refine xO (zH (zH (xY (zA (zC (yY (xq 2 [yB 34 (decide ((b:Int)<8))] [] ?_)))))))
 rw[(show decide ((b:Int)<8)=false from uZ qO)]
 refine xq 3 [yB 35 false,yB 37 (decide ((b:Int)>1024))] [] ?_
 rw[(show decide ((b:Int)>1024)=false from uZ qO)]
 refine xq 1 [yB 38 false] [] ?_
 refine yZ (xb (zI (zA (yY (xq 3 [eS1 4 (yL f) nl nl,yJ 5 0] [] ?_)))))
 refine yZ (zG ?_)
 refine yR (.tuple #[.slice (yL f) nl nl, yI 0]) fun w' R Q=>?_
 exact⟨f,s,rfl,by rw[J,I,← G,qZ],by have h:=Q.2;have T:=E;rw[I] at T;subst T;rw[ZcW] at h;exact u ▸ h,u ▸ Q.1,R⟩
structure Tap where
 g:Nat
 A:Option Addr
 l:Nat
 c:Nat
def TOld (wl:World) (τ:Tap):Prop:=∃ zs,jF wl τ.A zs∧zs.length=τ.l∧τ.l≤1000000∧wl.heap.size≤τ.g
def TOk (τ:Tap) (w:World):Prop:=∃ p,p≤τ.l∧TB w τ.g τ.A τ.l τ.c p
theorem TOk.fr {τ:Tap}{w w':World}{S:Nat→Prop}(h:TOk τ w)(a:Fr S w w')(b:¬ S τ.g):TOk τ w':=by
 obtain⟨p,c,d⟩:=h
 exact⟨p,c,Blk.fr d a b⟩
theorem TOk.ext {τ:Tap}{w w':World}(h:TOk τ w)(a:Ext w w'):TOk τ w':=h.fr a (fun f=>f)
theorem TOk.lt {τ:Tap}{w:World}(h:TOk τ w):τ.g<w.heap.size:=by
 obtain⟨p,b,a⟩:=h
 exact Blk.lt a
theorem TOk.nrb {τ:Tap}{w:World}(h:TOk τ w):NRB w τ.g:=by
 obtain⟨p,b,a⟩:=h
 exact⟨_,_,a,Zrw _ _ _ _⟩
theorem TOk.cell {τ:Tap}{w:World}(h:TOk τ w):w.cell? ⟨τ.g,0,none⟩=some (.slice τ.A τ.l τ.c):=by
 obtain⟨p,b,a⟩:=h
 rw[Blk.cell a];rfl
theorem TOk.boxT {τ:Tap}{w w':World}(h:TOk τ w'):BoxT τ.g w w' (TOk τ):=fun _ _ a b=>h.fr b (fun c=>(a _ c).2.1 rfl)
theorem TOld.old {wl a w:World}{τ:Tap}(h:TOld wl τ)(b:Ext wl a)(Q:Fr (fun i=>i=τ.g) a w):Ext wl w:=by
 obtain⟨_,_,_,_,c⟩:=h
 exact b.next Q (fun i hi e=>by have e:i=τ.g:=e;omega)
def RetT {α:Type} (τ:Tap) (sh:α→Value) (good:α→Prop) (φ:α→World→Prop) (w:World) (e:Ending) (w':World):Prop:=∃ x,good x∧e=.returned (sh x)∧Fr (fun i=>i=τ.g) w w'∧TOk τ w'∧φ x w'
theorem Zd9 {α:Type}{τ:Tap}{sh:α→Value}{a:α→Prop}{φ ψ:α→World→Prop}{w:World}{e:Ending}{w':World}(h:RetT τ sh a φ w e w')(c:∀ x,Fr (fun i=>i=τ.g) w w'→φ x w'→BoxT τ.g w w' (ψ x)) :
 ∃ x:{x:α // a x},e=.returned (sh x.1)∧Fr (fun i=>i=τ.g) w w'∧BoxT τ.g w w' (fun w=>TOk τ w∧ψ x.1 w):=by
 obtain⟨x,d,rfl,b,f,h⟩:=h
 exact⟨⟨x,d⟩,rfl,b,f.boxT.and (c x b h)⟩
theorem Zea (τ:Tap)(wl:World)(n:Int)(w:World)(j:TOld wl τ)(k:Ext wl w)(m:TOk τ w)(a:0<n)(o:n≤1048576) :
 yA 20 #[.pointer (some ⟨τ.g,0,none⟩),.int .i64 n] w (RetT τ (fun v:Nat=>.int .i64 ((v:Nat):Int)) (fun v=>(v:Int)<n) (fun _ _=>True) w):=by
 obtain⟨q,d,r,s,t⟩:=j
 obtain⟨p,u,x⟩:=m
 refine (Zo1 τ.g τ.A τ.l τ.c p q n w x u (jF.next d (k.mono (fun _ _ f=>f.elim):Fr (fun i=>i=τ.g) wl w) (d.apart t)) r s a o).mono ?_
 rintro e w' ⟨v,y,rfl,h,z,b⟩
 exact⟨v,h.1,rfl,z,⟨y,h.2,b⟩,trivial⟩
theorem OwnD.tape {w w':World}{m n c k g:Nat}{e:TypeId}{A:qA}{xs:List Value}(h:OwnD w m e k A c n xs)(a:Fr (fun i=>i=g) w w')(b:g<m):OwnD w' m e k A c n xs :=
 h.fr a (fun i hi e=>by have:=(h.blk hi).1;have e:i=g:=e;omega)
theorem TOk.row {w w':World}{τ:Tap}{m n c k:Nat}{e:TypeId}{A:qA}{xs:List Value}(h:TOk τ w)(a:OwnD w m e k A c n xs)(f:τ.g<m)(b:Fr (fun i=>A=some ⟨i,0,none⟩) w w'):TOk τ w' :=
 h.fr b (fun d=>by have:=(a.blk d).1;omega)
theorem TOk.nrb' {w:World}{τ:Tap}(h:TOk τ w):∀ i,i=τ.g→NRB w i:=fun i hi=>by rw[hi];exact h.nrb
structure Mr (α:Type) where
 A:Option Addr
 cap:Nat
 xs:List α
instance {α:Type}:Inhabited (Mr α):=⟨⟨none,0,[]⟩⟩
def mr0 {α:Type}:Mr α:=⟨none,0,[]⟩
def mrC {α:Type} (x:Mr α):List Value:=[.slice x.A x.xs.length x.cap]
theorem Zci {α:Type}(x:Mr α):(mrC x).length=1:=rfl
theorem ZnI {α:Type}(x:Mr α):∀ (k:IntKind) (z:Int),Value.int k z∈mrC x→k=.i64:=fun k z h=>by simp[mrC] at h
structure MrOk {α:Type} (e:TypeId) (k:Nat) (enc:α→List Value) (m:Nat) (w:World) (ys:List (Mr α)):Prop where
 own:∀ y∈ys,OwnD w m e k y.A y.cap y.xs.length (y.xs.flatMap enc)
 dif:ys.Pairwise (fun a b=>a.A≠b.A)
section
variable {α:Type} {e e':TypeId} {k k' m m' c n:Nat} {enc:α→List Value} {w w':World} {ys:List (Mr α)} {A:Option Addr} {l:List Value}
theorem MrOk.nil:MrOk e k enc m w []:=⟨fun _ h=>(by cases h),List.Pairwise.nil⟩
theorem MrOk.fr {S:Nat→Prop}(h:MrOk e k enc m w ys)(b:Fr S w w')(d:∀ y∈ys,∀ i,y.A=some ⟨i,0,none⟩→¬ S i):MrOk e k enc m w' ys:=⟨fun y a=>(h.own y a).fr b (d y a),h.dif⟩
theorem MrOk.apart (h:MrOk e k enc m w ys)(b:OwnD w m' e' k' A c n l)(a:e≠e')(d:Fr (fun i=>A=some ⟨i,0,none⟩) w w'):MrOk e k enc m w' ys:=⟨fun y f=>(h.own y f).apart b a d,h.dif⟩
theorem MrOk.snoc {x:Mr α}(h:MrOk e k enc m w ys)(f:OwnD w m e k x.A x.cap x.xs.length (x.xs.flatMap enc))(g:∀ y∈ys,y.A≠x.A):MrOk e k enc m w (ys ++ [x]):=by
 refine⟨fun y d=>?_,List.pairwise_append.2 ⟨h.dif,List.pairwise_singleton _ _,fun a i b j=>by rw[sE.1 j];exact g a i⟩⟩
 rcases rA.1 d with d|d
 ·exact h.own y d
 rw[sE.1 d];exact f
theorem MrOk.boxN (h:MrOk e k enc w.heap.size w' ys)(b:m≤w.heap.size):BoxN w w' (fun v=>MrOk e k enc m v ys):=fun S d a f=>⟨fun y g=>(h.own y g).boxN b S d a f,h.dif⟩
theorem MrOk.at (h:MrOk e k enc m w ys){a:Nat}(ha:a<ys.length):OwnD w m e k ys[a]!.A ys[a]!.cap ys[a]!.xs.length (ys[a]!.xs.flatMap enc):=h.own _ (xV ha)
theorem ZqD {a b:Nat}(h:ys.Pairwise (fun a b=>a.A≠b.A))(ha:a<ys.length)(d:b<ys.length)(f:a≠b):ys[a]!.A≠ys[b]!.A:=by
 rw[vZ ys a ha,vZ ys b d]
 have i:=pX.1 h
 rcases qG f with g|g
 ·exact i a b ha d g
 exact (i b a d ha g).symm
theorem MrOk.set {a:Nat}{xs:List α}(h:MrOk e k enc m w ys)(ha:a<ys.length)(z:Fr (fun i=>ys[a]!.A=some ⟨i,0,none⟩) w w')(B:xs.length=ys[a]!.xs.length)(C:OwnD w' m e k ys[a]!.A ys[a]!.cap ys[a]!.xs.length (xs.flatMap enc)):MrOk e k enc m w' (ys.set a ⟨ys[a]!.A,ys[a]!.cap,xs⟩):=by
 refine⟨fun y f=>?_,?_⟩
 ·obtain⟨b,g,f⟩:=qC f
  rw[tA] at g
  rw[List.getElem_set] at f
  by_cases d:a=b
  ·rw[uQ d] at f
   subst f
   show OwnD w' m e k ys[a]!.A ys[a]!.cap xs.length _
   rw[B];exact C
  rw[uL d] at f
  subst f
  have j:=ZqD h.dif ha g d
  rw[vZ ys b g] at j
  exact (h.own _ (sK g)).fr z (fun i D E=>j (by rw[D];exact E))
 rw[pX]
 intro b c g u p
 rw[tA] at g u
 have v:∀ (q:Nat) (r:q<(ys.set a ⟨ys[a]!.A,ys[a]!.cap,xs⟩).length),((ys.set a ⟨ys[a]!.A,ys[a]!.cap,xs⟩)[q]).A=(ys[q]'(by rw[tA] at r;exact r)).A:=fun q r=>by
  rw[List.getElem_set]
  by_cases d:a=q
  ·subst d;rw[uQ rfl];exact show ys[a]!.A=_ from vK Mr.A (vZ ys a ha)
  rw[uL d]
 rw[v,v]
 exact pX.1 h.dif b c g u p
theorem aC {a:Nat}{r:Mr α}{xs:List α}(ha:a<ys.length)(d:ys[a]! = r)(f:xs.length=r.xs.length):(ys.set a ⟨r.A,r.cap,xs⟩).flatMap mrC=ys.flatMap mrC:=by
 subst d
 rw[iI Zci _ _ _ ha]
 have b:=iI Zci ys a ys[a]! ha
 rw[show ys.set a ys[a]! = ys by rw[vZ ys a ha];exact List.set_getElem_self ha] at b
 rw[show mrC (⟨ys[a]!.A,ys[a]!.cap,xs⟩:Mr α)=mrC ys[a]! by unfold mrC;rw[f]]
 exact b.symm
end
def RdD {α:Type} [Inhabited α] (e:TypeId) (k:Nat) (enc:α→List Value) (w:World) (A:Option Addr) (xs:List α):Prop:=∀ j i v,j<xs.length→(enc xs[j]!)[i]? = some v→∃ b off cur,A=some ⟨b,off,none⟩∧Blk e w b cur∧cur[off+(j*k+i)]? = some v
section
variable {α:Type} [Inhabited α] {e e':TypeId} {k k' m m' c n:Nat} {enc:α→List Value} {w w':World} {A A':Option Addr} {xs:List α} {l:List Value}
theorem RdD.fr {S:Nat→Prop}(h:RdD e k enc w A xs)(f:Fr S w w')(g:∀ b off cur,A=some ⟨b,off,none⟩→Blk e w b cur→¬ S b):RdD e k enc w' A xs:=fun j i v p q=>by
 obtain⟨b,off,cur,a,d,r⟩:=h j i v p q
 exact⟨b,off,cur,a,d.fr f (g b off cur a d),r⟩
theorem RdD.ext (h:RdD e k enc w A xs)(a:Ext w w'):RdD e k enc w' A xs:=h.fr a (fun _ _ _ _ _ f=>f)
theorem OwnD.rd (h:OwnD w m e k A c n (xs.flatMap enc))(b:∀ x,(enc x).length=k):RdD e k enc w A xs:=fun j i v f hv=>by
 have hi:i<k:=by
  rcases vL i (enc xs[j]!).length with h|h
  ·rwa [b] at h
  rw[vP h] at hv;cases hv
 have h4:=(dM b xs j i f hi).trans hv
 rcases h.2 with ⟨_,_,d⟩|⟨g,a,rfl,d,p,_,_,_,_,q⟩
 ·have:=h.1
  rw[d,tY] at this
  rw[vY.1 this] at h4
  simp at h4
 refine⟨g,0,a,rfl,p,?_⟩
 rw[←q,oL] at h4
 split at h4
 ·rw[vW];simpa using h4
 cases h4
theorem RdD.ne (h:RdD e k enc w A xs)(a:∀ x,(enc x).length=k)(d:0<k){j:Nat}(f:j<xs.length):A≠none:=by
 obtain⟨b,g,_,i,_⟩:=h j 0 _ f (uO (by rw[a];exact d))
 rw[i];exact Option.some_ne_none _
end
section
variable {P:Program} {o:Oper} {ρ:Operand→Value} {w:World} {t e:TypeId} {x:Operand}
theorem Zcj {α:Type}[Inhabited α]{enc:α→List Value}{A:qA}{k j:Nat}{ys:List α}{e':TypeId}(h:RdD e' k enc w A ys)(f:∀ x,(enc x).length=k)(p:j<ys.length)(r:0<k:=by decide)(u:o.op=Op.load t x:=by kernel_rfl)(v:ρ x=atA A (j*k):=by kernel_rfl)(ha:(teOf P t).map (fun e=>(e.agg,e.size))=some (true,k):=by kernel_rfl) :
 (execOp ρ o).run P w=.ok (.value (.agg (enc ys[j]!).toArray)) w:=by
 obtain⟨D,d,y⟩:=vI.1 ha
 injection y with ha hn
 obtain⟨g,off,_,rfl,_⟩:=h j 0 _ p (uO (by rw[f];exact r))
 have:=bV (P:=P) (w:=w) d (g:=g) (off:=off+j*k) (cs:=enc ys[j]!) (by rw[f];exact hn.symm) (fun i hi=>by
  obtain⟨b,q,z,a,B,C⟩:=h j i _ p (uO hi)
  injection a with a
  injection a with a e2
  subst a;subst e2
  rw[tZ,B.cell,C,uO hi]
  rfl) ha
 simp only[execOp,u,v,atA,sU,jH,Sem.run_bind,this,Result.andThen_ok,Sem.run_pure]
theorem ZqE {α:Type}{A:qA}{m c n j:Nat}{ys:List (Mr α)}(h:OwnD w m e 1 A c n (ys.flatMap mrC))(a:j<ys.length)(d:o.op=Op.load t x:=by kernel_rfl)(f:ρ x=atA A (j*1):=by kernel_rfl)(ha:(teOf P t).map (fun e=>e.agg)=some false:=by kernel_rfl) :
 (execOp ρ o).run P w=.ok (.value (.slice ys[j]!.A ys[j]!.xs.length ys[j]!.cap)) w:=by
 have g:=dM Zci ys j 0 a qD
 obtain⟨b,rfl,_,i⟩:=h.at (v:=.slice ys[j]!.A ys[j]!.xs.length ys[j]!.cap) g
 exact xZ i d (by rw[f,atA,sU,jH];rfl) ha
end
theorem Zl3 {α β:Type}[Inhabited α]{enc:α→List Value}{d:β→List Value}{P:Program}{o:Oper}{ρ:Operand→Value}{w:World}{m0 k k' n bytes:Nat}{t e e':TypeId}{kl kc:IntKind}{l c:Operand}{z:Value}{ys:List (Mr β)}(g:α)(F:∀ x,(enc x).length=k)(G:0<k)(H:z.cells.toList=enc g)(r:∀ x,∀ (k:IntKind) (z:Int),Value.int k z∈enc x→k=.i64)(I:MrOk e' k' d m0 w ys)(E:m0≤w.heap.size)(J:n≤maxLen)(u:bytes*n≤281474976710656)(K:o.op=Op.makeSlice t l c:=by kernel_rfl)(L:P.underlying t=some (.slice e):=by kernel_rfl)(a:(P.info? e).map (fun i=>(i.zero,i.size,i.bytes))=some (some z,k,bytes):=by kernel_rfl)(M:ρ l=.int kl (n:Int):=by kernel_rfl)(O:ρ c=.int kc (n:Int):=by kernel_rfl) :
 Does P o ρ w (DoR (fun b:{b:Nat // m0≤b∧∀ y∈ys,y.A≠some ⟨b,0,none⟩}=>.slice (some ⟨b.1,0,none⟩) n n) (fun b w=>OwnD w m0 e k (some ⟨b.1,0,none⟩) n n ((List.replicate n g).flatMap enc)) w):=by
 have j:∀ y w',DoR (fun b:{b:Nat // w.heap.size≤b}=>.slice (some ⟨b.1,0,none⟩) n n) (fun b v=>OwnD v w.heap.size e k (some ⟨b.1,0,none⟩) n n ((List.replicate n g).flatMap enc)) w y w' →
  DoR (fun b:{b:Nat // m0≤b∧∀ y∈ys,y.A≠some ⟨b,0,none⟩}=>.slice (some ⟨b.1,0,none⟩) n n) (fun b w=>OwnD w m0 e k (some ⟨b.1,0,none⟩) n n ((List.replicate n g).flatMap enc)) w y w':=fun y w' h=>by
  obtain⟨b,p,q,B⟩:=h
  refine⟨⟨b.1,uC E b.2,fun y R C=>?_⟩,p,q,fun S T D U=>(B S T D U).mono E⟩
  obtain⟨_,V,W,_⟩:=(I.own y R).blk C
  exact pK _ (uS W.lt b.2)
 rcases fB (P:=P) (w:=w) (m0:=w.heap.size) g F G H r (uH _) J u K L a M O with ⟨y,w',p,q⟩|⟨f,X,Y,p,q⟩
 ·exact Or.inl ⟨y,w',p,j _ _ q⟩
 refine Or.inr ⟨f,X,Y,p,q.mono (fun e w' h=>?_)⟩
 obtain⟨y,B,C⟩:=h
 exact⟨y,B,j _ _ C⟩
section
variable {N:Nat} {S0:Nat→Prop} {w0:World} {s:St} {Φ Φ2:World→Prop} {P:Program} {ops:Array Oper} {Q:Exit→Act→World→Prop}
theorem ZqF {i k n c j:Nat}{t e:TypeId}{x y:Operand}{xs new:List Value}(base:Nat)(A:qA)(v:Value)(f:∀ w,Φ w→OwnD w base e k A c n xs)(u:j<n)(B:new.length=k)(C:0<k)(d:∀ b,base≤b→w0.heap.size≤b∨S0 b)(D:∀ c,c∈new→c.oneCell'=true)(g:∀ (k:IntKind) (z:Int),Value.int k z∈new→k=.i64)(E:v.cells.toList=new)(F:∀ w w',Φ w→Fr (fun i=>A=some ⟨i,0,none⟩) w w'→OwnD w' base e k A c n (lE xs (j*k) new)→Φ2 w')(K:SXi P N S0 w0 ops Q (i+1) s Φ2)(p:Nat.blt i ops.size=true:=by kernel_rfl)(G:s.wantB ops (opAt ops i)=some true:=by kernel_rfl)(H:(opAt ops i).op=.store t x y:=by kernel_rfl)(I:(opAt ops i).dst=none:=by kernel_rfl)(J:(teOf P t).map (fun e=>e.size)=some k:=by kernel_rfl)(M:s.eval x=some (.v (atA A (j*k))):=by kernel_rfl)(O:s.eval y=some (.v v):=by kernel_rfl):SXi P N S0 w0 ops Q i s Φ:=by
 intro L a w hi
 obtain⟨b,rfl,_⟩:=OwnD.blkSome (f w hi.box.self) qO
 have q:s.eval x=some (.v (.pointer (some ⟨b,0+j*k,none⟩))):=by rw[M,atA,sU,jH]
 exact dN base b v (fun w'=>∃ w,Φ w∧Fr (fun i=>(some ⟨b,0,none⟩:Option Addr)=some ⟨i,0,none⟩) w w') f u B C (d b) D g E (fun w w' h r=>⟨w,h,r⟩) (K.facts (fun w' h=>by
  obtain⟨⟨w,h,r⟩,f⟩:=h
  exact F w w' h r f)) p G H I J q O L a w hi
theorem Zey {α:Type}[Inhabited α]{enc:α→List Value}{i k a j:Nat}{t e:TypeId}{x y:Operand}{ys:List (Mr α)}{r:Mr α}(base:Nat)(new:α)(v:Value)(Ψ:World→Prop)(q:∀ x,(enc x).length=k)(D:0<k)(u:∀ w,Φ w→MrOk e k enc base w ys)(ha:a<ys.length)(E:ys[a]! = r)(B:j<r.xs.length)(d:∀ b,base≤b→w0.heap.size≤b∨S0 b)(F:∀ c,c∈enc new→c.oneCell'=true)(g:∀ (k:IntKind) (z:Int),Value.int k z∈enc new→k=.i64)(G:v.cells.toList=enc new)(H:∀ w w',Φ w→Fr (fun i=>r.A=some ⟨i,0,none⟩) w w'→Ψ w')(K:SXi P N S0 w0 ops Q (i+1) s (fun w=>Ψ w∧MrOk e k enc base w (ys.set a ⟨r.A,r.cap,r.xs.set j new⟩)))(p:Nat.blt i ops.size=true:=by kernel_rfl)(I:s.wantB ops (opAt ops i)=some true:=by kernel_rfl)(J:(opAt ops i).op=.store t x y:=by kernel_rfl)(L:(opAt ops i).dst=none:=by kernel_rfl)(M:(teOf P t).map (fun e=>e.size)=some k:=by kernel_rfl)(O:s.eval x=some (.v (atA r.A (j*k))):=by kernel_rfl)(R:s.eval y=some (.v v):=by kernel_rfl):SXi P N S0 w0 ops Q i s Φ:=by
 subst E
 exact ZqF base ys[a]!.A v (fun w h=>(u w h).at ha) B (q new) D d F g G (fun w w' h C f=>⟨H w w' h C,by
  rw[←iI q _ _ _ B] at f
  exact (u w h).set ha C (tA ..) f⟩) K p I J L M O R
end
structure Qv where
 c:ShQ
 q:Rat
def qv0:Qv:=⟨(false,none,0,0,false,none,0,0),0⟩
instance:Inhabited Qv:=⟨qv0⟩
def qvC (x:Qv):List Value:=[.bool x.c.1,.slice x.c.2.1 x.c.2.2.1 x.c.2.2.2.1,.bool x.c.2.2.2.2.1,.slice x.c.2.2.2.2.2.1 x.c.2.2.2.2.2.2.1 x.c.2.2.2.2.2.2.2]
theorem iB (x:Qv):(qvC x).length=4:=rfl
theorem Zeb (x:Qv):∀ (k:IntKind) (z:Int),Value.int k z∈qvC x→k=.i64:=fun k z h=>by simp[qvC] at h
def QsOk (w:World) (xs:List Qv):Prop:=∀ x∈xs,zU w (iO x.c) x.q
theorem QsOk.nrb {S:Nat→Prop}{w w':World}{xs:List Qv}(h:QsOk w xs)(a:∀ i,S i→NRB w i)(b:Fr S w w'):QsOk w' xs:=fun x c=>(h x c).nrb a b
theorem QsOk.ext {w w':World}{xs:List Qv}(h:QsOk w xs)(a:Ext w w'):QsOk w' xs:=fun x b=>(h x b).ext a
theorem QsOk.zero (w:World)(n:Nat):QsOk w (List.replicate n qv0):=fun x a=>by rw[(rS.1 a).2];exact zU.nil w
structure Qr where
 A:Option Addr
 cap:Nat
 xs:List Qv
def qr0:Qr:=⟨none,0,[]⟩
instance:Inhabited Qr:=⟨qr0⟩
def qrC (x:Qr):List Value:=[.slice x.A x.xs.length x.cap]
theorem ZqG (x:Qr):(qrC x).length=1:=rfl
def RsOk (m:Nat) (w:World) (ys:List Qr):Prop:=∀ y∈ys,OwnD w m 59 4 y.A y.cap y.xs.length (y.xs.flatMap qvC)∧QsOk w y.xs
def qT (x:Qv):ByteArray:=⟨(xK x.q).toArray⟩
theorem ZnJ (m:Nat)(A:qA)(cap:Nat)(xs:List Qv)(w:World)(v:OwnD w m 59 4 A cap xs.length (xs.flatMap qvC))(G:QsOk w xs)(H:xs.length≤1000)(B:∀ x∈xs,ml x.q.num.natAbs≤65536∧ml x.q.den≤65536) :
 yA 69 #[.slice A xs.length cap] w (fun e w'=>∃ b,e=.returned (.slice (some ⟨b,0,none⟩) xs.length xs.length)∧OwnD w' w.heap.size 9 1 (some ⟨b,0,none⟩) xs.length xs.length ((xs.map qT).flatMap stC)∧Ext w w'):=by
 obtain⟨r,p⟩:∃ m,m=w.heap.size:=⟨_,rfl⟩
 refine zQ (Φ:=fun w=>True) func69 rfl qK (fun w' I=>trivial) ?_
 refine yY (xq 1 [eS1 2 none 0 0] [] ?_)
 refine yZ (yY (xq 2 [yJ 6 ((xs.length:Nat):Int)] [] ?_))
 refine yD (d:=7) (fun s:{b:Nat // r≤b}=>.slice (yL s.1) xs.length xs.length) (fun s w=>OwnD w r 9 1 (yL s.1) xs.length xs.length ((List.replicate xs.length (⟨#[]⟩:ByteArray)).flatMap stC)) (fun w R Q=>fB (t:=22) (e:=9) (kl:=.i64) (kc:=.i64) (l:=.tmp 6) (c:=.tmp 6) (bytes:=16) (z:=.string ⟨#[]⟩) (⟨#[]⟩:ByteArray) ZaQ qD rfl Zd4 (p ▸ R.size) (by simp only[maxLen];omega) qO) fun⟨f,C⟩=>?_
 refine xr 1 [eS1 0 A xs.length cap,eS1 2 none 0 0,eS1 3 (yL f) xs.length xs.length] [] ?_
 refine yZ (zC (yY (xq 1 [yJ 4 0] [] ?_)))
 refine yZ (zP ?_)
 refine yC [eS1 0 A xs.length cap,eS1 2 none 0 0,eS1 3 (yL f) xs.length xs.length,yJ 4 ((0:Nat):Int)] [] (fun w=>OwnD w r 9 1 (yL f) xs.length xs.length ((jA qT ⟨#[]⟩ xs 0).flatMap stC)) (fun w Q=>(by rw[ZaC];exact Q.2)) ?_
 refine xU (fun D E F=>∃ (k:Nat),E=ofL [eS1 0 A xs.length cap,eS1 2 none 0 0,eS1 3 (yL f) xs.length xs.length,yJ 4 (k:Int)] []∧F=(fun w=>OwnD w r 9 1 (yL f) xs.length xs.length ((jA qT ⟨#[]⟩ xs k).flatMap stC))∧(k≤xs.length)∧D=(1+(xs.length-k))) ((1+(xs.length-0))) ⟨0,rfl,rfl,(vQ _),rfl⟩ ?_
 rintro D E F ⟨k,rfl,rfl,J,rfl⟩
 refine zC (yY (xq 4 [yB 11 (decide ((k:Int)<((xs.length:Nat):Int)))] [] ?_))
 refine xe (zA ?_)
 refine yQ ((decide ((k:Int)<((xs.length:Nat):Int)))) (fun o=>?_) fun o=>?_
 ·have g:k<xs.length:=by have:=uB o;omega
  refine zI (zA (zC (zP (zB (xq 4 [eS1 14 (yL f) xs.length xs.length,yJ 15 (k:Int),eS1 16 A xs.length cap,yJ 17 (k:Int)] [] ?_)))))
  refine xqk 18 (atA A (k*4)) (fun w R Q=>xQ (t:=61) (e:=59) (sz:=4) (x:=.tmp 16) (ix:=.tmp 17) (len:=xs.length) (cap:=cap) (i:=k) ((OwnD.ext v R).ne g) g) ?_
  obtain⟨a,n⟩:∃ x,xs[k]! = x:=⟨_,rfl⟩
  refine xqk 19 (.agg #[.bool a.c.1,.slice a.c.2.1 a.c.2.2.1 a.c.2.2.2.1,.bool a.c.2.2.2.2.1,.slice a.c.2.2.2.2.2.1 a.c.2.2.2.2.2.2.1 a.c.2.2.2.2.2.2.2]) (fun w R Q=>by rw[←n];exact eN (t:=59) (x:=.tmp 18) (j:=k) (OwnD.ext v R) iB g) ?_
  refine xqc 66 [vR4 a.c.1 a.c.2.1 a.c.2.2.1 a.c.2.2.2.1 a.c.2.2.2.2.1 a.c.2.2.2.2.2.1 a.c.2.2.2.2.2.2.1 a.c.2.2.2.2.2.2.2] 20 (fun _:Unit=>.string ⟨(xK a.q).toArray⟩) _ (fun w R Q=>yN (Znm _ a.q _ (show zU _ (iO a.c) a.q by rw[←n];exact (QsOk.ext G R) _ (xV g)) (by rw[←n];exact (B _ (xV g)).1) (by rw[←n];exact (B _ (xV g)).2))) fun K=>?_
  refine xqk 21 (.pointer (some ⟨f,0+k*1,none⟩)) (fun w R Q=>iJ (t:=22) (e:=9) (sz:=1) (x:=.tmp 14) (ix:=.tmp 15) (len:=xs.length) (cap:=xs.length) (i:=k) g) ?_
  refine dN (t:=9) (x:=.tmp 21) (y:=.tmp 20) (j:=k) (new:=stC ((⟨(xK a.q).toArray⟩:ByteArray))) r f (.string ⟨(xK a.q).toArray⟩) (fun w=>True) (fun w Q=>Q.1) g rfl qD (fun h=>Or.inl (uC (p ▸ uH _) h)) (by simp[stC,Value.oneCell']) (Zd4 _) rfl (fun w w' Q L=>trivial) ?_
  rw[←iI ZaQ ((jA qT ⟨#[]⟩ xs k)) k ((⟨(xK a.q).toArray⟩:ByteArray)) (by rw[ZbD];exact g),ZbF g (by rw[n];rfl)]
  refine xr 0 [eS1 0 A xs.length cap,eS1 2 none 0 0,eS1 3 (yL f) xs.length xs.length,yJ 4 (k:Int)] [] ?_
  refine xe (xR (zA (zB (xq 2 [yJ 13 (IntKind.i64.wrap ((k:Int)+1))] [] ?_))))
  rw[yW ((k:Int)+1) (((k+1:Nat):Int)) qO]
  refine xq 1 [yJ 4 ((k+1:Nat):Int)] [] ?_
  refine xe ?_
  refine yP [eS1 0 A xs.length cap,eS1 2 none 0 0,eS1 3 (yL f) xs.length xs.length,yJ 4 (((k+1):Nat):Int)] [] (fun w=>OwnD w r 9 1 (yL f) xs.length xs.length ((jA qT ⟨#[]⟩ xs (k+1)).flatMap stC)) (fun w Q=>Q.2) ?_
  exact xG ((1+(xs.length-(k+1)))) qO ⟨(k+1),rfl,rfl,g,rfl⟩
 have u:k=xs.length:=by have:=uD o;omega
 refine xO (zH (zH (xY (zA (yY (xq 2 [eS1 2 (yL f) xs.length xs.length] [] ?_))))))
 refine yZ (zG ?_)
 refine yR (.slice (yL f) xs.length xs.length) fun w' R Q=>?_
 exact⟨f,rfl,by have h:=Q;rw[u,ZbE] at h;exact p ▸ h,R⟩
section
variable {P:Program} {o:Oper} {ρ:Operand→Value} {w:World} {t e:TypeId} {x:Operand}
theorem ZkY {A:qA}{m c n j:Nat}{ys:List Qr}(h:OwnD w m e 1 A c n (ys.flatMap qrC))(a:j<ys.length)(d:o.op=Op.load t x:=by kernel_rfl)(f:ρ x=atA A (j*1):=by kernel_rfl)(ha:(teOf P t).map (fun e=>e.agg)=some false:=by kernel_rfl) :
 (execOp ρ o).run P w=.ok (.value (.slice ys[j]!.A ys[j]!.xs.length ys[j]!.cap)) w:=by
 have g:=dM ZqG ys j 0 a qD
 obtain⟨b,rfl,_,i⟩:=h.at (v:=.slice ys[j]!.A ys[j]!.xs.length ys[j]!.cap) g
 exact xZ i d (by rw[f,atA,sU,jH];rfl) ha
end
theorem Zo9 {α:Type}{enc:α→List Value}{k:Nat}(a:∀ x,(enc x).length=k)(xs:List α):(xs.flatMap enc).length=xs.length*k:=by
 induction xs with
 | nil=>simp
 | cons x xs ih=>rw[sX,uY,ih,a,sL,rD,vR]
theorem ZqH (l:List ByteArray):∀ u∈l.flatMap stC,u.oneCell'=true:=fun u a=>by
 obtain⟨s,_,b⟩:=List.mem_flatMap.1 a
 rw[sE.1 b];rfl
theorem ZnK {α β:Type}[Inhabited α]{l:List α}{k:Nat}{f:α→List β}(a:k<l.length):(l.take (k+1)).flatMap f=(l.take k).flatMap f ++ f l[k]! := by
 rw[tS a,oD,vZ l k a,oR]
theorem ZqI {m0 c:Nat}{xs:List Qv}{w w':World}{e:Ending}(a:m0≤w.heap.size)(f:xs.length=c)(h:∃ b,e=.returned (.slice (some ⟨b,0,none⟩) xs.length xs.length)∧OwnD w' w.heap.size 9 1 (some ⟨b,0,none⟩) xs.length xs.length ((xs.map qT).flatMap stC)∧Ext w w') :
 lQ (fun b:{b:Nat // m0≤b}=>.slice (some ⟨b.1,0,none⟩) c c) (fun b w=>OwnD w m0 9 1 (some ⟨b.1,0,none⟩) c c ((xs.map qT).flatMap stC)) w e w':=by
 subst f
 obtain⟨b,rfl,d,Q⟩:=h
 exact⟨⟨b,uC a (d.blk rfl).1⟩,rfl,Q,d.boxN a⟩
def ZhX (n c:Nat) (ys:List Qr) (w:World) (e:Ending) (w':World):Prop:=∃ A cap,e=.returned (.agg #[.int .i64 ((n:Nat):Int),.int .i64 ((c:Nat):Int),.slice A (n*c) cap])∧OwnD w' w.heap.size 9 1 A cap (n*c) ((ys.flatMap (fun r=>r.xs.map qT)).flatMap stC)∧Ext w w'
theorem Zpa (H s n c:Nat)(ys:List Qr)(w:World)(hO:OwnD w H 61 1 (some ⟨s,0,none⟩) n n (ys.flatMap qrC))(V:RsOk H w ys)(C:ys.length=n)(J:0<n)(hn:n≤64)(N:0<c)(c0:c≤64)(W:∀ y∈ys,y.xs.length=c)(hq:∀ y∈ys,∀ x∈y.xs,ml x.q.num.natAbs≤65536∧ml x.q.den≤65536) :
 yA 43 #[.slice (some ⟨s,0,none⟩) n n] w (ZhX n c ys w):=by
 obtain⟨m0,D⟩:∃ m,m=w.heap.size:=⟨_,rfl⟩
 refine zQ (Φ:=fun w=>OwnD w H 61 1 (yL s) n n (ys.flatMap qrC)) func43 rfl qK (fun w' hf=>OwnD.ext hO hf) ?_
 refine yY (xq 1 [(2,.p 2 0)] [(2,24,[.v (yI 0),.v (yI 0),.v (.slice none 0 0)])] ?_)
 refine yZ (zC (yY (xq 3 [yB 7 (((n:Int):Int) == 0)] [] ?_)))
 rw[(show (((n:Int):Int) == 0)=false by simp;omega)]
 refine yZ (xb (zI (zA (yY (xq 3 [yJ 10 (n:Int),eS1 11 (yL s) n n] [] ?_)))))
 refine xqk 12 (atA (yL s) (0*1)) (fun w R Q=>xQ (t:=33) (e:=61) (sz:=1) (x:=.tmp 11) (ix:=(Operand.const (Value.int IntKind.i64 0))) (len:=n) (cap:=n) (i:=0) qS J) ?_
 obtain⟨E,I⟩:∃ x,ys[0]! = x:=⟨_,rfl⟩
 refine xqk 13 (.slice E.A E.xs.length E.cap) (fun w R Q=>by rw[←I];exact ZkY (t:=61) (x:=.tmp 12) (j:=0) Q (C.symm ▸ J)) ?_
 have K:E.xs.length=c:=by rw[←I];exact W _ (xV (C.symm ▸ J))
 rw[K]
 refine xq 4 [(3,.p 3 0)] [(3,24,[.v (yI (n:Int)),.v (yI (c:Int)),.v (.slice none 0 0)])] ?_
 refine yZ (zC (yY (xq 1 [yJ 4 0] [] ?_)))
 refine yZ (zP ?_)
 refine yC [eS1 0 (yL s) n n,(2,.p 2 0),(3,.p 3 0),yJ 4 ((0:Nat):Int)] [(3,24,[.v (yI (n:Int)),.v (yI (c:Int)),.v (.slice none 0 0)]),(2,24,[.v (yI 0),.v (yI 0),.v (.slice none 0 0)])] (fun w=>(OwnD w H 61 1 (yL s) n n (ys.flatMap qrC)∧OwnD w m0 9 1 none 0 0 (([]:List ByteArray).flatMap stC))) (fun w Q=>⟨Q,(OwnD.nil _ _ _ _)⟩) ?_
 refine xU (fun X Y Z=>∃ (k p:Nat) (A:Option Addr) (cap:Nat) (l:List ByteArray),Y=ofL [eS1 0 (yL s) n n,(2,.p 2 0),(3,.p 3 0),yJ 4 (k:Int)] [(3,24,[.v (yI (n:Int)),.v (yI (c:Int)),.v (.slice A p cap)]),(2,24,[.v (yI 0),.v (yI 0),.v (.slice none 0 0)])]∧Z=(fun w=>(OwnD w H 61 1 (yL s) n n (ys.flatMap qrC)∧OwnD w m0 9 1 A cap p (l.flatMap stC)))∧(k≤n)∧(p=k*c)∧(l=(ys.take k).flatMap (fun r=>r.xs.map qT))∧(p=0→A=none)∧X=(1+(n-k))) ((1+(n-0))) ⟨0,0,none,0,([]:List ByteArray),rfl,rfl,(vQ _),(by rw[tY]),rfl,(fun _=>rfl),rfl⟩ ?_
 rintro X Y Z ⟨k,p,A,cap,l,rfl,rfl,hk,O,M,S,rfl⟩
 refine zC (yY (xq 4 [yB 19 (decide ((k:Int)<(n:Int)))] [] ?_))
 refine xe (zA ?_)
 refine yQ ((decide ((k:Int)<(n:Int)))) (fun u=>?_) fun u=>?_
 ·have g:k<n:=by have:=uB u;omega
  have T:k*c≤64*64:=vO qO qO
  refine zI (zA (zC (zP ?_)))
  refine yO 7 zO ?_
  refine xqg 4 [eS1 23 A p cap,eS1 24 (yL s) n n,yJ 25 (k:Int)] ?_
  refine xqj 26 (atA (yL s) (k*1)) (fun w Q=>xQ (t:=33) (e:=61) (sz:=1) (x:=.tmp 24) (ix:=.tmp 25) (len:=n) (cap:=n) (i:=k) qS g) ?_
  obtain⟨a,f⟩:∃ x,ys[k]! = x:=⟨_,rfl⟩
  refine xqj 27 (.slice a.A a.xs.length a.cap) (fun w Q=>by rw[←f];exact ZkY (t:=61) (x:=.tmp 26) (j:=k) Q.1 (C.symm ▸ g)) ?_
  have B:a.xs.length=c:=by rw[←f];exact W _ (xV (C.symm ▸ g))
  refine xqd 69 [.slice a.A a.xs.length a.cap] 28 (fun b:{b:Nat // m0≤b}=>.slice (yL b.1) c c) _ (fun w R Q=>(ZnJ H a.A a.cap a.xs _ (by have h:=((V _ (xV (C.symm ▸ g))).1);rw[f] at h;exact OwnD.ext h R) (by have h:=((V _ (xV (C.symm ▸ g))).2);rw[f] at h;exact QsOk.ext h R) qO (by have h:=hq _ (xV (C.symm ▸ g));rw[f] at h;exact h)).mono (fun _ _ h=>ZqI (m0:=m0) (D ▸ R.size) B h)) fun⟨U,a0⟩=>?_
  refine xz ?_
  refine Zqv (d:=29) (k:=1) (n:=p) (m:=c) (cap:=cap) (bytes:=16) (t:=22) (e:=9) (s0:=.tmp 23) (x:=.tmp 28) (xs:=l.flatMap stC) (news:=((a.xs.map qT).flatMap stC)) (z:=.string ⟨#[]⟩) m0 A (fun j hj h=>Or.inl (D ▸ h)) U c (fun w=>OwnD w H 61 1 (yL s) n n (ys.flatMap qrC)) (fun w R Q=>D ▸ R.size) (fun w Q=>Q.1.2) (fun w Q=>OwnD.news Q.2) (by rw[Zo9 ZaQ,vH,B]) qD rfl (iK.list qS) N (ZqH _) (Zgd Zd4 _) (by simp only[maxLen];omega) qO S (fun w w' R Q hF=>OwnD.apart Q.1.1 Q.1.2 qD hF) fun F G b0=>?_
  refine xr 2 [eS1 0 (yL s) n n,(2,.p 2 0),(3,.p 3 0),yJ 4 (k:Int)] [(3,24,[.v (yI (n:Int)),.v (yI (c:Int)),.v (.slice F (p+c) G)]),(2,24,[.v (yI 0),.v (yI 0),.v (.slice none 0 0)])] ?_
  refine xe (xR (zA (zB (xq 2 [yJ 21 (IntKind.i64.wrap ((k:Int)+1))] [] ?_))))
  rw[yW ((k:Int)+1) (((k+1:Nat):Int)) qO]
  refine xq 1 [yJ 4 ((k+1:Nat):Int)] [] ?_
  refine xe ?_
  refine yP [eS1 0 (yL s) n n,(2,.p 2 0),(3,.p 3 0),yJ 4 (((k+1):Nat):Int)] [(3,24,[.v (yI (n:Int)),.v (yI (c:Int)),.v (.slice F (p+c) G)]),(2,24,[.v (yI 0),.v (yI 0),.v (.slice none 0 0)])] (fun w=>(OwnD w H 61 1 (yL s) n n (ys.flatMap qrC)∧OwnD w m0 9 1 F G (p+c) ((l ++ a.xs.map qT).flatMap stC))) (fun w Q=>⟨Q.1,(by rw[oD];exact Q.2)⟩) ?_
  exact xG ((1+(n-(k+1)))) qO ⟨(k+1),(p+c),F,G,(l ++ a.xs.map qT),rfl,rfl,g,(by rw[O,rD]),(by rw[M,ZnK (C.symm ▸ g),f]),(fun h=>qO),rfl⟩
 have L:k=n:=by have:=uD u;omega
 have T:k*c≤64*64:=vO qO qO
 refine xO (zH (zH (xY (zA (yY (xq 2 [] [(2,24,[.v (yI (n:Int)),.v (yI (c:Int)),.v (.slice A p cap)])] ?_))))))
 refine yZ (zG ?_)
 refine yR (.agg #[yI (n:Int), yI (c:Int),.slice A p cap]) fun w' R Q=>?_
 exact⟨A,cap,by rw[O,L],by have h:=Q.2;rw[M,L,← C,qZ] at h;rw[O,L] at h;exact D ▸ h,R⟩
theorem ZgT {i:List Fm}{c m0:Nat}{w w':World}{e:Ending}(g:m0≤w.heap.size)(h:ZpF i c w e w') :
 lQ (fun x:{x:Nat × List Mx // x.2.map mxV=i.map fmV∧m0≤x.1}=>.tuple #[.slice (some ⟨x.1.1,0,none⟩) c c,.int .i64 0]) (fun x w=>OwnD w m0 97 3 (some ⟨x.1.1,0,none⟩) c c (x.1.2.flatMap mxC)∧MsOk m0 w x.1.2) w e w':=by
 obtain⟨b,m,rfl,n,j,k,Q⟩:=h
 exact⟨⟨(b,m),n,uC g (j.blk rfl).1⟩,rfl,Q,(j.boxN g).and (fun S d a f y l=>⟨(k y l).1.boxN g S d a f,boxn Q (fun S a d f=>(k y l).2.nrb d f) S d a f⟩)⟩
theorem Zjd {a:List Mx}{b:Fm}{x:Mx}(h:a.map mxV=[b].map fmV)(d:a.length=1)(f:a[0]! = x):x.r=b.r∧x.c=b.c∧x.xs.map nbV=b.fs.map ldV:=by
 match a,d with
 | [y],_ =>
  have e:y=x:=f
  subst e
  injection h with h _
  injection h with h1 h
  injection h with h2 h3
  exact⟨h1,h2,h3⟩
theorem ZrB {f:ByteArray×Int}(a:fvB (bytes f.1) f.2=true)(c:(bytes f.1).length≤1000):FvOk (ldV f):=by
 have h:=ZcS a
 have b:ldR (bytes f.1) f.2=⟨(xH (bytes f.1)).1,zN (xH (bytes f.1)).2,f.2,0⟩:=uQ a
 refine⟨Zpz qO,?_,ZrA,?_⟩
 ·unfold ldV;rw[b];exact⟨h.1,h.2.1⟩
 unfold ldV;rw[b];exact h.2.2.2
theorem ZkZ {x:Fm}(h:FmG x):∀ v∈x.fs.map ldV,FvOk v:=fun v b=>by
 obtain⟨f,a,rfl⟩:=oS.1 b
 exact ZrB (h.hv f a) (h.hs f a)
theorem Zje {x:Fm}{xs:List Nb}(h:FmG x)(a:xs.map nbV=x.fs.map ldV):∀ y∈xs,FvOk (nbV y):=fun y b=>ZkZ h _ (by rw[←a];exact oE b)
def ftW (v:Fv3):ByteArray×Int:=(⟨(Lib.itoa (sg v.1 v.2.1)).toArray⟩,v.2.2)
theorem ZrC {A:List Fv3}(h:∀ v∈A,FvOk v)(i:Nat):FvOk (at3 A i):=by
 unfold at3
 rw[tG]
 cases e:A[i]? with
 | none=>exact Zgj
 | some v=>exact h v (pS e)
theorem Zjf {b i j n:Nat}{L:List Fv3}(c:0<b)(a:b≤4096):∀ (f k:Nat) (t t1:Fv3),FvOk t→chK b L i j n f k t=some t1→FvOk t1
 | 0,_,t,t1,ht,h=>by injection h with h;exact h ▸ ht
 | f+1,k,t,t1,ht,h=>by
  obtain⟨v,d,e⟩:=tB.1 h
  exact Zjf c a f (k+1) v t1 (Zfi c a d) e
theorem ZrD {b i j n:Nat}{L:List Fv3}{t v:Fv3}(c:0<b)(a:b≤4096)(e:FvOk t)(h:chE b L i j n t=some v):FvOk v:=by
 by_cases d:j<i
 ·exact ZgP (ZgR c a) (Zcg d h rfl)
 exact ZgP (Zfh e c a) (aS d h).2
theorem ZnL {b n j:Nat}{A:List Fv3}(g:∀ v∈A,FvOk v)(e:0<b)(a:b≤4096):∀ (f i:Nat) (L c:List Fv3),(∀ v∈L,FvOk v)→chI b A n j f i L=some c→(∀ v∈c,FvOk v)∧c.length=L.length
 | 0,_,L,c,hL,h=>by injection h with h;exact h ▸ ⟨hL,rfl⟩
 | f+1,i,L,c,hL,h=>by
  obtain⟨t,k,l⟩:=tB.1 h
  obtain⟨v,m,o⟩:=tB.1 l
  have p:=ZrD e a (Zjf e a _ _ _ _ (ZrC g _) k) m
  have:=ZnL g e a f (i+1) _ c (fun u d=>by
   rcases rE d with d|d
   ·exact hL u d
   rw[d];exact p) o
  rwa [tA] at this
theorem ZnM {b n:Nat}{A:List Fv3}(d:∀ v∈A,FvOk v)(e:0<b)(c:b≤4096):∀ (f j:Nat) (L a:List Fv3),(∀ v∈L,FvOk v)→chJ b A n f j L=some a→(∀ v∈a,FvOk v)∧a.length=L.length
 | 0,_,L,a,hL,h=>by injection h with h;exact h ▸ ⟨hL,rfl⟩
 | f+1,j,L,a,hL,h=>by
  obtain⟨k,l,m⟩:=tB.1 h
  have g:=ZnL d e c _ _ _ _ hL l
  have i:=ZnM d e c f (j+1) k a g.1 m
  exact⟨i.1,i.2.trans g.2⟩
theorem Zpb (k:Nat):∀ v∈List.replicate k ((false,0,0):Fv3),FvOk v:=fun v a=>by rw[(rS.1 a).2];exact Zgj
theorem ZqJ {b n:Nat}{A c:List Fv3}(d:∀ v∈A,FvOk v)(e:0<b)(a:b≤4096)(h:Zc0 b A n=some c):∀ v∈c,FvOk v:=(ZnM d e a _ _ _ _ (Zpb _) h).1
theorem Zk0 {b n j:Nat}{A:List Fv3}:∀ (f i:Nat) (L a:List Fv3),chI b A n j f i L=some a→a.length=L.length
 | 0,_,L,a,h=>by injection h with h;rw[h]
 | f+1,i,L,a,h=>by
  obtain⟨t,e,c⟩:=tB.1 h
  obtain⟨v,g,d⟩:=tB.1 c
  rw[Zk0 f (i+1) _ a d,tA]
theorem Zk1 {b n:Nat}{A:List Fv3}:∀ (f j:Nat) (L a:List Fv3),chJ b A n f j L=some a→a.length=L.length
 | 0,_,L,a,h=>by injection h with h;rw[h]
 | f+1,j,L,a,h=>by
  obtain⟨c,d,e⟩:=tB.1 h
  rw[Zk1 f (j+1) c a e,Zk0 _ _ _ _ d]
theorem Zpc {b n:Nat}{A a:List Fv3}(h:Zc0 b A n=some a):a.length=n*n:=by rw[Zk1 _ _ _ _ h,sG]
theorem Zl4 (ml n:Nat)(A:qA)(cap:Nat)(o:List (ByteArray×Int))(b:Nat)(l:List Fv3)(w:World)(P:Glob w)(X:OwnD w ml 76 2 A cap o.length (o.flatMap flC))(u:FmG ⟨n,n,A,cap,o⟩)(E:8≤b)(F:b≤1024)(J:Zc0 b (o.map ldV) n=some l) :
 yA 53 #[.agg #[.int .i64 ((n:Nat):Int),.int .i64 ((n:Nat):Int),.slice A o.length cap],.int .i64 ((b:Nat):Int),.func (.func 57) #[] #[]] w (ZaD (fun v=>.tuple #[v,.int .i64 0]) n n (l.map ftW) w):=by
 obtain⟨m0,q⟩:∃ m,m=w.heap.size:=⟨_,rfl⟩
 refine zQ (Φ:=fun w=>True) func53 rfl qK (fun w' hf=>trivial) ?_
 refine yY (xq 3 [(3,.p 3 0),(6,.p 6 0),yJ 7 0] [(6,29,[.v (yI 0),.v (yI 0),.v (.slice none 0 0)]),(3,29,[.v (yI (n:Int)),.v (yI (n:Int)),.v (.slice A o.length cap)])] ?_)
 refine yZ (yY (xq 2 [yJ 11 (b:Int),(12,.v (.agg #[yI (n:Int), yI (n:Int),.slice A o.length cap]))] [] ?_))
 refine yD (d:=13) (fun K:{b:Nat // m0≤b}=>.slice (yL K.1) 1 1) (fun K Y=>Blk 29 Y K.1 #[yI (n:Int), yI (n:Int),.slice A o.length cap]) (fun w R Q=>aB (m0:=m0) (q ▸ R.size) (t:=179) (e:=29) (n:=1) (sz:=3) (z:=.agg #[yI 0, yI 0,.slice none 0 0]) (parts:=#[(0,Operand.tmp 12)]) qK qK qK qK qK qK) fun⟨y,S⟩=>?_
 refine xr 0 [yJ 1 (b:Int),(2,.v (.func (.func 57) #[] #[])),(6,.p 6 0),yJ 7 0,yJ 11 (b:Int),eS1 13 (yL y) 1 1] [(6,29,[.v (yI 0),.v (yI 0),.v (.slice none 0 0)])] ?_
 refine xqc 76 [yI (b:Int),.slice (yL y) 1 1] 14 (fun x:{x:Nat × List Mx // x.2.map mxV=[(⟨n,n,A,cap,o⟩:Fm)].map fmV∧m0≤x.1}=>.tuple #[.slice (yL x.1.1) 1 1, yI 0]) _ (fun w R Q=>(Zfj 0 y 1 [⟨n,n,A,cap,o⟩] b _ (show OwnD _ 0 29 3 _ 1 1 ([(⟨n,n,A,cap,o⟩:Fm)].flatMap fmC) from OwnD.ofBlk (xs:=fmC ⟨n,n,A,cap,o⟩) Q.2 (vQ _) rfl qD (Zjb _)) rfl qD (fun x G=>by rw[sE.1 G];exact OwnD.mono (OwnD.ext X R) (vQ _)) (fun x G=>by rw[sE.1 G];exact u) E F).mono (fun _ _ h=>ZgT (m0:=m0) (q ▸ R.size) h)) fun L=>?_
 obtain⟨⟨B,I⟩,H,T⟩:=L
 have s:I.length=1:=by have:=vK List.length H;rw[vH,vH] at this;exact this
 refine xq 5 [eS1 8 (yL B) 1 1,yJ 9 0] [] ?_
 refine yZ (zC (yY (xq 2 [yB 18 false] [] ?_)))
 refine yZ (xb (zI (zA (yY (xq 2 [(21,.v (.func (.func 57) #[] #[])),eS1 22 (yL B) 1 1] [] ?_)))))
 refine xqk 23 (atA (yL B) (0*3)) (fun w R Q=>xQ (t:=123) (e:=97) (sz:=3) (x:=.tmp 22) (ix:=.const (yI 0)) (len:=1) (cap:=1) (i:=0) qS qD) ?_
 obtain⟨a,k⟩:∃ x,I[0]! = x:=⟨_,rfl⟩
 refine xqk 24 (.agg #[yI ((a.r:Nat):Int), yI ((a.c:Nat):Int),.slice a.A a.xs.length a.cap]) (fun w R Q=>by rw[←k];exact eN (t:=97) (x:=.tmp 23) (j:=0) Q.2.1 Zch (by rw[s];decide)) ?_
 obtain⟨Z,e2,M⟩:=Zjd H s k
 have e4:a.xs.length=n*n:=by have:=vK List.length M;rw[vH,vH] at this;rw[this];exact u.hn
 refine xq 1 [yJ 25 (b:Int)] [] ?_
 refine xqc 57 [.agg #[yI ((a.r:Nat):Int), yI ((a.c:Nat):Int),.slice a.A a.xs.length a.cap], yI (b:Int)] 26 (fun x:{x:Nat × List Nb // x.2.map nbV=l∧m0≤x.1}=>.tuple #[.agg #[yI (n:Int), yI (n:Int),.slice (yL x.1.1) x.1.2.length x.1.2.length], yI 0]) _ (fun w R Q=>((show Calls _ _ _ _ (ZbG (fun v=>.tuple #[v, yI 0]) n n l _) by rw[Z,e2,e4];exact Zo8 m0 n a.A a.cap a.xs b l _ (P.ext R) (by have h:=(Q.2.2 _ (xV (by rw[s];decide:0<I.length))).1;rw[k,e4] at h;exact h) (by have h:=(Q.2.2 _ (xV (by rw[s];decide:0<I.length))).2;rw[k] at h;exact h) e4 u.hr.2 E F (Zje u M) (by rw[M];exact J))).mono (fun _ _ h=>ZgS (sh:=fun v=>.tuple #[v, yI 0]) (m0:=m0) (q ▸ R.size) h)) fun L=>?_
 obtain⟨⟨C,f⟩,g,U⟩:=L
 refine xq 2 [(27,.v (.agg #[yI (n:Int), yI (n:Int),.slice (yL C) f.length f.length])),yJ 28 0] [] ?_
 have N:(f.map ftV)=l.map ftW:=by rw[←g,pW];rfl
 have O:f.length≤4096:=by have V:=Zpc J;rw[←g,vH] at V;have:=vO u.hr.2 u.hr.2;rw[V];exact uC this qD
 refine xqc 77 [.agg #[yI (n:Int), yI (n:Int),.slice (yL C) f.length f.length], yI 0] 29 (fun b:{b:Nat // m0≤b}=>.tuple #[.agg #[yI (n:Int), yI (n:Int),.slice (yL b.1) (l.map ftW).length (l.map ftW).length], yI 0]) _ (fun w R Q=>((show Calls _ _ _ _ (ZaD (fun v=>.tuple #[v, yI 0]) n n (l.map ftW) _) by rw[←N];exact Zl2 m0 n n (yL C) f.length f.length f _ Q.2.1 Q.2.2 rfl (P.ext R) O (fun x G=>(fun h=>⟨uC h.1 qD,h.2.2.2⟩:FvOk (nbV x)→_) (ZqJ (ZkZ u) qO qO J _ (by rw[←g];exact oE G))))).mono (fun _ _ h=>ZaR (sh:=fun v=>.tuple #[v, yI 0]) (m0:=m0) (q ▸ R.size) h)) fun⟨D,W⟩=>?_
 refine xq 4 [yJ 7 0] [(6,29,[.v (yI (n:Int)),.v (yI (n:Int)),.v (.slice (yL D) (l.map ftW).length (l.map ftW).length)])] ?_
 refine yZ (zG ?_)
 refine yR (.tuple #[.agg #[yI (n:Int), yI (n:Int),.slice (yL D) (l.map ftW).length (l.map ftW).length], yI 0]) fun w' R Q=>?_
 exact⟨D,rfl,q ▸ Q.2,R⟩
theorem Zjg (ml n:Nat)(A:qA)(cap:Nat)(a:List (ByteArray×Int))(b:Nat)(c:List Fv3)(w:World)(j:Glob w)(k:OwnD w ml 76 2 A cap a.length (a.flatMap flC))(l:FmG ⟨n,n,A,cap,a⟩)(f:8≤b)(g:b≤1024)(o:Zc0 b (a.map ldV) n=some c) :
 yA 34 #[.agg #[.int .i64 ((n:Nat):Int),.int .i64 ((n:Nat):Int),.slice A a.length cap],.int .i64 ((b:Nat):Int)] w (ZaD (fun v=>.tuple #[v,.int .i64 0]) n n (c.map ftW) w):=by
 obtain⟨m0,e⟩:∃ m,m=w.heap.size:=⟨_,rfl⟩
 refine zQ (Φ:=fun w=>True) func34 rfl qK (fun w' q=>trivial) ?_
 refine yY (xq 3 [(2,.p 2 0),(4,.p 4 0),yJ 5 0] [(4,29,[.v (yI 0),.v (yI 0),.v (.slice none 0 0)]),(2,29,[.v (yI (n:Int)),.v (yI (n:Int)),.v (.slice A a.length cap)])] ?_)
 refine yZ (yY (xq 2 [(6,.v (.agg #[yI (n:Int), yI (n:Int),.slice A a.length cap])),yJ 7 (b:Int)] [] ?_))
 refine xqc 53 [.agg #[yI (n:Int), yI (n:Int),.slice A a.length cap], yI (b:Int),.func (.func 57) #[] #[]] 8 (fun b:{b:Nat // m0≤b}=>.tuple #[.agg #[yI (n:Int), yI (n:Int),.slice (yL b.1) (c.map ftW).length (c.map ftW).length], yI 0]) _ (fun w R Q=>(Zl4 ml n A cap a b c _ (j.ext R) (OwnD.ext k R) l f g o).mono (fun _ _ h=>ZaR (sh:=fun v=>.tuple #[v, yI 0]) (m0:=m0) (e ▸ R.size) h)) fun⟨d,i⟩=>?_
 refine xq 4 [yJ 5 0] [(4,29,[.v (yI (n:Int)),.v (yI (n:Int)),.v (.slice (yL d) (c.map ftW).length (c.map ftW).length)])] ?_
 refine yZ (zG ?_)
 refine yR (.tuple #[.agg #[yI (n:Int), yI (n:Int),.slice (yL d) (c.map ftW).length (c.map ftW).length], yI 0]) fun w' R Q=>?_
 exact⟨d,rfl,e ▸ Q.2,R⟩
end Go.Proofs.YtenchljfmfgeoaaGreatDoor
namespace Go.Proofs.YtenchljfmfgeoaaGreatDoor
theorem few (s:Bool){n o j b:Nat}(e:Int)(d:0<b)(a:n=o*2^j)(c:o%2=1)(f:n<2^b)(g:okE (e+(j:Int))):wK s n 1 e b=⟨s,o,e+(j:Int),0⟩:=by
 have h:0<n:=by rw[a];exact sH qO (p2 j)
 rw[←kU s n e d]
 unfold lC
 rw[uQ (xW.2 f)]
 unfold wP
 rw[uL qO,a,Za3 c,Zb9 c,uQ g]
theorem ZbJ {e:Int}(a : -1000≤e)(b:e≤1000):okE e:=by unfold okE;omega
theorem rd4:wX [52]=some ((4:Int):Rat):=Za6.2 (cS (n:=4) qD qD qD)
theorem rd2:wX [50]=some ((2:Int):Rat):=Za6.2 (cS (n:=2) qD qD qD)
theorem rd5:wX [53]=some ((5:Int):Rat):=Za6.2 (cS (n:=5) qD qD qD)
theorem Zl5 {l:List UInt8}{n o j:Nat}(h:wX l=some ((n:Int):Rat))(a:n=o*2^j)(b:o%2=1)(c:n<256)(d:j≤1000):kK l 8=⟨false,o,(j:Int),0⟩:=by
 unfold kK
 rw[uQ (by rw[h];rfl),uQ qO,bG h]
 unfold rndF
 rw[qP,oH]
 show wK (decide ((n:Int)<0)) n 1 0 8=_
 rw[show decide ((n:Int)<0)=false from uZ qO,few false 0 qD a b c (ZbJ qO qO),Int.zero_add]
theorem r4:kK [52] 8=⟨false,1,2,0⟩:=Zl5 (n:=4) (o:=1) (j:=2) rd4 qD qD qD qD
theorem r2:kK [50] 8=⟨false,1,1,0⟩:=Zl5 (n:=2) (o:=1) (j:=1) rd2 qD qD qD qD
theorem r5:kK [53] 8=⟨false,5,0,0⟩:=Zl5 (n:=5) (o:=5) (j:=0) rd5 qD qD qD qD
theorem Zjh {n:Nat}{c:UInt8}(a:Lib.decDigits n=[c]):Lib.itoa ((n:Nat):Int)=[c]:=by rw[fI,a]
theorem it1:Lib.itoa 1=[49]:=Zjh (n:=1) (by rw[fT qO];rfl)
theorem it5:Lib.itoa 5=[53]:=Zjh (n:=5) (by rw[fT qO];rfl)
theorem it2:Lib.itoa 2=[50]:=Zjh (n:=2) (by rw[fT qO];rfl)
theorem Zji {c d:UInt8}{o:Nat}{e:Int}(h:kK [c] 8=⟨false,o,e,0⟩)(a:Lib.itoa (sg false o)=[d]):rdF 8 ⟨#[c]⟩=(⟨#[d]⟩,e):=by
 unfold rdF
 rw[show bytes ⟨#[c]⟩=[c] from rfl,h]
 show ((⟨(Lib.itoa (sg false o)).toArray⟩:ByteArray),e)=_
 rw[a]
def kF:List (ByteArray×Int):=[(⟨#[49]⟩,2),(⟨#[49]⟩,1),(⟨#[49]⟩,1),(⟨#[53]⟩,0)]
theorem Zpd:[(⟨#[52]⟩:ByteArray),⟨#[50]⟩,⟨#[50]⟩,⟨#[53]⟩].map (rdF 8)=kF:=by
 simp only[oF,oQ]
 rw[Zji r4 it1,Zji r2 it1,Zji r5 it5]
 rfl
def kA:List Fv3:=[(false,1,2),(false,1,1),(false,1,1),(false,5,0)]
theorem ZqK:kF.map ldV=kA:=by
 unfold kF kA
 simp only[oF,oQ]
 refine congr (vK _ ?_) (congr (vK _ ?_) (congr (vK _ ?_) (congr (vK _ ?_) rfl)))
 all_goals (unfold ldV ldR;rw[uQ qD];rfl)
theorem Zez {r:FR}{s:Bool}{m:Nat}{e:Int}(h:r=⟨s,m,e,0⟩):musT r=some (s,m,e):=by subst h;rfl
theorem ZrE:blen 1=1:=Zeu (k:=0) qD qD
theorem Zk2:musT (cI (false,1,2) 8)=some (false,1,1):=by
 refine Zez ?_
 show fC false 1 2 8=_
 unfold fC
 rw[uL qD,uL qD]
 have a:sqK 1 2 8 = -6:=by unfold sqK;rw[ZrE];decide
 have b:fq 1 1 (-16)=65536:=by have:=ZaK 1 16;rw[show (-((16:Nat):Int)) = -16 from rfl] at this;rw[this]
 have hi:isq 65536=256:=Zf0 qD qD
 have c:sqM 1 2 8=128:=by
  unfold sqM jY
  rw[a,show (2:Int)-2*(-6)+2=16 from rfl,b,hi]
  decide
 unfold Zay wP
 rw[a,c,uL qD,show (128:Nat)=1*2^7 from rfl,Za3 qD,Zb9 qD,uQ (ZbJ qD qD)]
 rfl
theorem ZrF:musT (divV (false,1,1) (false,1,1) 8)=some (false,1,0):=by
 refine Zez ?_
 show Zbv false 1 1 0 8=_
 unfold Zbv
 rw[uL qD]
 exact few (n:=1) (o:=1) (j:=0) (b:=8) false 0 qD qD qD qD (ZbJ qD qD)
theorem ZrG:cJ (false,5,0) (false,1,0) (false,1,0) 8=some (false,1,2):=by
 unfold cJ
 rw[show musT (mulV (false,1,0) (false,1,0) 8)=some (false,1,0) from Zez (few (n:=1) (o:=1) (j:=0) false 0 qD qD qD qD (ZbJ qD qD))]
 show musT (subV (false,5,0) (false,1,0) 8)=_
 refine Zez ?_
 show sumR false 5 0 true 1 0 8=_
 unfold sumR addR
 rw[uL qD,uL qD]
 exact few (n:=4) (o:=1) (j:=2) (b:=8) false 0 qD qD qD qD (ZbJ qD qD)
theorem Zfk {b n i j f:Nat}{A L:List Fv3}{t v:Fv3}(a:chK b L i j n j 0 (at3 A (i*n+j))=some t)(Q:chE b L i j n t=some v):chI b A n j (f+1) i L=chI b A n j f (i+1) (L.set (i*n+j) v):=by
 show (chK b L i j n j 0 (at3 A (i*n+j))).bind _=_
 rw[a]
 show (chE b L i j n t).bind _=_
 rw[Q]
 rfl
def kL:List Fv3:=[(false,1,1),(false,0,0),(false,1,0),(false,1,1)]
theorem ZqL:Zc0 8 kA 2=some kL:=by
 have a:chI 8 kA 2 0 2 0 [(false,0,0),(false,0,0),(false,0,0),(false,0,0)]=some [(false,1,1),(false,0,0),(false,1,0),(false,0,0)]:=by
  rw[Zfk (t:=(false,1,2)) (v:=(false,1,1)) rfl (by unfold chE;rw[uL qD,uL qD];exact Zk2)]
  rw[Zfk (t:=(false,1,1)) (v:=(false,1,0)) rfl (by unfold chE;rw[uQ qD];exact ZrF)]
  rfl
 have b:chI 8 kA 2 1 1 1 [(false,1,1),(false,0,0),(false,1,0),(false,0,0)]=some kL:=by
  rw[Zfk (t:=(false,1,2)) (v:=(false,1,1)) (by show (cJ (false,5,0) (false,1,0) (false,1,0) 8).bind _=_;rw[ZrG];rfl) (by unfold chE;rw[uL qD,uL qD];exact Zk2)]
  rfl
 show (chI 8 kA 2 0 2 0 [(false,0,0),(false,0,0),(false,0,0),(false,0,0)]).bind _=_
 rw[a]
 show (chI 8 kA 2 1 1 1 [(false,1,1),(false,0,0),(false,1,0),(false,0,0)]).bind _=_
 rw[b]
 rfl
def kG:List (ByteArray×Int):=[(⟨#[49]⟩,1),(⟨#[48]⟩,0),(⟨#[49]⟩,0),(⟨#[49]⟩,1)]
theorem ZnN:kL.map ftW=kG:=by
 unfold kL kG
 simp only[oF,oQ]
 unfold ftW
 show [((⟨(Lib.itoa 1).toArray⟩:ByteArray),(1:Int)),(⟨(Lib.itoa 0).toArray⟩,0),(⟨(Lib.itoa 1).toArray⟩,0),(⟨(Lib.itoa 1).toArray⟩,1)]=_
 rw[it1,ZdX]
theorem Zpe:kG.map exV=[⟨#[50]⟩,⟨#[48]⟩,⟨#[49]⟩,⟨#[50]⟩]:=by
 have a:flM [49]=1:=qD
 have b:exT [49] 1=[50]:=by
  unfold exT;rw[uQ (fv_1 qD qD),a,uL qD,uL qD];exact it2
 have c:exT [49] 0=[49]:=by
  unfold exT;rw[uQ (fv_1 qD qD),a,uL qD,uL qD];exact it1
 have d:exT [48] 0=[48]:=ZiX qD qD
 unfold kG
 simp only[oF,oQ]
 unfold exV
 show [(⟨(exT [49] 1).toArray⟩:ByteArray),⟨(exT [48] 0).toArray⟩,⟨(exT [49] 0).toArray⟩,⟨(exT [49] 1).toArray⟩]=_
 rw[b,c,d]
end Go.Proofs.YtenchljfmfgeoaaGreatDoor
namespace Go.Proofs.YtenchljfmfgeoaaGreatDoor
open Go.RowKit Tryz
def kS:List ByteArray:=[⟨#[52]⟩,⟨#[50]⟩,⟨#[50]⟩,⟨#[53]⟩]
theorem ZrH {w:World}{b:Nat}(h:Blk 9 w b #[.string ⟨#[52]⟩,.string ⟨#[50]⟩,.string ⟨#[50]⟩,.string ⟨#[53]⟩]):SRd w (some ⟨b,0,none⟩) kS:=fun i hi=>by
 refine⟨b,0,rfl,h.lt,?_⟩
 rw[h.cell,vW]
 match i,hi with
 | 0,_=>rfl
 | 1,_=>rfl
 | 2,_=>rfl
 | 3,_=>rfl
theorem Zpf:mtB (2:Nat) (2:Nat) kS=true:=by
 unfold mtB
 rw[vS qD,Bool.true_and]
 show ([(⟨#[52]⟩:ByteArray),⟨#[50]⟩,⟨#[50]⟩,⟨#[53]⟩]:List ByteArray).all (fun s=>(wX (bytes s)).isSome)=true
 simp only[rK,List.all_nil]
 rw[show bytes ⟨#[52]⟩=[52] from rfl,show bytes ⟨#[50]⟩=[50] from rfl,show bytes ⟨#[53]⟩=[53] from rfl,rd4,rd2,rd5]
 rfl
theorem ZrI:∀ s∈kS,(kK (bytes s) 8).err=0:=fun s a=>by
 simp only[kS,pJ,oZ,or_false] at a
 rcases a with rfl|rfl|rfl|rfl
 ·rw[show bytes ⟨#[52]⟩=[52] from rfl,r4]
 ·rw[show bytes ⟨#[50]⟩=[50] from rfl,r2]
 ·rw[show bytes ⟨#[50]⟩=[50] from rfl,r2]
 rw[show bytes ⟨#[53]⟩=[53] from rfl,r5]
theorem kF_g (A:qA)(cap:Nat):FmG ⟨2,2,A,cap,kF⟩:=by
 refine⟨by show 1≤2∧2≤32;decide,by show 1≤2∧2≤32;decide,rfl,fun f a=>?_,fun f a=>?_⟩
 all_goals (simp only[kF,pJ,oZ,or_false] at a;rcases a with rfl|rfl|rfl|rfl<;>decide)
theorem kG_g (A:qA)(cap:Nat):FmG ⟨2,2,A,cap,kG⟩:=by
 refine⟨by show 1≤2∧2≤32;decide,by show 1≤2∧2≤32;decide,rfl,fun f a=>?_,fun f a=>?_⟩
 all_goals (simp only[kG,pJ,oZ,or_false] at a;rcases a with rfl|rfl|rfl|rfl<;>decide)
theorem kG_x:∀ x∈kG,-1000≤x.2∧x.2≤1000:=fun f a=>by
 simp only[kG,pJ,oZ,or_false] at a
 rcases a with rfl|rfl|rfl|rfl<;>decide
theorem ZqM {m0:Nat}{w w':World}{e:Ending}(c:m0≤w.heap.size)(h:∃ b,e=.returned (.tuple #[.agg #[.int .i64 ((2:Nat):Int),.int .i64 ((2:Nat):Int),.slice (some ⟨b,0,none⟩) kG.length kG.length],.int .i64 0])∧OwnD w' w.heap.size 9 1 (some ⟨b,0,none⟩) kG.length kG.length ((kG.map exV).flatMap stC)∧Ext w w') :
 lQ (fun b:{b:Nat // m0≤b}=>.tuple #[.agg #[.int .i64 2,.int .i64 2,.slice (some ⟨b.1,0,none⟩) 4 4],.int .i64 0]) (fun b w=>OwnD w m0 9 1 (some ⟨b.1,0,none⟩) 4 4 [.string ⟨#[50]⟩,.string ⟨#[48]⟩,.string ⟨#[49]⟩,.string ⟨#[50]⟩]) w e w':=by
 obtain⟨b,rfl,a,Q⟩:=h
 rw[Zpe] at a
 exact⟨⟨b,uC c (a.blk rfl).1⟩,rfl,Q,a.boxN c⟩
theorem Zj8 (w:World)(o:Glob w) :
 yA 9 #[] w (RetV w (.bool true)):=by
 obtain⟨m0,j⟩:∃ m,m=w.heap.size:=⟨_,rfl⟩
 refine zQ (Φ:=fun w=>True) func9 rfl qK (fun w' C=>trivial) ?_
 refine yY (xq 1 [yB 0 false] [] ?_)
 refine yZ (zC (zB ?_))
 refine yD (d:=8) (fun q:{b:Nat // m0≤b}=>.slice (yL q.1) 4 4) (fun q B=>Blk 9 B q.1 #[.string ⟨#[52]⟩,.string ⟨#[50]⟩,.string ⟨#[50]⟩,.string ⟨#[53]⟩]) (fun w R Q=>aB (m0:=m0) (j ▸ R.size) (t:=22) (e:=9) (n:=4) (sz:=1) (z:=.string ⟨#[]⟩) (parts:=#[(0,Operand.const (Value.string { data:=#[52] })),(1,Operand.const (Value.string { data:=#[50] })),(2,Operand.const (Value.string { data:=#[50] })),(3,Operand.const (Value.string { data:=#[53] }))]) qK qK qK qK qK qK) fun⟨l,s⟩=>?_
 refine xr 1 [yB 0 false,(9,.v (.agg #[yI 2, yI 2,.slice (yL l) 4 4]))] [] ?_
 refine xqc 10 [.agg #[yI 2, yI 2,.slice (yL l) 4 4], yI 8] 10 (fun b:{b:Nat // m0≤b}=>.tuple #[.agg #[yI 2, yI 2,.slice (yL b.1) 4 4], yI 0]) _ (fun w R Q=>((show Calls _ _ _ _ (ZpA 2 2 kF _) by rw[←Zpd];exact Zhu 2 2 (yL l) 4 kS 8 _ (o.ext R) (ZrH Q.2) qD Zpf qD qD qD qD qD ZrI)).mono (fun _ _ h=>ZaR (sh:=fun v=>.tuple #[v, yI 0]) (m0:=m0) (r:=2) (c:=2) (j ▸ R.size) h)) fun⟨k,u⟩=>?_
 refine xq 6 [(1,.p 1 0),yJ 2 0] [(1,29,[.v (yI 2),.v (yI 2),.v (.slice (yL k) 4 4)])] ?_
 refine yZ (yY (xq 1 [(14,.v (.agg #[yI 2, yI 2,.slice (yL k) 4 4]))] [] ?_))
 refine xqc 34 [.agg #[yI 2, yI 2,.slice (yL k) 4 4], yI 8] 15 (fun b:{b:Nat // m0≤b}=>.tuple #[.agg #[yI 2, yI 2,.slice (yL b.1) 4 4], yI 0]) _ (fun w R Q=>((show Calls _ _ _ _ (ZaD (fun v=>.tuple #[v, yI 0]) 2 2 kG _) by rw[←ZnN];exact Zjg m0 2 (yL k) 4 kF 8 kL _ (o.ext R) Q.2 (kF_g _ _) qD qD (by rw[ZqK];exact ZqL))).mono (fun _ _ h=>ZaR (sh:=fun v=>.tuple #[v, yI 0]) (m0:=m0) (r:=2) (c:=2) (j ▸ R.size) h)) fun⟨f,y⟩=>?_
 refine xq 6 [(3,.p 3 0),yJ 4 0] [(3,29,[.v (yI 2),.v (yI 2),.v (.slice (yL f) 4 4)])] ?_
 refine yZ (yY (xq 1 [(19,.v (.agg #[yI 2, yI 2,.slice (yL f) 4 4]))] [] ?_))
 refine xqc 36 [.agg #[yI 2, yI 2,.slice (yL f) 4 4]] 20 (fun b:{b:Nat // m0≤b}=>.tuple #[.agg #[yI 2, yI 2,.slice (yL b.1) 4 4], yI 0]) _ (fun w R Q=>(ZlY m0 2 2 (yL f) 4 kG _ Q.2 (o.ext R) (kG_g (yL f) 4).hr (kG_g (yL f) 4).hc rfl (kG_g (yL f) 4).hv (kG_g (yL f) 4).hs kG_x).mono (fun _ _ h=>ZqM (m0:=m0) (j ▸ R.size) h)) fun⟨a,A⟩=>?_
 refine xq 6 [(5,.p 5 0),yJ 6 0] [(5,24,[.v (yI 2),.v (yI 2),.v (.slice (yL a) 4 4)])] ?_
 refine yZ (yY (xq 15 [yB 33 true,yB 37 ((((4:Nat):Int):Int) == 4)] [] ?_))
 rw[(show ((((4:Nat):Int):Int) == 4)=true from rfl)]
 refine xq 4 [yB 39 true,eS1 41 (yL a) 4 4] [] ?_
 refine xqk 42 (.pointer (some ⟨a,0+0*1,none⟩)) (fun w R Q=>iJ (t:=22) (e:=9) (sz:=1) (x:=.tmp 41) (ix:=(Operand.const (Value.int IntKind.i64 0))) (len:=4) (cap:=4) (i:=0) qD) ?_
 refine xqk 43 (.string ⟨#[50]⟩) (fun w R Q=>xZ (t:=9) (x:=.tmp 42) (g:=a) (off:=0) (OwnD.news Q.2 0 _ rfl)) ?_
 refine xq 1 [yB 44 ((⟨#[50]⟩:ByteArray).toList == (⟨#[50]⟩:ByteArray).toList)] [] ?_
 rw[ZcB]
 refine xq 4 [yB 46 true,eS1 48 (yL a) 4 4] [] ?_
 refine xqk 49 (.pointer (some ⟨a,0+1*1,none⟩)) (fun w R Q=>iJ (t:=22) (e:=9) (sz:=1) (x:=.tmp 48) (ix:=(Operand.const (Value.int IntKind.i64 1))) (len:=4) (cap:=4) (i:=1) qD) ?_
 refine xqk 50 (.string ⟨#[48]⟩) (fun w R Q=>xZ (t:=9) (x:=.tmp 49) (g:=a) (off:=1) (OwnD.news Q.2 1 _ rfl)) ?_
 refine xq 1 [yB 51 ((⟨#[48]⟩:ByteArray).toList == (⟨#[48]⟩:ByteArray).toList)] [] ?_
 rw[ZcB]
 refine xq 4 [yB 53 true,eS1 55 (yL a) 4 4] [] ?_
 refine xqk 56 (.pointer (some ⟨a,0+2*1,none⟩)) (fun w R Q=>iJ (t:=22) (e:=9) (sz:=1) (x:=.tmp 55) (ix:=(Operand.const (Value.int IntKind.i64 2))) (len:=4) (cap:=4) (i:=2) qD) ?_
 refine xqk 57 (.string ⟨#[49]⟩) (fun w R Q=>xZ (t:=9) (x:=.tmp 56) (g:=a) (off:=2) (OwnD.news Q.2 2 _ rfl)) ?_
 refine xq 1 [yB 58 ((⟨#[49]⟩:ByteArray).toList == (⟨#[49]⟩:ByteArray).toList)] [] ?_
 rw[ZcB]
 refine xr 4 [yB 0 false,yB 60 true,eS1 62 (yL a) 4 4] [] ?_
 refine xqk 63 (.pointer (some ⟨a,0+3*1,none⟩)) (fun w R Q=>iJ (t:=22) (e:=9) (sz:=1) (x:=.tmp 62) (ix:=(Operand.const (Value.int IntKind.i64 3))) (len:=4) (cap:=4) (i:=3) qD) ?_
 refine xqk 64 (.string ⟨#[50]⟩) (fun w R Q=>xZ (t:=9) (x:=.tmp 63) (g:=a) (off:=3) (OwnD.news Q.2 3 _ rfl)) ?_
 refine xq 1 [yB 65 ((⟨#[50]⟩:ByteArray).toList == (⟨#[50]⟩:ByteArray).toList)] [] ?_
 rw[ZcB]
 refine xq 2 [yB 0 true] [] ?_
 refine yZ (zG ?_)
 refine yR (.bool true) fun w' R Q=>?_
 exact⟨rfl,R⟩
theorem ZqN {m0 n c:Nat}{ys:List Qr}{w w':World}{e:Ending}(b:m0≤w.heap.size)(h:ZhX n c ys w e w') :
 lQ (fun x:Option Addr×Nat=>.agg #[.int .i64 ((n:Nat):Int),.int .i64 ((c:Nat):Int),.slice x.1 (n*c) x.2]) (fun x w=>OwnD w m0 9 1 x.1 x.2 (n*c) ((ys.flatMap (fun r=>r.xs.map qT)).flatMap stC)) w e w':=by
 obtain⟨A,a,rfl,d,Q⟩:=h
 exact⟨(A,a),rfl,Q,d.boxN b⟩
theorem Zhx (w:World) :
 yA 12 #[.agg #[.int .i64 0,.int .i64 0,.slice none 0 0],.agg #[.int .i64 0,.int .i64 0,.slice none 0 0]] w (RetV w (.bool true)):=by
 refine zQ (Φ:=fun w=>True) func12 rfl qK (fun w' e=>trivial) ?_
 refine yY (xq 3 [(2,.p 2 0),(3,.p 3 0),yB 4 false] [(3,29,[.v (yI 0),.v (yI 0),.v (.slice none 0 0)]),(2,29,[.v (yI 0),.v (yI 0),.v (.slice none 0 0)])] ?_)
 refine yZ (zC (yY (xq 21 [yB 26 false] [] ?_)))
 refine yZ (xb (zI (zA (zC (yY (xq 4 [yJ 29 0,yJ 30 0] [] ?_))))))
 refine yZ (zP ?_)
 refine yC [(2,.p 2 0),(3,.p 3 0),yB 4 false,yJ 29 0,yJ 30 0] [(3,29,[.v (yI 0),.v (yI 0),.v (.slice none 0 0)]),(2,29,[.v (yI 0),.v (yI 0),.v (.slice none 0 0)])] (fun w=>True) (fun w Q=>trivial) ?_
 refine xU (fun a b c=>∃ (d:Nat),b=ofL [(2,.p 2 0),(3,.p 3 0),yB 4 false,yJ 29 0,yJ 30 0] [(3,29,[.v (yI 0),.v (yI 0),.v (.slice none 0 0)]),(2,29,[.v (yI 0),.v (yI 0),.v (.slice none 0 0)])]∧c=(fun w=>True)∧a=1) (1) ⟨0,rfl,rfl,rfl⟩ ?_
 rintro a b c ⟨d,rfl,rfl,rfl⟩
 refine yY (xq 1 [yB 31 false] [] ?_)
 refine yZ (zC (xb (xO (zH (zH (xY (zA (yY (xq 1 [yB 4 true] [] ?_)))))))))
 refine yZ (zG ?_)
 refine yR (.bool true) fun w' R Q=>?_
 exact⟨rfl,R⟩
theorem ZnO (e b n c:Nat)(ys:List Qr)(w:World)(l:OwnD w e 61 1 (some ⟨b,0,none⟩) n n (ys.flatMap qrC))(j:RsOk e w ys)(o:ys.length=n)(f:0<n)(r:n≤64)(g:0<c)(i:c≤64)(s:∀ y∈ys,y.xs.length=c)(t:∀ y∈ys,∀ x∈y.xs,ml x.q.num.natAbs≤65536∧ml x.q.den≤65536) :
 yA 16 #[.slice (some ⟨b,0,none⟩) n n] w (ZhX n c ys w):=by
 obtain⟨m0,d⟩:∃ m,m=w.heap.size:=⟨_,rfl⟩
 refine zQ (Φ:=fun w=>True) func16 rfl qK (fun w' u=>trivial) ?_
 refine yY (xq 1 [(2,.p 2 0)] [(2,24,[.v (yI 0),.v (yI 0),.v (.slice none 0 0)])] ?_)
 refine yZ (yY (xq 1 [eS1 3 (yL b) n n] [] ?_))
 refine xqc 43 [.slice (yL b) n n] 4 (fun x:Option Addr×Nat=>.agg #[yI (n:Int), yI (c:Int),.slice x.1 (n*c) x.2]) _ (fun w R Q=>(Zpa e b n c ys _ (OwnD.ext l R) (fun y k=>⟨OwnD.ext (j y k).1 R,QsOk.ext (j y k).2 R⟩) o f r g i s t).mono (fun _ _ h=>ZqN (m0:=m0) (d ▸ R.size) h)) fun⟨A,a⟩=>?_
 refine xq 1 [] [(2,24,[.v (yI (n:Int)),.v (yI (c:Int)),.v (.slice A (n*c) a)])] ?_
 refine yZ (zG ?_)
 refine yR (.agg #[yI (n:Int), yI (c:Int),.slice A (n*c) a]) fun w' R Q=>?_
 exact⟨A,a,rfl,d ▸ Q.2,R⟩
instance {p q m0:Nat}:Nonempty {x:Nat × List Qr // x.2.map (fun r=>r.xs.map (·.q))=List.replicate p (List.replicate q 0)∧m0≤x.1}:=⟨⟨(m0,List.replicate p ⟨none,0,List.replicate q qv0⟩),by
 refine⟨?_,uH _⟩
 rw[List.map_replicate,List.map_replicate];rfl⟩⟩
theorem ZqO {w:World}{m c n:Nat}{A:qA}{ts:List ByteArray}(h:OwnD w m 9 1 A c n (ts.flatMap stC)):SRd w A ts:=fun i hi=>by
 have d:=dM ZaQ ts i 0 hi qD
 obtain⟨b,e,f,a⟩:=h.at (v:=.string ts[i]!) d
 exact⟨b,0,e,f,by rw[tU,tD] at a;exact a⟩
theorem rd0:wX [48]=some ((0:Int):Rat):=Za6.2 (cS (n:=0) qD qD qD)
theorem r0:kK [48] 8=⟨false,0,0,0⟩:=by
 unfold kK
 rw[uQ (by rw[rd0];rfl),uQ qO,bG rd0]
 rfl
structure Ef where
 s:Bool
 A:Option Addr
 l:Nat
 c:Nat
 e:Int
 z:Int
def ef0:Ef:=⟨false,none,0,0,0,0⟩
instance:Inhabited Ef:=⟨ef0⟩
instance {β:Type} {m:Nat} {ys:List (Mr β)}:Nonempty {b:Nat // m≤b∧∀ y∈ys,y.A≠some ⟨b,0,none⟩}:=by
 refine⟨⟨m+(ys.map (fun y=>match y.A with | some a=>a.block+1 | none=>0)).sum,Nat.le_add_right _ _,fun y hy h=>?_⟩⟩
 have h1:∀ (l:List (Mr β)),y∈l→(match y.A with | some a=>a.block+1 | none=>0)≤(l.map (fun y=>match y.A with | some a=>a.block+1 | none=>0)).sum:=fun l hl=>by
  induction l with
  | nil=>cases hl
  | cons x l ih =>
   rw[oF,List.sum_cons]
   rcases pJ.1 hl with e|e
   ·subst e;exact Nat.le_add_right _ _
   have:=ih e;omega
 have h2:=h1 ys hy
 rw[h] at h2
 dsimp only at h2
 omega
theorem ZnP {w:World}{s:Bool}{A:qA}{l c:Nat}{z:Int}(h:zZ w (.agg #[.bool s,.slice A l c]) z):zU w (.agg #[.bool s,.slice A l c,.bool false,.slice none 0 0]) ((z:Int):Rat):=⟨s,false,A,none,l,c,0,0,rfl,h,zZ.nil w⟩
theorem zU.rowUp {w w':World}{m n c k:Nat}{e:TypeId}{A:qA}{xs:List Value}{v:Value}{z:Rat}(h:zU w v z)(a:OwnD w m e k A c n xs)(b:Fr (fun i=>A=some ⟨i,0,none⟩) w w'):zU w' v z:=h.nrb (fun _ hi=>a.nrb hi) b
section
variable {w w':World} {m m0 n c k i j:Nat} {e:TypeId} {A A':Option Addr} {l:List Value} {ms rs:List (Mr Qv)} {τ:Tap}
def QMs (w:World) (ms:List (Mr Qv)):Prop:=∀ y∈ms,QsOk w y.xs
theorem QMs.nrb {S:Nat→Prop}(h:QMs w ms)(a:∀ i,S i→NRB w i)(b:Fr S w w'):QMs w' ms:=fun y d=>(h y d).nrb a b
theorem QMs.ext (h:QMs w ms)(a:Ext w w'):QMs w' ms:=fun y b=>(h y b).ext a
theorem QMs.row (h:QMs w ms)(a:OwnD w m e k A c n l)(b:Fr (fun i=>A=some ⟨i,0,none⟩) w w'):QMs w' ms:=h.nrb (fun _ hi=>a.nrb hi) b
theorem QMs.tape (h:QMs w ms)(a:TOk τ w)(b:Fr (fun i=>i=τ.g) w w'):QMs w' ms:=h.nrb a.nrb' b
theorem QMs.zero (h:ms.map (·.xs)=List.replicate n (List.replicate c qv0)):QMs w ms:=fun y b=>by
 have a:y.xs∈ms.map (·.xs):=oE b
 rw[h] at a
 rw[(rS.1 a).2]
 exact QsOk.zero w c
theorem QMs.set {y:Mr Qv}{x:Qv}(h:QMs w ms)(hi:i<ms.length)(f:ms[i]! = y)(g:zU w (iO x.c) x.q):QMs w (ms.set i ⟨y.A,y.cap,y.xs.set j x⟩):=fun z p u d=>by
 rcases rE p with a|a
 ·exact h z a u d
 subst a
 rcases rE d with b|b
 ·exact h y (f ▸ xV hi) u b
 subst b;exact g
theorem MrOk.tape {α:Type}{enc:α→List Value}{ys:List (Mr α)}{g:Nat}(h:MrOk e k enc m w ys)(b:Fr (fun i=>i=g) w w')(f:g<m):MrOk e k enc m w' ys:=h.fr b (fun y d i hi a=>by
 have p:=((h.own y d).blk hi).1
 have a:i=g:=a
 omega)
theorem setg {α:Type}[Inhabited α]{l:List α}{i a:Nat}{x:α}(ha:a<l.length):(l.set i x)[a]! = if i=a then x else l[a]! := by
 rw[vZ _ a (by rw[tA];exact ha),List.getElem_set,vZ l a ha]
def QG (n c:Nat) (ms:List (Mr Qv)) (Z:Nat→Nat→Int):Prop:=ms.length=n∧(∀ a,a<n→ms[a]!.xs.length=c)∧∀ a b,a<n→b<c→ms[a]!.xs[b]!.q=((Z a b:Int):Rat)
def updZ (Z:Nat→Nat→Int) (i j:Nat) (z:Int):Nat→Nat→Int:=fun a b=>if i=a∧j=b then z else Z a b
theorem QG.zero (h:ms.map (·.xs)=List.replicate n (List.replicate c qv0)):QG n c ms (fun _ _=>0):=by
 have f:ms.length=n:=by have:=vK List.length h;rwa [vH,sG] at this
 have g:∀ a,a<n→ms[a]!.xs=List.replicate c qv0:=fun a d=>by
  have p:ms[a]!.xs∈ms.map (·.xs):=oE (xV (f.symm ▸ d))
  rw[h] at p
  exact (rS.1 p).2
 refine⟨f,fun a d=>by rw[g a d,sG],fun a b d q=>?_⟩
 rw[g a d,vZ _ b (by rw[sG];exact q),pF];rfl
theorem QG.cl {Z:Nat→Nat→Int}{x:Mr Qv}(h:QG n c ms Z)(hi:i<n)(a:ms[i]! = x)(b:j<c):j<x.xs.length:=by rw[←a,h.2.1 i hi];exact b
theorem QG.mem {Z:Nat→Nat→Int}{x:Mr Qv}(h:QG n c ms Z)(hi:i<n)(a:ms[i]! = x):x∈ms:=a ▸ xV (h.1.symm ▸ hi)
theorem QG.q {Z:Nat→Nat→Int}{x:Mr Qv}{v:Qv}(h:QG n c ms Z)(hi:i<n)(a:ms[i]! = x)(b:j<c)(d:x.xs[j]! = v):v.q=((Z i j:Int):Rat):=by rw[←d,← a];exact h.2.2 i j hi b
theorem QG.congr {Z Y:Nat→Nat→Int}(h:QG n c ms Z)(e:∀ a b,a<n→b<c→Z a b=Y a b):QG n c ms Y:=⟨h.1,h.2.1,fun a b d f=>by rw[h.2.2 a b d f,e a b d f]⟩
theorem QG.set {Z:Nat→Nat→Int}{y:Mr Qv}{x:Qv}{z:Int}(h:QG n c ms Z)(hi:i<n)(s:ms[i]! = y)(B:x.q=((z:Int):Rat)):QG n c (ms.set i ⟨y.A,y.cap,y.xs.set j x⟩) (updZ Z i j z):=by
 obtain⟨p,u,v⟩:=h
 have f:y.xs.length=c:=s ▸ u i hi
 refine⟨by rw[tA];exact p,fun a d=>?_,fun a b d r=>?_⟩
 ·rw[setg (p.symm ▸ d)]
  by_cases e:i=a
  ·rw[uQ e];show (y.xs.set j x).length=c;rw[tA];exact f
  rw[uL e];exact u a d
 rw[setg (p.symm ▸ d)]
 unfold updZ
 by_cases e:i=a
 ·rw[uQ e]
  subst e
  show (y.xs.set j x)[b]!.q=_
  rw[setg (f.symm ▸ r)]
  by_cases g:j=b
  ·rw[uQ g,uQ ⟨rfl,g⟩];exact B
  rw[uL g,uL (fun h=>g h.2),← s];exact v i b d r
 rw[uL e,uL (fun h=>e h.1)];exact v a b d r
structure QIn (m:Nat) (w:World) (A:Option Addr) (cap n:Nat) (rs:List (Mr Qv)):Prop where
 row:∃ mq,OwnD w mq 61 1 A cap n (rs.flatMap mrC)
 rlt:∀ i,A=some ⟨i,0,none⟩→i<m
 rd:∀ y∈rs,RdD 59 4 qvC w y.A y.xs
 qs:QMs w rs
 lt:∀ y∈rs,∀ b off,y.A=some ⟨b,off,none⟩→b<m
theorem QIn.up {s u cap:Nat}(h:QIn m w A cap n rs)(a:OwnD w m e k A' s u l)(d:Fr (fun i=>A'=some ⟨i,0,none⟩) w w'):QIn m w' A cap n rs:=by
 obtain⟨⟨v,z⟩,p,B,C,q⟩:=h
 refine⟨⟨v,z.fr d (fun i hi f=>?_)⟩,p,fun y r=>(B y r).fr d (fun b g D E _ f=>?_),C.row a d,q⟩
 ·have F:=p i hi
  have G:=(a.blk f).1
  omega
 have F:=q y r b g E
 have G:=(a.blk f).1
 omega
theorem QIn.ext {cap:Nat}(h:QIn m w A cap n rs)(a:Ext w w'):QIn m w' A cap n rs:=by
 obtain⟨⟨b,d⟩,f,g,p,q⟩:=h
 exact⟨⟨b,d.ext a⟩,f,fun y r=>(g y r).ext a,p.ext a,q⟩
theorem QIn.of {cap:Nat}(d:OwnD w m0 61 1 A cap n (rs.flatMap mrC))(f:MrOk 59 4 qvC m w rs)(p:QMs w rs):QIn w.heap.size w A cap n rs:=by
 refine⟨⟨_,d⟩,fun i hi=>?_,fun y a=>(f.own y a).rd iB,p,fun y a b q hb=>?_⟩
 ·obtain⟨_,_,h,_⟩:=d.blk hi
  exact h.lt
 have r:=f.own y a
 rcases r.2 with ⟨s,_,_⟩|⟨g,u,v,B,z,_⟩
 ·rw[s] at hb;cases hb
 rw[v] at hb
 injection hb with hb
 injection hb with hb
 rw[←hb];exact z.lt
theorem QIn.ne {cap:Nat}(h:QIn m w A cap n rs)(hi:i<n):A≠none:=by obtain⟨b,a⟩:=h.row;exact OwnD.ne a hi
theorem QIn.rdat {cap:Nat}{Z:Nat→Nat→Int}{x:Mr Qv}(h:QIn m w A cap n rs)(a:QG n c rs Z)(hi:i<n)(b:rs[i]! = x):RdD 59 4 qvC w x.A x.xs:=h.rd x (a.mem hi b)
theorem QIn.rne {cap:Nat}{Z:Nat→Nat→Int}{x:Mr Qv}(h:QIn m w A cap n rs)(a:QG n c rs Z)(hi:i<n)(b:rs[i]! = x)(d:j<c):x.A≠none:=RdD.ne (h.rdat a hi b) iB qD (a.cl hi b d)
theorem QMs.num {Z:Nat→Nat→Int}{x:Mr Qv}{v:Qv}(h:QMs w rs)(a:QG n c rs Z)(hi:i<n)(b:rs[i]! = x)(d:j<c)(f:x.xs[j]! = v):zU w (iO v.c) ((Z i j:Int):Rat):=by
 rw[←a.q hi b d f]
 exact h x (a.mem hi b) v (f ▸ xV (a.cl hi b d))
end
section
variable {P:Program} {o:Oper} {ρ:Operand→Value} {w:World} {t e:TypeId} {x:Operand} {A:Option Addr} {m n c j cap:Nat} {rs:List (Mr Qv)} {Z:Nat→Nat→Int} {y:Mr Qv}
theorem cW (h:OwnD w m e 1 A cap n (rs.flatMap mrC))(a:QG n c rs Z)(b:j<n)(d:rs[j]! = y)(f:o.op=Op.load t x:=by kernel_rfl)(g:ρ x=atA A (j*1):=by kernel_rfl)(ha:(teOf P t).map (fun e=>e.agg)=some false:=by kernel_rfl) :
 (execOp ρ o).run P w=.ok (.value (.slice y.A c y.cap)) w:=by
 subst d
 rw[←a.2.1 j b]
 exact ZqE h (a.1.symm ▸ b) f g ha
theorem eE (h:QIn m w A cap n rs)(a:QG n c rs Z)(b:j<n)(d:rs[j]! = y)(f:o.op=Op.load t x:=by kernel_rfl)(g:ρ x=atA A (j*1):=by kernel_rfl)(ha:(teOf P t).map (fun e=>e.agg)=some false:=by kernel_rfl) :
 (execOp ρ o).run P w=.ok (.value (.slice y.A c y.cap)) w:=by
 obtain⟨q,p⟩:=h.row
 exact cW p a b d f g ha
end
def RetQ (n c:Nat) (Z:Nat→Nat→Int) (w:World) (en:Ending) (w':World):Prop:=∃ b ys,en=.returned (.slice (some ⟨b,0,none⟩) n n)∧QG n c ys Z∧OwnD w' w.heap.size 61 1 (some ⟨b,0,none⟩) n n (ys.flatMap mrC)∧MrOk 59 4 qvC w.heap.size w' ys∧QMs w' ys∧Ext w w'
theorem Zec {n c m0:Nat}{Z:Nat→Nat→Int}{w w':World}{d:Ending}(a:m0≤w.heap.size)(h:RetQ n c Z w d w') :
 lQ (fun x:{x:Nat × List (Mr Qv) // QG n c x.2 Z∧m0≤x.1}=>.slice (some ⟨x.1.1,0,none⟩) n n) (fun x w=>(OwnD w m0 61 1 (some ⟨x.1.1,0,none⟩) n n (x.1.2.flatMap mrC)∧MrOk 59 4 qvC m0 w x.1.2)∧QMs w x.1.2) w d w':=by
 obtain⟨b,g,rfl,p,f,q,r,Q⟩:=h
 exact⟨⟨(b,g),p,uC a (f.blk rfl).1⟩,rfl,Q,((f.boxN a).and (q.boxN a)).and (boxn Q (fun S s u v=>r.nrb u v))⟩
instance {n c m0:Nat} {Z:Nat→Nat→Int}:Nonempty {x:Nat × List (Mr Qv) // QG n c x.2 Z∧m0≤x.1}:=by
 refine⟨⟨(m0,(List.range n).map (fun a=>⟨none,0,(List.range c).map (fun b=>⟨qv0.c,((Z a b:Int):Rat)⟩)⟩)),⟨by simp,fun a ha=>?_,fun a b ha hb=>?_⟩,uH _⟩⟩
 ·show (((List.range n).map _)[a]! : Mr Qv).xs.length=c
  rw[vZ _ a (by simpa using ha)];simp
 show (((List.range n).map _)[a]! : Mr Qv).xs[b]!.q=_
 rw[vZ _ a (by simpa using ha),List.getElem_map,vZ _ b (by simpa using hb),List.getElem_map];simp
theorem ZnQ (n:Int)(w:World)(g : -9223372036854775808≤n)(h:n≤9223372036854775807) :
 yA 33 #[.int .i64 n] w (jE w ((n:Int):Rat)):=by
 refine zQ (Φ:=fun w=>True) func33 rfl qK (fun w' q=>trivial) ?_
 refine yY (xq 1 [(2,.p 2 0)] [bR4 2 59 false none 0 0 false none 0 0] ?_)
 refine yZ (yY (xq 1 [yJ 3 n] [] ?_))
 refine xqc 56 [yI n] 4 wR _ (fun w R Q=>yM wE (ZdF n _ g h)) fun⟨a,b,d,f⟩=>?_
 refine xq 2 [] [bR4 2 59 a b d f false none 0 0] ?_
 refine yZ (zG ?_)
 refine yR (.agg #[.bool a,.slice b d f,.bool false,.slice none 0 0]) fun w' R Q=>?_
 exact⟨_,rfl,ZnP Q.2,R⟩
theorem Zl6 (τ:Tap)(wl w:World)(D:TOld wl τ)(F:Ext wl w)(G:TOk τ w)(k:Int)(H:0≤k)(K:k≤1000) :
 yA 22 #[.pointer (some ⟨τ.g,0,none⟩),.int .i64 k] w (RetT τ (fun x:ShQ×Int=>iO x.1) (fun x => -k≤x.2∧x.2≤k) (fun x w=>zU w (iO x.1) ((x.2:Int):Rat)) w):=by
 refine Zd3 (fun i=>i=τ.g) (Φ:=fun w=>TOk τ w) func22 rfl qK (fun w' I=>G.ext I) ?_
 refine yY (xq 1 [(4,.p 4 0)] [bR4 4 59 false none 0 0 false none 0 0] ?_)
 refine yZ (yY (xq 3 [(5,.v (.pointer (some ⟨τ.g,0,none⟩))),yJ 7 (IntKind.i64.wrap (2*k))] [] ?_))
 rw[(show IntKind.i64.wrap (2*k)=2*k by rw[IntKind.wrap_i64];omega)]
 refine xq 1 [yJ 8 (IntKind.i64.wrap ((2*k)+1))] [] ?_
 rw[(show IntKind.i64.wrap (2*k+1)=2*k+1 by rw[IntKind.wrap_i64];omega)]
 refine cU (b:=τ.g) (d:=9) (j:=0) (c:=.slice τ.A τ.l τ.c) 20 [.pointer (some ⟨τ.g,0,none⟩), yI (2*k+1)] (fun x:{x:Nat // (fun v=>(v:Int)<(2*k+1)) x}=>(fun v=>yI (v:Int)) x.1) (fun w=>True) (fun x w=>TOk τ w∧(fun _ _=>True) x.1 w) (fun w Q=>TOk.cell Q) (Or.inr rfl) (fun w R Q=>(Zea τ wl ((2*k+1)) _ D (D.old F R) Q qO qO).mono (fun _ _ h=>Zd9 h (fun x J h=>fun _ _ _ _=>trivial))) (fun w L R Q J=>trivial) fun⟨a,E⟩=>?_
 refine xr 2 [(4,.p 4 0),yJ 11 (IntKind.i64.wrap ((a:Int)-k))] [bR4 4 59 false none 0 0 false none 0 0] ?_
 rw[(show IntKind.i64.wrap ((a:Int)-k)=(a:Int)-k by rw[IntKind.wrap_i64];omega)]
 refine xqc 33 [yI ((a:Int)-k)] 12 iO _ (fun w R Q=>yM gY (ZnQ ((a:Int)-k) _ qO qO)) fun⟨f,q,r,s,u,z,B,C⟩=>?_
 refine xq 1 [] [bR4 4 59 f q r s u z B C] ?_
 refine yZ (zG ?_)
 refine yR (.agg #[.bool f,.slice q r s,.bool u,.slice z B C]) fun w' R Q=>?_
 exact⟨(⟨f,q,r,s,u,z,B,C⟩,(a:Int)-k),⟨by show -k≤(a:Int)-k;omega,by show (a:Int)-k≤k;omega⟩,rfl,R,Q.1.2.1,Q.2⟩
theorem Zc3 (n c:Nat)(w:World)(K:n≤1000)(L:c≤1000) :
 yA 17 #[.int .i64 ((n:Nat):Int),.int .i64 ((c:Nat):Int)] w (RetQ n c (fun _ _=>0) w):=by
 obtain⟨m0,p⟩:∃ m,m=w.heap.size:=⟨_,rfl⟩
 refine zQ (Φ:=fun w=>True) func17 rfl qK (fun w' M=>trivial) ?_
 refine yY (xq 1 [eS1 4 none 0 0] [] ?_)
 refine yZ (yY (xq 1 [yJ 7 (n:Int)] [] ?_))
 refine yD (d:=8) (fun u:{b:Nat // m0≤b}=>.slice (yL u.1) n n) (fun u w=>OwnD w m0 61 1 (yL u.1) n n ((List.replicate n (mr0:Mr Qv)).flatMap mrC)) (fun w R Q=>fB (t:=33) (e:=61) (kl:=.i64) (kc:=.i64) (l:=.tmp 7) (c:=.tmp 7) (bytes:=24) (z:=.slice none 0 0) (mr0:Mr Qv) Zci qD rfl ZnI (p ▸ R.size) (by simp only[maxLen];omega) qO) fun⟨a,D⟩=>?_
 refine xr 1 [yJ 0 (n:Int),yJ 1 (c:Int),eS1 4 none 0 0,eS1 5 (yL a) n n] [] ?_
 refine yZ (zC (yY (xq 1 [yJ 6 0] [] ?_)))
 refine yZ (zP ?_)
 refine yC [yJ 0 (n:Int),yJ 1 (c:Int),eS1 4 none 0 0,eS1 5 (yL a) n n,yJ 6 ((0:Nat):Int)] [] (fun w=>(MrOk 59 4 qvC m0 w ([]:List (Mr Qv))∧OwnD w m0 61 1 (yL a) n n ((fill n (mr0:Mr Qv) ([]:List (Mr Qv))).flatMap mrC))) (fun w Q=>⟨MrOk.nil,(by rw[ZcX];exact Q.2)⟩) ?_
 refine xU (fun E F G=>∃ (k:Nat) (g:List (Mr Qv)),F=ofL [yJ 0 (n:Int),yJ 1 (c:Int),eS1 4 none 0 0,eS1 5 (yL a) n n,yJ 6 (k:Int)] []∧G=(fun w=>(MrOk 59 4 qvC m0 w g∧OwnD w m0 61 1 (yL a) n n ((fill n (mr0:Mr Qv) g).flatMap mrC)))∧(k≤n)∧(g.length=k)∧(g.map (·.xs)=List.replicate k (List.replicate c qv0))∧E=(1+(n-k))) ((1+(n-0))) ⟨0,([]:List (Mr Qv)),rfl,rfl,(vQ _),rfl,rfl,rfl⟩ ?_
 rintro E F G ⟨k,g,rfl,rfl,N,v,s,rfl⟩
 refine zC (yY (xq 3 [yB 11 (decide ((k:Int)<(n:Int)))] [] ?_))
 refine xe (zA ?_)
 refine yQ ((decide ((k:Int)<(n:Int)))) (fun q=>?_) fun q=>?_
 ·have r:k<n:=by have:=uB q;omega
  refine zI (zA (zC (zP (zB (xq 3 [eS1 14 (yL a) n n,yJ 15 (k:Int),yJ 16 (c:Int)] [] ?_)))))
  refine yD (d:=17) (fun u:{b:Nat // m0≤b∧∀ y∈g,y.A≠yL b}=>.slice (yL u.1) c c) (fun u w=>OwnD w m0 59 4 (yL u.1) c c ((List.replicate c qv0).flatMap qvC)) (fun w R Q=>Zl3 (t:=61) (e:=59) (kl:=.i64) (kc:=.i64) (l:=.tmp 16) (c:=.tmp 16) (bytes:=64) (z:=.agg #[.bool false,.slice none 0 0,.bool false,.slice none 0 0]) qv0 iB qD rfl Zeb Q.1 (p ▸ R.size) (by simp only[maxLen];omega) qO) fun⟨f,H,B⟩=>?_
  refine xr 0 [yJ 0 (n:Int),yJ 1 (c:Int),eS1 4 none 0 0,eS1 5 (yL a) n n,yJ 6 (k:Int),eS1 14 (yL a) n n,yJ 15 (k:Int),eS1 17 (yL f) c c] [] ?_
  refine xqk 18 (.pointer (some ⟨a,0+k*1,none⟩)) (fun w R Q=>iJ (t:=33) (e:=61) (sz:=1) (x:=.tmp 14) (ix:=.tmp 15) (len:=n) (cap:=n) (i:=k) r) ?_
  refine dN (t:=61) (x:=.tmp 18) (y:=.tmp 17) (j:=k) (new:=mrC ((⟨yL f,c,List.replicate c qv0⟩:Mr Qv))) m0 a (.slice (yL f) c c) (fun w=>(MrOk 59 4 qvC m0 w g∧OwnD w m0 59 4 (yL f) c c ((List.replicate c qv0).flatMap qvC))) (fun w Q=>Q.1.2) r rfl qD (fun h=>Or.inl (uC (p ▸ uH _) h)) (by simp[mrC,Value.oneCell']) (ZnI _) (by unfold mrC;rw[sG];rfl) (fun w w' Q I=>⟨MrOk.apart Q.1.1 Q.1.2 qD I,OwnD.apart Q.2 Q.1.2 qD I⟩) ?_
  rw[←iI Zci ((fill n (mr0:Mr Qv) g)) k ((⟨yL f,c,List.replicate c qv0⟩:Mr Qv)) (by rw[ZcV qO];exact r),Zd8 v r]
  refine xr 0 [yJ 0 (n:Int),yJ 1 (c:Int),eS1 4 none 0 0,eS1 5 (yL a) n n,yJ 6 (k:Int)] [] ?_
  refine xe (xR (zA (zB (xq 2 [yJ 13 (IntKind.i64.wrap ((k:Int)+1))] [] ?_))))
  rw[yW ((k:Int)+1) (((k+1:Nat):Int)) qO]
  refine xq 1 [yJ 6 ((k+1:Nat):Int)] [] ?_
  refine xe ?_
  refine yP [yJ 0 (n:Int),yJ 1 (c:Int),eS1 4 none 0 0,eS1 5 (yL a) n n,yJ 6 (((k+1):Nat):Int)] [] (fun w=>(MrOk 59 4 qvC m0 w (g ++ [(⟨yL f,c,List.replicate c qv0⟩:Mr Qv)])∧OwnD w m0 61 1 (yL a) n n ((fill n (mr0:Mr Qv) (g ++ [(⟨yL f,c,List.replicate c qv0⟩:Mr Qv)])).flatMap mrC))) (fun w Q=>⟨(MrOk.snoc Q.1.1 (by show OwnD _ _ _ _ _ _ (List.replicate c qv0).length _;rw[sG];exact Q.1.2) B),Q.2⟩) ?_
  exact xG ((1+(n-(k+1)))) qO ⟨(k+1),(g ++ [(⟨yL f,c,List.replicate c qv0⟩:Mr Qv)]),rfl,rfl,r,(by rw[uY,v];rfl),(by rw[nE,s,pO];rfl),rfl⟩
 have C:k=n:=by have:=uD q;omega
 refine xO (zH (zH (xY (zA (yY (xq 2 [eS1 4 (yL a) n n] [] ?_))))))
 refine yZ (zG ?_)
 refine yR (.slice (yL a) n n) fun w' R Q=>?_
 exact⟨a,g,rfl,QG.zero (by rw[C] at s;exact s),by have h:=Q.2;have J:=v;rw[C] at J;subst J;rw[ZcW] at h;exact p ▸ h,p ▸ Q.1,QMs.zero s,R⟩
theorem Zpg {c i k:Nat}{Y Z:Nat→Nat→Int}(h:∀ a b,a<c→(b<i∨(b=i∧a<k))→Y a b=Z b a):∀ a b,a<c→(b<i∨(b=i∧a<k+1))→updZ Y k i (Z i k) a b=Z b a:=fun a b f g=>by
 unfold updZ
 by_cases e:k=a∧i=b
 ·rw[uQ e,e.1,e.2]
 rw[uL e];exact h a b f qO
def sumZ (f:Nat→Int):Nat→Int
 | 0=>0
 | k+1=>sumZ f k+f k
def dO (Z1 Z2:Nat→Nat→Int) (d a b:Nat):Int:=sumZ (fun q=>Z1 a q*Z2 q b) d
def TS (Z1 Z2:Nat→Nat→Int) (d i k j a b:Nat):Int:=if a<i then dO Z1 Z2 d a b else if a=i then (if b<j then dO Z1 Z2 (k+1) a b else dO Z1 Z2 k a b) else 0
section
variable {Z1 Z2 Y:Nat→Nat→Int} {n c d i j k a b:Nat}
theorem ZqP (a b:Nat):TS Z1 Z2 d 0 0 0 a b=0:=by
 unfold TS
 rw[uL (pI _)]
 by_cases e:a=0
 ·rw[uQ e,uL (pI _)];rfl
 rw[uL e]
theorem ZqQ:TS Z1 Z2 d i d 0 a b=TS Z1 Z2 d (i+1) 0 0 a b:=by
 unfold TS
 rw[uL (pI _),uL (pI _)]
 by_cases e:a<i
 ·rw[uQ e,uQ qO]
 rw[uL e]
 by_cases f:a=i
 ·rw[uQ f,uQ qO]
 rw[uL f,uL qO]
 split<;>rfl
theorem ZrJ (e:b<c):TS Z1 Z2 d i k c a b=TS Z1 Z2 d i (k+1) 0 a b:=by
 unfold TS
 rw[uQ e,uL (pI _)]
theorem ZqR (g:Z1 i k=0):TS Z1 Z2 d i k j a b=TS Z1 Z2 d i (k+1) 0 a b:=by
 unfold TS
 rw[uL (pI b)]
 by_cases e:a<i
 ·rw[uQ e,uQ e]
 rw[uL e,uL e]
 by_cases f:a=i
 ·rw[uQ f,uQ f]
  subst f
  have h:dO Z1 Z2 (k+1) a b=dO Z1 Z2 k a b:=by
   show dO Z1 Z2 k a b+Z1 a k*Z2 k b=_
   rw[g,Int.zero_mul,Int.add_zero]
  split
  ·rfl
  exact h.symm
 rw[uL f,uL f]
theorem ZrK (hi:i<n)(m:j<c)(h:∀ a b,a<n→b<c→Y a b=TS Z1 Z2 d i k j a b):∀ a b,a<n→b<c→updZ Y i j (Y i j+Z1 i k*Z2 k j) a b=TS Z1 Z2 d i k (j+1) a b:=fun a b o p=>by
 unfold updZ
 by_cases e:i=a∧j=b
 ·obtain⟨rfl,rfl⟩:=e
  rw[uQ ⟨rfl,rfl⟩,h i j hi m]
  unfold TS
  rw[uL (pK _),uQ rfl,uL (pK _),uL (pK _),uQ rfl,uQ (pV _)]
  rfl
 rw[uL e,h a b o p]
 unfold TS
 by_cases f:a<i
 ·rw[uQ f,uQ f]
 rw[uL f,uL f]
 by_cases g:a=i
 ·rw[uQ g,uQ g]
  by_cases l:b<j
  ·rw[uQ l,uQ qO]
  rw[uL l,uL qO]
 rw[uL g,uL g]
theorem ZqS (ha:a<n):TS Z1 Z2 d n 0 0 a b=dO Z1 Z2 d a b:=by unfold TS;rw[uQ ha]
theorem Zk3 {x y:Int}{p q:Nat}(e:x.natAbs≤p)(f:y.natAbs≤q):(x*y).natAbs≤p*q:=by rw[Int.natAbs_mul];exact vO e f
theorem ZrL {x y:Int}(e:x.natAbs≤1000)(f:y.natAbs≤1000):(x*y).natAbs≤1000000000:=uC (Zk3 e f) qD
theorem Zfl {p q:Nat}:∀ (d:Nat),(∀ r,r<d→(Z1 a r).natAbs≤p)→(∀ r,r<d→(Z2 r b).natAbs≤q)→(dO Z1 Z2 d a b).natAbs≤d*(p*q)
 | 0,_,_=>by show (0:Int).natAbs≤_;simp
 | d+1,h1,h2=>by
  have e:=Zfl d (fun r f=>h1 r qO) (fun r f=>h2 r qO)
  have g:=Zk3 (h1 d qO) (h2 d qO)
  show (dO Z1 Z2 d a b+Z1 a d*Z2 d b).natAbs≤_
  rw[rD]
  exact uC (Int.natAbs_add_le _ _) (Nat.add_le_add e g)
theorem Zr1 (e:∀ a b,a<n→b<d→(Z1 a b).natAbs≤1000)(f:∀ a b,a<d→b<c→(Z2 a b).natAbs≤1000)(l:d≤64)(hi:i<n)(g:j<c)(m:k<d):(TS Z1 Z2 d i k j i j).natAbs≤1000000000:=by
 unfold TS
 rw[uL (pK _),uQ rfl,uL (pK _)]
 exact uC (Zfl k (fun r h=>e i r hi qO) (fun r h=>f r j qO g)) (uC (uE _ (show k≤64 by omega)) qD)
theorem Zph {z:Int}(h:z≠0):(z.sign != 0)=true:=by
 rw[bne_iff_ne];exact fun e=>h (Int.sign_eq_zero_iff_zero.1 e)
theorem ZbK {z:Int}(h:z.natAbs≤1000000000):gL ((z:Int):Rat):=by
 unfold gL
 rw[qP,oH]
 exact⟨uC (Zga (k:=10) (vE h qD)) qD,uC (Zga (k:=1) qD) qD⟩
end
theorem Zpi (v:qA)(cap n c:Nat)(C:List (Mr Qv))(Z:Nat→Nat→Int)(w:World)(M:QIn w.heap.size w v cap n C)(K:QG n c C Z)(L:0<n)(hn:n≤64)(hc:c≤64) :
 yA 24 #[.slice v n cap] w (RetQ c n (fun a b=>Z b a) w):=by
 obtain⟨m0,D⟩:∃ m,m=w.heap.size:=⟨_,rfl⟩
 refine zQ (Φ:=fun w=>QIn m0 w v cap n C) func24 rfl qK (fun w' hf=>(by rw[D];exact M.ext hf)) ?_
 refine yY (xq 1 [eS1 2 none 0 0] [] ?_)
 refine yZ (yY (xq 1 [eS1 6 v n cap] [] ?_))
 refine xqk 7 (atA v (0*1)) (fun w R Q=>xQ (t:=33) (e:=61) (sz:=1) (x:=.tmp 6) (ix:=(Operand.const (Value.int IntKind.i64 0))) (len:=n) (cap:=cap) (i:=0) (QIn.ne Q L) L) ?_
 obtain⟨N,O⟩:∃ x,C[0]! = x:=⟨_,rfl⟩
 refine xqk 8 (.slice N.A c N.cap) (fun w R Q=>eE (t:=61) (x:=.tmp 7) (j:=0) Q K L O) ?_
 refine xq 3 [yJ 9 (c:Int),yJ 11 (n:Int)] [] ?_
 refine xqc 17 [yI (c:Int), yI (n:Int)] 12 (fun x:{x:Nat × List (Mr Qv) // QG c n x.2 (fun _ _=>0)∧m0≤x.1}=>.slice (yL x.1.1) c c) _ (fun w R Q=>(Zc3 c n _ qO qO).mono (fun _ _ h=>Zec (m0:=m0) (D ▸ R.size) h)) fun xx=>?_
 obtain⟨⟨g,B⟩,J,a0⟩:=xx
 refine xq 1 [eS1 3 (yL g) c c] [] ?_
 refine yZ (zC (yY (xq 1 [yJ 4 0] [] ?_)))
 refine yZ (zP ?_)
 refine yC [eS1 0 v n cap,eS1 2 none 0 0,eS1 3 (yL g) c c,yJ 4 ((0:Nat):Int)] [] (fun w=>(((QIn m0 w v cap n C∧OwnD w m0 61 1 (yL g) c c (B.flatMap mrC))∧MrOk 59 4 qvC m0 w B)∧QMs w B)) (fun w Q=>⟨⟨⟨Q.1,Q.2.1.1⟩,Q.2.1.2⟩,Q.2.2⟩) ?_
 refine xU (fun P S T=>∃ (i:Nat) (u:List (Mr Qv)) (Y:Nat→Nat→Int),S=ofL [eS1 0 v n cap,eS1 2 none 0 0,eS1 3 (yL g) c c,yJ 4 (i:Int)] []∧T=(fun w=>(((QIn m0 w v cap n C∧OwnD w m0 61 1 (yL g) c c (u.flatMap mrC))∧MrOk 59 4 qvC m0 w u)∧QMs w u))∧(i≤n)∧(QG c n u Y)∧(∀ a b,a<c→b<i→Y a b=Z b a)∧P=(1+(n-i))) ((1+(n-0))) ⟨0,B,(fun _ _=>0),rfl,rfl,(vQ _),J,(fun a b _ h=>qO),rfl⟩ ?_
 rintro P S T ⟨i,u,Y,rfl,rfl,hi,r,U,rfl⟩
 refine zC (yY (xq 4 [yB 16 (decide ((i:Int)<(n:Int)))] [] ?_))
 refine xe (zA ?_)
 refine yQ ((decide ((i:Int)<(n:Int)))) (fun E=>?_) fun E=>?_
 ·have s:i<n:=by have:=uB E;omega
  refine zI (zA (zC (zP (yY (xq 1 [yJ 5 0] [] ?_)))))
  refine yZ (zP ?_)
  refine yC [eS1 0 v n cap,eS1 2 none 0 0,eS1 3 (yL g) c c,yJ 4 (i:Int),yJ 5 ((0:Nat):Int)] [] (fun w=>(((QIn m0 w v cap n C∧OwnD w m0 61 1 (yL g) c c (u.flatMap mrC))∧MrOk 59 4 qvC m0 w u)∧QMs w u)) (fun w Q=>⟨⟨⟨Q.1.1.1,Q.1.1.2⟩,Q.1.2⟩,Q.2⟩) ?_
  refine xU (fun P S T=>∃ (k:Nat) (u:List (Mr Qv)) (Y:Nat→Nat→Int),S=ofL [eS1 0 v n cap,eS1 2 none 0 0,eS1 3 (yL g) c c,yJ 4 (i:Int),yJ 5 (k:Int)] []∧T=(fun w=>(((QIn m0 w v cap n C∧OwnD w m0 61 1 (yL g) c c (u.flatMap mrC))∧MrOk 59 4 qvC m0 w u)∧QMs w u))∧(k≤c)∧(QG c n u Y)∧(∀ a b,a<c→(b<i∨(b=i∧a<k))→Y a b=Z b a)∧P=(1+(c-k))) ((1+(c-0))) ⟨0,u,Y,rfl,rfl,(vQ _),r,(fun a b V h=>U a b V qO),rfl⟩ ?_
  rintro P S T ⟨k,u,Y,rfl,rfl,hk,r,U,rfl⟩
  refine zC (yY (xq 3 [yJ 19 (k:Int),eS1 20 v n cap,yJ 21 (i:Int)] [] ?_))
  refine xqk 22 (atA v (i*1)) (fun w R Q=>xQ (t:=33) (e:=61) (sz:=1) (x:=.tmp 20) (ix:=.tmp 21) (len:=n) (cap:=cap) (i:=i) (QIn.ne Q.1.1.1 s) s) ?_
  obtain⟨W,X⟩:∃ x,C[i]! = x:=⟨_,rfl⟩
  refine xqk 23 (.slice W.A c W.cap) (fun w R Q=>eE (t:=61) (x:=.tmp 22) (j:=i) Q.1.1.1 K s X) ?_
  refine xq 2 [yB 25 (decide ((k:Int)<(c:Int)))] [] ?_
  refine xe (zA ?_)
  refine yQ ((decide ((k:Int)<(c:Int)))) (fun F=>?_) fun F=>?_
  ·have o:k<c:=by have:=uB F;omega
   refine zI (zA (zC (zP ?_)))
   refine yO 13 zO ?_
   refine xqg 2 [eS1 28 (yL g) c c,yJ 29 (k:Int)] ?_
   refine xqj 30 (atA (yL g) (k*1)) (fun w Q=>xQ (t:=33) (e:=61) (sz:=1) (x:=.tmp 28) (ix:=.tmp 29) (len:=c) (cap:=c) (i:=k) qS o) ?_
   obtain⟨f,p⟩:∃ x,u[k]! = x:=⟨_,rfl⟩
   refine xqj 31 (.slice f.A n f.cap) (fun w Q=>cW (t:=61) (x:=.tmp 30) (j:=k) Q.1.1.2 r o p) ?_
   refine xqg 3 [yJ 32 (i:Int),eS1 33 v n cap,yJ 34 (i:Int)] ?_
   refine xqj 35 (atA v (i*1)) (fun w Q=>xQ (t:=33) (e:=61) (sz:=1) (x:=.tmp 33) (ix:=.tmp 34) (len:=n) (cap:=cap) (i:=i) (QIn.ne Q.1.1.1 s) s) ?_
   obtain⟨G,z⟩:∃ x,C[i]! = x:=⟨_,rfl⟩
   refine xqj 36 (.slice G.A c G.cap) (fun w Q=>eE (t:=61) (x:=.tmp 35) (j:=i) Q.1.1.1 K s z) ?_
   refine xqg 1 [yJ 37 (k:Int)] ?_
   refine xqj 38 (atA G.A (k*4)) (fun w Q=>xQ (t:=61) (e:=59) (sz:=4) (x:=.tmp 36) (ix:=.tmp 37) (len:=c) (cap:=G.cap) (i:=k) (QIn.rne Q.1.1.1 K s z o) o) ?_
   obtain⟨l,H⟩:∃ x,G.xs[k]! = x:=⟨_,rfl⟩
   refine xqj 39 (.agg #[.bool l.c.1,.slice l.c.2.1 l.c.2.2.1 l.c.2.2.2.1,.bool l.c.2.2.2.2.1,.slice l.c.2.2.2.2.2.1 l.c.2.2.2.2.2.2.1 l.c.2.2.2.2.2.2.2]) (fun w Q=>by rw[←H];exact Zcj (t:=59) (x:=.tmp 38) (j:=k) (QIn.rdat Q.1.1.1 K s z) iB (QG.cl K s z o)) ?_
   refine xqj 40 (atA f.A (i*4)) (fun w Q=>xQ (t:=61) (e:=59) (sz:=4) (x:=.tmp 31) (ix:=.tmp 32) (len:=n) (cap:=f.cap) (i:=i) (OwnD.ne (show OwnD _ m0 59 4 f.A f.cap f.xs.length (f.xs.flatMap qvC) by rw[←p];exact MrOk.at Q.1.2 (r.1.symm ▸ o)) (QG.cl r o p s)) s) ?_
   refine xz ?_
   have I:=QG.q K s z o H
   refine Zey (t:=59) (x:=.tmp 40) (y:=.tmp 39) (e:=59) (k:=4) (enc:=qvC) (a:=k) (j:=i) (ys:=u) m0 l (.agg #[.bool l.c.1,.slice l.c.2.1 l.c.2.2.1 l.c.2.2.2.1,.bool l.c.2.2.2.2.1,.slice l.c.2.2.2.2.2.1 l.c.2.2.2.2.2.2.1 l.c.2.2.2.2.2.2.2]) (fun w=>((QIn m0 w v cap n C∧OwnD w m0 61 1 (yL g) c c (u.flatMap mrC))∧QMs w u)) iB qD (fun w Q=>Q.1.2) (r.1.symm ▸ o) p (QG.cl r o p s) (fun _ h=>Or.inl (uC (D ▸ uH _) h)) (by simp[qvC,Value.oneCell']) (Zeb _) rfl (fun w w' Q hF=>⟨⟨QIn.up Q.1.1.1 (show OwnD _ m0 59 4 f.A f.cap f.xs.length (f.xs.flatMap qvC) by rw[←p];exact MrOk.at Q.1.2 (r.1.symm ▸ o)) hF,OwnD.apart Q.1.1.2 (show OwnD _ m0 59 4 f.A f.cap f.xs.length (f.xs.flatMap qvC) by rw[←p];exact MrOk.at Q.1.2 (r.1.symm ▸ o)) qD hF⟩,QMs.row Q.2 (show OwnD _ m0 59 4 f.A f.cap f.xs.length (f.xs.flatMap qvC) by rw[←p];exact MrOk.at Q.1.2 (r.1.symm ▸ o)) hF⟩) ?_
   refine xr 0 [eS1 0 v n cap,eS1 2 none 0 0,eS1 3 (yL g) c c,yJ 4 (i:Int),yJ 5 (k:Int)] [] ?_
   refine xe (xR (zA (zB (xq 2 [yJ 27 (IntKind.i64.wrap ((k:Int)+1))] [] ?_))))
   rw[yW ((k:Int)+1) (((k+1:Nat):Int)) qO]
   refine xq 1 [yJ 5 ((k+1:Nat):Int)] [] ?_
   refine xe ?_
   refine yP [eS1 0 v n cap,eS1 2 none 0 0,eS1 3 (yL g) c c,yJ 4 (i:Int),yJ 5 (((k+1):Nat):Int)] [] (fun w=>(((QIn m0 w v cap n C∧OwnD w m0 61 1 (yL g) c c ((u.set k ⟨f.A,f.cap,f.xs.set i l⟩).flatMap mrC))∧MrOk 59 4 qvC m0 w (u.set k ⟨f.A,f.cap,f.xs.set i l⟩))∧QMs w (u.set k ⟨f.A,f.cap,f.xs.set i l⟩))) (fun w Q=>⟨⟨⟨Q.1.1.1,(by rw[aC (r.1.symm ▸ o) p (tA ..)];exact Q.1.1.2)⟩,Q.2⟩,(QMs.set Q.1.2 (r.1.symm ▸ o) p (by rw[I];exact QMs.num (QIn.qs Q.1.1.1) K s z o H))⟩) ?_
   exact xG ((1+(c-(k+1)))) qO ⟨(k+1),(u.set k ⟨f.A,f.cap,f.xs.set i l⟩),(updZ Y k i (Z i k)),rfl,rfl,o,(QG.set r o p I),(Zpg U),rfl⟩
  have b0:k=c:=by have:=uD F;omega
  refine xO (zH (zH (xY (xR (zA (zB (xq 2 [yJ 18 (IntKind.i64.wrap ((i:Int)+1))] [] ?_)))))))
  rw[yW ((i:Int)+1) (((i+1:Nat):Int)) qO]
  refine xq 1 [yJ 4 ((i+1:Nat):Int)] [] ?_
  refine xe ?_
  refine yP [eS1 0 v n cap,eS1 2 none 0 0,eS1 3 (yL g) c c,yJ 4 (((i+1):Nat):Int)] [] (fun w=>(((QIn m0 w v cap n C∧OwnD w m0 61 1 (yL g) c c (u.flatMap mrC))∧MrOk 59 4 qvC m0 w u)∧QMs w u)) (fun w Q=>⟨⟨⟨Q.1.1.1,Q.1.1.2⟩,Q.1.2⟩,Q.2⟩) ?_
  exact xG ((1+(n-(i+1)))) qO ⟨(i+1),u,Y,rfl,rfl,s,r,(fun a b V h=>U a b V qO),rfl⟩
 have c0:i=n:=by have:=uD E;omega
 refine xO (zH (zH (xY (zA (yY (xq 2 [eS1 2 (yL g) c c] [] ?_))))))
 refine yZ (zG ?_)
 refine yR (.slice (yL g) c c) fun w' R Q=>?_
 exact⟨g,u,rfl,r.congr (fun a b V hb=>U a b V qO),D ▸ Q.1.1.2,D ▸ Q.1.2,Q.2,R⟩
theorem ZnR (F B:qA)(l f n d c:Nat)(P L:List (Mr Qv))(Z1 Z2:Nat→Nat→Int)(w:World)(q0:QIn w.heap.size w F l n P)(r0:QIn w.heap.size w B f d L)(H:QG n d P Z1)(M:QG d c L Z2)(K:0<d)(hn:n≤64)(hd:d≤64)(hc:c≤64)(o0:∀ a b,a<n→b<d→(Z1 a b).natAbs≤1000)(p0:∀ a b,a<d→b<c→(Z2 a b).natAbs≤1000) :
 yA 23 #[.slice F n l,.slice B d f] w (RetQ n c (dO Z1 Z2 d) w):=by
 obtain⟨m0,c0⟩:∃ m,m=w.heap.size:=⟨_,rfl⟩
 refine zQ (Φ:=fun w=>(QIn m0 w F l n P∧QIn m0 w B f d L)) func23 rfl qK (fun w' hf=>⟨(by rw[c0];exact q0.ext hf),(by rw[c0];exact r0.ext hf)⟩) ?_
 refine yY (xq 1 [eS1 4 none 0 0] [] ?_)
 refine yZ (yY (xq 3 [yJ 10 (n:Int),eS1 11 B d f] [] ?_))
 refine xqk 12 (atA B (0*1)) (fun w R Q=>xQ (t:=33) (e:=61) (sz:=1) (x:=.tmp 11) (ix:=(Operand.const (Value.int IntKind.i64 0))) (len:=d) (cap:=f) (i:=0) (QIn.ne Q.2 K) K) ?_
 obtain⟨s0,t0⟩:∃ x,L[0]! = x:=⟨_,rfl⟩
 refine xqk 13 (.slice s0.A c s0.cap) (fun w R Q=>eE (t:=61) (x:=.tmp 12) (j:=0) Q.2 M K t0) ?_
 refine xq 1 [yJ 14 (c:Int)] [] ?_
 refine xqc 17 [yI (n:Int), yI (c:Int)] 15 (fun x:{x:Nat × List (Mr Qv) // QG n c x.2 (fun _ _=>0)∧m0≤x.1}=>.slice (yL x.1.1) n n) _ (fun w R Q=>(Zc3 n c _ qO qO).mono (fun _ _ h=>Zec (m0:=m0) (c0 ▸ R.size) h)) fun xx=>?_
 obtain⟨⟨g,b0⟩,j0,G0⟩:=xx
 refine xq 1 [eS1 5 (yL g) n n] [] ?_
 refine yZ (zC (yY (xq 1 [yJ 6 0] [] ?_)))
 refine yZ (zP ?_)
 refine yC [eS1 0 F n l,eS1 1 B d f,eS1 4 none 0 0,eS1 5 (yL g) n n,yJ 6 ((0:Nat):Int)] [] (fun w=>((((QIn m0 w F l n P∧QIn m0 w B f d L)∧OwnD w m0 61 1 (yL g) n n (b0.flatMap mrC))∧MrOk 59 4 qvC m0 w b0)∧QMs w b0)) (fun w Q=>⟨⟨⟨⟨Q.1.1,Q.1.2⟩,Q.2.1.1⟩,Q.2.1.2⟩,Q.2.2⟩) ?_
 refine xU (fun nn ss ff=>∃ (i:Nat) (s:List (Mr Qv)) (Y:Nat→Nat→Int),ss=ofL [eS1 0 F n l,eS1 1 B d f,eS1 4 none 0 0,eS1 5 (yL g) n n,yJ 6 (i:Int)] []∧ff=(fun w=>((((QIn m0 w F l n P∧QIn m0 w B f d L)∧OwnD w m0 61 1 (yL g) n n (s.flatMap mrC))∧MrOk 59 4 qvC m0 w s)∧QMs w s))∧(i≤n)∧(QG n c s Y)∧(∀ a b,a<n→b<c→Y a b=TS Z1 Z2 d i 0 0 a b)∧nn=(1+(n-i))) ((1+(n-0))) ⟨0,b0,(fun _ _=>0),rfl,rfl,(vQ _),j0,(fun a b _ _=>(ZqP a b).symm),rfl⟩ ?_
 rintro nn ss ff ⟨i,s,Y,rfl,rfl,hi,q,hY,rfl⟩
 refine zC (yY (xq 4 [yB 19 (decide ((i:Int)<(n:Int)))] [] ?_))
 refine xe (zA ?_)
 refine yQ ((decide ((i:Int)<(n:Int)))) (fun d0=>?_) fun d0=>?_
 ·have p:i<n:=by have:=uB d0;omega
  refine zI (zA (zC (zP (yY (xq 1 [yJ 7 0] [] ?_)))))
  refine yZ (zP ?_)
  refine yC [eS1 0 F n l,eS1 1 B d f,eS1 4 none 0 0,eS1 5 (yL g) n n,yJ 6 (i:Int),yJ 7 ((0:Nat):Int)] [] (fun w=>((((QIn m0 w F l n P∧QIn m0 w B f d L)∧OwnD w m0 61 1 (yL g) n n (s.flatMap mrC))∧MrOk 59 4 qvC m0 w s)∧QMs w s)) (fun w Q=>⟨⟨⟨⟨Q.1.1.1.1,Q.1.1.1.2⟩,Q.1.1.2⟩,Q.1.2⟩,Q.2⟩) ?_
  refine xU (fun nn ss ff=>∃ (k:Nat) (s:List (Mr Qv)) (Y:Nat→Nat→Int),ss=ofL [eS1 0 F n l,eS1 1 B d f,eS1 4 none 0 0,eS1 5 (yL g) n n,yJ 6 (i:Int),yJ 7 (k:Int)] []∧ff=(fun w=>((((QIn m0 w F l n P∧QIn m0 w B f d L)∧OwnD w m0 61 1 (yL g) n n (s.flatMap mrC))∧MrOk 59 4 qvC m0 w s)∧QMs w s))∧(k≤d)∧(QG n c s Y)∧(∀ a b,a<n→b<c→Y a b=TS Z1 Z2 d i k 0 a b)∧nn=(1+(d-k))) ((1+(d-0))) ⟨0,s,Y,rfl,rfl,(vQ _),q,hY,rfl⟩ ?_
  rintro nn ss ff ⟨k,s,Y,rfl,rfl,hk,q,hY,rfl⟩
  refine zC (yY (xq 4 [yB 25 (decide ((k:Int)<(d:Int)))] [] ?_))
  refine xe (zA ?_)
  refine yQ ((decide ((k:Int)<(d:Int)))) (fun e0=>?_) fun e0=>?_
  ·have u:k<d:=by have:=uB e0;omega
   refine zI (zA (zC (zP (yY (xq 1 [yJ 8 0] [] ?_)))))
   refine yZ (zP ?_)
   refine yC [eS1 0 F n l,eS1 1 B d f,eS1 4 none 0 0,eS1 5 (yL g) n n,yJ 6 (i:Int),yJ 7 (k:Int),yJ 8 ((0:Nat):Int)] [] (fun w=>((((QIn m0 w F l n P∧QIn m0 w B f d L)∧OwnD w m0 61 1 (yL g) n n (s.flatMap mrC))∧MrOk 59 4 qvC m0 w s)∧QMs w s)) (fun w Q=>⟨⟨⟨⟨Q.1.1.1.1,Q.1.1.1.2⟩,Q.1.1.2⟩,Q.1.2⟩,Q.2⟩) ?_
   refine xU (fun nn ss ff=>∃ (j:Nat) (s:List (Mr Qv)) (Y:Nat→Nat→Int),ss=ofL [eS1 0 F n l,eS1 1 B d f,eS1 4 none 0 0,eS1 5 (yL g) n n,yJ 6 (i:Int),yJ 7 (k:Int),yJ 8 (j:Int)] []∧ff=(fun w=>((((QIn m0 w F l n P∧QIn m0 w B f d L)∧OwnD w m0 61 1 (yL g) n n (s.flatMap mrC))∧MrOk 59 4 qvC m0 w s)∧QMs w s))∧(j≤c)∧(QG n c s Y)∧(∀ a b,a<n→b<c→Y a b=TS Z1 Z2 d i k j a b)∧nn=(1+(c-j))) ((1+(c-0))) ⟨0,s,Y,rfl,rfl,(vQ _),q,hY,rfl⟩ ?_
   rintro nn ss ff ⟨j,s,Y,rfl,rfl,hj,q,hY,rfl⟩
   refine zC (zC ?_)
   by_cases z:j<c
   ·refine zB (xq 2 [yJ 28 (j:Int),eS1 29 B d f] [] ?_)
    refine xqk 30 (atA B (0*1)) (fun w R Q=>xQ (t:=33) (e:=61) (sz:=1) (x:=.tmp 29) (ix:=(Operand.const (Value.int IntKind.i64 0))) (len:=d) (cap:=f) (i:=0) (QIn.ne Q.1.1.1.2 K) K) ?_
    obtain⟨u0,v0⟩:∃ x,L[0]! = x:=⟨_,rfl⟩
    refine xqk 31 (.slice u0.A c u0.cap) (fun w R Q=>eE (t:=61) (x:=.tmp 30) (j:=0) Q.1.1.1.2 M K v0) ?_
    refine xq 2 [yB 33 (decide ((j:Int)<(c:Int)))] [] ?_
    rw[(show decide ((j:Int)<(c:Int))=true from vS qO)]
    refine xq 3 [yB 34 true,eS1 35 F n l,yJ 36 (i:Int)] [] ?_
    refine xqk 37 (atA F (i*1)) (fun w R Q=>xQ (t:=33) (e:=61) (sz:=1) (x:=.tmp 35) (ix:=.tmp 36) (len:=n) (cap:=l) (i:=i) (QIn.ne Q.1.1.1.1 p) p) ?_
    obtain⟨f0,I⟩:∃ x,P[i]! = x:=⟨_,rfl⟩
    refine xqk 38 (.slice f0.A d f0.cap) (fun w R Q=>eE (t:=61) (x:=.tmp 37) (j:=i) Q.1.1.1.1 H p I) ?_
    refine xq 1 [yJ 39 (k:Int)] [] ?_
    refine xqk 40 (atA f0.A (k*4)) (fun w R Q=>xQ (t:=61) (e:=59) (sz:=4) (x:=.tmp 38) (ix:=.tmp 39) (len:=d) (cap:=f0.cap) (i:=k) (QIn.rne Q.1.1.1.1 H p I u) u) ?_
    obtain⟨r,g0⟩:∃ x,f0.xs[k]! = x:=⟨_,rfl⟩
    refine xqk 41 (.agg #[.bool r.c.1,.slice r.c.2.1 r.c.2.2.1 r.c.2.2.2.1,.bool r.c.2.2.2.2.1,.slice r.c.2.2.2.2.2.1 r.c.2.2.2.2.2.2.1 r.c.2.2.2.2.2.2.2]) (fun w R Q=>by rw[←g0];exact Zcj (t:=59) (x:=.tmp 40) (j:=k) (QIn.rdat Q.1.1.1.1 H p I) iB (QG.cl H p I u)) ?_
    by_cases hz:Z1 i k=0
    ·refine xqc 45 [vR4 r.c.1 r.c.2.1 r.c.2.2.1 r.c.2.2.2.1 r.c.2.2.2.2.1 r.c.2.2.2.2.2.1 r.c.2.2.2.2.2.2.1 r.c.2.2.2.2.2.2.2] 42 (fun _:Unit=>yI 0) _ (fun w R Q=>(Zf9 _ _ _ (QMs.num (QIn.qs Q.1.1.1.1) H p I u g0)).mono (fun _ _ h=>zK h (by rw[qP,hz];rfl))) fun xx=>?_
     refine xq 2 [yB 44 false] [] ?_
     refine yZ (xb (xO (zH (zH (xY (xR (zA (zB (xq 2 [yJ 27 (IntKind.i64.wrap ((k:Int)+1))] [] ?_)))))))))
     rw[yW ((k:Int)+1) (((k+1:Nat):Int)) qO]
     refine xq 1 [yJ 7 ((k+1:Nat):Int)] [] ?_
     refine xe ?_
     refine yP [eS1 0 F n l,eS1 1 B d f,eS1 4 none 0 0,eS1 5 (yL g) n n,yJ 6 (i:Int),yJ 7 (((k+1):Nat):Int)] [] (fun w=>((((QIn m0 w F l n P∧QIn m0 w B f d L)∧OwnD w m0 61 1 (yL g) n n (s.flatMap mrC))∧MrOk 59 4 qvC m0 w s)∧QMs w s)) (fun w Q=>⟨⟨⟨⟨Q.1.1.1.1.1,Q.1.1.1.1.2⟩,Q.1.1.1.2⟩,Q.1.1.2⟩,Q.1.2⟩) ?_
     exact xG ((1+(d-(k+1)))) qO ⟨(k+1),s,Y,rfl,rfl,u,q,(fun a b ha hb=>by rw[hY a b ha hb];exact ZqR hz),rfl⟩
    refine xqc 45 [vR4 r.c.1 r.c.2.1 r.c.2.2.1 r.c.2.2.2.1 r.c.2.2.2.2.1 r.c.2.2.2.2.2.1 r.c.2.2.2.2.2.2.1 r.c.2.2.2.2.2.2.2] 42 (fun _:Unit=>yI (Z1 i k).sign) _ (fun w R Q=>(Zf9 _ _ _ (QMs.num (QIn.qs Q.1.1.1.1) H p I u g0)).mono (fun _ _ h=>zK h (by rw[qP]))) fun xx=>?_
    refine xq 1 [yB 43 (((Z1 i k).sign:Int) != 0)] [] ?_
    rw[(show ((Z1 i k).sign != 0)=true from Zph hz)]
    refine xq 1 [yB 44 true] [] ?_
    refine yZ (xa (zI (zA (zC (zP ?_)))))
    have H0:(Y i j).natAbs≤1000000000:=by rw[hY i j p z];exact Zr1 o0 p0 hd p z u
    have I0:(Z1 i k*Z2 k j).natAbs≤1000000000:=ZrL (o0 i k p u) (p0 k j u z)
    refine aI 29 [0,0,3,7,0,0,0,96,224,0,992,2016,0,0,12288,28672,0,126976,258048,0,0,1572864,3670016,0,16252928,33030144,67104768,134217696,268435455] qK qK zO ?_
    refine xqg 2 [eS1 47 (yL g) n n,yJ 48 (i:Int)] ?_
    refine xqj 49 (atA (yL g) (i*1)) (fun w Q=>xQ (t:=33) (e:=61) (sz:=1) (x:=.tmp 47) (ix:=.tmp 48) (len:=n) (cap:=n) (i:=i) qS p) ?_
    obtain⟨o,v⟩:∃ x,s[i]! = x:=⟨_,rfl⟩
    refine xqj 50 (.slice o.A c o.cap) (fun w Q=>cW (t:=61) (x:=.tmp 49) (j:=i) Q.1.1.1.2 q p v) ?_
    refine xqg 3 [yJ 51 (j:Int),eS1 52 (yL g) n n,yJ 53 (i:Int)] ?_
    refine xqj 54 (atA (yL g) (i*1)) (fun w Q=>xQ (t:=33) (e:=61) (sz:=1) (x:=.tmp 52) (ix:=.tmp 53) (len:=n) (cap:=n) (i:=i) qS p) ?_
    obtain⟨G,J⟩:∃ x,s[i]! = x:=⟨_,rfl⟩
    refine xqj 55 (.slice G.A c G.cap) (fun w Q=>cW (t:=61) (x:=.tmp 54) (j:=i) Q.1.1.1.2 q p J) ?_
    refine xqg 1 [yJ 56 (j:Int)] ?_
    refine xqj 57 (atA G.A (j*4)) (fun w Q=>xQ (t:=61) (e:=59) (sz:=4) (x:=.tmp 55) (ix:=.tmp 56) (len:=c) (cap:=G.cap) (i:=j) (OwnD.ne (show OwnD _ m0 59 4 G.A G.cap G.xs.length (G.xs.flatMap qvC) by rw[←J];exact MrOk.at Q.1.1.2 (q.1.symm ▸ p)) (QG.cl q p J z)) z) ?_
    obtain⟨C,k0⟩:∃ x,G.xs[j]! = x:=⟨_,rfl⟩
    refine xqj 58 (.agg #[.bool C.c.1,.slice C.c.2.1 C.c.2.2.1 C.c.2.2.2.1,.bool C.c.2.2.2.2.1,.slice C.c.2.2.2.2.2.1 C.c.2.2.2.2.2.2.1 C.c.2.2.2.2.2.2.2]) (fun w Q=>by rw[←k0];exact Zcj (t:=59) (x:=.tmp 57) (j:=j) (OwnD.rd (show OwnD _ m0 59 4 G.A G.cap G.xs.length (G.xs.flatMap qvC) by rw[←J];exact MrOk.at Q.1.1.2 (q.1.symm ▸ p)) iB) iB (QG.cl q p J z)) ?_
    refine xqg 2 [eS1 59 F n l,yJ 60 (i:Int)] ?_
    refine xqj 61 (atA F (i*1)) (fun w Q=>xQ (t:=33) (e:=61) (sz:=1) (x:=.tmp 59) (ix:=.tmp 60) (len:=n) (cap:=l) (i:=i) (QIn.ne Q.1.1.1.1.1 p) p) ?_
    obtain⟨h0,N⟩:∃ x,P[i]! = x:=⟨_,rfl⟩
    refine xqj 62 (.slice h0.A d h0.cap) (fun w Q=>eE (t:=61) (x:=.tmp 61) (j:=i) Q.1.1.1.1.1 H p N) ?_
    refine xqg 1 [yJ 63 (k:Int)] ?_
    refine xqj 64 (atA h0.A (k*4)) (fun w Q=>xQ (t:=61) (e:=59) (sz:=4) (x:=.tmp 62) (ix:=.tmp 63) (len:=d) (cap:=h0.cap) (i:=k) (QIn.rne Q.1.1.1.1.1 H p N u) u) ?_
    obtain⟨D,l0⟩:∃ x,h0.xs[k]! = x:=⟨_,rfl⟩
    refine xqj 65 (.agg #[.bool D.c.1,.slice D.c.2.1 D.c.2.2.1 D.c.2.2.2.1,.bool D.c.2.2.2.2.1,.slice D.c.2.2.2.2.2.1 D.c.2.2.2.2.2.2.1 D.c.2.2.2.2.2.2.2]) (fun w Q=>by rw[←l0];exact Zcj (t:=59) (x:=.tmp 64) (j:=k) (QIn.rdat Q.1.1.1.1.1 H p N) iB (QG.cl H p N u)) ?_
    refine xqg 2 [eS1 66 B d f,yJ 67 (k:Int)] ?_
    refine xqj 68 (atA B (k*1)) (fun w Q=>xQ (t:=33) (e:=61) (sz:=1) (x:=.tmp 66) (ix:=.tmp 67) (len:=d) (cap:=f) (i:=k) (QIn.ne Q.1.1.1.1.2 u) u) ?_
    obtain⟨i0,O⟩:∃ x,L[k]! = x:=⟨_,rfl⟩
    refine xqj 69 (.slice i0.A c i0.cap) (fun w Q=>eE (t:=61) (x:=.tmp 68) (j:=k) Q.1.1.1.1.2 M u O) ?_
    refine xqg 1 [yJ 70 (j:Int)] ?_
    refine xqj 71 (atA i0.A (j*4)) (fun w Q=>xQ (t:=61) (e:=59) (sz:=4) (x:=.tmp 69) (ix:=.tmp 70) (len:=c) (cap:=i0.cap) (i:=j) (QIn.rne Q.1.1.1.1.2 M u O z) z) ?_
    obtain⟨E,n0⟩:∃ x,i0.xs[j]! = x:=⟨_,rfl⟩
    refine xqj 72 (.agg #[.bool E.c.1,.slice E.c.2.1 E.c.2.2.1 E.c.2.2.2.1,.bool E.c.2.2.2.2.1,.slice E.c.2.2.2.2.2.1 E.c.2.2.2.2.2.2.1 E.c.2.2.2.2.2.2.2]) (fun w Q=>by rw[←n0];exact Zcj (t:=59) (x:=.tmp 71) (j:=j) (QIn.rdat Q.1.1.1.1.2 M u O) iB (QG.cl M u O z)) ?_
    refine xqd 47 [vR4 D.c.1 D.c.2.1 D.c.2.2.1 D.c.2.2.2.1 D.c.2.2.2.2.1 D.c.2.2.2.2.2.1 D.c.2.2.2.2.2.2.1 D.c.2.2.2.2.2.2.2,vR4 E.c.1 E.c.2.1 E.c.2.2.1 E.c.2.2.2.1 E.c.2.2.2.2.1 E.c.2.2.2.2.2.1 E.c.2.2.2.2.2.2.1 E.c.2.2.2.2.2.2.2] 73 iO _ (fun w R Q=>yM gY ((show Calls _ _ _ _ (jE _ ((((Z1 i k)*(Z2 k j)):Int):Rat)) by rw[Rat.intCast_mul];exact Znj _ _ _ _ _ (QMs.num (QIn.qs Q.1.1.1.1.1) H p N u l0) (QMs.num (QIn.qs Q.1.1.1.1.2) M u O z n0) (ZbK (uC (o0 i k p u) qD)) (ZbK (uC (p0 k j u z) qD))))) fun⟨w0,x0,y0,z0,A0,B0,C0,D0⟩=>?_
    refine xqd 46 [vR4 C.c.1 C.c.2.1 C.c.2.2.1 C.c.2.2.2.1 C.c.2.2.2.2.1 C.c.2.2.2.2.2.1 C.c.2.2.2.2.2.2.1 C.c.2.2.2.2.2.2.2,vR4 w0 x0 y0 z0 A0 B0 C0 D0] 74 iO _ (fun w R Q=>((show Calls _ _ _ _ (jE _ ((((Y i j)+((Z1 i k)*(Z2 k j))):Int):Rat)) by rw[Rat.intCast_add];exact Zni _ _ _ _ _ (QMs.num Q.1.1.2 q p J z k0) Q.2 (ZbK H0) (ZbK I0))).mono (fun _ _=>gY)) fun⟨S,T,U,V,W,X,Z,a0⟩=>?_
    refine xqj 75 (atA o.A (j*4)) (fun w Q=>xQ (t:=61) (e:=59) (sz:=4) (x:=.tmp 50) (ix:=.tmp 51) (len:=c) (cap:=o.cap) (i:=j) (OwnD.ne (show OwnD _ m0 59 4 o.A o.cap o.xs.length (o.xs.flatMap qvC) by rw[←v];exact MrOk.at Q.1.1.2 (q.1.symm ▸ p)) (QG.cl q p v z)) z) ?_
    refine xz ?_
    refine Zey (t:=59) (x:=.tmp 75) (y:=.tmp 74) (e:=59) (k:=4) (enc:=qvC) (a:=i) (j:=j) (ys:=s) m0 (⟨(S,T,U,V,W,X,Z,a0),((((Y i j)+((Z1 i k)*(Z2 k j))):Int):Rat)⟩:Qv) (.agg #[.bool S,.slice T U V,.bool W,.slice X Z a0]) (fun w=>(((((QIn m0 w F l n P∧QIn m0 w B f d L)∧OwnD w m0 61 1 (yL g) n n (s.flatMap mrC))∧QMs w s)∧zU w (.agg #[.bool w0,.slice x0 y0 z0,.bool A0,.slice B0 C0 D0]) (((((Z1 i k)*(Z2 k j)):Int):Rat)))∧zU w (.agg #[.bool S,.slice T U V,.bool W,.slice X Z a0]) (((((Y i j)+((Z1 i k)*(Z2 k j))):Int):Rat)))) iB qD (fun w Q=>Q.1.1.1.1.2) (q.1.symm ▸ p) v (QG.cl q p v z) (fun _ h=>Or.inl (uC (c0 ▸ uH _) h)) (by simp[qvC,Value.oneCell']) (Zeb _) rfl (fun w w' Q hF=>⟨⟨⟨⟨⟨QIn.up Q.1.1.1.1.1.1.1 (show OwnD _ m0 59 4 o.A o.cap o.xs.length (o.xs.flatMap qvC) by rw[←v];exact MrOk.at Q.1.1.1.1.2 (q.1.symm ▸ p)) hF,QIn.up Q.1.1.1.1.1.1.2 (show OwnD _ m0 59 4 o.A o.cap o.xs.length (o.xs.flatMap qvC) by rw[←v];exact MrOk.at Q.1.1.1.1.2 (q.1.symm ▸ p)) hF⟩,OwnD.apart Q.1.1.1.1.1.2 (show OwnD _ m0 59 4 o.A o.cap o.xs.length (o.xs.flatMap qvC) by rw[←v];exact MrOk.at Q.1.1.1.1.2 (q.1.symm ▸ p)) qD hF⟩,QMs.row Q.1.1.1.2 (show OwnD _ m0 59 4 o.A o.cap o.xs.length (o.xs.flatMap qvC) by rw[←v];exact MrOk.at Q.1.1.1.1.2 (q.1.symm ▸ p)) hF⟩,zU.rowUp Q.1.2 (show OwnD _ m0 59 4 o.A o.cap o.xs.length (o.xs.flatMap qvC) by rw[←v];exact MrOk.at Q.1.1.1.1.2 (q.1.symm ▸ p)) hF⟩,zU.rowUp Q.2 (show OwnD _ m0 59 4 o.A o.cap o.xs.length (o.xs.flatMap qvC) by rw[←v];exact MrOk.at Q.1.1.1.1.2 (q.1.symm ▸ p)) hF⟩) ?_
    refine xr 0 [eS1 0 F n l,eS1 1 B d f,eS1 4 none 0 0,eS1 5 (yL g) n n,yJ 6 (i:Int),yJ 7 (k:Int),yJ 8 (j:Int)] [] ?_
    refine xe (xR (zA (zB (xq 2 [yJ 46 (IntKind.i64.wrap ((j:Int)+1))] [] ?_))))
    rw[yW ((j:Int)+1) (((j+1:Nat):Int)) qO]
    refine xq 1 [yJ 8 ((j+1:Nat):Int)] [] ?_
    refine xe ?_
    refine SXq.weak [eS1 0 F n l,eS1 1 B d f,eS1 4 none 0 0,eS1 5 (yL g) n n,yJ 6 (i:Int),yJ 7 (k:Int),yJ 8 (((j+1):Nat):Int)] [] (Ψ:=fun w=>((((QIn m0 w F l n P∧QIn m0 w B f d L)∧OwnD w m0 61 1 (yL g) n n ((s.set i ⟨o.A,o.cap,o.xs.set j (⟨(S,T,U,V,W,X,Z,a0),((((Y i j)+((Z1 i k)*(Z2 k j))):Int):Rat)⟩:Qv)⟩).flatMap mrC))∧MrOk 59 4 qvC m0 w (s.set i ⟨o.A,o.cap,o.xs.set j (⟨(S,T,U,V,W,X,Z,a0),((((Y i j)+((Z1 i k)*(Z2 k j))):Int):Rat)⟩:Qv)⟩))∧QMs w (s.set i ⟨o.A,o.cap,o.xs.set j (⟨(S,T,U,V,W,X,Z,a0),((((Y i j)+((Z1 i k)*(Z2 k j))):Int):Rat)⟩:Qv)⟩))) (zY.of qK) qK (fun w Q=>⟨⟨⟨⟨Q.1.1.1.1.1.1,Q.1.1.1.1.1.2⟩,(by rw[aC (q.1.symm ▸ p) v (tA ..)];exact Q.1.1.1.1.2)⟩,Q.2⟩,(QMs.set Q.1.1.1.2 (q.1.symm ▸ p) v Q.1.2)⟩) ?_
    exact xG ((1+(c-(j+1)))) qO ⟨(j+1),(s.set i ⟨o.A,o.cap,o.xs.set j (⟨(S,T,U,V,W,X,Z,a0),((((Y i j)+((Z1 i k)*(Z2 k j))):Int):Rat)⟩:Qv)⟩),(updZ Y i j (Y i j+Z1 i k*Z2 k j)),rfl,rfl,z,(QG.set q p v rfl),(ZrK p z hY),rfl⟩
   have J0:j=c:=qO
   refine zB (xq 2 [yJ 28 (j:Int),eS1 29 B d f] [] ?_)
   refine xqk 30 (atA B (0*1)) (fun w R Q=>xQ (t:=33) (e:=61) (sz:=1) (x:=.tmp 29) (ix:=(Operand.const (Value.int IntKind.i64 0))) (len:=d) (cap:=f) (i:=0) (QIn.ne Q.1.1.1.2 K) K) ?_
   obtain⟨E0,F0⟩:∃ x,L[0]! = x:=⟨_,rfl⟩
   refine xqk 31 (.slice E0.A c E0.cap) (fun w R Q=>eE (t:=61) (x:=.tmp 30) (j:=0) Q.1.1.1.2 M K F0) ?_
   refine xq 2 [yB 33 (decide ((j:Int)<(c:Int)))] [] ?_
   rw[(show decide ((j:Int)<(c:Int))=false from uZ qO)]
   refine xq 11 [yB 44 false] [] ?_
   refine yZ (xb (xO (zH (zH (xY (xR (zA (zB (xq 2 [yJ 27 (IntKind.i64.wrap ((k:Int)+1))] [] ?_)))))))))
   rw[yW ((k:Int)+1) (((k+1:Nat):Int)) qO]
   refine xq 1 [yJ 7 ((k+1:Nat):Int)] [] ?_
   refine xe ?_
   refine yP [eS1 0 F n l,eS1 1 B d f,eS1 4 none 0 0,eS1 5 (yL g) n n,yJ 6 (i:Int),yJ 7 (((k+1):Nat):Int)] [] (fun w=>((((QIn m0 w F l n P∧QIn m0 w B f d L)∧OwnD w m0 61 1 (yL g) n n (s.flatMap mrC))∧MrOk 59 4 qvC m0 w s)∧QMs w s)) (fun w Q=>⟨⟨⟨⟨Q.1.1.1.1,Q.1.1.1.2⟩,Q.1.1.2⟩,Q.1.2⟩,Q.2⟩) ?_
   exact xG ((1+(d-(k+1)))) qO ⟨(k+1),s,Y,rfl,rfl,u,q,(fun a b ha hb=>by rw[hY a b ha hb,J0];exact ZrJ hb),rfl⟩
  have K0:k=d:=by have:=uD e0;omega
  refine xO (zH (zH (xY (xR (zA (zB (xq 2 [yJ 21 (IntKind.i64.wrap ((i:Int)+1))] [] ?_)))))))
  rw[yW ((i:Int)+1) (((i+1:Nat):Int)) qO]
  refine xq 1 [yJ 6 ((i+1:Nat):Int)] [] ?_
  refine xe ?_
  refine yP [eS1 0 F n l,eS1 1 B d f,eS1 4 none 0 0,eS1 5 (yL g) n n,yJ 6 (((i+1):Nat):Int)] [] (fun w=>((((QIn m0 w F l n P∧QIn m0 w B f d L)∧OwnD w m0 61 1 (yL g) n n (s.flatMap mrC))∧MrOk 59 4 qvC m0 w s)∧QMs w s)) (fun w Q=>⟨⟨⟨⟨Q.1.1.1.1,Q.1.1.1.2⟩,Q.1.1.2⟩,Q.1.2⟩,Q.2⟩) ?_
  exact xG ((1+(n-(i+1)))) qO ⟨(i+1),s,Y,rfl,rfl,p,q,(fun a b ha hb=>by rw[hY a b ha hb,K0];exact ZqQ),rfl⟩
 have L0:i=n:=by have:=uD d0;omega
 refine xO (zH (zH (xY (zA (yY (xq 2 [eS1 4 (yL g) n n] [] ?_))))))
 refine yZ (zG ?_)
 refine yR (.slice (yL g) n n) fun w' R Q=>?_
 exact⟨g,s,rfl,q.congr (fun a b ha hb=>by rw[hY a b ha hb];exact ZqS (L0 ▸ ha)),c0 ▸ Q.1.1.2,c0 ▸ Q.1.2,Q.2,R⟩
theorem Blk.ext' {T:TypeId}{w w':World}{g:Nat}{cs:Array Value}(h:Blk T w g cs)(a:Ext w w'):Blk T w' g cs:=h.fr a (fun f=>f)
instance {vs:List Fv3} {m0:Nat}:Nonempty {x:Nat × List Nb // x.2.map nbV=vs∧m0≤x.1}:=⟨⟨(m0,vs.map (fun v=>(⟨v.1,none,0,0,v.2.1,v.2.2⟩:Nb))),by
 refine⟨?_,uH _⟩
 show (vs.map _).map nbV=vs
 rw[pW]
 exact List.map_id'' (fun v=>rfl) vs⟩⟩
instance:Nonempty {x:Int×Int // (fun x:Int×Int=>TF x.1 x.2) x}:=⟨⟨(0,0),Or.inl ⟨rfl,rfl⟩,by decide,by decide,by decide⟩⟩
def Gd (f:ByteArray×Int):Prop:=fvB (bytes f.1) f.2=true∧(bytes f.1).length≤1000
theorem ZnT {r c cap:Nat}{A:qA}{a:List (ByteArray×Int)}(d:1≤r∧r≤32)(e:1≤c∧c≤32)(g:a.length=r*c)(h:∀ f∈a,Gd f):FmG ⟨r,c,A,cap,a⟩:=⟨d,e,g,fun f b=>(h f b).1,fun f b=>(h f b).2⟩
theorem Zl7 {z:Int}(h:blen z.natAbs≤65):(Lib.itoa z).length≤1000:=uC (ZkA (k:=20) qD (uS (xW.1 h) qD)) qD
theorem ZqT {z x:Int}(h:(z=0∧x=0)∨(z%2=1∧okE x))(a:blen z.natAbs≤65):Gd (⟨(Lib.itoa z).toArray⟩,x):=by
 refine⟨?_,?_⟩
 ·show fvB (Lib.itoa z) x=true
  rw[Zkz];exact vS h
 exact Zl7 a
theorem Zk5 {z x:Int}(h:(z=0∧x=0)∨(z%2=1∧okE x)):ldV (⟨(Lib.itoa z).toArray⟩,x)=(decide (z<0),z.natAbs,x):=by
 unfold ldV
 show ((ldR (Lib.itoa z) x).s,(ldR (Lib.itoa z) x).m,(ldR (Lib.itoa z) x).e)=_
 have a:fvB (Lib.itoa z) x=true:=by rw[Zkz];exact vS h
 unfold ldR
 rw[uQ a,dZ,fU]
theorem ZnU {s:Bool}{m:Nat}(h:m%2=1):sg s m%2=1:=by cases s<;>simp[sg]<;>omega
theorem ZnV (s:Bool)(m:Nat):(sg s m).natAbs=m:=by cases s<;>simp[sg]
theorem Zr2 {v:Fv3}{E:Int}(h:FvOk v)(hb:Bv E v):Gd (ftW v):=by
 refine ZqT ?_ (by rw[ZnV];exact hb.1)
 rcases h.2.2.1 with h0|a
 ·exact Or.inl ⟨by rw[h0];cases v.1<;>rfl,hb.2.2 h0⟩
 exact Or.inr ⟨ZnU a,h.2.1⟩
theorem Zc5 {α:Type}{r c:Nat}{V:Nat→Nat→α}{p:α→Prop}(h:∀ i j,i<r→j<c→p (V i j)):∀ v∈kR r c V,p v:=fun v a=>by
 obtain⟨i,hi,a⟩:=List.mem_flatMap.1 a
 obtain⟨j,b,rfl⟩:=oS.1 a
 exact h i j (sP.1 hi) (sP.1 b)
theorem Zc6 {α β:Type}{r c:Nat}{V:Nat→Nat→α}{f:α→β}:(kR r c V).map f=kR r c (fun i j=>f (V i j)):=by
 unfold kR
 rw[List.map_flatMap]
 congr 1
 exact funext fun i=>by rw[pW];rfl
def cz (z:Int):Fv3:=(decide (z<0),oddM z.natAbs,((tzn z.natAbs:Nat):Int))
theorem bK:oddM 0=0:=by unfold oddM;exact Nat.zero_div _
theorem Za8:tzn 0=0:=by rw[tzn,dif_pos (Or.inl rfl)]
theorem Zk6:cz 0=(false,0,0):=by
 show (decide ((0:Int)<0),oddM (0:Int).natAbs,((tzn (0:Int).natAbs:Nat):Int))=_
 rw[oI,bK,Za8];rfl
theorem ZrM {n:Nat}:oddM n*2^tzn n=n:=by
 rcases uI n with h|h
 ·subst h;rw[bK,tY]
 exact (kJ h).2.symm
theorem ZeA {n:Nat}(h:n≠0):0<oddM n:=by have:=(kJ (show 0<n by omega)).1;omega
theorem Zpk {n:Nat}(h:oddM n=0):n=0:=by
 rcases uI n with a|a
 ·exact a
 have:=ZeA (n:=n) qO;omega
theorem Zl8 {n:Nat}(h:n<2^64):tzn n≤64:=by
 rcases uI n with a|a
 ·subst a;rw[Za8];decide
 have f:=ZrM (n:=n)
 have d:=ZeA (n:=n) qO
 rcases vL 64 (tzn n) with b|b
 ·have e:=uW (show 0<2 by decide) (show 64≤tzn n by omega)
  have g:=vO d e
  omega
 exact b
theorem Zr3 {s:Bool}{n k:Nat}{z:Int}(f:n*2^k=z.natAbs)(i:z.natAbs<2^64)(j:z≠0→s=decide (z<0)):musT (wK s n 1 ((k:Nat):Int) 64)=some (cz z)∧(wK s n 1 ((k:Nat):Int) 64).err=0:=by
 rcases uI n with d|d
 ·subst d
  rw[tY] at f
  have:z=0:=qO
  subst this
  rw[iQ,Zk6]
  exact⟨rfl,rfl⟩
 have g:z≠0:=fun e=>by
  subst e
  have:=sH d (p2 k)
  rw[f] at this
  exact absurd this qD
 have a:=kJ d
 have h:oddM z.natAbs=oddM n∧tzn z.natAbs=tzn n+k:=by
  have l:z.natAbs=oddM n*2^(tzn n+k):=by rw[uR,← uG,← a.2];exact f.symm
  rw[l]
  exact⟨Zb9 a.1 _,Za3 a.1 _⟩
 have p:=Zl8 i
 have m:n<2^64:=by
  have:=Nat.le_mul_of_pos_right n (p2 k)
  omega
 have o:=few s (k:Int) (b:=64) qD a.2 a.1 m (ZbJ qO qO)
 rw[o]
 refine⟨?_,rfl⟩
 show some (s,oddM n,(k:Int)+((tzn n:Nat):Int))=_
 unfold cz
 rw[h.1,h.2,j g,show (k:Int)+((tzn n:Nat):Int)=((tzn n+k:Nat):Int) by omega]
theorem ZpG {z:Int}(h:z.natAbs<2^64):FvOk (cz z)∧Bv 100 (cz z):=by
 have f:=Zl8 h
 have b:oddM z.natAbs<2^64:=vE (vG _ _) h
 refine⟨⟨ZgQ (rW b) qD,ZbJ (show -1000≤((tzn z.natAbs:Nat):Int) by omega) (show ((tzn z.natAbs:Nat):Int)≤1000 by omega),?_,fun d=>?_⟩,⟨xW.2 (rV b qD),⟨show -100≤((tzn z.natAbs:Nat):Int) by omega,show ((tzn z.natAbs:Nat):Int)≤100 by omega⟩,fun a=>?_⟩⟩
 ·rcases uI z.natAbs with a|a
  ·left;show oddM z.natAbs=0;rw[a,bK]
  right;exact (kJ a).1
 ·have:z<0:=uB d
  exact ZeA qO
 have e:z.natAbs=0:=Zpk a
 show ((tzn z.natAbs:Nat):Int)=0
 rw[e,Za8];rfl
def zT (z:Int):ByteArray:=⟨(xK ((z:Int):Rat)).toArray⟩
theorem rd_z (z:Int):wX (bytes (zT z))=some ((z:Int):Rat):=Za6.2 rfl
theorem Zr4 {z:Int}(h:z.natAbs<2^64):(bytes (zT z)).length≤570:=by
 show (xK ((z:Int):Rat)).length≤570
 unfold xK
 rw[uQ (oH _),qP]
 exact uC (ZkA (k:=20) qD (uS h qD)) qD
theorem ZpH {z:Int}(h:z.natAbs<2^64):(kK (bytes (zT z)) 64).err=0∧fvR (kK (bytes (zT z)) 64)=cz z:=by
 have a:=Zr3 (s:=decide (z<0)) (n:=z.natAbs) (k:=0) (z:=z) (by rw[vV,tU]) h (fun _=>rfl)
 have b:kK (bytes (zT z)) 64=wK (decide (z<0)) z.natAbs 1 ((0:Nat):Int) 64:=by
  unfold kK
  rw[uQ (by rw[rd_z];rfl),uQ qO,bG (rd_z z)]
  unfold rndF
  rw[qP,oH];rfl
 rw[b]
 exact⟨a.2,(kM a.1).2.symm⟩
theorem Zr5 {z:Int}(h:z.natAbs<2^64):rdF 64 (zT z)=ftW (cz z):=by
 obtain⟨a,b⟩:=ZpH h
 unfold rdF frT frE
 rw[uQ a,uQ a,← b];rfl
theorem Zr6 {z:Int}(h:z.natAbs<2^64):ldV (ftW (cz z))=cz z:=by
 have d:=Zl8 h
 show ldV (⟨(Lib.itoa (sg (decide (z<0)) (oddM z.natAbs))).toArray⟩,((tzn z.natAbs:Nat):Int))=_
 rcases uI z.natAbs with a|a
 ·have:z=0:=qO
  subst this
  rw[Zk5 (Or.inl ⟨by rw[oI,bK];rfl,by rw[oI,Za8];rfl⟩),oI,bK,Za8,Zk6];rfl
 have b:=(kJ a).1
 rw[Zk5 (Or.inr ⟨ZnU b,ZbJ qO qO⟩)]
 unfold cz
 rw[ZnV]
 congr 1
 have e:=ZeA (n:=z.natAbs) qO
 cases decide (z<0)<;>simp[sg]<;>omega
section
variable {n c:Nat} {Z:Nat→Nat→Int} {ms:List (Mr Qv)}
def toQr (y:Mr Qv):Qr:=⟨y.A,y.cap,y.xs⟩
theorem ZnW (ms:List (Mr Qv)):(ms.map toQr).flatMap qrC=ms.flatMap mrC:=by rw[List.flatMap_map];rfl
theorem Zjk {α:Type}[Inhabited α]{l:List α}{n:Nat}(h:l.length=n):l=(List.range n).map (fun i=>l[i]!):=List.ext_getElem (by simp[h]) (fun i a b=>by rw[List.getElem_map,List.getElem_range,vZ l i a])
theorem ZaF {α β:Type}{f g:α→List β}:∀ {l:List α},(∀ a∈l,f a=g a)→l.flatMap f=l.flatMap g
 | [],_=>rfl
 | a :: l,h=>by rw[sX,sX,h a qH,ZaF (fun b d=>h b (List.mem_cons_of_mem _ d))]
theorem QG.txt (h:QG n c ms Z):(ms.map toQr).flatMap (fun r=>r.xs.map qT)=kR n c (fun a b=>zT (Z a b)):=by
 rw[List.flatMap_map]
 show ms.flatMap (fun r=>r.xs.map qT)=_
 rw[Zjk h.1,List.flatMap_map]
 unfold kR
 refine ZaF fun a d=>?_
 have d:=sP.1 d
 show (ms[a]!).xs.map qT=_
 rw[Zjk (h.2.1 a d),pW]
 refine List.map_congr_left fun b e=>?_
 show qT (ms[a]!).xs[b]! = _
 unfold qT zT
 rw[h.2.2 a b d (sP.1 e)]
theorem QG.fit (h:QG n c ms Z)(j:∀ a b,a<n→b<c→(Z a b).natAbs≤1000000000):∀ y∈ms.map toQr,∀ x∈y.xs,ml x.q.num.natAbs≤65536∧ml x.q.den≤65536:=fun y l x m=>by
 obtain⟨u,o,rfl⟩:=oS.1 l
 obtain⟨a,f,rfl⟩:=qC o
 obtain⟨b,g,rfl⟩:=qC (show x∈(ms[a]).xs from m)
 have d:a<n:=by rw[←h.1];exact f
 have i:ms[a]=ms[a]! := (vZ ms a f).symm
 have e:b<c:=by rw[←h.2.1 a d,← i];exact g
 have p:(ms[a]).xs[b]=ms[a]!.xs[b]! := by rw[←vZ (ms[a]).xs b g,i]
 show ml ((ms[a]).xs[b]).q.num.natAbs≤65536∧ml ((ms[a]).xs[b]).q.den≤65536
 rw[p,h.2.2 a b d e,qP,oH]
 exact⟨uC (Zga (k:=10) (vE (j a b d e) qD)) qD,uC (Zga (k:=1) qD) qD⟩
theorem QG.col (h:QG n c ms Z):∀ y∈ms.map toQr,y.xs.length=c:=fun y d=>by
 obtain⟨u,e,rfl⟩:=oS.1 d
 obtain⟨a,b,rfl⟩:=qC e
 show (ms[a]).xs.length=c
 rw[←vZ ms a b]
 exact h.2.1 a (by rw[←h.1];exact b)
end
theorem ZnX (m b n c:Nat)(ms:List (Mr Qv))(Z:Nat→Nat→Int)(w:World)(k:OwnD w m 61 1 (some ⟨b,0,none⟩) n n (ms.flatMap mrC))(l:MrOk 59 4 qvC m w ms)(o:QMs w ms)(f:QG n c ms Z)(g:0<n)(p:n≤64)(i:0<c)(q:c≤64)(r:∀ a b,a<n→b<c→(Z a b).natAbs≤1000000000) :
 yA 16 #[.slice (some ⟨b,0,none⟩) n n] w (fun e w'=>∃ A d,e=.returned (.agg #[.int .i64 ((n:Nat):Int),.int .i64 ((c:Nat):Int),.slice A (n*c) d])∧OwnD w' w.heap.size 9 1 A d (n*c) ((kR n c (fun a b=>zT (Z a b))).flatMap stC)∧Ext w w'):=by
 have h:=ZnO m b n c (ms.map toQr) w (by rw[ZnW];exact k) (fun y s=>by
  obtain⟨u,j,rfl⟩:=oS.1 s
  exact⟨l.own u j,o u j⟩) (by rw[vH];exact f.1) g p i q f.col (f.fit r)
 unfold ZhX at h
 rw[f.txt] at h
 exact h
theorem ZqU {m0 n c:Nat}{ts:List ByteArray}{w w':World}{e:Ending}(a:m0≤w.heap.size)(h:∃ A cap,e=.returned (.agg #[.int .i64 ((n:Nat):Int),.int .i64 ((c:Nat):Int),.slice A (n*c) cap])∧OwnD w' w.heap.size 9 1 A cap (n*c) (ts.flatMap stC)∧Ext w w') :
 lQ (fun x:Option Addr×Nat=>.agg #[.int .i64 ((n:Nat):Int),.int .i64 ((c:Nat):Int),.slice x.1 (n*c) x.2]) (fun x w=>OwnD w m0 9 1 x.1 x.2 (n*c) (ts.flatMap stC)) w e w':=by
 obtain⟨A,cap,rfl,b,Q⟩:=h
 exact⟨(A,cap),rfl,Q,b.boxN a⟩
theorem Zl9 (m n c:Nat)(A:qA)(cap:Nat)(Z:Nat→Nat→Int)(w:World)(l:Glob w)(j:OwnD w m 9 1 A cap (n*c) ((kR n c (fun a b=>zT (Z a b))).flatMap stC))(o:0<n)(p:n≤4)(q:0<c)(r:c≤4)(s:∀ a b,a<n→b<c→(Z a b).natAbs≤1000000000) :
 yA 10 #[.agg #[.int .i64 ((n:Nat):Int),.int .i64 ((c:Nat):Int),.slice A (n*c) cap],.int .i64 64] w (ZaD (fun v=>.tuple #[v,.int .i64 0]) n c ((kR n c (fun a b=>cz (Z a b))).map ftW) w):=by
 obtain⟨i,d⟩:∃ i,i=kR n c (fun a b=>zT (Z a b)):=⟨_,rfl⟩
 have k:i.length=n*c:=by rw[d,Zap]
 have g:∀ a b,a<n→b<c→(Z a b).natAbs<2^64:=fun a b e f=>vE (s a b e f) qD
 have t:n*c≤4*4:=vO p r
 rw[←d] at j
 have h:=Zhu n c A cap i 64 w l (ZqO j) (by rw[d];exact Zc5 fun a b e f=>Zr4 (g a b e f)) (by
  unfold mtB
  rw[vS ⟨qO,qO,qO,qO,by rw[k,tT]⟩,Bool.true_and,d]
  exact vF.2 (Zc5 fun a b e f=>by rw[rd_z];rfl)) qD qD qO qO qO (by rw[d];exact Zc5 fun a b e f=>(ZpH (g a b e f)).1)
 rw[k] at h
 rw[show (kR n c (fun a b=>cz (Z a b))).map ftW=i.map (rdF 64) by
  rw[d,Zc6,Zc6]
  unfold kR
  exact ZaF fun a e=>List.map_congr_left fun b f=>(Zr5 (g a b (sP.1 e) (sP.1 f))).symm]
 exact h
end Go.Proofs.YtenchljfmfgeoaaGreatDoor
namespace Go.Proofs.YtenchljfmfgeoaaGreatDoor
theorem Zck {s:Bool}{n d:Nat}{e E:Int}(b:0<d)(o:blen d≤65)(g:0<n → -E≤e+blen n-129)(w:e+blen n≤E)(p:0≤E)(Q:E≤500000) :
 (wK s n d e 64).err=0∧Bv E (fvR (wK s n d e 64))∧((fvR (wK s n d e 64)).2.1≠0→(fvR (wK s n d e 64)).1=s)∧(0<n→(fvR (wK s n d e 64)).2.1≠0):=by
 rcases uI n with a|a
 ·subst a
  rw[iQ]
  exact⟨rfl,bv0 p,fun h=>absurd rfl h,fun h=>absurd h (pK _)⟩
 have l:=ZoD a b (show 0<64 by decide)
 have c:blen (rndM n d 64)≤65:=xW.2 (vE (Zi6 a b qD) qD)
 have q:=Zk4 l
 have z:=Zqa (n:=n) (d:=d) (bits:=64) (k:=rndK n d 64) (Or.inr rfl)
 have r:1≤blen d:=jU.2 (by rw[vV];exact b)
 have g:=g a
 have f:okE (e+rndK n d 64+tzn (rndM n d 64)):=by constructor<;>omega
 have u:wK s n d e 64=⟨s,oddM (rndM n d 64),e+rndK n d 64+tzn (rndM n d 64),0⟩:=by
  unfold wK wP
  rw[uL qO,uL qO,uQ f]
 have m:oddM (rndM n d 64)≠0:=by have:=(kJ l).1;omega
 rw[u]
 refine⟨rfl,⟨Zjj c,⟨?_,?_⟩,fun h=>absurd h m⟩,fun _=>rfl,fun _=>m⟩
 ·show -E≤e+rndK n d 64+tzn (rndM n d 64);omega
 show e+rndK n d 64+tzn (rndM n d 64)≤E;omega
theorem ZhY:blen 1≤65:=xW.2 qD
theorem bL {n:Nat}(h:0<n):1≤blen n:=jU.2 (by rw[vV];exact h)
section
variable {x y t v:Fv3} {E F T:Int}
theorem ZrN (a:Bv E x)(b:Bv F y)(c:0≤E)(f:0≤F)(Q:E+F+130≤500000):(mulV x y 64).err=0∧Bv (E+F+130) (fvR (mulV x y 64))∧((fvR (mulV x y 64)).2.1≠0→(fvR (mulV x y 64)).1=(x.1 != y.1)):=by
 have g:=Zhy a.1 b.1
 have k:=a.2.1
 have l:=b.2.1
 have h:=Zck (s:=x.1 != y.1) (n:=x.2.1*y.2.1) (d:=1) (e:=x.2.2+y.2.2) (E:=E+F+130) qD ZhY (fun h=>by have:=bL h;omega) qO qO Q
 exact⟨h.1,h.2.1,h.2.2.1⟩
theorem ZrO (a:Bv E x)(b:Bv F y)(c:y.2.1≠0)(f:0≤E)(g:0≤F)(Q:E+F+130≤500000):(divV x y 64).err=0∧Bv (E+F+130) (fvR (divV x y 64)):=by
 have k:=a.2.1
 have l:=b.2.1
 have m:=a.1
 unfold divV Zbv
 rw[uL c]
 have h:=Zck (s:=x.1 != y.1) (n:=x.2.1) (d:=y.2.1) (e:=x.2.2-y.2.2) (E:=E+F+130) qO b.1 (fun h=>by have:=bL h;omega) qO qO Q
 exact⟨h.1,h.2.1⟩
theorem Zjl {s:Bool}(h:v.2.1≠0→v.1=s)(a:s=true):sgnV v≤0:=by
 unfold sgnV
 split
 ·omega
 rw[h (by assumption),a,uQ rfl];omega
theorem ZnY (h:sgnV t≤0)(a:t.2.1≠0):t.1=true:=by
 unfold sgnV at h
 rw[uL a] at h
 split at h
 ·assumption
 omega
theorem ZrP (p:Bv E x)(q:Bv E y)(G:0≤E)(Q:E+128≤500000):(subV x y 64).err=0∧Bv (E+128) (fvR (subV x y 64))∧(sgnV x≤0→(y.2.1≠0→y.1=false)→sgnV (fvR (subV x y 64))≤0):=by
 have H:=p.2.1
 have I:=q.2.1
 have w:=p.1
 have z:=q.1
 unfold subV sumR
 by_cases b:x.2.1=0
 ·rw[uQ b]
  have h:=Zck (s:=if y.2.1=0 then y.1 else !y.1) (n:=y.2.1) (d:=1) (e:=y.2.2) (E:=E+128) qD ZhY (fun h=>by have:=bL h;omega) qO qO Q
  refine⟨h.1,h.2.1,fun _ c=>?_⟩
  by_cases a:y.2.1=0
  ·rw[a,iQ];decide
  exact Zjl h.2.2.1 (by rw[uL a,c a];rfl)
 rw[uL b]
 by_cases a:y.2.1=0
 ·rw[uQ a]
  have h:=Zck (s:=x.1) (n:=x.2.1) (d:=1) (e:=x.2.2) (E:=E+128) qD ZhY (fun h=>by have:=bL h;omega) qO qO Q
  exact⟨h.1,h.2.1,fun f _=>Zjl h.2.2.1 (ZnY f b)⟩
 rw[uL a,uL a]
 obtain⟨k,J⟩:∃ k:Nat,(k:Int)=max x.2.2 y.2.2-min x.2.2 y.2.2:=⟨(max x.2.2 y.2.2-min x.2.2 y.2.2).toNat,qO⟩
 have r:∀ (m j:Nat),blen m≤65→j≤k→blen (m*2^j)≤66+k:=fun m j B C=>uC (Zhy (t:=k+1) B (xW.2 (by
  have K:=uW (show 0<2 by decide) C
  rw[uN]
  have M:=Nat.two_pow_pos k
  omega))) qO
 unfold addR
 have D:=Zpj (s:=x.1) (t := !y.1) (r x.2.1 (x.2.2-min x.2.2 y.2.2).toNat w qO) (r y.2.1 (y.2.2-min x.2.2 y.2.2).toNat z qO)
 generalize u:sg x.1 (x.2.1*2^(x.2.2-min x.2.2 y.2.2).toNat)+sg (!y.1) (y.2.1*2^(y.2.2-min x.2.2 y.2.2).toNat)=S at D ⊢
 have h:=Zck (s:=decide (S<0)) (n:=S.natAbs) (d:=1) (e:=min x.2.2 y.2.2) (E:=E+128) qD ZhY (fun h=>by have:=bL h;omega) qO qO Q
 refine⟨h.1,h.2.1,fun f c=>?_⟩
 have g:=ZnY f b
 have l:=c a
 have o:S<0:=by
  rw[g,l] at u
  have N:=sH (sO b) (p2 (x.2.2-min x.2.2 y.2.2).toNat)
  simp only[sg,Bool.not_false,if_true] at u
  omega
 exact Zjl h.2.2.1 (vS o)
theorem ZnZ {y:Nat}{mk:Bool}:y≤2*iP y 0 mk+1:=by
 unfold iP
 simp only[vV,rM,Nat.mod_one,vW,Nat.pow_one,ne_eq,not_true,false_or]
 split<;>omega
theorem ZqV {M n:Nat}{E:Int}(b:M%2=1)(c:1<n):0<sqM M E n:=by
 have d:(blen M:Int)+(E-2*sqK M E n+2)=2*n+1∨(blen M:Int)+(E-2*sqK M E n+2)=2*n+2:=by unfold sqK;omega
 have e:=Za4 (show 0<M by omega) (E-2*sqK M E n+2) qO
 unfold sqM
 generalize fq M 1 (-(E-2*sqK M E n+2))=F at *
 have u:=jU.1 (show 2*n+1≤blen F by omega)
 have f:2^n≤isq F:=by
  refine Nat.le_of_not_lt fun h=>?_
  have a:=vO (show isq F+1≤2^n from h) (show isq F+1≤2^n from h)
  rw[←uR,show n+n=2*n by omega] at a
  have g:=(dG F).2
  omega
 have:=ZnZ (y:=isq F) (mk:=jY M (E-2*sqK M E n+2))
 have k:=uW (show 0<2 by decide) (show 2≤n by omega)
 omega
theorem ZqW (k:Bv E x)(o:FvOk x)(b:0<sgnV x)(r:0≤E)(Q:E+130≤500000):(cI x 64).err=0∧Bv (E+130) (fvR (cI x 64))∧(fvR (cI x 64)).2.1≠0:=by
 have a:x.2.1≠0:=fun e=>by unfold sgnV at b;rw[uQ e] at b;omega
 have d:x.1=false:=by
  unfold sgnV at b
  rw[uL a] at b
  cases h:x.1
  ·rfl
  rw[h] at b;simp at b
 have l:=o.2.2.1.resolve_left a
 have m:=ZqV (E:=x.2.2) l (show 1<64 by decide)
 have f:blen (sqM x.2.1 x.2.2 64)≤65:=xW.2 (vE (ZkW l qD) qD)
 have p:=Zk4 m
 have s:=k.2.1
 have u:=k.1
 have w:=bL (sO a)
 have z:sqK x.2.1 x.2.2 64=((blen x.2.1:Int)+x.2.2-1)/2-((64:Int)-1):=rfl
 have g:okE (sqK x.2.1 x.2.2 64+tzn (sqM x.2.1 x.2.2 64)):=by constructor<;>omega
 have q:cI x 64=⟨false,oddM (sqM x.2.1 x.2.2 64),sqK x.2.1 x.2.2 64+tzn (sqM x.2.1 x.2.2 64),0⟩:=by
  unfold cI fC Zay wP
  rw[uL (by rw[d];decide),uL a,uL qO,uQ g]
 have c:oddM (sqM x.2.1 x.2.2 64)≠0:=by have:=(kJ m).1;omega
 rw[q]
 refine⟨rfl,⟨Zjj f,⟨?_,?_⟩,fun h=>absurd h c⟩,c⟩
 ·show -(E+130)≤sqK x.2.1 x.2.2 64+tzn (sqM x.2.1 x.2.2 64);omega
 show sqK x.2.1 x.2.2 64+tzn (sqM x.2.1 x.2.2 64)≤E+130;omega
theorem ZqX (e:Bv T t)(f:Bv E x)(g:Bv E y)(d:0≤E)(h:E+E+130≤T)(Q:T+128≤500000):∃ v,cJ t x y 64=some v∧Bv (T+128) v∧(x=y→sgnV t≤0→sgnV v≤0):=by
 have a:=ZrN f g d d qO
 have b:=ZrP e (a.2.1.mono h) qO Q
 refine⟨fvR (subV t (fvR (mulV x y 64)) 64),?_,b.2.1,fun c k=>b.2.2 k (fun l=>?_)⟩
 ·unfold cJ
  rw[Zc4 a.1,nA,Zc4 b.1]
 rw[a.2.2 l,c];simp
end
section
variable {n j i:Nat} {L A:List Fv3} {E T:Int}
theorem Zn0 (c:0≤E)(d:j≤4)(a:∀ k,k<j→Bv E (at3 L (i*n+k)))(b:∀ k,k<j→Bv E (at3 L (j*n+k))):∀ (f k:Nat) (t:Fv3) (T:Int),k+f=j→Bv T t→E+E+130≤T→T+128*f≤500000→∃ v,chK 64 L i j n f k t=some v∧Bv (T+128*f) v∧(i=j→sgnV t≤0→sgnV v≤0)
 | 0,k,t,T,_,ht,_,_=>⟨t,rfl,ht.mono qO,fun _ h=>h⟩
 | f+1,k,t,T,hk,ht,hT,Q=>by
  obtain⟨v,g,l,m⟩:=ZqX ht (a k qO) (b k qO) c hT qO
  obtain⟨u,o,p,q⟩:=Zn0 c d a b f (k+1) v (T+128) qO l qO qO
  refine⟨u,?_,p.mono qO,fun e r=>q e (m (by rw[e]) r)⟩
  show (cJ t (at3 L (i*n+k)) (at3 L (j*n+k)) 64).bind (fun t=>chK 64 L i j n f (k+1) t)=some u
  rw[g,nA];exact o
def Eb:Nat→Int
 | 0=>100
 | j+1=>4*Eb j+2000
theorem Zma:∀ j,j<4→0≤Eb j∧Eb j≤50000
 | 0,_=>qD
 | 1,_=>qD
 | 2,_=>qD
 | 3,_=>qD
 | j+4,h=>qO
theorem ZgU {a b:Nat}{v:Fv3}(f:L.length=n*n)(k:j<n)(ha:a<n)(g:b<n):at3 (L.set (i*n+j) v) (a*n+b)=if i=a∧j=b then v else at3 L (a*n+b):=by
 unfold at3
 rw[tG,tG,List.getElem?_set]
 by_cases e:i=a∧j=b
 ·rw[uQ e,e.1,e.2,uQ rfl,uQ (by rw[f];exact gidx ha g)];rfl
 rw[uL e,uL (fun h=>e ?_)]
 have c:i=a:=by
  rcases qU a i with d|d|d
  ·have:=uE n (show a+1≤i by omega)
   rw[rD] at this
   omega
  ·exact d.symm
  have:=uE n (show i+1≤a by omega)
  rw[rD] at this
  omega
 subst c
 exact⟨rfl,qO⟩
def LJ (n j:Nat) (L:List Fv3):Prop:=L.length=n*n∧∀ a b,b<j→b≤a→a<n→Bv (Eb j) (at3 L (a*n+b))
def LI (n j i:Nat) (L:List Fv3):Prop:=L.length=n*n∧(∀ a b,b<j→b≤a→a<n→Bv (Eb j) (at3 L (a*n+b)))∧(∀ a,j≤a→a<i→Bv (Eb (j+1)) (at3 L (a*n+j)))∧(j<i→(at3 L (j*n+j)).2.1≠0∧Bv (2*Eb j+830) (at3 L (j*n+j)))
theorem LI.set {v:Fv3}(h:LI n j i L)(hi:i<n)(g:j≤i)(k:Bv (Eb (j+1)) v)(l:i=j→v.2.1≠0∧Bv (2*Eb j+830) v):LI n j (i+1) (L.set (i*n+j) v):=by
 obtain⟨c,m,o,p⟩:=h
 refine⟨by rw[tA];exact c,fun a b q d f=>?_,fun a e r=>?_,fun _=>?_⟩
 ·rw[ZgU c qO f qO,uL qO];exact m a b q d f
 ·rw[ZgU c qO qO qO]
  split
  ·exact k
  exact o a e qO
 rw[ZgU c qO qO qO]
 split
 ·exact l qO
 exact p qO
theorem LI.fin (h:LI n j n L)(f:j<4):LJ n (j+1) L:=⟨h.1,fun a b g c d=>by
 rcases Nat.eq_or_lt_of_le (show b≤j by omega) with e|e
 ·subst e;exact h.2.2.1 a c d
 have:=(Zma j qO).1
 exact (h.2.1 a b e c d).mono (by show Eb j≤4*Eb j+2000;omega)⟩
theorem tK (e:∀ a b,a<n→b<n→Bv 100 (at3 A (a*n+b))∧FvOk (at3 A (a*n+b)))(h:LI n j i L)(hi:i<n)(f:j≤i)(q:j<4):∃ t,chK 64 L i j n j 0 (at3 A (i*n+j))=some t∧Bv (2*Eb j+700) t∧FvOk t∧(i=j→sgnV (at3 A (i*n+j))≤0→sgnV t≤0):=by
 obtain⟨g,r⟩:=Zma j qO
 obtain⟨l,m⟩:=e i j hi qO
 obtain⟨t,d,o,p⟩:=Zn0 (L:=L) (i:=i) (n:=n) g qO (fun k c=>h.2.1 i k c qO hi) (fun k c=>h.2.1 j k c qO qO) j 0 (at3 A (i*n+j)) (2*Eb j+150) qO (l.mono qO) qO qO
 exact⟨t,d,o.mono qO,Zjf qD qD _ _ _ _ m d,p⟩
theorem Zn1 (l:∀ a b,a<n→b<n→Bv 100 (at3 A (a*n+b))∧FvOk (at3 A (a*n+b)))(k:j<4):∀ (f i:Nat) (L:List Fv3),i+f=n→j≤i→LI n j i L→(i=j→∀ t,chK 64 L j j n j 0 (at3 A (j*n+j))=some t→0<sgnV t)→∃ g,chI 64 A n j f i L=some g∧LJ n (j+1) g
 | 0,i,L,hf,_,h,_=>⟨L,rfl,by
  have e:i=n:=qO
  subst e;exact h.fin k⟩
 | f+1,i,L,hf,hji,h,hp=>by
  obtain⟨B,C⟩:=Zma j qO
  have D:Eb (j+1)=4*Eb j+2000:=rfl
  obtain⟨t,t1,m,t3,_⟩:=tK l h qO hji k
  obtain⟨v,o,p,q⟩:∃ v,chE 64 L i j n t=some v∧Bv (Eb (j+1)) v∧(i=j→v.2.1≠0∧Bv (2*Eb j+830) v):=by
   unfold chE
   by_cases c:j<i
   ·obtain⟨r,s⟩:=h.2.2.2 c
    have d:=ZrO m s r qO qO qO
    rw[uQ c,Zc4 d.1]
    exact⟨_,rfl,d.2.mono qO,fun e=>qO⟩
   have e:i=j:=qO
   have u:=hp e t (by rw[e] at t1;exact t1)
   have d:=ZqW m t3 u qO qO
   rw[uL c,uL qO,Zc4 d.1]
   exact⟨_,rfl,d.2.1.mono qO,fun _=>⟨d.2.2,d.2.1.mono qO⟩⟩
  obtain⟨g,w,z⟩:=Zn1 l k f (i+1) _ qO qO (h.set qO hji p q) (fun e=>qO)
  refine⟨g,?_,z⟩
  show (chK 64 L i j n j 0 (at3 A (i*n+j))).bind (fun t=>(chE 64 L i j n t).bind fun v=>chI 64 A n j f (i+1) (L.set (i*n+j) v))=some g
  rw[t1,nA,o,nA];exact w
def SgJ (b:Nat) (A:List Fv3) (n:Nat):Nat→Nat→List Fv3→Prop
 | 0,_,_=>False
 | f+1,j,L=>∃ t,chK b L j j n j 0 (at3 A (j*n+j))=some t∧(sgnV t≤0∨∃ L1,chI b A n j (n-j) j L=some L1∧SgJ b A n f (j+1) L1)
theorem Zk7 {c:Nat}(g:∀ a b,a<n→b<n→Bv 100 (at3 A (a*n+b))∧FvOk (at3 A (a*n+b)))(q:n≤4)(k:c<n)(l:sgnV (at3 A (c*n+c))≤0):∀ (f j:Nat) (L:List Fv3),j+f=n→j≤c→LJ n j L→SgJ 64 A n f j L
 | 0,j,L,hf,hj,_=>qO
 | f+1,j,L,hf,hj,h=>by
  have m:LI n j j L:=⟨h.1,h.2,fun a r C=>qO,fun r=>qO⟩
  obtain⟨t,t1,_,_,s⟩:=tK g m qO (uH j) qO
  refine⟨t,t1,?_⟩
  by_cases o:sgnV t≤0
  ·exact Or.inl o
  have w:j≠c:=fun e=>o (s rfl (by rw[e];exact l))
  obtain⟨p,z,B⟩:=Zn1 g qO (n-j) j L qO (uH j) m (fun _ u d=>by
   rw[t1] at d
   injection d with d
   subst d
   omega)
  exact Or.inr ⟨p,z,Zk7 g q k l f (j+1) p qO qO B⟩
theorem ZqY:LJ n 0 (List.replicate (n*n) ((false,0,0):Fv3)):=⟨qS,fun a b c _ _=>qO⟩
theorem ZrQ {z:Int}(h:z≤0):sgnV (cz z)≤0:=by
 unfold sgnV cz
 by_cases a:oddM z.natAbs=0
 ·rw[uQ a];omega
 rw[uL a,uQ (vS (by
  have:z≠0:=fun e=>a (by rw[e,oI,bK])
  omega))];omega
theorem Zn2 {Z:Nat→Nat→Int}{a b:Nat}(ha:a<n)(c:b<n):at3 (kR n n (fun a b=>cz (Z a b))) (a*n+b)=cz (Z a b):=by
 unfold at3
 rw[tG,ZnS ha c];rfl
theorem ZrR {Z:Nat→Nat→Int}{c:Nat}(g:n≤4)(d:c<n)(h:∀ a b,a<n→b<n→(Z a b).natAbs≤1000000000)(k:Z c c≤0):SgJ 64 (kR n n (fun a b=>cz (Z a b))) n n 0 (List.replicate (n*n) (false,0,0)) :=
 Zk7 (fun a b e f=>by
  rw[Zn2 e f]
  exact (ZpG (vE (h a b e f) qD)).symm) g d (by rw[Zn2 d d];exact ZrQ k) n 0 _ qO (vQ _) ZqY
end
end Go.Proofs.YtenchljfmfgeoaaGreatDoor
namespace Go.Proofs.YtenchljfmfgeoaaGreatDoor
open Go.RowKit Tryz
abbrev pncF:Ending:=.panicked [{ v:=.iface 145 (.int .i64 7),recovered:=false }]
section
variable {P:Program} {N:Nat} {S0:Nat→Prop} {w0 w:World} {ops:Array Oper} {Q:Exit→Act→World→Prop} {s:St} {Φ:World→Prop} {i:Nat} {t:TypeId} {x:Operand} {v:Value}
theorem Zpl (t:TypeId)(v:Value)(K:∀ L a w,Inv N S0 w0 s Φ L a w→Q (.panic [{ v:=.iface t v,recovered:=false }]) a w)(c:Nat.blt i ops.size=true)(d:s.wantB ops (opAt ops i)=some true)(e:kP (opAt ops i).op=true)(f:(opAt ops i).op.operands.toList.all s.vB=true)(g:(opAt ops i).op=.panic x)(k:s.rho x=.iface t v):SXi P N S0 w0 ops Q i s Φ:=by
 unfold SXi
 rw[jN c]
 intro L a w hi
 refine wpList_step fun l m=>?_
 rw[uQ (hi.want d)]
 unfold Oper.wp
 rw[hi.exec e f]
 have h:(execOp s.rho (opAt ops i)).run P w=.halt (.panic (.iface t v)) w:=by
  simp[execOp,g,k,run_panic_iface]
 rw[h,Oper.upon_panic]
 exact K L a w hi
theorem ZqZ {o:Oper}{ρ:Operand→Value}(ho:o.op=Op.makeInterface t x)(hx:ρ x=v)(ht:(match P.underlying t with | some (.interface _)=>false | some _=>true | none=>false)=true):(execOp ρ o).run P w=.ok (.value (.iface t v)) w:=by
 cases hu:P.underlying t with
 | none=>rw[hu] at ht;cases ht
 | some d =>
  rw[hu] at ht
  cases d<;>first | (cases ht;done)|simp[execOp,ho,hx,Instr.makeInterface,underlying,hu,Result.andThen]
end
section
variable {b n i j:Nat} {A L:List Fv3}
def SgI (b:Nat) (A:List Fv3) (n j i:Nat) (L:List Fv3):Prop:=(i=j∧∃ t,chK b L j j n j 0 (at3 A (j*n+j))=some t∧sgnV t≤0)∨∃ L1,chI b A n j (n-i) i L=some L1∧SgJ b A n (n-(j+1)) (j+1) L1
theorem Zn3 (h:j<n)(d:SgJ b A n (n-j) j L):SgI b A n j j L:=by
 obtain⟨f,e⟩:∃ f,n-j=f+1:=⟨n-j-1,qO⟩
 have c:SgJ b A n (f+1) j L:=by rw[←e];exact d
 obtain⟨t,g,a⟩:=c
 rcases a with a|⟨k,a,l⟩
 ·exact Or.inl ⟨rfl,t,g,a⟩
 exact Or.inr ⟨k,a,by rw[show n-(j+1)=f by omega];exact l⟩
theorem Zq0 (h:j<n)(hi:i=n)(c:SgI b A n j i L):SgJ b A n (n-(j+1)) (j+1) L:=by
 rcases c with ⟨a,_⟩|⟨e,a,d⟩
 ·omega
 rw[hi,sS] at a
 injection a with a
 rw[a];exact d
theorem Zpm (h:i<n)(f:SgI b A n j i L):∃ t,chK b L i j n j 0 (at3 A (i*n+j))=some t∧((i=j∧sgnV t≤0)∨∃ u a,chE b L i j n t=some u∧chI b A n j (n-(i+1)) (i+1) (L.set (i*n+j) u)=some a∧SgJ b A n (n-(j+1)) (j+1) a):=by
 rcases f with ⟨c,t,d,e⟩|⟨a,c,d⟩
 ·subst c;exact⟨t,d,Or.inl ⟨rfl,e⟩⟩
 obtain⟨t,u,e,g,k⟩:=Zi9 h c
 exact⟨t,e,Or.inr ⟨u,a,g,k,d⟩⟩
end
theorem Zn4 (m n:Nat)(A:qA)(cap:Nat)(xs:List Nb)(b G J:Nat)(w:World)(hg:Glob w)(hM:Blk 97 w G #[.int .i64 ((n:Nat):Int),.int .i64 ((n:Nat):Int),.slice A (n*n) cap])(hB:Blk 3 w J #[.int .i64 ((b:Nat):Int)])(hO:OwnD w m 109 3 A cap (n*n) (xs.flatMap nbC))(hN:xF w xs)(hl:xs.length=n*n)(hn:n≤32)(G0:8≤b)(H0:b≤1024)(I0:∀ x∈xs,FvOk (nbV x))(hC:SgJ b (xs.map nbV) n n 0 (List.replicate (n*n) (false,0,0))) :
 yA 95 #[.pointer (some ⟨G,0,none⟩),.pointer (some ⟨J,0,none⟩)] w (fun e w'=>e=pncF∧Ext w w'):=by
 obtain⟨m0,h0⟩:∃ m,m=w.heap.size:=⟨_,rfl⟩
 have Q0:G<m0:=h0 ▸ hM.lt
 have R0:J<m0:=h0 ▸ hB.lt
 have T0:n*n≤32*32:=vO hn hn
 refine zQ (Φ:=fun w=>(Blk 97 w G #[yI (n:Int), yI (n:Int),.slice A (n*n) cap]∧Blk 3 w J #[yI (b:Int)])) func95 rfl qK (fun w' hf=>⟨hM.ext' hf,hB.ext' hf⟩) ?_
 refine yY (xq 1 [(2,.p 2 0)] [(2,97,[.v (yI 0),.v (yI 0),.v (.slice none 0 0)])] ?_)
 refine yZ (yY (xq 1 [(8,.v (.pointer (yL G)))] [] ?_))
 refine xqk 9 (yI (n:Int)) (fun w R Q=>xZ (t:=3) (x:=.tmp 8) (g:=G) (off:=0) (Blk.news Q.1 0 _ rfl)) ?_
 refine xq 1 [(10,.v (.pointer (some ⟨G,0+1,none⟩)))] [] ?_
 refine xqk 11 (yI (n:Int)) (fun w R Q=>xZ (t:=3) (x:=.tmp 10) (g:=G) (off:=0+1) (Blk.news Q.1 1 _ rfl)) ?_
 refine xqc 80 [yI (n:Int), yI (n:Int)] 12 (fun b:{b:Nat // m0≤b}=>.agg #[yI (n:Int), yI (n:Int),.slice (yL b.1) (n*n) (n*n)]) _ (fun w R Q=>(Zd6 n n _ qO qO).mono (fun _ _ h=>Zd7 (m0:=m0) (h0 ▸ R.size) rfl h)) fun⟨f,q0⟩=>?_
 refine xq 2 [(3,.p 3 0)] [(3,97,[.v (yI (n:Int)),.v (yI (n:Int)),.v (.slice (yL f) (n*n) (n*n))])] ?_
 refine yZ (zC (yY (xq 1 [(13,.v (.pointer (some ⟨G,0+1,none⟩)))] [] ?_)))
 refine xqk 14 (yI (n:Int)) (fun w R Q=>xZ (t:=3) (x:=.tmp 13) (g:=G) (off:=0+1) (Blk.news Q.1.1 1 _ rfl)) ?_
 refine xq 1 [yJ 15 0] [] ?_
 refine yZ (zP ?_)
 refine yC [(0,.v (.pointer (yL G))),(1,.v (.pointer (yL J))),(2,.p 2 0),(3,.p 3 0),yJ 14 (n:Int),yJ 15 ((0:Nat):Int)] [(3,97,[.v (yI (n:Int)),.v (yI (n:Int)),.v (.slice (yL f) (n*n) (n*n))]),(2,97,[.v (yI 0),.v (yI 0),.v (.slice none 0 0)])] (fun w=>(((Blk 97 w G #[yI (n:Int), yI (n:Int),.slice A (n*n) cap]∧Blk 3 w J #[yI (b:Int)])∧xF w (List.replicate (n*n) nb0))∧OwnD w m0 109 3 (yL f) (n*n) (n*n) ((List.replicate (n*n) nb0).flatMap nbC))) (fun w Q=>⟨⟨⟨Q.1.1,Q.1.2⟩,(xF.zero _ _)⟩,(by exact Q.2)⟩) ?_
 refine xU (fun nn ss ff=>∃ (j:Nat) (E:List Nb),ss=ofL [(0,.v (.pointer (yL G))),(1,.v (.pointer (yL J))),(2,.p 2 0),(3,.p 3 0),yJ 14 (n:Int),yJ 15 (j:Int)] [(3,97,[.v (yI (n:Int)),.v (yI (n:Int)),.v (.slice (yL f) (n*n) (n*n))]),(2,97,[.v (yI 0),.v (yI 0),.v (.slice none 0 0)])]∧ff=(fun w=>(((Blk 97 w G #[yI (n:Int), yI (n:Int),.slice A (n*n) cap]∧Blk 3 w J #[yI (b:Int)])∧xF w E)∧OwnD w m0 109 3 (yL f) (n*n) (n*n) (E.flatMap nbC)))∧(j≤n)∧(E.length=n*n)∧(∀ y∈E,FvOk (nbV y))∧(SgJ b (xs.map nbV) n (n-j) j (E.map nbV))∧nn=(1+(n-j))) ((1+(n-0))) ⟨0,(List.replicate (n*n) nb0),rfl,rfl,(vQ _),qS,(Zi8 _),(by rw[Zhv];exact hC),rfl⟩ ?_
 rintro nn ss ff ⟨j,E,rfl,rfl,hj,F,Y,hL,rfl⟩
 refine yY (xq 1 [yB 16 (decide ((j:Int)<(n:Int)))] [] ?_)
 refine yZ (zC ?_)
 refine yQ ((decide ((j:Int)<(n:Int)))) (fun i0=>?_) fun i0=>?_
 ·have B:j<n:=by have:=uB i0;omega
  have J0:=Zn3 B hL
  refine zI (zA (zC (zP (yY (xq 2 [yJ 4 (j:Int)] [] ?_)))))
  refine yZ (yY (xq 2 [yJ 5 (j:Int)] [] ?_))
  refine yZ (zP ?_)
  refine yC [(0,.v (.pointer (yL G))),(1,.v (.pointer (yL J))),(2,.p 2 0),(3,.p 3 0),yJ 4 (j:Int),yJ 5 (j:Int),yJ 14 (n:Int),yJ 15 (j:Int)] [(3,97,[.v (yI (n:Int)),.v (yI (n:Int)),.v (.slice (yL f) (n*n) (n*n))]),(2,97,[.v (yI 0),.v (yI 0),.v (.slice none 0 0)])] (fun w=>(((Blk 97 w G #[yI (n:Int), yI (n:Int),.slice A (n*n) cap]∧Blk 3 w J #[yI (b:Int)])∧xF w E)∧OwnD w m0 109 3 (yL f) (n*n) (n*n) (E.flatMap nbC))) (fun w Q=>⟨⟨⟨Q.1.1.1,Q.1.1.2⟩,Q.1.2⟩,Q.2⟩) ?_
  refine xU (fun nn ss ff=>∃ (i:Nat) (E:List Nb),ss=ofL [(0,.v (.pointer (yL G))),(1,.v (.pointer (yL J))),(2,.p 2 0),(3,.p 3 0),yJ 4 (j:Int),yJ 5 (i:Int),yJ 14 (n:Int),yJ 15 (j:Int)] [(3,97,[.v (yI (n:Int)),.v (yI (n:Int)),.v (.slice (yL f) (n*n) (n*n))]),(2,97,[.v (yI 0),.v (yI 0),.v (.slice none 0 0)])]∧ff=(fun w=>(((Blk 97 w G #[yI (n:Int), yI (n:Int),.slice A (n*n) cap]∧Blk 3 w J #[yI (b:Int)])∧xF w E)∧OwnD w m0 109 3 (yL f) (n*n) (n*n) (E.flatMap nbC)))∧(j≤i)∧(i≤n)∧(E.length=n*n)∧(∀ y∈E,FvOk (nbV y))∧(SgI b (xs.map nbV) n j i (E.map nbV))∧nn=(1+(n-i))) ((1+(n-j))) ⟨j,E,rfl,rfl,(uH _),(rW B),F,Y,J0,rfl⟩ ?_
  rintro nn ss ff ⟨i,E,rfl,rfl,P0,hi,F,Y,hI,rfl⟩
  refine zC (yY (xq 2 [yJ 19 (i:Int),(20,.v (.pointer (yL G)))] [] ?_))
  refine xqk 21 (yI (n:Int)) (fun w R Q=>xZ (t:=3) (x:=.tmp 20) (g:=G) (off:=0) (Blk.news Q.1.1.1 0 _ rfl)) ?_
  refine xq 1 [yB 22 (decide ((i:Int)<(n:Int)))] [] ?_
  refine xe (zA ?_)
  refine yQ ((decide ((i:Int)<(n:Int)))) (fun j0=>?_) fun j0=>?_
  ·have K:i<n:=by have:=uB j0;omega
   obtain⟨t1,hK,k0⟩:=Zpm K hI
   refine zI (zA (zC (zP (zC (zB ?_)))))
   refine xqk 25 (.agg #[yI (n:Int), yI (n:Int),.slice A (n*n) cap]) (fun w R Q=>ZkQ (t:=97) (x:=.tmp 0) (g:=G) (cs:=[yI (n:Int), yI (n:Int),.slice A (n*n) cap]) Q.1.1.1) ?_
   refine xq 2 [yJ 26 (i:Int),yJ 27 (j:Int)] [] ?_
   obtain⟨C,e0⟩:∃ x,xs[i*n+j]! = x:=⟨_,rfl⟩
   have u0:FvOk (nbV C):=by rw[←e0];exact I0 _ (xV (by rw[hl];exact (wG K B)))
   refine xqc 81 [.agg #[yI (n:Int), yI (n:Int),.slice A (n*n) cap], yI (i:Int), yI (j:Int)] 28 (fun _:Unit=>.agg #[.bool C.s,.slice C.A C.l C.c, yI C.e]) _ (fun w R Q=>((show Calls _ _ _ _ (RetV _ (yV C.s C.A C.l C.c C.e)) by rw[←e0];exact bJ m n n A cap (n*n) xs i j _ (OwnD.ext hO R) hl qO qO (wG K B) qO)).mono (fun _ _ h=>Zhw h (show NbOk _ C by rw[←e0];exact (xF.ext hN R) _ (xV (by rw[hl];exact (wG K B)))))) fun xx=>?_
   refine xq 2 [(6,.p 6 0)] [yF 6 109 C.s C.A C.l C.c C.e] ?_
   refine yZ (zC (yY (xq 2 [yJ 29 (j:Int),yJ 30 0] [] ?_)))
   refine yZ (zP ?_)
   refine yC [(0,.v (.pointer (yL G))),(1,.v (.pointer (yL J))),(2,.p 2 0),(3,.p 3 0),yJ 4 (j:Int),yJ 5 (i:Int),(6,.p 6 0),yJ 14 (n:Int),yJ 15 (j:Int),yJ 29 (j:Int),yJ 30 ((0:Nat):Int)] [yF 6 109 C.s C.A C.l C.c C.e,(3,97,[.v (yI (n:Int)),.v (yI (n:Int)),.v (.slice (yL f) (n*n) (n*n))]),(2,97,[.v (yI 0),.v (yI 0),.v (.slice none 0 0)])] (fun w=>((((Blk 97 w G #[yI (n:Int), yI (n:Int),.slice A (n*n) cap]∧Blk 3 w J #[yI (b:Int)])∧xF w E)∧OwnD w m0 109 3 (yL f) (n*n) (n*n) (E.flatMap nbC))∧NbOk w C)) (fun w Q=>⟨⟨⟨⟨Q.1.1.1.1,Q.1.1.1.2⟩,Q.1.1.2⟩,Q.1.2⟩,Q.2⟩) ?_
   refine xU (fun nn ss ff=>∃ (k:Nat) (t:Nb),ss=ofL [(0,.v (.pointer (yL G))),(1,.v (.pointer (yL J))),(2,.p 2 0),(3,.p 3 0),yJ 4 (j:Int),yJ 5 (i:Int),(6,.p 6 0),yJ 14 (n:Int),yJ 15 (j:Int),yJ 29 (j:Int),yJ 30 (k:Int)] [yF 6 109 t.s t.A t.l t.c t.e,(3,97,[.v (yI (n:Int)),.v (yI (n:Int)),.v (.slice (yL f) (n*n) (n*n))]),(2,97,[.v (yI 0),.v (yI 0),.v (.slice none 0 0)])]∧ff=(fun w=>((((Blk 97 w G #[yI (n:Int), yI (n:Int),.slice A (n*n) cap]∧Blk 3 w J #[yI (b:Int)])∧xF w E)∧OwnD w m0 109 3 (yL f) (n*n) (n*n) (E.flatMap nbC))∧NbOk w t))∧(k≤j)∧(FvOk (nbV t))∧(chK b (E.map nbV) i j n (j-k) k (nbV t)=some t1)∧nn=(1+(j-k))) ((1+(j-0))) ⟨0,C,rfl,rfl,(vQ _),u0,(by rw[aR (by rw[hl];exact (wG K B)),e0] at hK;exact hK),rfl⟩ ?_
   rintro nn ss ff ⟨k,t,rfl,rfl,hk,X,hK,rfl⟩
   refine yY (xq 1 [yB 31 (decide ((k:Int)<(j:Int)))] [] ?_)
   refine yZ (zC ?_)
   refine yQ ((decide ((k:Int)<(j:Int)))) (fun l0=>?_) fun l0=>?_
   ·have C0:k<j:=by have:=uB l0;omega
    have Z:k<n:=qO
    obtain⟨v,v0,K0⟩:=Zja C0 hK
    refine zI (zA (zC (zP (yY (xq 2 [yJ 7 (k:Int)] [] ?_)))))
    refine xe (zA ?_)
    refine yO 11 zO ?_
    refine xqg 4 [(33,.v (yV t.s t.A t.l t.c t.e)),(34,.v (.agg #[yI (n:Int), yI (n:Int),.slice (yL f) (n*n) (n*n)])),yJ 35 (i:Int),yJ 36 (k:Int)] ?_
    obtain⟨H,f0⟩:∃ x,E[i*n+k]! = x:=⟨_,rfl⟩
    have x0:FvOk (nbV H):=by rw[←f0];exact Y _ (xV (by rw[F];exact (wG K Z)))
    refine xqd 81 [.agg #[yI (n:Int), yI (n:Int),.slice (yL f) (n*n) (n*n)], yI (i:Int), yI (k:Int)] 37 (fun _:Unit=>.agg #[.bool H.s,.slice H.A H.l H.c, yI H.e]) _ (fun w R Q=>yN ((show Calls _ _ _ _ (RetV _ (yV H.s H.A H.l H.c H.e)) by rw[←f0];exact bJ m0 n n (yL f) (n*n) (n*n) E i k _ Q.1.2 F qO qO (wG K Z) qO))) fun xx=>?_
    refine xqg 3 [(38,.v (.agg #[yI (n:Int), yI (n:Int),.slice (yL f) (n*n) (n*n)])),yJ 39 (j:Int),yJ 40 (k:Int)] ?_
    obtain⟨I,g0⟩:∃ x,E[j*n+k]! = x:=⟨_,rfl⟩
    have y0:FvOk (nbV I):=by rw[←g0];exact Y _ (xV (by rw[F];exact (wG B Z)))
    refine xqd 81 [.agg #[yI (n:Int), yI (n:Int),.slice (yL f) (n*n) (n*n)], yI (j:Int), yI (k:Int)] 41 (fun _:Unit=>.agg #[.bool I.s,.slice I.A I.l I.c, yI I.e]) _ (fun w R Q=>yN ((show Calls _ _ _ _ (RetV _ (yV I.s I.A I.l I.c I.e)) by rw[←g0];exact bJ m0 n n (yL f) (n*n) (n*n) E j k _ Q.1.1.2 F qO qO (wG B Z) qO))) fun xx=>?_
    refine xqj 42 (yI (b:Int)) (fun w Q=>xZ (t:=3) (x:=.tmp 1) (g:=J) (off:=0) (Blk.news Q.1.1.1.2 0 _ rfl)) ?_
    have D0:cJ (nbV t) (nbV H) (nbV I) b=some v:=by rw[aR (by rw[F];exact (wG K Z)),aR (by rw[F];exact (wG B Z)),f0,g0] at v0;exact v0
    refine xqd 82 [yV t.s t.A t.l t.c t.e, yV H.s H.A H.l H.c H.e, yV I.s I.A I.l I.c I.e, yI (b:Int)] 43 (fun z:{z:Nb // nbV z=v}=>.agg #[.bool z.1.s,.slice z.1.A z.1.l z.1.c, yI z.1.e]) _ (fun w R Q=>yM ZkX (Zi7 t H I b v _ (hg.ext R) Q.1.1.2 (show NbOk _ H by rw[←f0];exact Q.1.1.1.1.2 _ (xV (by rw[F];exact (wG K Z)))) (show NbOk _ I by rw[←g0];exact Q.1.1.1.1.2 _ (xV (by rw[F];exact (wG B Z)))) X x0 y0 G0 H0 D0)) fun⟨W,r0⟩=>?_
    refine xz (xq 1 [] [yF 6 109 W.s W.A W.l W.c W.e] ?_)
    refine xe (xR (zA (zB (xq 1 [yJ 44 (IntKind.i64.wrap ((k:Int)+1))] [] ?_))))
    rw[yW ((k:Int)+1) (((k+1:Nat):Int)) qO]
    refine xq 1 [yJ 30 ((k+1:Nat):Int)] [] ?_
    refine xe ?_
    refine yP [(0,.v (.pointer (yL G))),(1,.v (.pointer (yL J))),(2,.p 2 0),(3,.p 3 0),yJ 4 (j:Int),yJ 5 (i:Int),(6,.p 6 0),yJ 14 (n:Int),yJ 15 (j:Int),yJ 29 (j:Int),yJ 30 (((k+1):Nat):Int)] [yF 6 109 W.s W.A W.l W.c W.e,(3,97,[.v (yI (n:Int)),.v (yI (n:Int)),.v (.slice (yL f) (n*n) (n*n))]),(2,97,[.v (yI 0),.v (yI 0),.v (.slice none 0 0)])] (fun w=>((((Blk 97 w G #[yI (n:Int), yI (n:Int),.slice A (n*n) cap]∧Blk 3 w J #[yI (b:Int)])∧xF w E)∧OwnD w m0 109 3 (yL f) (n*n) (n*n) (E.flatMap nbC))∧NbOk w W)) (fun w Q=>⟨⟨⟨⟨Q.1.1.1.1.1.1.1,Q.1.1.1.1.1.1.2⟩,Q.1.1.1.1.1.2⟩,Q.1.1.1.1.2⟩,Q.2⟩) ?_
    exact xG ((1+(j-(k+1)))) qO ⟨(k+1),W,rfl,rfl,C0,(by rw[r0];exact Zfi qO qO v0),(by rw[r0];exact K0),rfl⟩
   have L0:k=j:=by have:=uD l0;omega
   have hT:nbV t=t1:=by rw[L0,sS] at hK;injection hK
   rw[←hT] at k0
   refine xO (zH (zH (xY (zA (zC (yY (xq 3 [yB 47 (decide ((i:Int)>(j:Int)))] [] ?_)))))))
   refine xe (zA ?_)
   refine yQ ((decide ((i:Int)>(j:Int)))) (fun n0=>?_) fun n0=>?_
   ·have o0:j<i:=by have:=uB n0;omega
    refine zC ?_
    obtain⟨u,L1,p0,z0,A0⟩:=k0.resolve_left (fun h=>qO)
    refine yO 13 zO ?_
    refine xqg 7 [(48,.v (.agg #[yI (n:Int), yI (n:Int),.slice (yL f) (n*n) (n*n)])),yJ 49 (i:Int),yJ 50 (j:Int),(51,.v (yV t.s t.A t.l t.c t.e)),(52,.v (.agg #[yI (n:Int), yI (n:Int),.slice (yL f) (n*n) (n*n)])),yJ 53 (j:Int),yJ 54 (j:Int)] ?_
    obtain⟨D,a0⟩:∃ x,E[j*n+j]! = x:=⟨_,rfl⟩
    have d0:FvOk (nbV D):=by rw[←a0];exact Y _ (xV (by rw[F];exact (wG B B)))
    refine xqd 81 [.agg #[yI (n:Int), yI (n:Int),.slice (yL f) (n*n) (n*n)], yI (j:Int), yI (j:Int)] 55 (fun _:Unit=>.agg #[.bool D.s,.slice D.A D.l D.c, yI D.e]) _ (fun w R Q=>yN ((show Calls _ _ _ _ (RetV _ (yV D.s D.A D.l D.c D.e)) by rw[←a0];exact bJ m0 n n (yL f) (n*n) (n*n) E j j _ Q.1.2 F qO qO (wG B B) qO))) fun xx=>?_
    refine xqj 56 (yI (b:Int)) (fun w Q=>xZ (t:=3) (x:=.tmp 1) (g:=J) (off:=0) (Blk.news Q.1.1.1.2 0 _ rfl)) ?_
    obtain⟨o,b0⟩:=yE (divV (nbV t) (nbV D) b)
    have s0:o.err=0:=by rw[←b0];exact (kM (Zcg o0 p0 (Zc1 (by rw[F];exact (wG B B)) a0))).1
    have E0:FvOk (fvR o):=by rw[←b0];exact ZgR qO qO (by rw[b0];exact s0)
    refine xqd 96 [yV t.s t.A t.l t.c t.e, yV D.s D.A D.l D.c D.e, yI (b:Int)] 57 (fun q:ShN=>.tuple #[yV o.s q.1 q.2.1 q.2.2 o.e, yI 0]) _ (fun w R Q=>((show Calls _ _ _ _ (xX w o) by rw[←b0];exact Zhm t.s t.A t.l t.c t.m t.e D.s D.A D.l D.c D.m D.e b qO qO _ (hg.ext R) Q.1.2 X.wl X.lo X.hi (show NbOk _ D by rw[←a0];exact Q.1.1.1.2 _ (xV (by rw[F];exact (wG B B)))) d0.wl d0.lo d0.hi)).mono (fun _ _ h=>aQ s0 h)) fun⟨M,O,S⟩=>?_
    refine xqg 2 [(58,.v (yV o.s M O S o.e)),yJ 59 0] ?_
    refine xqd 90 [yV o.s M O S o.e, yI 0] 60 (fun _:Unit=>.agg #[.bool o.s,.slice M O S, yI o.e]) _ (fun w R Q=>yN (aP o.s M O S o.e _)) fun xx=>?_
    refine xz ?_
    refine cU (b:=f) (d:=61) (j:=0) (c:=.bool E[0]!.s) 83 [.agg #[yI (n:Int), yI (n:Int),.slice (yL f) (n*n) (n*n)], yI (i:Int), yI (j:Int), yV o.s M O S o.e] (fun _:Unit=>.tuple #[]) (fun w=>((Blk 97 w G #[yI (n:Int), yI (n:Int),.slice A (n*n) cap]∧Blk 3 w J #[yI (b:Int)])∧xF w (E.set (i*n+j) (⟨o.s,M,O,S,o.m,o.e⟩:Nb)))) (fun _ w=>OwnD w m0 109 3 (yL f) (n*n) (n*n) ((E.set (i*n+j) (⟨o.s,M,O,S,o.m,o.e⟩:Nb)).flatMap nbC)) (fun w Q=>ZbI Q.1.1.1.1.2 (by rw[F];have:=(wG K B);omega)) (Or.inl (h0 ▸ q0)) (fun w R Q=>yM Zc2 (ZcY m0 n n f (n*n) (n*n) E i j (⟨o.s,M,O,S,o.m,o.e⟩:Nb) _ Q.1.1.1.1.2 F qO qO (wG K B) qO)) (fun w w' R Q hF=>⟨⟨Blk.fr Q.1.1.1.1.1.1.1 hF (fun h=>by have h:G=f:=h;omega),Blk.fr Q.1.1.1.1.1.1.2 hF (fun h=>by have h:J=f:=h;omega)⟩,xF.set (xF.nrb Q.1.1.1.1.1.2 (fun i e=>by subst e;exact OwnD.nrb Q.1.1.1.1.2 rfl) hF) (zF.nrb Q.1.2 (fun i e=>by subst e;exact OwnD.nrb Q.1.1.1.1.2 rfl) hF)⟩) fun _=>?_
    refine xr 0 [(0,.v (.pointer (yL G))),(1,.v (.pointer (yL J))),(2,.p 2 0),(3,.p 3 0),yJ 4 (j:Int),yJ 5 (i:Int),(6,.p 6 0),yJ 14 (n:Int),yJ 15 (j:Int)] [yF 6 109 t.s t.A t.l t.c t.e,(3,97,[.v (yI (n:Int)),.v (yI (n:Int)),.v (.slice (yL f) (n*n) (n*n))]),(2,97,[.v (yI 0),.v (yI 0),.v (.slice none 0 0)])] ?_
    refine yZ (xO (zH (xY (zA (zB (xq 2 [yJ 24 (IntKind.i64.wrap ((i:Int)+1))] [] ?_))))))
    rw[yW ((i:Int)+1) (((i+1:Nat):Int)) qO]
    refine xq 1 [yJ 5 ((i+1:Nat):Int)] [] ?_
    refine xe ?_
    refine yP [(0,.v (.pointer (yL G))),(1,.v (.pointer (yL J))),(2,.p 2 0),(3,.p 3 0),yJ 4 (j:Int),yJ 5 (((i+1):Nat):Int),yJ 14 (n:Int),yJ 15 (j:Int)] [(3,97,[.v (yI (n:Int)),.v (yI (n:Int)),.v (.slice (yL f) (n*n) (n*n))]),(2,97,[.v (yI 0),.v (yI 0),.v (.slice none 0 0)])] (fun w=>(((Blk 97 w G #[yI (n:Int), yI (n:Int),.slice A (n*n) cap]∧Blk 3 w J #[yI (b:Int)])∧xF w (E.set (i*n+j) (⟨o.s,M,O,S,o.m,o.e⟩:Nb)))∧OwnD w m0 109 3 (yL f) (n*n) (n*n) ((E.set (i*n+j) (⟨o.s,M,O,S,o.m,o.e⟩:Nb)).flatMap nbC))) (fun w Q=>⟨⟨⟨Q.1.1.1,Q.1.1.2⟩,Q.1.2⟩,Q.2⟩) ?_
    exact xG ((1+(n-(i+1)))) qO ⟨(i+1),(E.set (i*n+j) (⟨o.s,M,O,S,o.m,o.e⟩:Nb)),rfl,rfl,qO,K,(by rw[tA];exact F),(Zgk Y (show FvOk (nbV (⟨o.s,M,O,S,o.m,o.e⟩:Nb)) from E0)),(Or.inr ⟨L1,by rw[nG,show nbV (⟨o.s,M,O,S,o.m,o.e⟩:Nb)=u from ((kM (Zcg o0 p0 (Zc1 (by rw[F];exact (wG B B)) a0))).2.trans (by rw[b0];rfl)).symm];have h:=z0;exact h,A0⟩),rfl⟩
   have o0:¬ j<i:=by have:=uD n0;omega
   have M0:i=j:=qO
   refine zI (zA (zC (zC ?_)))
   by_cases B0:sgnV (nbV t)≤0
   ·refine zB (xq 1 [(62,.v (yV t.s t.A t.l t.c t.e))] [] ?_)
    refine xqc 97 [yV t.s t.A t.l t.c t.e] 63 (fun _:Unit=>yI (sgnV (nbV t))) _ (fun w R Q=>yN (ZcZ t.s t.A t.l t.c t.m t.e _ Q.2)) fun xx=>?_
    refine xq 1 [yB 64 (decide ((sgnV (nbV t))≤0))] [] ?_
    rw[(show decide (sgnV (nbV t)≤0)=true from vS B0)]
    refine yZ (xa (zB ?_))
    refine xqk 65 (.iface 145 (yI 7)) (fun w R Q=>ZqZ (t:=145) (x:=.const (yI 7)) rfl rfl qK) ?_
    exact Zpl (x:=.tmp 65) 145 (yI 7) (fun L a w hi=>⟨hi.df,rfl,hi.mem.ext⟩) qK qK qK qK rfl qK
   obtain⟨u,L1,p0,z0,A0⟩:=k0.resolve_left (fun h=>B0 h.2)
   refine zB (xq 1 [(62,.v (yV t.s t.A t.l t.c t.e))] [] ?_)
   refine xqc 97 [yV t.s t.A t.l t.c t.e] 63 (fun _:Unit=>yI (sgnV (nbV t))) _ (fun w R Q=>yN (ZcZ t.s t.A t.l t.c t.m t.e _ Q.2)) fun xx=>?_
   refine xq 1 [yB 64 (decide ((sgnV (nbV t))≤0))] [] ?_
   rw[(show decide (sgnV (nbV t)≤0)=false from uZ B0)]
   refine yZ (xb (zI (zA ?_)))
   refine yO 9 zO ?_
   refine xqg 4 [(66,.v (.agg #[yI (n:Int), yI (n:Int),.slice (yL f) (n*n) (n*n)])),yJ 67 (j:Int),yJ 68 (j:Int),(69,.v (yV t.s t.A t.l t.c t.e))] ?_
   refine xqj 70 (yI (b:Int)) (fun w Q=>xZ (t:=3) (x:=.tmp 1) (g:=J) (off:=0) (Blk.news Q.1.1.1.1.2 0 _ rfl)) ?_
   obtain⟨r,c0⟩:=yE (cI (nbV t) b)
   have t0:r.err=0:=by rw[←c0];exact (kM (aS o0 p0).2).1
   have F0:FvOk (fvR r):=by rw[←c0];exact Zfh X qO qO (by rw[c0];exact t0)
   refine xqd 98 [yV t.s t.A t.l t.c t.e, yI (b:Int)] 71 (fun q:ShN=>.tuple #[yV r.s q.1 q.2.1 q.2.2 r.e, yI 0]) _ (fun w R Q=>((show Calls _ _ _ _ (xX w r) by rw[←c0];exact Zgi t.s t.A t.l t.c t.m t.e b qO qO _ (hg.ext R) Q.1.2 X.wl X.lo X.hi X.2.2.1)).mono (fun _ _ h=>aQ t0 h)) fun⟨T,U,V⟩=>?_
   refine xqg 2 [(72,.v (yV r.s T U V r.e)),yJ 73 0] ?_
   refine xqd 90 [yV r.s T U V r.e, yI 0] 74 (fun _:Unit=>.agg #[.bool r.s,.slice T U V, yI r.e]) _ (fun w R Q=>yN (aP r.s T U V r.e _)) fun xx=>?_
   refine xz ?_
   refine cU (b:=f) (d:=75) (j:=0) (c:=.bool E[0]!.s) 83 [.agg #[yI (n:Int), yI (n:Int),.slice (yL f) (n*n) (n*n)], yI (j:Int), yI (j:Int), yV r.s T U V r.e] (fun _:Unit=>.tuple #[]) (fun w=>((Blk 97 w G #[yI (n:Int), yI (n:Int),.slice A (n*n) cap]∧Blk 3 w J #[yI (b:Int)])∧xF w (E.set (j*n+j) (⟨r.s,T,U,V,r.m,r.e⟩:Nb)))) (fun _ w=>OwnD w m0 109 3 (yL f) (n*n) (n*n) ((E.set (j*n+j) (⟨r.s,T,U,V,r.m,r.e⟩:Nb)).flatMap nbC)) (fun w Q=>ZbI Q.1.1.1.1.2 (by rw[F];have:=(wG B B);omega)) (Or.inl (h0 ▸ q0)) (fun w R Q=>yM Zc2 (ZcY m0 n n f (n*n) (n*n) E j j (⟨r.s,T,U,V,r.m,r.e⟩:Nb) _ Q.1.1.1.1.2 F qO qO (wG B B) qO)) (fun w w' R Q hF=>⟨⟨Blk.fr Q.1.1.1.1.1.1.1 hF (fun h=>by have h:G=f:=h;omega),Blk.fr Q.1.1.1.1.1.1.2 hF (fun h=>by have h:J=f:=h;omega)⟩,xF.set (xF.nrb Q.1.1.1.1.1.2 (fun i e=>by subst e;exact OwnD.nrb Q.1.1.1.1.2 rfl) hF) (zF.nrb Q.1.2 (fun i e=>by subst e;exact OwnD.nrb Q.1.1.1.1.2 rfl) hF)⟩) fun _=>?_
   refine xr 0 [(0,.v (.pointer (yL G))),(1,.v (.pointer (yL J))),(2,.p 2 0),(3,.p 3 0),yJ 4 (j:Int),yJ 5 (i:Int),yJ 14 (n:Int),yJ 15 (j:Int)] [(3,97,[.v (yI (n:Int)),.v (yI (n:Int)),.v (.slice (yL f) (n*n) (n*n))]),(2,97,[.v (yI 0),.v (yI 0),.v (.slice none 0 0)])] ?_
   refine xe (xR (zA (zB (xq 2 [yJ 24 (IntKind.i64.wrap ((i:Int)+1))] [] ?_))))
   rw[yW ((i:Int)+1) (((i+1:Nat):Int)) qO]
   refine xq 1 [yJ 5 ((i+1:Nat):Int)] [] ?_
   refine xe ?_
   refine yP [(0,.v (.pointer (yL G))),(1,.v (.pointer (yL J))),(2,.p 2 0),(3,.p 3 0),yJ 4 (j:Int),yJ 5 (((i+1):Nat):Int),yJ 14 (n:Int),yJ 15 (j:Int)] [(3,97,[.v (yI (n:Int)),.v (yI (n:Int)),.v (.slice (yL f) (n*n) (n*n))]),(2,97,[.v (yI 0),.v (yI 0),.v (.slice none 0 0)])] (fun w=>(((Blk 97 w G #[yI (n:Int), yI (n:Int),.slice A (n*n) cap]∧Blk 3 w J #[yI (b:Int)])∧xF w (E.set (j*n+j) (⟨r.s,T,U,V,r.m,r.e⟩:Nb)))∧OwnD w m0 109 3 (yL f) (n*n) (n*n) ((E.set (j*n+j) (⟨r.s,T,U,V,r.m,r.e⟩:Nb)).flatMap nbC))) (fun w Q=>⟨⟨⟨Q.1.1.1,Q.1.1.2⟩,Q.1.2⟩,Q.2⟩) ?_
   exact xG ((1+(n-(i+1)))) qO ⟨(i+1),(E.set (j*n+j) (⟨r.s,T,U,V,r.m,r.e⟩:Nb)),rfl,rfl,qO,K,(by rw[tA];exact F),(Zgk Y (show FvOk (nbV (⟨r.s,T,U,V,r.m,r.e⟩:Nb)) from F0)),(Or.inr ⟨L1,by rw[nG,show nbV (⟨r.s,T,U,V,r.m,r.e⟩:Nb)=u from ((kM (aS o0 p0).2).2.trans (by rw[c0];rfl)).symm];have h:=z0;rw[M0] at h ⊢;exact h,A0⟩),rfl⟩
  have N0:i=n:=by have:=uD j0;omega
  have hJ:=Zq0 B N0 hI
  refine xO (zH (zH (xY (xR (zA (zB (xq 1 [yJ 76 (IntKind.i64.wrap ((j:Int)+1))] [] ?_)))))))
  rw[yW ((j:Int)+1) (((j+1:Nat):Int)) qO]
  refine xq 1 [yJ 15 ((j+1:Nat):Int)] [] ?_
  refine xe ?_
  refine yP [(0,.v (.pointer (yL G))),(1,.v (.pointer (yL J))),(2,.p 2 0),(3,.p 3 0),yJ 14 (n:Int),yJ 15 (((j+1):Nat):Int)] [(3,97,[.v (yI (n:Int)),.v (yI (n:Int)),.v (.slice (yL f) (n*n) (n*n))]),(2,97,[.v (yI 0),.v (yI 0),.v (.slice none 0 0)])] (fun w=>(((Blk 97 w G #[yI (n:Int), yI (n:Int),.slice A (n*n) cap]∧Blk 3 w J #[yI (b:Int)])∧xF w E)∧OwnD w m0 109 3 (yL f) (n*n) (n*n) (E.flatMap nbC))) (fun w Q=>⟨⟨⟨Q.1.1.1,Q.1.1.2⟩,Q.1.2⟩,Q.2⟩) ?_
  exact xG ((1+(n-(j+1)))) qO ⟨(j+1),E,rfl,rfl,B,F,Y,hJ,rfl⟩
 have O0:j=n:=by have:=uD i0;omega
 rw[O0,sS] at hL
 exact hL.elim
abbrev zMx:List Value:=[.int .i64 0,.int .i64 0,.slice none 0 0]
theorem Zjm (p q:Nat)(w:World)(g:Blk 97 w p zMx.toArray)(h:Blk 30 w q #[.int .i64 0])(c:p≠q)(b:List PanicEntry) :
 CallsD prog 128 #[.pointer (some ⟨p,0,none⟩),.pointer (some ⟨q,0,none⟩)] (.panicking ({ v:=.iface 145 (.int .i64 7),recovered:=false } :: b)) w fun e j w' =>
 e=.returned (.tuple #[])∧j=.panicking ({ v:=.iface 145 (.int .i64 7),recovered:=true } :: b)∧Blk 97 w' p zMx.toArray∧Blk 30 w' q #[.int .i64 7]∧Fr (fun i=>i=p∨i=q) w w':=by
 refine callsD_of_wpS func128 rfl fun l cs k=>?_
 apply wpS_seq
 apply wpS_region
 simp[wpOpsS,go_sem,recoverD,k,ntmps128,Exit.thenS]
 refine wpS_of_wp ?_
 rw[show (#[Value.pointer (yL p),.pointer (yL q)] ++ ((Array.replicate 15 undef).setIfInBounds 4 (.iface 145 (yI 7))).setIfInBounds 0 (.iface 145 (yI 7)))=#[.pointer (yL p),.pointer (yL q),.iface 145 (yI 7),undef,undef,undef,.iface 145 (yI 7),undef,undef,undef,undef,undef,undef,undef,undef,undef,undef] from rfl]
 refine Zny (N:=17) (S0:=fun i=>i=p∨i=q) (sl:=[(0,.v (.pointer (yL p))),(1,.v (.pointer (yL q))),(2,.v (.iface 145 (yI 7)))]) (Φ:=fun w=>Blk 97 w p zMx.toArray∧Blk 30 w q [yI 0].toArray) rfl rfl (fun w' f=>⟨g.ext f,h.ext f⟩) ?_
 refine yY (xr 2 [(0,.v (.pointer (yL p))),(1,.v (.pointer (yL q))),(2,.v (.iface 145 (yI 7))),yB 8 true] [] ?_)
 refine yZ (xa (yY (xr 1 [(0,.v (.pointer (yL p))),(1,.v (.pointer (yL q))),(2,.v (.iface 145 (yI 7))),(3,.p 3 0)] [(3,97,zMx.map .v)] ?_)))
 refine yZ (yY (xr 1 [(0,.v (.pointer (yL p))),(1,.v (.pointer (yL q))),(2,.v (.iface 145 (yI 7))),(9,.v (.agg zMx.toArray))] [] ?_))
 refine Zqu (t:=97) (bt:=97) (x:=.tmp 0) (y:=.tmp 9) (cs:=zMx) (new:=zMx) p 0 (.agg zMx.toArray) (fun w=>Blk 30 w q [yI 0].toArray) (fun w Q=>Q.1) qD qD (Or.inr (Or.inl rfl)) qD rfl (fun w w' Q d=>Q.2.fr d (fun e=>c e.symm)) ?_
 refine ZgO (t:=30) (bt:=30) (x:=.tmp 1) (y:=.const (yI 1)) (cs:=[yI 0]) q 0 (yI 1) (fun w=>Blk 97 w p zMx.toArray) (fun w Q=>Q.1) qD (Or.inr (Or.inr rfl)) rfl rfl (fun w w' Q d=>Q.2.fr d c) ?_
 refine yZ (yY (xr 7 [(0,.v (.pointer (yL p))),(1,.v (.pointer (yL q))),(2,.v (.iface 145 (yI 7))),yJ 4 7,yB 5 true] [] ?_))
 refine yZ (yY (xr 1 [(0,.v (.pointer (yL p))),(1,.v (.pointer (yL q))),(2,.v (.iface 145 (yI 7))),yJ 4 7,yB 15 true] [] ?_))
 refine yZ (xa (zB (xr 1 [(0,.v (.pointer (yL p))),(1,.v (.pointer (yL q))),(2,.v (.iface 145 (yI 7))),yJ 16 7] [] ?_)))
 refine ZgO (t:=30) (bt:=30) (x:=.tmp 1) (y:=.tmp 16) (cs:=[yI 1]) q 0 (yI 7) (fun w=>Blk 97 w p zMx.toArray) (fun w Q=>Q.2) qD (Or.inr (Or.inr rfl)) rfl rfl (fun w w' Q d=>Q.1.fr d c) ?_
 refine xe fun L a w' hi=>?_
 have Q:=hi.box.self
 exact⟨hi.df,_,rfl,.tuple #[],by simp[results,Tryz.results128],rfl,rfl,Q.1,Q.2,hi.mem.ext⟩
theorem Zq1 (f:FuncId)(cap:Array Value)(w:World)(r:∀ w,(callFunc f cap).run prog w=.ok (.enter f cap) w)(s:∀ w1,Ext w w1→yA f cap w1 (fun e w'=>e=pncF∧Ext w1 w')) :
 yA 78 #[.func (.func f) #[] cap] w (RetV w (.tuple #[.agg #[.int .i64 0,.int .i64 0,.slice none 0 0],.int .i64 7])):=by
 have t:∀ (l:Fn) (a cap:Array Value) (w:World),(Instr.makeFunc l a cap).run prog w=.ok (.func l a cap) w:=fun _ _ _ _=>rfl
 go_enter_defers func78,ntmps78
 go_wp2_with fail
 generalize c:World.alloc (World.alloc w _) _=wb
 obtain⟨m,n,Q⟩:=ZaJ c
 have d:w.heap.size≠w.heap.size+1:=qO
 have u:=zh m
 have v:=zh n
 have o:=zh Q
 clear m n Q c
 refine (s _ o.out).mono ?_
 rintro e B ⟨rfl,b⟩
 have g:=zh (Blk.ext u.out b)
 have j:=zh (Blk.ext v.out b)
 have k:=zh (o.out.trans b)
 clear b
 go_wp2
 refine leaves_cons (f:=128) (args:=#[.pointer (some ⟨w.heap.size,0,none⟩),.pointer (some ⟨w.heap.size+1,0,none⟩)]) qS (by simp[go_sem]) ?_
 refine (Zjm _ _ _ g.out j.out d []).mono ?_
 rintro e C w3 ⟨rfl,rfl,x,y,z⟩
 have A:Ext w w3:=k.out.next z (fun i hi h=>qO)
 exact⟨_,ZpE (p:=w.heap.size) (q:=w.heap.size+1) (T:=97) (zs:=zMx) Tryz.results78 rfl rfl x y qK,rfl,A⟩
theorem Zhz (m n:Nat)(A:qA)(cap:Nat)(xs:List Nb)(b:Nat)(w:World)(h:Glob w)(i:OwnD w m 109 3 A cap (n*n) (xs.flatMap nbC))(j:xF w xs)(k:xs.length=n*n)(l:n≤32)(e:8≤b)(f:b≤1024)(g:∀ x∈xs,FvOk (nbV x))(o:SgJ b (xs.map nbV) n n 0 (List.replicate (n*n) (false,0,0))) :
 yA 57 #[.agg #[.int .i64 ((n:Nat):Int),.int .i64 ((n:Nat):Int),.slice A (n*n) cap],.int .i64 ((b:Nat):Int)] w (RetV w (.tuple #[.agg #[.int .i64 0,.int .i64 0,.slice none 0 0],.int .i64 7])):=by
 obtain⟨t,q⟩:∃ m,m=w.heap.size:=⟨_,rfl⟩
 refine zQ (Φ:=fun w=>True) func57 rfl qK (fun w' u=>trivial) ?_
 refine yY (xq 4 [(2,.p 2 0),(3,.p 3 0),(4,.p 4 0),yJ 5 0] [(4,97,[.v (yI 0),.v (yI 0),.v (.slice none 0 0)]),(3,3,[.v (yI (b:Int))]),(2,97,[.v (yI (n:Int)),.v (yI (n:Int)),.v (.slice A (n*n) cap)])] ?_)
 refine yZ (zC (yY (xq 5 [yB 10 (((n:Int):Int) != (n:Int))] [] ?_)))
 rw[(show (((n:Int):Int) != (n:Int))=false from Zff rfl)]
 refine yZ (xb (zI (zA (zC ?_))))
 refine SXc.freezeN 2 97 [yI (n:Int), yI (n:Int),.slice A (n*n) cap] (fun c=>[(2,.v (.pointer (yL c))),(3,.p 3 0),(4,.p 4 0),yJ 5 0]) [(4,97,[.v (yI 0),.v (yI 0),.v (.slice none 0 0)]),(3,3,[.v (yI (b:Int))])] qK (fun _=>qK) qK qK (fun _=>qK) fun c r=>?_
 refine SXc.freezeN 3 3 [yI (b:Int)] (fun d=>[(2,.v (.pointer (yL c))),(3,.v (.pointer (yL d))),(4,.p 4 0),yJ 5 0]) [(4,97,[.v (yI 0),.v (yI 0),.v (.slice none 0 0)])] qK (fun _=>qK) qK qK (fun _=>qK) fun d s=>?_
 refine zB (xq 1 [(12,.v (.func (.func 95) #[] #[.pointer (yL c),.pointer (yL d)]))] [] ?_)
 refine xqc 78 [.func (.func 95) #[] #[.pointer (yL c),.pointer (yL d)]] 13 (fun _:Unit=>.tuple #[.agg #[yI 0, yI 0,.slice none 0 0], yI 7]) _ (fun w R Q=>yN ((show Calls _ _ _ _ (RetV _ (.tuple #[.agg #[yI 0, yI 0,.slice none 0 0], yI 7])) from Zq1 95 #[.pointer (yL c),.pointer (yL d)] _ (fun _=>rfl) (fun y a=>Zn4 m n A cap xs b c d _ (h.ext (R.trans a)) (Blk.ext' Q.1.2 a) (Blk.ext' Q.2 a) (OwnD.ext i (R.trans a)) (xF.ext j (R.trans a)) k l e f g o)))) fun z=>?_
 refine xq 4 [yJ 5 7] [] ?_
 refine yZ (zG ?_)
 refine yR (.tuple #[.agg #[yI 0, yI 0,.slice none 0 0], yI 7]) fun w' R Q=>?_
 exact⟨rfl,R⟩
theorem Zpn (m n:Nat)(A:qA)(cap:Nat)(xs:List Nb)(b:Nat)(w:World)(e:Glob w)(f:OwnD w m 109 3 A cap (n*n) (xs.flatMap nbC))(g:xF w xs)(h:xs.length=n*n)(i:n≤32)(a:8≤b)(c:b≤1024)(d:∀ x∈xs,FvOk (nbV x))(j:SgJ b (xs.map nbV) n n 0 (List.replicate (n*n) (false,0,0))) :
 yA 58 #[.agg #[.int .i64 ((n:Nat):Int),.int .i64 ((n:Nat):Int),.slice A (n*n) cap],.int .i64 ((b:Nat):Int)] w (RetV w (.tuple #[.agg #[.int .i64 0,.int .i64 0,.slice none 0 0],.int .i64 7])):=by
 obtain⟨l,k⟩:∃ m,m=w.heap.size:=⟨_,rfl⟩
 refine zQ (Φ:=fun w=>True) func58 rfl qK (fun w' o=>trivial) ?_
 refine yY (xq 3 [(2,.p 2 0),(4,.p 4 0),yJ 5 0] [(4,97,[.v (yI 0),.v (yI 0),.v (.slice none 0 0)]),(2,97,[.v (yI (n:Int)),.v (yI (n:Int)),.v (.slice A (n*n) cap)])] ?_)
 refine yZ (yY (xq 2 [(13,.v (.agg #[yI (n:Int), yI (n:Int),.slice A (n*n) cap])),yJ 14 (b:Int)] [] ?_))
 refine xqc 57 [.agg #[yI (n:Int), yI (n:Int),.slice A (n*n) cap], yI (b:Int)] 15 (fun _:Unit=>.tuple #[.agg #[yI 0, yI 0,.slice none 0 0], yI 7]) _ (fun w R Q=>yN ((show Calls _ _ _ _ (RetV _ (.tuple #[.agg #[yI 0, yI 0,.slice none 0 0], yI 7])) from Zhz m n A cap xs b _ (e.ext R) (OwnD.ext f R) (xF.ext g R) h i a c d j))) fun q=>?_
 refine xq 6 [(6,.p 6 0),yJ 7 7] [(6,97,[.v (yI 0),.v (yI 0),.v (.slice none 0 0)])] ?_
 refine yZ (zC (yY (xq 2 [yB 19 true] [] ?_)))
 refine yZ (xa (yY (xq 4 [yJ 5 7] [] ?_)))
 refine yZ (zG (zM ?_))
 refine yR (.tuple #[.agg #[yI 0, yI 0,.slice none 0 0], yI 7]) fun w' R Q=>?_
 exact⟨rfl,R⟩
theorem Zgl (w:World) :
 yA 77 #[.agg #[.int .i64 0,.int .i64 0,.slice none 0 0],.int .i64 7] w (RetV w (.tuple #[.agg #[.int .i64 0,.int .i64 0,.slice none 0 0],.int .i64 7])):=by
 refine zQ (Φ:=fun w=>True) func77 rfl qK (fun w' a=>trivial) ?_
 refine yY (xq 3 [(2,.p 2 0),(4,.p 4 0),yJ 5 0] [(4,29,[.v (yI 0),.v (yI 0),.v (.slice none 0 0)]),(2,97,[.v (yI 0),.v (yI 0),.v (.slice none 0 0)])] ?_)
 refine yZ (zC (yY (xq 2 [yB 7 true] [] ?_)))
 refine yZ (xa (yY (xq 4 [yJ 5 7] [] ?_)))
 refine yZ (zG (zM ?_))
 refine yR (.tuple #[.agg #[yI 0, yI 0,.slice none 0 0], yI 7]) fun w' R Q=>?_
 exact⟨rfl,R⟩
theorem Zmb (ml n:Nat)(A:qA)(cap:Nat)(g:List (ByteArray×Int))(b:Nat)(w:World)(J:Glob w)(K:OwnD w ml 76 2 A cap g.length (g.flatMap flC))(B:FmG ⟨n,n,A,cap,g⟩)(q:8≤b)(s:b≤1024)(L:SgJ b (g.map ldV) n n 0 (List.replicate (n*n) (false,0,0))) :
 yA 53 #[.agg #[.int .i64 ((n:Nat):Int),.int .i64 ((n:Nat):Int),.slice A g.length cap],.int .i64 ((b:Nat):Int),.func (.func 57) #[] #[]] w (RetV w (.tuple #[.agg #[.int .i64 0,.int .i64 0,.slice none 0 0],.int .i64 7])):=by
 obtain⟨m0,u⟩:∃ m,m=w.heap.size:=⟨_,rfl⟩
 refine zQ (Φ:=fun w=>True) func53 rfl qK (fun w' P=>trivial) ?_
 refine yY (xq 3 [(3,.p 3 0),(6,.p 6 0),yJ 7 0] [(6,29,[.v (yI 0),.v (yI 0),.v (.slice none 0 0)]),(3,29,[.v (yI (n:Int)),.v (yI (n:Int)),.v (.slice A g.length cap)])] ?_)
 refine yZ (yY (xq 2 [yJ 11 (b:Int),(12,.v (.agg #[yI (n:Int), yI (n:Int),.slice A g.length cap]))] [] ?_))
 refine yD (d:=13) (fun D:{b:Nat // m0≤b}=>.slice (yL D.1) 1 1) (fun D M=>Blk 29 M D.1 #[yI (n:Int), yI (n:Int),.slice A g.length cap]) (fun w R Q=>aB (m0:=m0) (u ▸ R.size) (t:=179) (e:=29) (n:=1) (sz:=3) (z:=.agg #[yI 0, yI 0,.slice none 0 0]) (parts:=#[(0,Operand.tmp 12)]) qK qK qK qK qK qK) fun⟨l,H⟩=>?_
 refine xr 0 [yJ 1 (b:Int),(2,.v (.func (.func 57) #[] #[])),(6,.p 6 0),yJ 7 0,yJ 11 (b:Int),eS1 13 (yL l) 1 1] [(6,29,[.v (yI 0),.v (yI 0),.v (.slice none 0 0)])] ?_
 refine xqc 76 [yI (b:Int),.slice (yL l) 1 1] 14 (fun x:{x:Nat × List Mx // x.2.map mxV=[(⟨n,n,A,cap,g⟩:Fm)].map fmV∧m0≤x.1}=>.tuple #[.slice (yL x.1.1) 1 1, yI 0]) _ (fun w R Q=>(Zfj 0 l 1 [⟨n,n,A,cap,g⟩] b _ (show OwnD _ 0 29 3 _ 1 1 ([(⟨n,n,A,cap,g⟩:Fm)].flatMap fmC) from OwnD.ofBlk (xs:=fmC ⟨n,n,A,cap,g⟩) Q.2 (vQ _) rfl qD (Zjb _)) rfl qD (fun x E=>by rw[sE.1 E];exact OwnD.mono (OwnD.ext K R) (vQ _)) (fun x E=>by rw[sE.1 E];exact B) q s).mono (fun _ _ h=>ZgT (m0:=m0) (u ▸ R.size) h)) fun F=>?_
 obtain⟨⟨o,C⟩,y,I⟩:=F
 have k:C.length=1:=by have:=vK List.length y;rw[vH,vH] at this;exact this
 refine xq 5 [eS1 8 (yL o) 1 1,yJ 9 0] [] ?_
 refine yZ (zC (yY (xq 2 [yB 18 false] [] ?_)))
 refine yZ (xb (zI (zA (yY (xq 2 [(21,.v (.func (.func 57) #[] #[])),eS1 22 (yL o) 1 1] [] ?_)))))
 refine xqk 23 (atA (yL o) (0*3)) (fun w R Q=>xQ (t:=123) (e:=97) (sz:=3) (x:=.tmp 22) (ix:=.const (yI 0)) (len:=1) (cap:=1) (i:=0) qS qD) ?_
 obtain⟨a,f⟩:∃ x,C[0]! = x:=⟨_,rfl⟩
 refine xqk 24 (.agg #[yI ((a.r:Nat):Int), yI ((a.c:Nat):Int),.slice a.A a.xs.length a.cap]) (fun w R Q=>by rw[←f];exact eN (t:=97) (x:=.tmp 23) (j:=0) Q.2.1 Zch (by rw[k];decide)) ?_
 obtain⟨N,O,G⟩:=Zjd y k f
 have e4:a.xs.length=n*n:=by have:=vK List.length G;rw[vH,vH] at this;rw[this];exact B.hn
 refine xq 1 [yJ 25 (b:Int)] [] ?_
 refine xqc 57 [.agg #[yI ((a.r:Nat):Int), yI ((a.c:Nat):Int),.slice a.A a.xs.length a.cap], yI (b:Int)] 26 (fun _:Unit=>.tuple #[.agg #[yI 0, yI 0,.slice none 0 0], yI 7]) _ (fun w R Q=>yN ((show Calls _ _ _ _ (RetV _ (.tuple #[.agg #[yI 0, yI 0,.slice none 0 0], yI 7])) by rw[N,O,e4];exact Zhz m0 n a.A a.cap a.xs b _ (J.ext R) (by have h:=(Q.2.2 _ (xV (by rw[k];decide:0<C.length))).1;rw[f,e4] at h;exact h) (by have h:=(Q.2.2 _ (xV (by rw[k];decide:0<C.length))).2;rw[f] at h;exact h) e4 B.hr.2 q s (Zje B G) (by rw[G];exact L)))) fun F=>?_
 refine xq 2 [(27,.v (.agg #[yI 0, yI 0,.slice none 0 0])),yJ 28 7] [] ?_
 refine xqc 77 [.agg #[yI 0, yI 0,.slice none 0 0], yI 7] 29 (fun _:Unit=>.tuple #[.agg #[yI 0, yI 0,.slice none 0 0], yI 7]) _ (fun w R Q=>yN ((show Calls _ _ _ _ (RetV _ (.tuple #[.agg #[yI 0, yI 0,.slice none 0 0], yI 7])) from Zgl _))) fun F=>?_
 refine xq 4 [yJ 7 7] [] ?_
 refine yZ (zG ?_)
 refine yR (.tuple #[.agg #[yI 0, yI 0,.slice none 0 0], yI 7]) fun w' R Q=>?_
 exact⟨rfl,R⟩
theorem Zpo (ml n:Nat)(A:qA)(cap:Nat)(a:List (ByteArray×Int))(b:Nat)(w:World)(e:Glob w)(f:OwnD w ml 76 2 A cap a.length (a.flatMap flC))(g:FmG ⟨n,n,A,cap,a⟩)(c:8≤b)(d:b≤1024)(h:SgJ b (a.map ldV) n n 0 (List.replicate (n*n) (false,0,0))) :
 yA 34 #[.agg #[.int .i64 ((n:Nat):Int),.int .i64 ((n:Nat):Int),.slice A a.length cap],.int .i64 ((b:Nat):Int)] w (RetV w (.tuple #[.agg #[.int .i64 0,.int .i64 0,.slice none 0 0],.int .i64 7])):=by
 obtain⟨j,i⟩:∃ m,m=w.heap.size:=⟨_,rfl⟩
 refine zQ (Φ:=fun w=>True) func34 rfl qK (fun w' k=>trivial) ?_
 refine yY (xq 3 [(2,.p 2 0),(4,.p 4 0),yJ 5 0] [(4,29,[.v (yI 0),.v (yI 0),.v (.slice none 0 0)]),(2,29,[.v (yI (n:Int)),.v (yI (n:Int)),.v (.slice A a.length cap)])] ?_)
 refine yZ (yY (xq 2 [(6,.v (.agg #[yI (n:Int), yI (n:Int),.slice A a.length cap])),yJ 7 (b:Int)] [] ?_))
 refine xqc 53 [.agg #[yI (n:Int), yI (n:Int),.slice A a.length cap], yI (b:Int),.func (.func 57) #[] #[]] 8 (fun _:Unit=>.tuple #[.agg #[yI 0, yI 0,.slice none 0 0], yI 7]) _ (fun w R Q=>yN ((show Calls _ _ _ _ (RetV _ (.tuple #[.agg #[yI 0, yI 0,.slice none 0 0], yI 7])) from Zmb ml n A cap a b _ (e.ext R) (OwnD.ext f R) g c d h))) fun l=>?_
 refine xq 4 [yJ 5 7] [] ?_
 refine yZ (zG ?_)
 refine yR (.tuple #[.agg #[yI 0, yI 0,.slice none 0 0], yI 7]) fun w' R Q=>?_
 exact⟨rfl,R⟩
theorem Zn5 (ml n:Nat)(A:qA)(cap:Nat)(g:List (ByteArray×Int))(b:Nat)(w:World)(J:Glob w)(K:OwnD w ml 76 2 A cap g.length (g.flatMap flC))(B:FmG ⟨n,n,A,cap,g⟩)(q:8≤b)(s:b≤1024)(L:SgJ b (g.map ldV) n n 0 (List.replicate (n*n) (false,0,0))) :
 yA 53 #[.agg #[.int .i64 ((n:Nat):Int),.int .i64 ((n:Nat):Int),.slice A g.length cap],.int .i64 ((b:Nat):Int),.func (.func 58) #[] #[]] w (RetV w (.tuple #[.agg #[.int .i64 0,.int .i64 0,.slice none 0 0],.int .i64 7])):=by
 obtain⟨m0,u⟩:∃ m,m=w.heap.size:=⟨_,rfl⟩
 refine zQ (Φ:=fun w=>True) func53 rfl qK (fun w' P=>trivial) ?_
 refine yY (xq 3 [(3,.p 3 0),(6,.p 6 0),yJ 7 0] [(6,29,[.v (yI 0),.v (yI 0),.v (.slice none 0 0)]),(3,29,[.v (yI (n:Int)),.v (yI (n:Int)),.v (.slice A g.length cap)])] ?_)
 refine yZ (yY (xq 2 [yJ 11 (b:Int),(12,.v (.agg #[yI (n:Int), yI (n:Int),.slice A g.length cap]))] [] ?_))
 refine yD (d:=13) (fun D:{b:Nat // m0≤b}=>.slice (yL D.1) 1 1) (fun D M=>Blk 29 M D.1 #[yI (n:Int), yI (n:Int),.slice A g.length cap]) (fun w R Q=>aB (m0:=m0) (u ▸ R.size) (t:=179) (e:=29) (n:=1) (sz:=3) (z:=.agg #[yI 0, yI 0,.slice none 0 0]) (parts:=#[(0,Operand.tmp 12)]) qK qK qK qK qK qK) fun⟨l,H⟩=>?_
 refine xr 0 [yJ 1 (b:Int),(2,.v (.func (.func 58) #[] #[])),(6,.p 6 0),yJ 7 0,yJ 11 (b:Int),eS1 13 (yL l) 1 1] [(6,29,[.v (yI 0),.v (yI 0),.v (.slice none 0 0)])] ?_
 refine xqc 76 [yI (b:Int),.slice (yL l) 1 1] 14 (fun x:{x:Nat × List Mx // x.2.map mxV=[(⟨n,n,A,cap,g⟩:Fm)].map fmV∧m0≤x.1}=>.tuple #[.slice (yL x.1.1) 1 1, yI 0]) _ (fun w R Q=>(Zfj 0 l 1 [⟨n,n,A,cap,g⟩] b _ (show OwnD _ 0 29 3 _ 1 1 ([(⟨n,n,A,cap,g⟩:Fm)].flatMap fmC) from OwnD.ofBlk (xs:=fmC ⟨n,n,A,cap,g⟩) Q.2 (vQ _) rfl qD (Zjb _)) rfl qD (fun x E=>by rw[sE.1 E];exact OwnD.mono (OwnD.ext K R) (vQ _)) (fun x E=>by rw[sE.1 E];exact B) q s).mono (fun _ _ h=>ZgT (m0:=m0) (u ▸ R.size) h)) fun F=>?_
 obtain⟨⟨o,C⟩,y,I⟩:=F
 have k:C.length=1:=by have:=vK List.length y;rw[vH,vH] at this;exact this
 refine xq 5 [eS1 8 (yL o) 1 1,yJ 9 0] [] ?_
 refine yZ (zC (yY (xq 2 [yB 18 false] [] ?_)))
 refine yZ (xb (zI (zA (yY (xq 2 [(21,.v (.func (.func 58) #[] #[])),eS1 22 (yL o) 1 1] [] ?_)))))
 refine xqk 23 (atA (yL o) (0*3)) (fun w R Q=>xQ (t:=123) (e:=97) (sz:=3) (x:=.tmp 22) (ix:=.const (yI 0)) (len:=1) (cap:=1) (i:=0) qS qD) ?_
 obtain⟨a,f⟩:∃ x,C[0]! = x:=⟨_,rfl⟩
 refine xqk 24 (.agg #[yI ((a.r:Nat):Int), yI ((a.c:Nat):Int),.slice a.A a.xs.length a.cap]) (fun w R Q=>by rw[←f];exact eN (t:=97) (x:=.tmp 23) (j:=0) Q.2.1 Zch (by rw[k];decide)) ?_
 obtain⟨N,O,G⟩:=Zjd y k f
 have e4:a.xs.length=n*n:=by have:=vK List.length G;rw[vH,vH] at this;rw[this];exact B.hn
 refine xq 1 [yJ 25 (b:Int)] [] ?_
 refine xqc 58 [.agg #[yI ((a.r:Nat):Int), yI ((a.c:Nat):Int),.slice a.A a.xs.length a.cap], yI (b:Int)] 26 (fun _:Unit=>.tuple #[.agg #[yI 0, yI 0,.slice none 0 0], yI 7]) _ (fun w R Q=>yN ((show Calls _ _ _ _ (RetV _ (.tuple #[.agg #[yI 0, yI 0,.slice none 0 0], yI 7])) by rw[N,O,e4];exact Zpn m0 n a.A a.cap a.xs b _ (J.ext R) (by have h:=(Q.2.2 _ (xV (by rw[k];decide:0<C.length))).1;rw[f,e4] at h;exact h) (by have h:=(Q.2.2 _ (xV (by rw[k];decide:0<C.length))).2;rw[f] at h;exact h) e4 B.hr.2 q s (Zje B G) (by rw[G];exact L)))) fun F=>?_
 refine xq 2 [(27,.v (.agg #[yI 0, yI 0,.slice none 0 0])),yJ 28 7] [] ?_
 refine xqc 77 [.agg #[yI 0, yI 0,.slice none 0 0], yI 7] 29 (fun _:Unit=>.tuple #[.agg #[yI 0, yI 0,.slice none 0 0], yI 7]) _ (fun w R Q=>yN ((show Calls _ _ _ _ (RetV _ (.tuple #[.agg #[yI 0, yI 0,.slice none 0 0], yI 7])) from Zgl _))) fun F=>?_
 refine xq 4 [yJ 7 7] [] ?_
 refine yZ (zG ?_)
 refine yR (.tuple #[.agg #[yI 0, yI 0,.slice none 0 0], yI 7]) fun w' R Q=>?_
 exact⟨rfl,R⟩
theorem Zq2 (ml n:Nat)(A:qA)(cap:Nat)(a:List (ByteArray×Int))(b:Nat)(w:World)(e:Glob w)(f:OwnD w ml 76 2 A cap a.length (a.flatMap flC))(g:FmG ⟨n,n,A,cap,a⟩)(c:8≤b)(d:b≤1024)(h:SgJ b (a.map ldV) n n 0 (List.replicate (n*n) (false,0,0))) :
 yA 35 #[.agg #[.int .i64 ((n:Nat):Int),.int .i64 ((n:Nat):Int),.slice A a.length cap],.int .i64 ((b:Nat):Int)] w (RetV w (.tuple #[.agg #[.int .i64 0,.int .i64 0,.slice none 0 0],.int .i64 7])):=by
 obtain⟨j,i⟩:∃ m,m=w.heap.size:=⟨_,rfl⟩
 refine zQ (Φ:=fun w=>True) func35 rfl qK (fun w' k=>trivial) ?_
 refine yY (xq 3 [(2,.p 2 0),(4,.p 4 0),yJ 5 0] [(4,29,[.v (yI 0),.v (yI 0),.v (.slice none 0 0)]),(2,29,[.v (yI (n:Int)),.v (yI (n:Int)),.v (.slice A a.length cap)])] ?_)
 refine yZ (yY (xq 2 [(6,.v (.agg #[yI (n:Int), yI (n:Int),.slice A a.length cap])),yJ 7 (b:Int)] [] ?_))
 refine xqc 53 [.agg #[yI (n:Int), yI (n:Int),.slice A a.length cap], yI (b:Int),.func (.func 58) #[] #[]] 8 (fun _:Unit=>.tuple #[.agg #[yI 0, yI 0,.slice none 0 0], yI 7]) _ (fun w R Q=>yN ((show Calls _ _ _ _ (RetV _ (.tuple #[.agg #[yI 0, yI 0,.slice none 0 0], yI 7])) from Zn5 ml n A cap a b _ (e.ext R) (OwnD.ext f R) g c d h))) fun l=>?_
 refine xq 4 [yJ 5 7] [] ?_
 refine yZ (zG ?_)
 refine yR (.tuple #[.agg #[yI 0, yI 0,.slice none 0 0], yI 7]) fun w' R Q=>?_
 exact⟨rfl,R⟩
theorem zU.boxT {w w':World}{v:Value}{q:Rat}{b:Nat}(h:zU w' v q)(c:Fr (fun i=>i=b) w w'):BoxT b w w' (fun w=>zU w v q):=fun _ _ d a=>h.nrb (fun i hi=>by
 obtain⟨k,e,t,f,g,j⟩:=d i hi
 exact⟨t,f,g.fr c e,j⟩) a
theorem Zn6 {p n c i j:Nat}{X:Nat→Nat→Int}{z:Int}(h:∀ a b,a<n→b<c→(X a b).natAbs≤p)(d:z.natAbs≤p):∀ a b,a<n→b<c→(updZ X i j z a b).natAbs≤p:=fun a b e f=>by
 unfold updZ
 split
 ·exact d
 exact h a b e f
end Go.Proofs.YtenchljfmfgeoaaGreatDoor
