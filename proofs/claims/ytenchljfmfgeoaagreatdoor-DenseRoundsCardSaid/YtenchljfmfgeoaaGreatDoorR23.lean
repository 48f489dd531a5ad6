/-
 My texts Dn6, Dn9, Do0, Em0, Do4, Do5, Do1, Do2, Do3, Do6, Do7, Em1, Do9, Em2, Em3, Em4, Do8, Em5 put together.
-/
import Derived.Test.YtenchljfmfgeoaaGreatDoorR22
import Derived.Test.YtenchljfmfgeoaaGreatDoorR15
import Derived.Recover
import Derived.Defers
import Derived.Deep.RegionHeld3
import Derived.Deep.DeepCutAuto
import Derived.Deep.Onto
import Derived.Test.YtenchljfmfgeoaaGreatDoorR19
import Derived.Test.YtenchljfmfgeoaaGreatDoorR20
import Derived.Test.YtenchljfmfgeoaaGreatDoorR21
import Derived.Laws.StructEq
set_option maxRecDepth 100000
set_option maxHeartbeats 8000000
namespace Go.Proofs.YtenchljfmfgeoaaGreatDoor
open Go.RowKit Tryz
theorem Zmr (p q:Nat)(w:World) :
 CallsD prog 128 #[.pointer (some ⟨p,0,none⟩),.pointer (some ⟨q,0,none⟩)] .returning w fun e c w'=>e=.returned (.tuple #[])∧c=.returning∧Ext w w':=by
 refine callsD_of_wpS func128 rfl fun d f b=>?_
 apply wpS_seq
 apply wpS_region
 simp[wpOpsS,go_sem,recoverD,b,ntmps128,Exit.thenS]
 refine wpS_of_wp ?_
 rw[show (#[Value.pointer (yL p),.pointer (yL q)] ++ ((Array.replicate 15 undef).setIfInBounds 4 .nilIface).setIfInBounds 0 .nilIface)=#[.pointer (yL p),.pointer (yL q),.nilIface,undef,undef,undef,.nilIface,undef,undef,undef,undef,undef,undef,undef,undef,undef,undef] from rfl]
 refine ZrM (N:=17) (S0:=fun _=>False) (sl:=[(0,.v (.pointer (yL p))),(1,.v (.pointer (yL q))),(2,.v .nilIface)]) (Φ:=fun w=>True) rfl rfl (fun w' g=>trivial) ?_
 refine yY (xr 2 [(0,.v (.pointer (yL p))),(1,.v (.pointer (yL q))),(2,.v .nilIface),yB 8 false] [] ?_)
 refine yZ (xb (zJ (fun L a w' hi=>?_)))
 exact⟨hi.df,_,rfl,.tuple #[],by simp[results,Tryz.results128],rfl,b,hi.mem.ext⟩
theorem ZsM {fn:Func}{a:Array Value}{w:World}{p q:Nat}{T:TypeId}{zs:List Value}{e:Int}(k:fn.results=#[ResultVar.cell 2 T,ResultVar.cell 3 30])(l:a[2]? = some (.pointer (some ⟨p,0,none⟩)))(m:a[3]? = some (.pointer (some ⟨q,0,none⟩)))(n:Blk T w p zs.toArray)(o:Blk 30 w q #[.int .i64 e])(r:(teOf prog T).map (fun e=>(e.agg,e.size))=some (true,zs.length)):(results fn a).run prog w=.ok (.tuple #[.agg zs.toArray,.int .i64 e]) w:=by
 obtain⟨u,b,s⟩:=vJ.1 r
 injection s with ha hn
 have Q:(teOf prog 30).map (fun e=>e.agg)=some false:=qK
 obtain⟨v,d,f⟩:=vJ.1 Q
 have h:=bT (P:=prog) (w:=w) b (g:=p) (off:=0) (cs:=zs) hn.symm (fun j t=>by rw[vW,n.cell];simp[t]) ha
 have i:=ZbO (P:=prog) (w:=w) d (g:=q) (off:=0) (c:=.int .i64 e) (by rw[o.cell];rfl) f
 simp only[Instr.loadAt,Instr.sureAddr,Sem.run_bind,Sem.run_pure,Result.andThen_ok] at h i
 rw[Zfu,k,Array.mapM_eq_mapM_toList]
 simp[Zb3,l,m,asAddr,h,i,Result.andThen_ok]
theorem Zq6 (f:FuncId)(cap:Array Value)(r c:Nat)(E:List Fv3)(w:World)(R:∀ w,(callFunc f cap).run prog w=.ok (.enter f cap) w)(U:∀ w1,Ext w w1→yA f cap w1 (ZbG (fun v=>v) r c E w1)) :
 yA 78 #[.func (.func f) #[] cap] w (ZbG (fun v=>.tuple #[v,.int .i64 0]) r c E w):=by
 have V:∀ (F:Fn) (g cap:Array Value) (w:World),(Instr.makeFunc F g cap).run prog w=.ok (.func F g cap) w:=fun _ _ _ _=>rfl
 go_enter_defers func78,ntmps78
 go_wp2_with fail
 generalize o:World.alloc (World.alloc w _) _=wb
 obtain⟨G,H,Q⟩:=aI o
 have I:=zh G
 have J:=zh H
 have K:=zh Q
 clear G H Q o
 refine (U _ K.out).mono ?_
 rintro e k ⟨b,d,rfl,L,M,N,m⟩
 have a:=zh (Blk.ext I.out m)
 have n:=zh (Blk.ext J.out m)
 have O:=zh M
 have W:=zh N
 have X:=zh L
 have s:=zh m
 have Y:k.cell? ⟨w.heap.size,0,none⟩=some (.int .i64 0):=by rw[Blk.cell a.out];rfl
 have Z:k.cell? ⟨w.heap.size,1,none⟩=some (.int .i64 0):=by rw[Blk.cell a.out];rfl
 have a0:k.cell? ⟨w.heap.size,2,none⟩=some (.slice none 0 0):=by rw[Blk.cell a.out];rfl
 have b0:=Blk.frozen a.out 0
 have c0:=Blk.frozen a.out 1
 have d0:=Blk.frozen a.out 2
 have e0:k.cell? ⟨w.heap.size+1,0,none⟩=some (.int .i64 0):=by rw[Blk.cell n.out];rfl
 have f0:=Blk.frozen n.out 0
 clear L M N m
 go_wp2_with fail
 have hp:w.heap.size<wb.heap.size:=Blk.lt I.out
 have hq:w.heap.size+1<wb.heap.size:=Blk.lt J.out
 have x:Hid (Blk 97 (((k.setCell ⟨w.heap.size,0,none⟩ (.int .i64 (r:Int))).setCell ⟨w.heap.size,1,none⟩ (.int .i64 (c:Int))).setCell ⟨w.heap.size,2,none⟩ (.slice (some ⟨b,0,none⟩) d.length d.length)) w.heap.size #[.int .i64 (r:Int),.int .i64 (c:Int),.slice (some ⟨b,0,none⟩) d.length d.length]):=zh (Blk.set_ (Blk.set_ (Blk.set_ a.out 0 (.int .i64 (r:Int))) 1 (.int .i64 (c:Int))) 2 (.slice (some ⟨b,0,none⟩) d.length d.length))
 have t:Hid (Fr (fun i=>i=w.heap.size) k (((k.setCell ⟨w.heap.size,0,none⟩ (.int .i64 (r:Int))).setCell ⟨w.heap.size,1,none⟩ (.int .i64 (c:Int))).setCell ⟨w.heap.size,2,none⟩ (.slice (some ⟨b,0,none⟩) d.length d.length))):=zh (Fr.setCell (S:=fun i=>i=w.heap.size) (p:=⟨w.heap.size,2,none⟩) (Fr.setCell (S:=fun i=>i=w.heap.size) (p:=⟨w.heap.size,1,none⟩) (Fr.setCell (S:=fun i=>i=w.heap.size) (p:=⟨w.heap.size,0,none⟩) (Fr.refl _ _) (Or.inl rfl) _) (Or.inl rfl) _) (Or.inl rfl) _)
 generalize ((k.setCell ⟨w.heap.size,0,none⟩ (.int .i64 (r:Int))).setCell ⟨w.heap.size,1,none⟩ (.int .i64 (c:Int))).setCell ⟨w.heap.size,2,none⟩ (.slice (some ⟨b,0,none⟩) d.length d.length)=w3 at *
 have y:=zh (Blk.fr n.out t.out (fun h=>by have h:w.heap.size+1=w.heap.size:=h;omega))
 have z:Hid (Blk 30 (w3.setCell ⟨w.heap.size+1,0,none⟩ (.int .i64 0)) (w.heap.size+1) #[.int .i64 0]):=zh (Blk.set_ y.out 0 (.int .i64 0))
 have u:Hid (Fr (fun i=>i=w.heap.size+1) w3 (w3.setCell ⟨w.heap.size+1,0,none⟩ (.int .i64 0))):=zh (Fr.setCell (S:=fun i=>i=w.heap.size+1) (p:=⟨w.heap.size+1,0,none⟩) (Fr.refl _ _) (Or.inl rfl) _)
 generalize w3.setCell ⟨w.heap.size+1,0,none⟩ (.int .i64 0)=w4 at *
 have A:=zh (Blk.fr x.out u.out (fun h=>by have h:w.heap.size=w.heap.size+1:=h;omega))
 have B:Hid (Fr (fun i=>i=w.heap.size∨i=w.heap.size+1) k w4):=zh ((t.out.mono (fun _ _ h=>Or.inl h)).trans (u.out.mono (fun _ _ h=>Or.inr h)))
 refine leaves_cons (f:=128) (args:=#[.pointer (some ⟨w.heap.size,0,none⟩),.pointer (some ⟨w.heap.size+1,0,none⟩)]) qS (by simp[go_sem]) ?_
 refine (Zmr _ _ _).mono ?_
 rintro e u' w7 ⟨rfl,rfl,j⟩
 have P:wb.heap.size≤k.heap.size:=s.out.size
 have hW:Ext w w7:=((K.out.trans s.out).next B.out (fun i hi h=>by rcases h with h|h<;>omega)).trans j
 have C:=OwnD.ext (O.out.fr B.out (fun i hi h=>by have:=(O.out.blk hi).1;rcases h with h|h<;>omega)) j
 have D:=(W.out.nrb (fun i h=>by
  rcases h with h|h
  ·rw[h];exact⟨_,_,a.out,iE.list (l:=[.int .i64 0,.int .i64 0,.slice none 0 0]) qS⟩
  rw[h];exact⟨_,_,n.out,iE.list (l:=[.int .i64 0]) qS⟩) B.out).ext j
 exact⟨_,ZsM (p:=w.heap.size) (q:=w.heap.size+1) (T:=97) (zs:=[.int .i64 (r:Int),.int .i64 (c:Int),.slice (some ⟨b,0,none⟩) d.length d.length]) Tryz.results78 rfl rfl (A.out.ext j) (z.out.ext j) qK,b,d,rfl,X.out,OwnD.mono C qO,D,hW⟩
theorem ZgI {sh:Value→Value}{r c m0:Nat}{a:List Fv3}{w w':World}{e:Ending}(d:m0≤w.heap.size)(h:ZbG sh r c a w e w') :
 wV (fun x:{x:Nat × List Nb // x.2.map nbV=a∧m0≤x.1}=>sh (.agg #[.int .i64 ((r:Nat):Int),.int .i64 ((c:Nat):Int),.slice (some ⟨x.1.1,0,none⟩) x.1.2.length x.1.2.length])) (fun x w=>OwnD w m0 109 3 (some ⟨x.1.1,0,none⟩) x.1.2.length x.1.2.length (x.1.2.flatMap nbC)∧xX w x.1.2) w e w':=by
 obtain⟨b,g,rfl,i,f,j,Q⟩:=h
 exact⟨⟨(b,g),i,uD d (f.blk rfl).1⟩,rfl,Q,(f.boxN d).and (boxn Q (fun S k l m=>j.nrb l m))⟩
theorem ZaS {sh:Value→Value}{r c m0:Nat}{a:List (ByteArray×Int)}{w w':World}{e:Ending}(d:m0≤w.heap.size)(h:ZbH sh r c a w e w') :
 wV (fun b:{b:Nat // m0≤b}=>sh (.agg #[.int .i64 ((r:Nat):Int),.int .i64 ((c:Nat):Int),.slice (some ⟨b.1,0,none⟩) a.length a.length])) (fun b w=>OwnD w m0 76 2 (some ⟨b.1,0,none⟩) a.length a.length (a.flatMap flC)) w e w':=by
 obtain⟨b,rfl,f,Q⟩:=h
 exact⟨⟨b,uD d (f.blk rfl).1⟩,rfl,Q,f.boxN d⟩
theorem ZpB (m n:Nat)(A:qA)(cap:Nat)(xs:List Nb)(b:Nat)(i:List Fv3)(w:World)(r:Glob w)(s:OwnD w m 109 3 A cap (n*n) (xs.flatMap nbC))(t:xX w xs)(u:xs.length=n*n)(y:n≤32)(k:8≤b)(l:b≤1024)(o:∀ x∈xs,FvOk (nbV x))(z:Zc0 b (xs.map nbV) n=some i) :
 yA 57 #[.agg #[.int .i64 ((n:Nat):Int),.int .i64 ((n:Nat):Int),.slice A (n*n) cap],.int .i64 ((b:Nat):Int)] w (ZbG (fun v=>.tuple #[v,.int .i64 0]) n n i w):=by
 obtain⟨m0,j⟩:∃ m,m=w.heap.size:=⟨_,rfl⟩
 refine zT (Φ:=fun w=>True) func57 rfl qK (fun w' E=>trivial) ?_
 refine yY (xq 4 [(2,.p 2 0),(3,.p 3 0),(4,.p 4 0),yJ 5 0] [(4,97,[.v (yI 0),.v (yI 0),.v (.slice none 0 0)]),(3,3,[.v (yI (b:Int))]),(2,97,[.v (yI (n:Int)),.v (yI (n:Int)),.v (.slice A (n*n) cap)])] ?_)
 refine yZ (zC (yY (xq 5 [yB 10 (((n:Int):Int) != (n:Int))] [] ?_)))
 rw[(show (((n:Int):Int) != (n:Int))=false from aR rfl)]
 refine yZ (xb (zJ (zA (zC ?_))))
 refine SXc.freezeN 2 97 [yI (n:Int), yI (n:Int),.slice A (n*n) cap] (fun d=>[(2,.v (.pointer (yL d))),(3,.p 3 0),(4,.p 4 0),yJ 5 0]) [(4,97,[.v (yI 0),.v (yI 0),.v (.slice none 0 0)]),(3,3,[.v (yI (b:Int))])] qK (fun _=>qK) qK qK (fun _=>qK) fun d B=>?_
 refine SXc.freezeN 3 3 [yI (b:Int)] (fun g=>[(2,.v (.pointer (yL d))),(3,.v (.pointer (yL g))),(4,.p 4 0),yJ 5 0]) [(4,97,[.v (yI 0),.v (yI 0),.v (.slice none 0 0)])] qK (fun _=>qK) qK qK (fun _=>qK) fun g C=>?_
 refine zB (xq 1 [(12,.v (.func (.func 95) #[] #[.pointer (yL d),.pointer (yL g)]))] [] ?_)
 refine xqc 78 [.func (.func 95) #[] #[.pointer (yL d),.pointer (yL g)]] 13 (fun x:{x:Nat × List Nb // x.2.map nbV=i∧m0≤x.1}=>.tuple #[.agg #[yI (n:Int), yI (n:Int),.slice (yL x.1.1) x.1.2.length x.1.2.length], yI 0]) _ (fun w R Q=>(Zq6 95 #[.pointer (yL d),.pointer (yL g)] n n i _ (fun _=>rfl) (fun F c=>Zoe m n A cap xs b d g i _ (r.ext (R.trans c)) (Q.1.2.ext c) (Q.2.ext c) (OwnD.ext s (R.trans c)) (xX.ext t (R.trans c)) u y k l o z)).mono (fun _ _ h=>ZgI (sh:=fun v=>.tuple #[v, yI 0]) (m0:=m0) (j ▸ R.size) h)) fun D=>?_
 obtain⟨⟨e,a⟩,f,q⟩:=D
 refine xq 4 [yJ 5 0] [(4,97,[.v (yI (n:Int)),.v (yI (n:Int)),.v (.slice (yL e) a.length a.length)])] ?_
 refine yZ (zG ?_)
 refine yR (.tuple #[.agg #[yI (n:Int), yI (n:Int),.slice (yL e) a.length a.length], yI 0]) fun w' R Q=>?_
 exact⟨e,a,rfl,f,j ▸ Q.2.1,Q.2.2,R⟩
theorem Zms (m r c:Nat)(A:qA)(cap n:Nat)(xs:List Nb)(w:World)(f:OwnD w m 109 3 A cap n (xs.flatMap nbC))(g:xX w xs)(i:xs.length=n)(j:Glob w)(k:n≤4096)(l:∀ x∈xs,wl x.m≤1000000∧(x.s=true→0<x.m)) :
 yA 77 #[.agg #[.int .i64 ((r:Nat):Int),.int .i64 ((c:Nat):Int),.slice A n cap],.int .i64 0] w (ZbH (fun v=>.tuple #[v,.int .i64 0]) r c (xs.map ftV) w):=by
 obtain⟨m0,d⟩:∃ m,m=w.heap.size:=⟨_,rfl⟩
 refine zT (Φ:=fun w=>True) func77 rfl qK (fun w' o=>trivial) ?_
 refine yY (xq 3 [(2,.p 2 0),(4,.p 4 0),yJ 5 0] [(4,29,[.v (yI 0),.v (yI 0),.v (.slice none 0 0)]),(2,97,[.v (yI (r:Int)),.v (yI (c:Int)),.v (.slice A n cap)])] ?_)
 refine yZ (zC (yY (xq 2 [yB 7 false] [] ?_)))
 refine yZ (xb (zJ (zA (yY (xq 1 [(10,.v (.agg #[yI (r:Int), yI (c:Int),.slice A n cap]))] [] ?_)))))
 refine xqc 127 [.agg #[yI (r:Int), yI (c:Int),.slice A n cap]] 11 (fun b:{b:Nat // m0≤b}=>.agg #[yI (r:Int), yI (c:Int),.slice (yL b.1) (xs.map ftV).length (xs.map ftV).length]) _ (fun w R Q=>(Zkd m r c A cap n xs _ (OwnD.ext f R) (xX.ext g R) i (j.ext R) k l).mono (fun _ _ h=>ZaS (sh:=fun v=>v) (m0:=m0) (d ▸ R.size) h)) fun⟨a,e⟩=>?_
 refine xq 2 [yJ 5 0] [(4,29,[.v (yI (r:Int)),.v (yI (c:Int)),.v (.slice (yL a) (xs.map ftV).length (xs.map ftV).length)])] ?_
 refine yZ (zG ?_)
 refine yR (.tuple #[.agg #[yI (r:Int), yI (c:Int),.slice (yL a) (xs.map ftV).length (xs.map ftV).length], yI 0]) fun w' R Q=>?_
 exact⟨a,rfl,d ▸ Q.2,R⟩
structure Fm where
 r:Nat
 c:Nat
 A:Option Addr
 cap:Nat
 fs:List (ByteArray×Int)
instance:Inhabited Fm:=⟨⟨0,0,none,0,[]⟩⟩
def fmC (x:Fm):List Value:=[.int .i64 ((x.r:Nat):Int),.int .i64 ((x.c:Nat):Int),.slice x.A x.fs.length x.cap]
theorem Zq7 (x:Fm):(fmC x).length=3:=rfl
theorem Zsd (x:Fm):∀ (k:IntKind) (z:Int),Value.int k z∈fmC x→k=.i64:=fun k z h=>by
 simp[fmC] at h;rcases h with h|h<;>exact h.1
structure Mx where
 r:Nat
 c:Nat
 A:Option Addr
 cap:Nat
 xs:List Nb
def mx0:Mx:=⟨0,0,none,0,[]⟩
instance:Inhabited Mx:=⟨mx0⟩
def mxC (x:Mx):List Value:=[.int .i64 ((x.r:Nat):Int),.int .i64 ((x.c:Nat):Int),.slice x.A x.xs.length x.cap]
theorem ZgJ (x:Mx):(mxC x).length=3:=rfl
theorem Zof (x:Mx):∀ (k:IntKind) (z:Int),Value.int k z∈mxC x→k=.i64:=fun k z h=>by
 simp[mxC] at h;rcases h with h|h<;>exact h.1
def fmV (x:Fm):Nat × Nat × List Fv3:=(x.r,x.c,x.fs.map ldV)
def mxV (x:Mx):Nat × Nat × List Fv3:=(x.r,x.c,x.xs.map nbV)
structure FmG (x:Fm):Prop where
 hr:1≤x.r∧x.r≤32
 hc:1≤x.c∧x.c≤32
 hn:x.fs.length=x.r*x.c
 hv:∀ f∈x.fs,fvB (bytes f.1) f.2=true
 hs:∀ f∈x.fs,(bytes f.1).length≤1000
def MsOk (m:Nat) (w:World) (ys:List Mx):Prop:=∀ y∈ys,OwnD w m 109 3 y.A y.cap y.xs.length (y.xs.flatMap nbC)∧xX w y.xs
theorem Blk.same {T c:TypeId}{w:World}{i:Nat}{cs a:Array Value}(h:Blk T w i cs)(d:Blk c w i a):T=c:=by
 have f:w.heap[i]? = some (.cells cs T (0,0)):=h
 have b:w.heap[i]? = some (.cells a c (0,0)):=d
 rw[f] at b
 injection b with b
 injection b with _ e _
theorem OwnD.apart {w w':World}{m g n j c l k o:Nat}{e d:TypeId}{A f:qA}{xs a:List Value}(h:OwnD w m e k A c n xs)(p:OwnD w g d o f l j a)(b:e≠d)(q:Fr (fun i=>f=some ⟨i,0,none⟩) w w'):OwnD w' m e k A c n xs :=
 h.fr q (fun i hi r=>by
  obtain⟨_,_,s,_⟩:=h.blk hi
  obtain⟨_,_,t,_⟩:=p.blk r
  exact b (Blk.same s t))
theorem MsOk.row {m e k c n:Nat}{w w':World}{ys:List Mx}{A:qA}{l:List Value}(h:MsOk m w ys)(a:OwnD w e 97 k A c n l)(b:Fr (fun i=>A=some ⟨i,0,none⟩) w w'):MsOk m w' ys:=fun y d =>
 ⟨(h y d).1.apart a qD b,(h y d).2.row a b⟩
theorem MsOk.snoc {m:Nat}{w:World}{ys:List Mx}{x:Mx}(h:MsOk m w ys)(b:OwnD w m 109 3 x.A x.cap x.xs.length (x.xs.flatMap nbC)∧xX w x.xs):MsOk m w (ys ++ [x]):=fun y a=>by
 rcases sN.1 a with a|a
 ·exact h y a
 rw[rN.1 a];exact b
def Zp6 (ls:List Fm) (nl:Nat) (w:World) (e:Ending) (w':World):Prop:=∃ b ms,e=.returned (.tuple #[.slice (some ⟨b,0,none⟩) nl nl,.int .i64 0])∧ms.map mxV=ls.map fmV∧OwnD w' w.heap.size 97 3 (some ⟨b,0,none⟩) nl nl (ms.flatMap mxC)∧MsOk w.heap.size w' ms∧Ext w w'
theorem ZpC (ml C nl:Nat)(D:List Fm)(b:Nat)(w:World)(L:OwnD w ml 29 3 (some ⟨C,0,none⟩) nl nl (D.flatMap fmC))(G:D.length=nl)(Y:nl≤2)(H:∀ x∈D,OwnD w ml 76 2 x.A x.cap x.fs.length (x.fs.flatMap flC))(U:∀ x∈D,FmG x)(V:8≤b)(W:b≤1024) :
 yA 76 #[.int .i64 ((b:Nat):Int),.slice (some ⟨C,0,none⟩) nl nl] w (Zp6 D nl w):=by
 obtain⟨m0,u⟩:∃ m,m=w.heap.size:=⟨_,rfl⟩
 refine zT (Φ:=fun w=>True) func76 rfl qK (fun w' Z=>trivial) ?_
 refine yY (xq 2 [eS1 4 none 0 0,yJ 5 0] [] ?_)
 refine yZ (yY (xq 2 [yJ 12 (nl:Int)] [] ?_))
 refine yD (d:=13) (fun K:{b:Nat // m0≤b}=>.slice (yL K.1) nl nl) (fun K w=>OwnD w m0 97 3 (yL K.1) nl nl ((List.replicate nl mx0).flatMap mxC)) (fun w R Q=>jX (t:=123) (e:=97) (kl:=.i64) (kc:=.i64) (l:=.tmp 12) (c:=.tmp 12) (bytes:=40) (z:=.agg #[yI 0, yI 0,.slice none 0 0]) mx0 ZgJ qD rfl Zof (u ▸ R.size) (by simp only[maxLen];omega) qO) fun⟨f,M⟩=>?_
 refine xr 1 [yJ 0 (b:Int),eS1 1 (yL C) nl nl,eS1 4 none 0 0,yJ 5 0,eS1 6 (yL f) nl nl] [] ?_
 refine yZ (zC (yY (xq 3 [eS1 14 (yL C) nl nl,yJ 15 (nl:Int),yJ 16 0] [] ?_)))
 refine yZ (zS ?_)
 refine yC [yJ 0 (b:Int),eS1 4 none 0 0,yJ 5 0,eS1 6 (yL f) nl nl,eS1 14 (yL C) nl nl,yJ 15 (nl:Int),yJ 16 ((0:Nat):Int)] [] (fun w=>(MsOk m0 w ([]:List Mx)∧OwnD w m0 97 3 (yL f) nl nl ((fill nl mx0 ([]:List Mx)).flatMap mxC))) (fun w Q=>⟨(fun _ h=>nomatch h),(by rw[cX];exact Q.2)⟩) ?_
 refine xR (fun N O P=>∃ (k:Nat) (s:List Mx),O=ofL [yJ 0 (b:Int),eS1 4 none 0 0,yJ 5 0,eS1 6 (yL f) nl nl,eS1 14 (yL C) nl nl,yJ 15 (nl:Int),yJ 16 (k:Int)] []∧P=(fun w=>(MsOk m0 w s∧OwnD w m0 97 3 (yL f) nl nl ((fill nl mx0 s).flatMap mxC)))∧(k≤nl)∧(s.map mxV=(D.take k).map fmV)∧N=(1+(nl-k))) ((1+(nl-0))) ⟨0,([]:List Mx),rfl,rfl,(tA _),rfl,rfl⟩ ?_
 rintro N O P ⟨k,s,rfl,rfl,hk,J,rfl⟩
 refine yY (xq 1 [yB 17 (decide ((k:Int)<(nl:Int)))] [] ?_)
 refine yZ (zC ?_)
 refine yQ ((decide ((k:Int)<(nl:Int)))) (fun B=>?_) fun B=>?_
 ·have g:k<nl:=by have:=uA B;omega
  have E:s.length=k:=by have:=vI List.length J;rw[uR,uR,uL] at this;omega
  refine zJ (zA (zC (zS (yY (xq 1 [yJ 18 (k:Int)] [] ?_)))))
  refine xqk 19 (atA (yL C) (k*3)) (fun w R Q=>wY (t:=179) (e:=29) (sz:=3) (x:=.tmp 14) (ix:=.tmp 16) (len:=nl) (cap:=nl) (i:=k) ((OwnD.ext L R).ne g) g) ?_
  obtain⟨x12,q⟩:∃ x,D[k]! = x:=⟨_,rfl⟩
  refine xqk 20 (.agg #[yI ((x12.r:Nat):Int), yI ((x12.c:Nat):Int),.slice x12.A x12.fs.length x12.cap]) (fun w R Q=>by rw[←q];exact eP (t:=29) (x:=.tmp 19) (j:=k) (OwnD.ext L R) Zq7 (G.symm ▸ g)) ?_
  refine xq 3 [yJ 7 (k:Int),(8,.p 8 0)] [(8,29,[.v (yI ((x12.r:Nat):Int)),.v (yI ((x12.c:Nat):Int)),.v (.slice x12.A x12.fs.length x12.cap)])] ?_
  refine yZ (yY (xq 1 [(22,.v (.agg #[yI ((x12.r:Nat):Int), yI ((x12.c:Nat):Int),.slice x12.A x12.fs.length x12.cap]))] [] ?_))
  have n:FmG x12:=by rw[←q];exact U _ (xY (G.symm ▸ g))
  refine xqc 126 [.agg #[yI ((x12.r:Nat):Int), yI ((x12.c:Nat):Int),.slice x12.A x12.fs.length x12.cap]] 23 (fun x:{x:Nat × List Nb // x.2.map nbV=x12.fs.map ldV∧m0≤x.1}=>.tuple #[.agg #[yI ((x12.r:Nat):Int), yI ((x12.c:Nat):Int),.slice (yL x.1.1) x.1.2.length x.1.2.length],.bool true]) _ (fun w R Q=>((show Calls _ _ _ _ (ZbG (fun v=>.tuple #[v,.bool true]) x12.r x12.c (x12.fs.map ldV) _) from Zn2 ml x12.r x12.c x12.A x12.cap x12.fs _ (by rw[←q];exact OwnD.ext (H _ (xY (G.symm ▸ g))) R) n.hr n.hc n.hn n.hv n.hs)).mono (fun _ _ h=>ZgI (sh:=fun v=>.tuple #[v,.bool true]) (m0:=m0) (u ▸ R.size) h)) fun X=>?_
  obtain⟨⟨o,a⟩,F,S⟩:=X
  refine xq 6 [(9,.p 9 0),yB 10 true] [(9,97,[.v (yI ((x12.r:Nat):Int)),.v (yI ((x12.c:Nat):Int)),.v (.slice (yL o) a.length a.length)])] ?_
  refine yZ (zC (yY (xq 2 [yB 27 false] [] ?_)))
  refine yZ (xb (zJ (zA (zB (xq 3 [eS1 28 (yL f) nl nl,yJ 29 (k:Int),(30,.v (.agg #[yI ((x12.r:Nat):Int), yI ((x12.c:Nat):Int),.slice (yL o) a.length a.length]))] [] ?_)))))
  refine xqk 31 (.pointer (some ⟨f,0+k*3,none⟩)) (fun w R Q=>jG (t:=123) (e:=97) (sz:=3) (x:=.tmp 28) (ix:=.tmp 29) (len:=nl) (cap:=nl) (i:=k) g) ?_
  refine fP (t:=97) (x:=.tmp 31) (y:=.tmp 30) (j:=k) (new:=mxC ((⟨x12.r,x12.c,yL o,a.length,a⟩:Mx))) m0 f (.agg #[yI ((x12.r:Nat):Int), yI ((x12.c:Nat):Int),.slice (yL o) a.length a.length]) (fun w=>((MsOk m0 w s∧OwnD w m0 109 3 (yL o) a.length a.length (a.flatMap nbC))∧xX w a)) (fun w Q=>Q.1.2) g rfl qD (fun h=>Or.inl (uD (u ▸ uF _) h)) (by simp[mxC,Value.oneCell']) (Zof _) rfl (fun w w' Q H=>⟨⟨MsOk.row Q.1.1 Q.1.2 H,OwnD.apart Q.2.1 Q.1.2 qD H⟩,xX.row Q.2.2 Q.1.2 H⟩) ?_
  rw[←jF ZgJ ((fill nl mx0 s)) k ((⟨x12.r,x12.c,yL o,a.length,a⟩:Mx)) (by rw[cW qO];exact g),bL E g]
  refine xr 0 [yJ 0 (b:Int),eS1 4 none 0 0,yJ 5 0,eS1 6 (yL f) nl nl,eS1 14 (yL C) nl nl,yJ 15 (nl:Int),yJ 16 (k:Int)] [] ?_
  refine xe (xS (zA (zB (xq 1 [yJ 32 (IntKind.i64.wrap ((k:Int)+1))] [] ?_))))
  rw[yW ((k:Int)+1) (((k+1:Nat):Int)) qO]
  refine xq 1 [yJ 16 ((k+1:Nat):Int)] [] ?_
  refine xe ?_
  refine yP [yJ 0 (b:Int),eS1 4 none 0 0,yJ 5 0,eS1 6 (yL f) nl nl,eS1 14 (yL C) nl nl,yJ 15 (nl:Int),yJ 16 (((k+1):Nat):Int)] [] (fun w=>(MsOk m0 w (s ++ [(⟨x12.r,x12.c,yL o,a.length,a⟩:Mx)])∧OwnD w m0 97 3 (yL f) nl nl ((fill nl mx0 (s ++ [(⟨x12.r,x12.c,yL o,a.length,a⟩:Mx)])).flatMap mxC))) (fun w Q=>⟨(MsOk.snoc Q.1.1.1 ⟨Q.1.1.2,Q.1.2⟩),Q.2⟩) ?_
  exact xI ((1+(nl-(k+1)))) qO ⟨(k+1),(s ++ [(⟨x12.r,x12.c,yL o,a.length,a⟩:Mx)]),rfl,rfl,g,(Ze3 J (G.symm ▸ g) (by rw[q];show (_,_,_)=(_,_,_);rw[F])),rfl⟩
 have I:k=nl:=by have:=uB B;omega
 have E:s.length=k:=by have:=vI List.length J;rw[uR,uR,uL] at this;omega
 refine xN (zK (zK (xV (zA (zC (yY (xq 2 [yB 34 (decide ((b:Int)<8))] [] ?_)))))))
 rw[(show decide ((b:Int)<8)=false from uV qO)]
 refine xq 3 [yB 35 false,yB 37 (decide ((b:Int)>1024))] [] ?_
 rw[(show decide ((b:Int)>1024)=false from uV qO)]
 refine xq 1 [yB 38 false] [] ?_
 refine yZ (xb (zJ (zA (yY (xq 3 [eS1 4 (yL f) nl nl,yJ 5 0] [] ?_)))))
 refine yZ (zG ?_)
 refine yR (.tuple #[.slice (yL f) nl nl, yI 0]) fun w' R Q=>?_
 exact⟨f,s,rfl,by rw[J,I,← G,rB],by have h:=Q.2;have T:=E;rw[I] at T;subst T;rw[aM] at h;exact u ▸ h,u ▸ Q.1,R⟩
structure Mr (α:Type) where
 A:Option Addr
 cap:Nat
 xs:List α
instance {α:Type}:Inhabited (Mr α):=⟨⟨none,0,[]⟩⟩
def mr0 {α:Type}:Mr α:=⟨none,0,[]⟩
def mrC {α:Type} (x:Mr α):List Value:=[.slice x.A x.xs.length x.cap]
theorem aS {α:Type}(x:Mr α):(mrC x).length=1:=rfl
theorem Zf6 {α:Type}(x:Mr α):∀ (k:IntKind) (z:Int),Value.int k z∈mrC x→k=.i64:=fun k z h=>by simp[mrC] at h
structure MrOk {α:Type} (e:TypeId) (k:Nat) (enc:α→List Value) (m:Nat) (w:World) (ys:List (Mr α)):Prop where
 own:∀ y∈ys,OwnD w m e k y.A y.cap y.xs.length (y.xs.flatMap enc)
 dif:ys.Pairwise (fun a b=>a.A≠b.A)
section
variable {α:Type} {e e':TypeId} {k k' m m' c n:Nat} {enc:α→List Value} {w w':World} {ys:List (Mr α)} {A:Option Addr} {l:List Value}
theorem MrOk.nil:MrOk e k enc m w []:=⟨fun _ h=>(by cases h),List.Pairwise.nil⟩
theorem MrOk.fr {S:Nat→Prop}(h:MrOk e k enc m w ys)(b:Fr S w w')(d:∀ y∈ys,∀ i,y.A=some ⟨i,0,none⟩→¬ S i):MrOk e k enc m w' ys:=⟨fun y a=>(h.own y a).fr b (d y a),h.dif⟩
theorem MrOk.ext (h:MrOk e k enc m w ys)(a:Ext w w'):MrOk e k enc m w' ys:=h.fr a (fun _ _ _ _ f=>f)
theorem MrOk.apart (h:MrOk e k enc m w ys)(b:OwnD w m' e' k' A c n l)(a:e≠e')(d:Fr (fun i=>A=some ⟨i,0,none⟩) w w'):MrOk e k enc m w' ys:=⟨fun y f=>(h.own y f).apart b a d,h.dif⟩
theorem MrOk.snoc {x:Mr α}(h:MrOk e k enc m w ys)(f:OwnD w m e k x.A x.cap x.xs.length (x.xs.flatMap enc))(g:∀ y∈ys,y.A≠x.A):MrOk e k enc m w (ys ++ [x]):=by
 refine⟨fun y d=>?_,List.pairwise_append.2 ⟨h.dif,List.pairwise_singleton _ _,fun a i b j=>by rw[rN.1 j];exact g a i⟩⟩
 rcases sN.1 d with d|d
 ·exact h.own y d
 rw[rN.1 d];exact f
theorem MrOk.boxN (h:MrOk e k enc w.heap.size w' ys)(b:m≤w.heap.size):BoxN w w' (fun v=>MrOk e k enc m v ys):=fun S d a f=>⟨fun y g=>(h.own y g).boxN b S d a f,h.dif⟩
theorem MrOk.at (h:MrOk e k enc m w ys){a:Nat}(ha:a<ys.length):OwnD w m e k ys[a]!.A ys[a]!.cap ys[a]!.xs.length (ys[a]!.xs.flatMap enc):=h.own _ (xY ha)
theorem Zq8 {a b:Nat}(h:ys.Pairwise (fun a b=>a.A≠b.A))(ha:a<ys.length)(d:b<ys.length)(f:a≠b):ys[a]!.A≠ys[b]!.A:=by
 rw[tH ys a ha,tH ys b d]
 have i:=oK.1 h
 rcases qW f with g|g
 ·exact i a b ha d g
 exact (i b a d ha g).symm
theorem MrOk.set {a:Nat}{xs:List α}(h:MrOk e k enc m w ys)(ha:a<ys.length)(z:Fr (fun i=>ys[a]!.A=some ⟨i,0,none⟩) w w')(B:xs.length=ys[a]!.xs.length)(C:OwnD w' m e k ys[a]!.A ys[a]!.cap ys[a]!.xs.length (xs.flatMap enc)):MrOk e k enc m w' (ys.set a ⟨ys[a]!.A,ys[a]!.cap,xs⟩):=by
 refine⟨fun y f=>?_,?_⟩
 ·obtain⟨b,g,f⟩:=List.getElem_of_mem f
  rw[tR] at g
  rw[List.getElem_set] at f
  by_cases d:a=b
  ·rw[vC d] at f
   subst f
   show OwnD w' m e k ys[a]!.A ys[a]!.cap xs.length _
   rw[B];exact C
  rw[uO d] at f
  subst f
  have j:=Zq8 h.dif ha g d
  rw[tH ys b g] at j
  exact (h.own _ (sD g)).fr z (fun i D E=>j (by rw[D];exact E))
 rw[oK]
 intro b c g u p
 rw[tR] at g u
 have v:∀ (q:Nat) (r:q<(ys.set a ⟨ys[a]!.A,ys[a]!.cap,xs⟩).length),((ys.set a ⟨ys[a]!.A,ys[a]!.cap,xs⟩)[q]).A=(ys[q]'(by rw[tR] at r;exact r)).A:=fun q r=>by
  rw[List.getElem_set]
  by_cases d:a=q
  ·subst d;rw[vC rfl];exact show ys[a]!.A=_ from vI Mr.A (tH ys a ha)
  rw[uO d]
 rw[v,v]
 exact oK.1 h.dif b c g u p
theorem Zji {a:Nat}{r:Mr α}{xs:List α}(ha:a<ys.length)(d:ys[a]! = r)(f:xs.length=r.xs.length):(ys.set a ⟨r.A,r.cap,xs⟩).flatMap mrC=ys.flatMap mrC:=by
 subst d
 rw[jF aS _ _ _ ha]
 have b:=jF aS ys a ys[a]! ha
 rw[show ys.set a ys[a]! = ys by rw[tH ys a ha];exact List.set_getElem_self ha] at b
 rw[show mrC (⟨ys[a]!.A,ys[a]!.cap,xs⟩:Mr α)=mrC ys[a]! by unfold mrC;rw[f]]
 exact b.symm
end
def RdD {α:Type} [Inhabited α] (e:TypeId) (k:Nat) (enc:α→List Value) (w:World) (A:Option Addr) (xs:List α):Prop:=∀ j i v,j<xs.length→(enc xs[j]!)[i]? = some v→∃ b off cur,A=some ⟨b,off,none⟩∧Blk e w b cur∧cur[off+(j*k+i)]? = some v
section
variable {α:Type} [Inhabited α] {e e':TypeId} {k k' m m' c n:Nat} {enc:α→List Value} {w w':World} {A A':Option Addr} {xs:List α} {l:List Value}
theorem RdD.fr {S:Nat→Prop}(h:RdD e k enc w A xs)(f:Fr S w w')(g:∀ b off cur,A=some ⟨b,off,none⟩→Blk e w b cur→¬ S b):RdD e k enc w' A xs:=fun j i v p q=>by
 obtain⟨b,off,cur,a,d,r⟩:=h j i v p q
 exact⟨b,off,cur,a,d.fr f (g b off cur a d),r⟩
theorem RdD.ext (h:RdD e k enc w A xs)(a:Ext w w'):RdD e k enc w' A xs:=h.fr a (fun _ _ _ _ _ f=>f)
theorem RdD.apart (h:RdD e k enc w A xs)(d:OwnD w m' e' k' A' c n l)(a:e≠e')(f:Fr (fun i=>A'=some ⟨i,0,none⟩) w w'):RdD e k enc w' A xs:=h.fr f (fun b g j _ p q=>by
 obtain⟨_,_,r,_⟩:=d.blk q
 exact a (Blk.same p r))
theorem OwnD.rd (h:OwnD w m e k A c n (xs.flatMap enc))(b:∀ x,(enc x).length=k):RdD e k enc w A xs:=fun j i v f hv=>by
 have hi:i<k:=by
  rcases vL i (enc xs[j]!).length with h|h
  ·rwa [b] at h
  rw[vN h] at hv;cases hv
 have h4:=(aJ b xs j i f hi).trans hv
 rcases h.2 with ⟨_,_,d⟩|⟨g,a,rfl,d,p,_,_,_,_,q⟩
 ·have:=h.1
  rw[d,sM] at this
  rw[vZ.1 this] at h4
  simp at h4
 refine⟨g,0,a,rfl,p,?_⟩
 rw[←q,oQ] at h4
 split at h4
 ·rw[vW];simpa using h4
 cases h4
theorem RdD.sub {b off s t:Nat}(h:RdD e k enc w (some ⟨b,off,none⟩) xs)(y:s+t≤xs.length):RdD e k enc w (some ⟨b,off+s*k,none⟩) ((xs.drop s).take t):=fun j i v f g=>by
 rw[uL,vT] at f
 have q:((xs.drop s).take t)[j]! = xs[s+j]! := by
  rw[tH _ j (by rw[uL,vT];exact f),List.getElem_take,List.getElem_drop,tH xs (s+j) qO]
 rw[q] at g
 obtain⟨z,p,a,d,r,u⟩:=h (s+j) i v qO g
 injection d with d
 injection d with e1 e2
 subst e1;subst e2
 refine⟨b,off+s*k,a,rfl,r,?_⟩
 rw[show off+s*k+(j*k+i)=off+((s+j)*k+i) by rw[uX];omega]
 exact u
theorem RdD.ne (h:RdD e k enc w A xs)(a:∀ x,(enc x).length=k)(d:0<k){j:Nat}(f:j<xs.length):A≠none:=by
 obtain⟨b,g,_,i,_⟩:=h j 0 _ f (uP (by rw[a];exact d))
 rw[i];exact Option.some_ne_none _
end
section
variable {P:Program} {o:Oper} {ρ:Operand→Value} {w:World} {t e:TypeId} {x:Operand}
theorem Zq9 {α:Type}[Inhabited α]{enc:α→List Value}{A:qA}{k j:Nat}{ys:List α}{e':TypeId}(h:RdD e' k enc w A ys)(f:∀ x,(enc x).length=k)(p:j<ys.length)(r:0<k:=by decide)(u:o.op=Op.load t x:=by kernel_rfl)(v:ρ x=atA A (j*k):=by kernel_rfl)(ha:(teOf P t).map (fun e=>(e.agg,e.size))=some (true,k):=by kernel_rfl) :
 (execOp ρ o).run P w=.ok (.value (.agg (enc ys[j]!).toArray)) w:=by
 obtain⟨D,d,y⟩:=vJ.1 ha
 injection y with ha hn
 obtain⟨g,off,_,rfl,_⟩:=h j 0 _ p (uP (by rw[f];exact r))
 have:=bT (P:=P) (w:=w) d (g:=g) (off:=off+j*k) (cs:=enc ys[j]!) (by rw[f];exact hn.symm) (fun i hi=>by
  obtain⟨b,q,z,a,B,C⟩:=h j i _ p (uP hi)
  injection a with a
  injection a with a e2
  subst a;subst e2
  rw[tS,B.cell,C,uP hi]
  rfl) ha
 simp only[execOp,u,v,atA,rL,jS,Sem.run_bind,this,Result.andThen_ok,Sem.run_pure]
theorem aT {α:Type}{A:qA}{m c n j:Nat}{ys:List (Mr α)}(h:OwnD w m e 1 A c n (ys.flatMap mrC))(a:j<ys.length)(d:o.op=Op.load t x:=by kernel_rfl)(f:ρ x=atA A (j*1):=by kernel_rfl)(ha:(teOf P t).map (fun e=>e.agg)=some false:=by kernel_rfl) :
 (execOp ρ o).run P w=.ok (.value (.slice ys[j]!.A ys[j]!.xs.length ys[j]!.cap)) w:=by
 have g:=aJ aS ys j 0 a qD
 obtain⟨b,rfl,_,i⟩:=h.at (v:=.slice ys[j]!.A ys[j]!.xs.length ys[j]!.cap) g
 exact wU i d (by rw[f,atA,rL,jS];rfl) ha
end
theorem Zmt {α β:Type}[Inhabited α]{enc:α→List Value}{d:β→List Value}{P:Program}{o:Oper}{ρ:Operand→Value}{w:World}{m0 k k' n bytes:Nat}{t e e':TypeId}{kl kc:IntKind}{l c:Operand}{z:Value}{ys:List (Mr β)}(g:α)(F:∀ x,(enc x).length=k)(G:0<k)(H:z.cells.toList=enc g)(r:∀ x,∀ (k:IntKind) (z:Int),Value.int k z∈enc x→k=.i64)(I:MrOk e' k' d m0 w ys)(E:m0≤w.heap.size)(J:n≤maxLen)(u:bytes*n≤281474976710656)(K:o.op=Op.makeSlice t l c:=by kernel_rfl)(L:P.underlying t=some (.slice e):=by kernel_rfl)(a:(P.info? e).map (fun i=>(i.zero,i.size,i.bytes))=some (some z,k,bytes):=by kernel_rfl)(M:ρ l=.int kl (n:Int):=by kernel_rfl)(O:ρ c=.int kc (n:Int):=by kernel_rfl) :
 Does P o ρ w (DoR (fun b:{b:Nat // m0≤b∧∀ y∈ys,y.A≠some ⟨b,0,none⟩}=>.slice (some ⟨b.1,0,none⟩) n n) (fun b w=>OwnD w m0 e k (some ⟨b.1,0,none⟩) n n ((List.replicate n g).flatMap enc)) w):=by
 have j:∀ y w',DoR (fun b:{b:Nat // w.heap.size≤b}=>.slice (some ⟨b.1,0,none⟩) n n) (fun b v=>OwnD v w.heap.size e k (some ⟨b.1,0,none⟩) n n ((List.replicate n g).flatMap enc)) w y w' →
  DoR (fun b:{b:Nat // m0≤b∧∀ y∈ys,y.A≠some ⟨b,0,none⟩}=>.slice (some ⟨b.1,0,none⟩) n n) (fun b w=>OwnD w m0 e k (some ⟨b.1,0,none⟩) n n ((List.replicate n g).flatMap enc)) w y w':=fun y w' h=>by
  obtain⟨b,p,q,B⟩:=h
  refine⟨⟨b.1,uD E b.2,fun y R C=>?_⟩,p,q,fun S T D U=>(B S T D U).mono E⟩
  obtain⟨_,V,W,_⟩:=(I.own y R).blk C
  exact Nat.lt_irrefl _ (uS W.lt b.2)
 rcases jX (P:=P) (w:=w) (m0:=w.heap.size) g F G H r (uF _) J u K L a M O with ⟨y,w',p,q⟩|⟨f,X,Y,p,q⟩
 ·exact Or.inl ⟨y,w',p,j _ _ q⟩
 refine Or.inr ⟨f,X,Y,p,q.mono (fun e w' h=>?_)⟩
 obtain⟨y,B,C⟩:=h
 exact⟨y,B,j _ _ C⟩
def Zp7 {α:Type} (e eo:TypeId) (k:Nat) (enc:α→List Value) (n:Nat) (zs:List (List α)) (w:World) (en:Ending) (w':World):Prop:=∃ b ys,en=.returned (.slice (some ⟨b,0,none⟩) n n)∧ys.map (·.xs)=zs∧OwnD w' w.heap.size eo 1 (some ⟨b,0,none⟩) n n (ys.flatMap mrC)∧MrOk e k enc w.heap.size w' ys∧Ext w w'
theorem Zra {α:Type}{e d:TypeId}{k n m0:Nat}{enc:α→List Value}{zs:List (List α)}{w w':World}{f:Ending}(a:m0≤w.heap.size)(h:Zp7 e d k enc n zs w f w') :
 wV (fun x:{x:Nat × List (Mr α) // x.2.map (·.xs)=zs∧m0≤x.1}=>.slice (some ⟨x.1.1,0,none⟩) n n) (fun x w=>OwnD w m0 d 1 (some ⟨x.1.1,0,none⟩) n n (x.1.2.flatMap mrC)∧MrOk e k enc m0 w x.1.2) w f w':=by
 obtain⟨b,ys,rfl,i,g,j,Q⟩:=h
 exact⟨⟨(b,ys),i,uD a (g.blk rfl).1⟩,rfl,Q,(g.boxN a).and (j.boxN a)⟩
section
variable {N:Nat} {S0:Nat→Prop} {w0:World} {s:St} {Φ Φ2:World→Prop} {P:Program} {ops:Array Oper} {Q:Exit→Act→World→Prop}
theorem Zrb {i k n c j:Nat}{t e:TypeId}{x y:Operand}{xs new:List Value}(base:Nat)(A:qA)(v:Value)(f:∀ w,Φ w→OwnD w base e k A c n xs)(u:j<n)(B:new.length=k)(C:0<k)(d:∀ b,base≤b→w0.heap.size≤b∨S0 b)(D:∀ c,c∈new→c.oneCell'=true)(g:∀ (k:IntKind) (z:Int),Value.int k z∈new→k=.i64)(E:v.cells.toList=new)(F:∀ w w',Φ w→Fr (fun i=>A=some ⟨i,0,none⟩) w w'→OwnD w' base e k A c n (lH xs (j*k) new)→Φ2 w')(K:SXi P N S0 w0 ops Q (i+1) s Φ2)(p:Nat.blt i ops.size=true:=by kernel_rfl)(G:s.wantB ops (opAt ops i)=some true:=by kernel_rfl)(H:(opAt ops i).op=.store t x y:=by kernel_rfl)(I:(opAt ops i).dst=none:=by kernel_rfl)(J:(teOf P t).map (fun e=>e.size)=some k:=by kernel_rfl)(M:s.eval x=some (.v (atA A (j*k))):=by kernel_rfl)(O:s.eval y=some (.v v):=by kernel_rfl):SXi P N S0 w0 ops Q i s Φ:=by
 intro L a w hi
 obtain⟨b,rfl,_⟩:=OwnD.blkSome (f w hi.box.self) qO
 have q:s.eval x=some (.v (.pointer (some ⟨b,0+j*k,none⟩))):=by rw[M,atA,rL,jS]
 exact fP base b v (fun w'=>∃ w,Φ w∧Fr (fun i=>(some ⟨b,0,none⟩:Option Addr)=some ⟨i,0,none⟩) w w') f u B C (d b) D g E (fun w w' h r=>⟨w,h,r⟩) (K.facts (fun w' h=>by
  obtain⟨⟨w,h,r⟩,f⟩:=h
  exact F w w' h r f)) p G H I J q O L a w hi
theorem Zrc {α:Type}[Inhabited α]{enc:α→List Value}{i k a j:Nat}{t e:TypeId}{x y:Operand}{ys:List (Mr α)}{r:Mr α}(base:Nat)(new:α)(v:Value)(Ψ:World→Prop)(q:∀ x,(enc x).length=k)(D:0<k)(u:∀ w,Φ w→MrOk e k enc base w ys)(ha:a<ys.length)(E:ys[a]! = r)(B:j<r.xs.length)(d:∀ b,base≤b→w0.heap.size≤b∨S0 b)(F:∀ c,c∈enc new→c.oneCell'=true)(g:∀ (k:IntKind) (z:Int),Value.int k z∈enc new→k=.i64)(G:v.cells.toList=enc new)(H:∀ w w',Φ w→Fr (fun i=>r.A=some ⟨i,0,none⟩) w w'→Ψ w')(K:SXi P N S0 w0 ops Q (i+1) s (fun w=>Ψ w∧MrOk e k enc base w (ys.set a ⟨r.A,r.cap,r.xs.set j new⟩)))(p:Nat.blt i ops.size=true:=by kernel_rfl)(I:s.wantB ops (opAt ops i)=some true:=by kernel_rfl)(J:(opAt ops i).op=.store t x y:=by kernel_rfl)(L:(opAt ops i).dst=none:=by kernel_rfl)(M:(teOf P t).map (fun e=>e.size)=some k:=by kernel_rfl)(O:s.eval x=some (.v (atA r.A (j*k))):=by kernel_rfl)(R:s.eval y=some (.v v):=by kernel_rfl):SXi P N S0 w0 ops Q i s Φ:=by
 subst E
 exact Zrb base ys[a]!.A v (fun w h=>(u w h).at ha) B (q new) D d F g G (fun w w' h C f=>⟨H w w' h C,by
  rw[←jF q _ _ _ B] at f
  exact (u w h).set ha C (tR ..) f⟩) K p I J L M O R
end
structure Qv where
 c:ShQ
 q:Rat
def qv0:Qv:=⟨(false,none,0,0,false,none,0,0),0⟩
instance:Inhabited Qv:=⟨qv0⟩
def qvC (x:Qv):List Value:=[.bool x.c.1,.slice x.c.2.1 x.c.2.2.1 x.c.2.2.2.1,.bool x.c.2.2.2.2.1,.slice x.c.2.2.2.2.2.1 x.c.2.2.2.2.2.2.1 x.c.2.2.2.2.2.2.2]
theorem aU (x:Qv):(qvC x).length=4:=rfl
theorem Zf7 (x:Qv):∀ (k:IntKind) (z:Int),Value.int k z∈qvC x→k=.i64:=fun k z h=>by simp[qvC] at h
def QsOk (w:World) (xs:List Qv):Prop:=∀ x∈xs,xF w (fZ x.c) x.q
theorem QsOk.nrb {S:Nat→Prop}{w w':World}{xs:List Qv}(h:QsOk w xs)(a:∀ i,S i→NRB w i)(b:Fr S w w'):QsOk w' xs:=fun x c=>(h x c).nrb a b
theorem QsOk.ext {w w':World}{xs:List Qv}(h:QsOk w xs)(a:Ext w w'):QsOk w' xs:=fun x b=>(h x b).ext a
structure Qr where
 A:Option Addr
 cap:Nat
 xs:List Qv
def qr0:Qr:=⟨none,0,[]⟩
instance:Inhabited Qr:=⟨qr0⟩
section
variable {P:Program} {o:Oper} {ρ:Operand→Value} {w:World} {t e:TypeId} {x:Operand}
end
theorem Zog {α β:Type}[Inhabited α]{l:List α}{k:Nat}{f:α→List β}(a:k<l.length):(l.take (k+1)).flatMap f=(l.take k).flatMap f ++ f l[k]! := by
 rw[tB a,List.flatMap_append,tH l k a,List.flatMap_singleton]
theorem Zrd {i:List Fm}{c m0:Nat}{w w':World}{e:Ending}(g:m0≤w.heap.size)(h:Zp6 i c w e w') :
 wV (fun x:{x:Nat × List Mx // x.2.map mxV=i.map fmV∧m0≤x.1}=>.tuple #[.slice (some ⟨x.1.1,0,none⟩) c c,.int .i64 0]) (fun x w=>OwnD w m0 97 3 (some ⟨x.1.1,0,none⟩) c c (x.1.2.flatMap mxC)∧MsOk m0 w x.1.2) w e w':=by
 obtain⟨b,m,rfl,n,j,k,Q⟩:=h
 exact⟨⟨(b,m),n,uD g (j.blk rfl).1⟩,rfl,Q,(j.boxN g).and (fun S d a f y l=>⟨(k y l).1.boxN g S d a f,boxn Q (fun S a d f=>(k y l).2.nrb d f) S d a f⟩)⟩
theorem Zse {a:List Mx}{b:Fm}{x:Mx}(h:a.map mxV=[b].map fmV)(d:a.length=1)(f:a[0]! = x):x.r=b.r∧x.c=b.c∧x.xs.map nbV=b.fs.map ldV:=by
 match a,d with
 | [y],_ =>
  have e:y=x:=f
  subst e
  injection h with h _
  injection h with h1 h
  injection h with h2 h3
  exact⟨h1,h2,h3⟩
theorem Zsf {f:ByteArray×Int}(a:fvB (bytes f.1) f.2=true)(c:(bytes f.1).length≤1000):FvOk (ldV f):=by
 have h:=ZcW a
 have b:ldR (bytes f.1) f.2=⟨(xB (bytes f.1)).1,zI (xB (bytes f.1)).2,f.2,0⟩:=vC a
 refine⟨Zp1 qO,?_,Zsc,?_⟩
 ·unfold ldV;rw[b];exact⟨h.1,h.2.1⟩
 unfold ldV;rw[b];exact h.2.2.2
theorem Zk8 {x:Fm}(h:FmG x):∀ v∈x.fs.map ldV,FvOk v:=fun v b=>by
 obtain⟨f,a,rfl⟩:=oJ.1 b
 exact Zsf (h.hv f a) (h.hs f a)
theorem Zsg {x:Fm}{xs:List Nb}(h:FmG x)(a:xs.map nbV=x.fs.map ldV):∀ y∈xs,FvOk (nbV y):=fun y b=>Zk8 h _ (by rw[←a];exact rY b)
def ftW (v:Fv3):ByteArray×Int:=(⟨(Lib.itoa (sg v.1 v.2.1)).toArray⟩,v.2.2)
theorem Zsh {A:List Fv3}(h:∀ v∈A,FvOk v)(i:Nat):FvOk (at3 A i):=by
 unfold at3
 rw[qY]
 cases e:A[i]? with
 | none=>exact Zf5
 | some v=>exact h v (oD e)
theorem Zoh {b i j n:Nat}{L:List Fv3}(c:0<b)(a:b≤4096):∀ (f k:Nat) (t t1:Fv3),FvOk t→chK b L i j n f k t=some t1→FvOk t1
 | 0,_,t,t1,ht,h=>by injection h with h;exact h ▸ ht
 | f+1,k,t,t1,ht,h=>by
  obtain⟨v,d,e⟩:=tI.1 h
  exact Zoh c a f (k+1) v t1 (Zjg c a d) e
theorem Zsi {b i j n:Nat}{L:List Fv3}{t v:Fv3}(c:0<b)(a:b≤4096)(e:FvOk t)(h:chE b L i j n t=some v):FvOk v:=by
 by_cases d:j<i
 ·exact ZgG (Zk7 c a) (ZgH d h rfl)
 exact ZgG (Zje e c a) (Zc2 d h).2
theorem Zoi {b n j:Nat}{A:List Fv3}(g:∀ v∈A,FvOk v)(e:0<b)(a:b≤4096):∀ (f i:Nat) (L c:List Fv3),(∀ v∈L,FvOk v)→chI b A n j f i L=some c→(∀ v∈c,FvOk v)∧c.length=L.length
 | 0,_,L,c,hL,h=>by injection h with h;exact h ▸ ⟨hL,rfl⟩
 | f+1,i,L,c,hL,h=>by
  obtain⟨t,k,l⟩:=tI.1 h
  obtain⟨v,m,o⟩:=tI.1 l
  have p:=Zsi e a (Zoh e a _ _ _ _ (Zsh g _) k) m
  have:=Zoi g e a f (i+1) _ c (fun u d=>by
   rcases rD d with d|d
   ·exact hL u d
   rw[d];exact p) o
  rwa [tR] at this
theorem Zoj {b n:Nat}{A:List Fv3}(d:∀ v∈A,FvOk v)(e:0<b)(c:b≤4096):∀ (f j:Nat) (L a:List Fv3),(∀ v∈L,FvOk v)→chJ b A n f j L=some a→(∀ v∈a,FvOk v)∧a.length=L.length
 | 0,_,L,a,hL,h=>by injection h with h;exact h ▸ ⟨hL,rfl⟩
 | f+1,j,L,a,hL,h=>by
  obtain⟨k,l,m⟩:=tI.1 h
  have g:=Zoi d e c _ _ _ _ hL l
  have i:=Zoj d e c f (j+1) k a g.1 m
  exact⟨i.1,i.2.trans g.2⟩
theorem ZpD (k:Nat):∀ v∈List.replicate k ((false,0,0):Fv3),FvOk v:=fun v a=>by rw[(qF.1 a).2];exact Zf5
theorem Zre {b n:Nat}{A c:List Fv3}(d:∀ v∈A,FvOk v)(e:0<b)(a:b≤4096)(h:Zc0 b A n=some c):∀ v∈c,FvOk v:=(Zoj d e a _ _ _ _ (ZpD _) h).1
theorem Zk9 {b n j:Nat}{A:List Fv3}:∀ (f i:Nat) (L a:List Fv3),chI b A n j f i L=some a→a.length=L.length
 | 0,_,L,a,h=>by injection h with h;rw[h]
 | f+1,i,L,a,h=>by
  obtain⟨t,e,c⟩:=tI.1 h
  obtain⟨v,g,d⟩:=tI.1 c
  rw[Zk9 f (i+1) _ a d,tR]
theorem Zla {b n:Nat}{A:List Fv3}:∀ (f j:Nat) (L a:List Fv3),chJ b A n f j L=some a→a.length=L.length
 | 0,_,L,a,h=>by injection h with h;rw[h]
 | f+1,j,L,a,h=>by
  obtain⟨c,d,e⟩:=tI.1 h
  rw[Zla f (j+1) c a e,Zk9 _ _ _ _ d]
theorem ZpE {b n:Nat}{A a:List Fv3}(h:Zc0 b A n=some a):a.length=n*n:=by rw[Zla _ _ _ _ h,sI]
theorem Zmu (ml n:Nat)(A:qA)(cap:Nat)(o:List (ByteArray×Int))(b:Nat)(l:List Fv3)(w:World)(P:Glob w)(X:OwnD w ml 76 2 A cap o.length (o.flatMap flC))(u:FmG ⟨n,n,A,cap,o⟩)(E:8≤b)(F:b≤1024)(J:Zc0 b (o.map ldV) n=some l) :
 yA 53 #[.agg #[.int .i64 ((n:Nat):Int),.int .i64 ((n:Nat):Int),.slice A o.length cap],.int .i64 ((b:Nat):Int),.func (.func 57) #[] #[]] w (ZbH (fun v=>.tuple #[v,.int .i64 0]) n n (l.map ftW) w):=by
 obtain⟨m0,q⟩:∃ m,m=w.heap.size:=⟨_,rfl⟩
 refine zT (Φ:=fun w=>True) func53 rfl qK (fun w' hf=>trivial) ?_
 refine yY (xq 3 [(3,.p 3 0),(6,.p 6 0),yJ 7 0] [(6,29,[.v (yI 0),.v (yI 0),.v (.slice none 0 0)]),(3,29,[.v (yI (n:Int)),.v (yI (n:Int)),.v (.slice A o.length cap)])] ?_)
 refine yZ (yY (xq 2 [yJ 11 (b:Int),(12,.v (.agg #[yI (n:Int), yI (n:Int),.slice A o.length cap]))] [] ?_))
 refine yD (d:=13) (fun K:{b:Nat // m0≤b}=>.slice (yL K.1) 1 1) (fun K Y=>Blk 29 Y K.1 #[yI (n:Int), yI (n:Int),.slice A o.length cap]) (fun w R Q=>Za9 (m0:=m0) (q ▸ R.size) (t:=179) (e:=29) (n:=1) (sz:=3) (z:=.agg #[yI 0, yI 0,.slice none 0 0]) (parts:=#[(0,Operand.tmp 12)]) qK qK qK qK qK qK) fun⟨y,S⟩=>?_
 refine xr 0 [yJ 1 (b:Int),(2,.v (.func (.func 57) #[] #[])),(6,.p 6 0),yJ 7 0,yJ 11 (b:Int),eS1 13 (yL y) 1 1] [(6,29,[.v (yI 0),.v (yI 0),.v (.slice none 0 0)])] ?_
 refine xqc 76 [yI (b:Int),.slice (yL y) 1 1] 14 (fun x:{x:Nat × List Mx // x.2.map mxV=[(⟨n,n,A,cap,o⟩:Fm)].map fmV∧m0≤x.1}=>.tuple #[.slice (yL x.1.1) 1 1, yI 0]) _ (fun w R Q=>(ZpC 0 y 1 [⟨n,n,A,cap,o⟩] b _ (show OwnD _ 0 29 3 _ 1 1 ([(⟨n,n,A,cap,o⟩:Fm)].flatMap fmC) from OwnD.ofBlk (xs:=fmC ⟨n,n,A,cap,o⟩) Q.2 (tA _) rfl qD (Zsd _)) rfl qD (fun x G=>by rw[rN.1 G];exact OwnD.mono (OwnD.ext X R) (tA _)) (fun x G=>by rw[rN.1 G];exact u) E F).mono (fun _ _ h=>Zrd (m0:=m0) (q ▸ R.size) h)) fun L=>?_
 obtain⟨⟨B,I⟩,H,T⟩:=L
 have s:I.length=1:=by have:=vI List.length H;rw[uR,uR] at this;exact this
 refine xq 5 [eS1 8 (yL B) 1 1,yJ 9 0] [] ?_
 refine yZ (zC (yY (xq 2 [yB 18 false] [] ?_)))
 refine yZ (xb (zJ (zA (yY (xq 2 [(21,.v (.func (.func 57) #[] #[])),eS1 22 (yL B) 1 1] [] ?_)))))
 refine xqk 23 (atA (yL B) (0*3)) (fun w R Q=>wY (t:=123) (e:=97) (sz:=3) (x:=.tmp 22) (ix:=.const (yI 0)) (len:=1) (cap:=1) (i:=0) qS qD) ?_
 obtain⟨a,k⟩:∃ x,I[0]! = x:=⟨_,rfl⟩
 refine xqk 24 (.agg #[yI ((a.r:Nat):Int), yI ((a.c:Nat):Int),.slice a.A a.xs.length a.cap]) (fun w R Q=>by rw[←k];exact eP (t:=97) (x:=.tmp 23) (j:=0) Q.2.1 ZgJ (by rw[s];decide)) ?_
 obtain⟨Z,e2,M⟩:=Zse H s k
 have e4:a.xs.length=n*n:=by have:=vI List.length M;rw[uR,uR] at this;rw[this];exact u.hn
 refine xq 1 [yJ 25 (b:Int)] [] ?_
 refine xqc 57 [.agg #[yI ((a.r:Nat):Int), yI ((a.c:Nat):Int),.slice a.A a.xs.length a.cap], yI (b:Int)] 26 (fun x:{x:Nat × List Nb // x.2.map nbV=l∧m0≤x.1}=>.tuple #[.agg #[yI (n:Int), yI (n:Int),.slice (yL x.1.1) x.1.2.length x.1.2.length], yI 0]) _ (fun w R Q=>((show Calls _ _ _ _ (ZbG (fun v=>.tuple #[v, yI 0]) n n l _) by rw[Z,e2,e4];exact ZpB m0 n a.A a.cap a.xs b l _ (P.ext R) (by have h:=(Q.2.2 _ (xY (by rw[s];decide:0<I.length))).1;rw[k,e4] at h;exact h) (by have h:=(Q.2.2 _ (xY (by rw[s];decide:0<I.length))).2;rw[k] at h;exact h) e4 u.hr.2 E F (Zsg u M) (by rw[M];exact J))).mono (fun _ _ h=>ZgI (sh:=fun v=>.tuple #[v, yI 0]) (m0:=m0) (q ▸ R.size) h)) fun L=>?_
 obtain⟨⟨C,f⟩,g,U⟩:=L
 refine xq 2 [(27,.v (.agg #[yI (n:Int), yI (n:Int),.slice (yL C) f.length f.length])),yJ 28 0] [] ?_
 have N:(f.map ftV)=l.map ftW:=by rw[←g,qL];rfl
 have O:f.length≤4096:=by have V:=ZpE J;rw[←g,uR] at V;have:=vY u.hr.2 u.hr.2;rw[V];exact uD this qD
 refine xqc 77 [.agg #[yI (n:Int), yI (n:Int),.slice (yL C) f.length f.length], yI 0] 29 (fun b:{b:Nat // m0≤b}=>.tuple #[.agg #[yI (n:Int), yI (n:Int),.slice (yL b.1) (l.map ftW).length (l.map ftW).length], yI 0]) _ (fun w R Q=>((show Calls _ _ _ _ (ZbH (fun v=>.tuple #[v, yI 0]) n n (l.map ftW) _) by rw[←N];exact Zms m0 n n (yL C) f.length f.length f _ Q.2.1 Q.2.2 rfl (P.ext R) O (fun x G=>(fun h=>⟨uD h.1 qD,h.2.2.2⟩:FvOk (nbV x)→_) (Zre (Zk8 u) qO qO J _ (by rw[←g];exact rY G))))).mono (fun _ _ h=>ZaS (sh:=fun v=>.tuple #[v, yI 0]) (m0:=m0) (q ▸ R.size) h)) fun⟨D,W⟩=>?_
 refine xq 4 [yJ 7 0] [(6,29,[.v (yI (n:Int)),.v (yI (n:Int)),.v (.slice (yL D) (l.map ftW).length (l.map ftW).length)])] ?_
 refine yZ (zG ?_)
 refine yR (.tuple #[.agg #[yI (n:Int), yI (n:Int),.slice (yL D) (l.map ftW).length (l.map ftW).length], yI 0]) fun w' R Q=>?_
 exact⟨D,rfl,q ▸ Q.2,R⟩
theorem Zjj (ml n:Nat)(A:qA)(cap:Nat)(a:List (ByteArray×Int))(b:Nat)(c:List Fv3)(w:World)(j:Glob w)(k:OwnD w ml 76 2 A cap a.length (a.flatMap flC))(l:FmG ⟨n,n,A,cap,a⟩)(f:8≤b)(g:b≤1024)(o:Zc0 b (a.map ldV) n=some c) :
 yA 34 #[.agg #[.int .i64 ((n:Nat):Int),.int .i64 ((n:Nat):Int),.slice A a.length cap],.int .i64 ((b:Nat):Int)] w (ZbH (fun v=>.tuple #[v,.int .i64 0]) n n (c.map ftW) w):=by
 obtain⟨m0,e⟩:∃ m,m=w.heap.size:=⟨_,rfl⟩
 refine zT (Φ:=fun w=>True) func34 rfl qK (fun w' q=>trivial) ?_
 refine yY (xq 3 [(2,.p 2 0),(4,.p 4 0),yJ 5 0] [(4,29,[.v (yI 0),.v (yI 0),.v (.slice none 0 0)]),(2,29,[.v (yI (n:Int)),.v (yI (n:Int)),.v (.slice A a.length cap)])] ?_)
 refine yZ (yY (xq 2 [(6,.v (.agg #[yI (n:Int), yI (n:Int),.slice A a.length cap])),yJ 7 (b:Int)] [] ?_))
 refine xqc 53 [.agg #[yI (n:Int), yI (n:Int),.slice A a.length cap], yI (b:Int),.func (.func 57) #[] #[]] 8 (fun b:{b:Nat // m0≤b}=>.tuple #[.agg #[yI (n:Int), yI (n:Int),.slice (yL b.1) (c.map ftW).length (c.map ftW).length], yI 0]) _ (fun w R Q=>(Zmu ml n A cap a b c _ (j.ext R) (OwnD.ext k R) l f g o).mono (fun _ _ h=>ZaS (sh:=fun v=>.tuple #[v, yI 0]) (m0:=m0) (e ▸ R.size) h)) fun⟨d,i⟩=>?_
 refine xq 4 [yJ 5 0] [(4,29,[.v (yI (n:Int)),.v (yI (n:Int)),.v (.slice (yL d) (c.map ftW).length (c.map ftW).length)])] ?_
 refine yZ (zG ?_)
 refine yR (.tuple #[.agg #[yI (n:Int), yI (n:Int),.slice (yL d) (c.map ftW).length (c.map ftW).length], yI 0]) fun w' R Q=>?_
 exact⟨d,rfl,e ▸ Q.2,R⟩
end Go.Proofs.YtenchljfmfgeoaaGreatDoor
namespace Go.Proofs.YtenchljfmfgeoaaGreatDoor
theorem few (s:Bool){n o j b:Nat}(e:Int)(d:0<b)(a:n=o*2^j)(c:o%2=1)(f:n<2^b)(g:okE (e+(j:Int))):wL s n 1 e b=⟨s,o,e+(j:Int),0⟩:=by
 have h:0<n:=by rw[a];exact sL qO (p2 j)
 rw[←kU s n e d]
 unfold lD
 rw[vC (wZ.2 f)]
 unfold wI
 rw[uO qO,a,Zcc c,Zd8 c,vC g]
theorem Zf8 {e:Int}(a : -1000≤e)(b:e≤1000):okE e:=by unfold okE;omega
theorem rd4:xU [52]=some ((4:Int):Rat):=ZcM.2 (cY (n:=4) qD qD qD)
theorem rd2:xU [50]=some ((2:Int):Rat):=ZcM.2 (cY (n:=2) qD qD qD)
theorem rd5:xU [53]=some ((5:Int):Rat):=ZcM.2 (cY (n:=5) qD qD qD)
theorem Zmv {l:List UInt8}{n o j:Nat}(h:xU l=some ((n:Int):Rat))(a:n=o*2^j)(b:o%2=1)(c:n<256)(d:j≤1000):kQ l 8=⟨false,o,(j:Int),0⟩:=by
 unfold kQ
 rw[vC (by rw[h];rfl),vC qO,dO h]
 unfold rndF
 rw[Rat.num_intCast,Rat.den_intCast]
 show wL (decide ((n:Int)<0)) n 1 0 8=_
 rw[show decide ((n:Int)<0)=false from uV qO,few false 0 qD a b c (Zf8 qO qO),Int.zero_add]
theorem r4:kQ [52] 8=⟨false,1,2,0⟩:=Zmv (n:=4) (o:=1) (j:=2) rd4 qD qD qD qD
theorem r2:kQ [50] 8=⟨false,1,1,0⟩:=Zmv (n:=2) (o:=1) (j:=1) rd2 qD qD qD qD
theorem r5:kQ [53] 8=⟨false,5,0,0⟩:=Zmv (n:=5) (o:=5) (j:=0) rd5 qD qD qD qD
theorem Zjk {n:Nat}{c:UInt8}(a:Lib.decDigits n=[c]):Lib.itoa ((n:Nat):Int)=[c]:=by rw[gO,a]
theorem it1:Lib.itoa 1=[49]:=Zjk (n:=1) (by rw[fT qO];rfl)
theorem it5:Lib.itoa 5=[53]:=Zjk (n:=5) (by rw[fT qO];rfl)
theorem it2:Lib.itoa 2=[50]:=Zjk (n:=2) (by rw[fT qO];rfl)
theorem Zjl {c d:UInt8}{o:Nat}{e:Int}(h:kQ [c] 8=⟨false,o,e,0⟩)(a:Lib.itoa (sg false o)=[d]):rdF 8 ⟨#[c]⟩=(⟨#[d]⟩,e):=by
 unfold rdF
 rw[show bytes ⟨#[c]⟩=[c] from rfl,h]
 show ((⟨(Lib.itoa (sg false o)).toArray⟩:ByteArray),e)=_
 rw[a]
def kF:List (ByteArray×Int):=[(⟨#[49]⟩,2),(⟨#[49]⟩,1),(⟨#[49]⟩,1),(⟨#[53]⟩,0)]
theorem ZpF:[(⟨#[52]⟩:ByteArray),⟨#[50]⟩,⟨#[50]⟩,⟨#[53]⟩].map (rdF 8)=kF:=by
 simp only[pT,pM]
 rw[Zjl r4 it1,Zjl r2 it1,Zjl r5 it5]
 rfl
def kA:List Fv3:=[(false,1,2),(false,1,1),(false,1,1),(false,5,0)]
theorem Zrf:kF.map ldV=kA:=by
 unfold kF kA
 simp only[pT,pM]
 refine congr (vI _ ?_) (congr (vI _ ?_) (congr (vI _ ?_) (congr (vI _ ?_) rfl)))
 all_goals (unfold ldV ldR;rw[vC qD];rfl)
theorem Zef {r:FR}{s:Bool}{m:Nat}{e:Int}(h:r=⟨s,m,e,0⟩):musT r=some (s,m,e):=by subst h;rfl
theorem Zsj:blen 1=1:=Zd7 (k:=0) qD qD
theorem Zlb:musT (Zed (false,1,2) 8)=some (false,1,1):=by
 refine Zef ?_
 show fL false 1 2 8=_
 unfold fL
 rw[uO qD,uO qD]
 have a:sqK 1 2 8 = -6:=by unfold sqK;rw[Zsj];decide
 have b:fq 1 1 (-16)=65536:=by have:=ZaM 1 16;rw[show (-((16:Nat):Int)) = -16 from rfl] at this;rw[this]
 have hi:isq 65536=256:=ZfP qD qD
 have c:sqM 1 2 8=128:=by
  unfold sqM iQ
  rw[a,show (2:Int)-2*(-6)+2=16 from rfl,b,hi]
  decide
 unfold Zbz wI
 rw[a,c,uO qD,show (128:Nat)=1*2^7 from rfl,Zcc qD,Zd8 qD,vC (Zf8 qD qD)]
 rfl
theorem Zsk:musT (divV (false,1,1) (false,1,1) 8)=some (false,1,0):=by
 refine Zef ?_
 show ZcJ false 1 1 0 8=_
 unfold ZcJ
 rw[uO qD]
 exact few (n:=1) (o:=1) (j:=0) (b:=8) false 0 qD qD qD qD (Zf8 qD qD)
theorem Zsl:ZbK (false,5,0) (false,1,0) (false,1,0) 8=some (false,1,2):=by
 unfold ZbK
 rw[show musT (mulV (false,1,0) (false,1,0) 8)=some (false,1,0) from Zef (few (n:=1) (o:=1) (j:=0) false 0 qD qD qD qD (Zf8 qD qD))]
 show musT (subV (false,5,0) (false,1,0) 8)=_
 refine Zef ?_
 show sumR false 5 0 true 1 0 8=_
 unfold sumR addR
 rw[uO qD,uO qD]
 exact few (n:=4) (o:=1) (j:=2) (b:=8) false 0 qD qD qD qD (Zf8 qD qD)
theorem Ze6 {b n i j f:Nat}{A L:List Fv3}{t v:Fv3}(a:chK b L i j n j 0 (at3 A (i*n+j))=some t)(Q:chE b L i j n t=some v):chI b A n j (f+1) i L=chI b A n j f (i+1) (L.set (i*n+j) v):=by
 show (chK b L i j n j 0 (at3 A (i*n+j))).bind _=_
 rw[a]
 show (chE b L i j n t).bind _=_
 rw[Q]
 rfl
def kL:List Fv3:=[(false,1,1),(false,0,0),(false,1,0),(false,1,1)]
theorem Zrg:Zc0 8 kA 2=some kL:=by
 have a:chI 8 kA 2 0 2 0 [(false,0,0),(false,0,0),(false,0,0),(false,0,0)]=some [(false,1,1),(false,0,0),(false,1,0),(false,0,0)]:=by
  rw[Ze6 (t:=(false,1,2)) (v:=(false,1,1)) rfl (by unfold chE;rw[uO qD,uO qD];exact Zlb)]
  rw[Ze6 (t:=(false,1,1)) (v:=(false,1,0)) rfl (by unfold chE;rw[vC qD];exact Zsk)]
  rfl
 have b:chI 8 kA 2 1 1 1 [(false,1,1),(false,0,0),(false,1,0),(false,0,0)]=some kL:=by
  rw[Ze6 (t:=(false,1,2)) (v:=(false,1,1)) (by show (ZbK (false,5,0) (false,1,0) (false,1,0) 8).bind _=_;rw[Zsl];rfl) (by unfold chE;rw[uO qD,uO qD];exact Zlb)]
  rfl
 show (chI 8 kA 2 0 2 0 [(false,0,0),(false,0,0),(false,0,0),(false,0,0)]).bind _=_
 rw[a]
 show (chI 8 kA 2 1 1 1 [(false,1,1),(false,0,0),(false,1,0),(false,0,0)]).bind _=_
 rw[b]
 rfl
def kG:List (ByteArray×Int):=[(⟨#[49]⟩,1),(⟨#[48]⟩,0),(⟨#[49]⟩,0),(⟨#[49]⟩,1)]
theorem Zok:kL.map ftW=kG:=by
 unfold kL kG
 simp only[pT,pM]
 unfold ftW
 show [((⟨(Lib.itoa 1).toArray⟩:ByteArray),(1:Int)),(⟨(Lib.itoa 0).toArray⟩,0),(⟨(Lib.itoa 1).toArray⟩,0),(⟨(Lib.itoa 1).toArray⟩,1)]=_
 rw[it1,Zhm]
theorem ZpG:kG.map exV=[⟨#[50]⟩,⟨#[48]⟩,⟨#[49]⟩,⟨#[50]⟩]:=by
 have a:flM [49]=1:=qD
 have b:exT [49] 1=[50]:=by
  unfold exT;rw[vC (fv_1 qD qD),a,uO qD,uO qD];exact it2
 have c:exT [49] 0=[49]:=by
  unfold exT;rw[vC (fv_1 qD qD),a,uO qD,uO qD];exact it1
 have d:exT [48] 0=[48]:=Zja qD qD
 unfold kG
 simp only[pT,pM]
 unfold exV
 show [(⟨(exT [49] 1).toArray⟩:ByteArray),⟨(exT [48] 0).toArray⟩,⟨(exT [49] 0).toArray⟩,⟨(exT [49] 1).toArray⟩]=_
 rw[b,c,d]
end Go.Proofs.YtenchljfmfgeoaaGreatDoor
namespace Go.Proofs.YtenchljfmfgeoaaGreatDoor
open Go.RowKit Tryz
def kS:List ByteArray:=[⟨#[52]⟩,⟨#[50]⟩,⟨#[50]⟩,⟨#[53]⟩]
theorem Zsm {w:World}{b:Nat}(h:Blk 9 w b #[.string ⟨#[52]⟩,.string ⟨#[50]⟩,.string ⟨#[50]⟩,.string ⟨#[53]⟩]):SRd w (some ⟨b,0,none⟩) kS:=fun i hi=>by
 refine⟨b,0,rfl,h.lt,?_⟩
 rw[h.cell,vW]
 match i,hi with
 | 0,_=>rfl
 | 1,_=>rfl
 | 2,_=>rfl
 | 3,_=>rfl
theorem ZpH:mtB (2:Nat) (2:Nat) kS=true:=by
 unfold mtB
 rw[vM qD,Bool.true_and]
 show ([(⟨#[52]⟩:ByteArray),⟨#[50]⟩,⟨#[50]⟩,⟨#[53]⟩]:List ByteArray).all (fun s=>(xU (bytes s)).isSome)=true
 simp only[rG,List.all_nil]
 rw[show bytes ⟨#[52]⟩=[52] from rfl,show bytes ⟨#[50]⟩=[50] from rfl,show bytes ⟨#[53]⟩=[53] from rfl,rd4,rd2,rd5]
 rfl
theorem Zsn:∀ s∈kS,(kQ (bytes s) 8).err=0:=fun s a=>by
 simp only[kS,pG,nB,or_false] at a
 rcases a with rfl|rfl|rfl|rfl
 ·rw[show bytes ⟨#[52]⟩=[52] from rfl,r4]
 ·rw[show bytes ⟨#[50]⟩=[50] from rfl,r2]
 ·rw[show bytes ⟨#[50]⟩=[50] from rfl,r2]
 rw[show bytes ⟨#[53]⟩=[53] from rfl,r5]
theorem kF_g (A:qA)(cap:Nat):FmG ⟨2,2,A,cap,kF⟩:=by
 refine⟨by show 1≤2∧2≤32;decide,by show 1≤2∧2≤32;decide,rfl,fun f a=>?_,fun f a=>?_⟩
 all_goals (simp only[kF,pG,nB,or_false] at a;rcases a with rfl|rfl|rfl|rfl<;>decide)
theorem kG_g (A:qA)(cap:Nat):FmG ⟨2,2,A,cap,kG⟩:=by
 refine⟨by show 1≤2∧2≤32;decide,by show 1≤2∧2≤32;decide,rfl,fun f a=>?_,fun f a=>?_⟩
 all_goals (simp only[kG,pG,nB,or_false] at a;rcases a with rfl|rfl|rfl|rfl<;>decide)
theorem kG_x:∀ x∈kG,-1000≤x.2∧x.2≤1000:=fun f a=>by
 simp only[kG,pG,nB,or_false] at a
 rcases a with rfl|rfl|rfl|rfl<;>decide
theorem Zrh {m0:Nat}{w w':World}{e:Ending}(c:m0≤w.heap.size)(h:∃ b,e=.returned (.tuple #[.agg #[.int .i64 ((2:Nat):Int),.int .i64 ((2:Nat):Int),.slice (some ⟨b,0,none⟩) kG.length kG.length],.int .i64 0])∧OwnD w' w.heap.size 9 1 (some ⟨b,0,none⟩) kG.length kG.length ((kG.map exV).flatMap stC)∧Ext w w') :
 wV (fun b:{b:Nat // m0≤b}=>.tuple #[.agg #[.int .i64 2,.int .i64 2,.slice (some ⟨b.1,0,none⟩) 4 4],.int .i64 0]) (fun b w=>OwnD w m0 9 1 (some ⟨b.1,0,none⟩) 4 4 [.string ⟨#[50]⟩,.string ⟨#[48]⟩,.string ⟨#[49]⟩,.string ⟨#[50]⟩]) w e w':=by
 obtain⟨b,rfl,a,Q⟩:=h
 rw[ZpG] at a
 exact⟨⟨b,uD c (a.blk rfl).1⟩,rfl,Q,a.boxN c⟩
theorem cG (w:World)(o:Glob w) :
 yA 9 #[] w (RetV w (.bool true)):=by
 obtain⟨m0,j⟩:∃ m,m=w.heap.size:=⟨_,rfl⟩
 refine zT (Φ:=fun w=>True) func9 rfl qK (fun w' C=>trivial) ?_
 refine yY (xq 1 [yB 0 false] [] ?_)
 refine yZ (zC (zB ?_))
 refine yD (d:=8) (fun q:{b:Nat // m0≤b}=>.slice (yL q.1) 4 4) (fun q B=>Blk 9 B q.1 #[.string ⟨#[52]⟩,.string ⟨#[50]⟩,.string ⟨#[50]⟩,.string ⟨#[53]⟩]) (fun w R Q=>Za9 (m0:=m0) (j ▸ R.size) (t:=22) (e:=9) (n:=4) (sz:=1) (z:=.string ⟨#[]⟩) (parts:=#[(0,Operand.const (Value.string { data:=#[52] })),(1,Operand.const (Value.string { data:=#[50] })),(2,Operand.const (Value.string { data:=#[50] })),(3,Operand.const (Value.string { data:=#[53] }))]) qK qK qK qK qK qK) fun⟨l,s⟩=>?_
 refine xr 1 [yB 0 false,(9,.v (.agg #[yI 2, yI 2,.slice (yL l) 4 4]))] [] ?_
 refine xqc 10 [.agg #[yI 2, yI 2,.slice (yL l) 4 4], yI 8] 10 (fun b:{b:Nat // m0≤b}=>.tuple #[.agg #[yI 2, yI 2,.slice (yL b.1) 4 4], yI 0]) _ (fun w R Q=>((show Calls _ _ _ _ (Zp2 2 2 kF _) by rw[←ZpF];exact Zhu 2 2 (yL l) 4 kS 8 _ (o.ext R) (Zsm Q.2) qD ZpH qD qD qD qD qD Zsn)).mono (fun _ _ h=>ZaS (sh:=fun v=>.tuple #[v, yI 0]) (m0:=m0) (r:=2) (c:=2) (j ▸ R.size) h)) fun⟨k,u⟩=>?_
 refine xq 6 [(1,.p 1 0),yJ 2 0] [(1,29,[.v (yI 2),.v (yI 2),.v (.slice (yL k) 4 4)])] ?_
 refine yZ (yY (xq 1 [(14,.v (.agg #[yI 2, yI 2,.slice (yL k) 4 4]))] [] ?_))
 refine xqc 34 [.agg #[yI 2, yI 2,.slice (yL k) 4 4], yI 8] 15 (fun b:{b:Nat // m0≤b}=>.tuple #[.agg #[yI 2, yI 2,.slice (yL b.1) 4 4], yI 0]) _ (fun w R Q=>((show Calls _ _ _ _ (ZbH (fun v=>.tuple #[v, yI 0]) 2 2 kG _) by rw[←Zok];exact Zjj m0 2 (yL k) 4 kF 8 kL _ (o.ext R) Q.2 (kF_g _ _) qD qD (by rw[Zrf];exact Zrg))).mono (fun _ _ h=>ZaS (sh:=fun v=>.tuple #[v, yI 0]) (m0:=m0) (r:=2) (c:=2) (j ▸ R.size) h)) fun⟨f,y⟩=>?_
 refine xq 6 [(3,.p 3 0),yJ 4 0] [(3,29,[.v (yI 2),.v (yI 2),.v (.slice (yL f) 4 4)])] ?_
 refine yZ (yY (xq 1 [(19,.v (.agg #[yI 2, yI 2,.slice (yL f) 4 4]))] [] ?_))
 refine xqc 36 [.agg #[yI 2, yI 2,.slice (yL f) 4 4]] 20 (fun b:{b:Nat // m0≤b}=>.tuple #[.agg #[yI 2, yI 2,.slice (yL b.1) 4 4], yI 0]) _ (fun w R Q=>(Zml m0 2 2 (yL f) 4 kG _ Q.2 (o.ext R) (kG_g (yL f) 4).hr (kG_g (yL f) 4).hc rfl (kG_g (yL f) 4).hv (kG_g (yL f) 4).hs kG_x).mono (fun _ _ h=>Zrh (m0:=m0) (j ▸ R.size) h)) fun⟨a,A⟩=>?_
 refine xq 6 [(5,.p 5 0),yJ 6 0] [(5,24,[.v (yI 2),.v (yI 2),.v (.slice (yL a) 4 4)])] ?_
 refine yZ (yY (xq 15 [yB 33 true,yB 37 ((((4:Nat):Int):Int) == 4)] [] ?_))
 rw[(show ((((4:Nat):Int):Int) == 4)=true from rfl)]
 refine xq 4 [yB 39 true,eS1 41 (yL a) 4 4] [] ?_
 refine xqk 42 (.pointer (some ⟨a,0+0*1,none⟩)) (fun w R Q=>jG (t:=22) (e:=9) (sz:=1) (x:=.tmp 41) (ix:=(Operand.const (Value.int IntKind.i64 0))) (len:=4) (cap:=4) (i:=0) qD) ?_
 refine xqk 43 (.string ⟨#[50]⟩) (fun w R Q=>wU (t:=9) (x:=.tmp 42) (g:=a) (off:=0) (OwnD.news Q.2 0 _ rfl)) ?_
 refine xq 1 [yB 44 ((⟨#[50]⟩:ByteArray).toList == (⟨#[50]⟩:ByteArray).toList)] [] ?_
 rw[ZcA]
 refine xq 4 [yB 46 true,eS1 48 (yL a) 4 4] [] ?_
 refine xqk 49 (.pointer (some ⟨a,0+1*1,none⟩)) (fun w R Q=>jG (t:=22) (e:=9) (sz:=1) (x:=.tmp 48) (ix:=(Operand.const (Value.int IntKind.i64 1))) (len:=4) (cap:=4) (i:=1) qD) ?_
 refine xqk 50 (.string ⟨#[48]⟩) (fun w R Q=>wU (t:=9) (x:=.tmp 49) (g:=a) (off:=1) (OwnD.news Q.2 1 _ rfl)) ?_
 refine xq 1 [yB 51 ((⟨#[48]⟩:ByteArray).toList == (⟨#[48]⟩:ByteArray).toList)] [] ?_
 rw[ZcA]
 refine xq 4 [yB 53 true,eS1 55 (yL a) 4 4] [] ?_
 refine xqk 56 (.pointer (some ⟨a,0+2*1,none⟩)) (fun w R Q=>jG (t:=22) (e:=9) (sz:=1) (x:=.tmp 55) (ix:=(Operand.const (Value.int IntKind.i64 2))) (len:=4) (cap:=4) (i:=2) qD) ?_
 refine xqk 57 (.string ⟨#[49]⟩) (fun w R Q=>wU (t:=9) (x:=.tmp 56) (g:=a) (off:=2) (OwnD.news Q.2 2 _ rfl)) ?_
 refine xq 1 [yB 58 ((⟨#[49]⟩:ByteArray).toList == (⟨#[49]⟩:ByteArray).toList)] [] ?_
 rw[ZcA]
 refine xr 4 [yB 0 false,yB 60 true,eS1 62 (yL a) 4 4] [] ?_
 refine xqk 63 (.pointer (some ⟨a,0+3*1,none⟩)) (fun w R Q=>jG (t:=22) (e:=9) (sz:=1) (x:=.tmp 62) (ix:=(Operand.const (Value.int IntKind.i64 3))) (len:=4) (cap:=4) (i:=3) qD) ?_
 refine xqk 64 (.string ⟨#[50]⟩) (fun w R Q=>wU (t:=9) (x:=.tmp 63) (g:=a) (off:=3) (OwnD.news Q.2 3 _ rfl)) ?_
 refine xq 1 [yB 65 ((⟨#[50]⟩:ByteArray).toList == (⟨#[50]⟩:ByteArray).toList)] [] ?_
 rw[ZcA]
 refine xq 2 [yB 0 true] [] ?_
 refine yZ (zG ?_)
 refine yR (.bool true) fun w' R Q=>?_
 exact⟨rfl,R⟩
theorem Zhz (w:World) :
 yA 12 #[.agg #[.int .i64 0,.int .i64 0,.slice none 0 0],.agg #[.int .i64 0,.int .i64 0,.slice none 0 0]] w (RetV w (.bool true)):=by
 refine zT (Φ:=fun w=>True) func12 rfl qK (fun w' e=>trivial) ?_
 refine yY (xq 3 [(2,.p 2 0),(3,.p 3 0),yB 4 false] [(3,29,[.v (yI 0),.v (yI 0),.v (.slice none 0 0)]),(2,29,[.v (yI 0),.v (yI 0),.v (.slice none 0 0)])] ?_)
 refine yZ (zC (yY (xq 21 [yB 26 false] [] ?_)))
 refine yZ (xb (zJ (zA (zC (yY (xq 4 [yJ 29 0,yJ 30 0] [] ?_))))))
 refine yZ (zS ?_)
 refine yC [(2,.p 2 0),(3,.p 3 0),yB 4 false,yJ 29 0,yJ 30 0] [(3,29,[.v (yI 0),.v (yI 0),.v (.slice none 0 0)]),(2,29,[.v (yI 0),.v (yI 0),.v (.slice none 0 0)])] (fun w=>True) (fun w Q=>trivial) ?_
 refine xR (fun a b c=>∃ (d:Nat),b=ofL [(2,.p 2 0),(3,.p 3 0),yB 4 false,yJ 29 0,yJ 30 0] [(3,29,[.v (yI 0),.v (yI 0),.v (.slice none 0 0)]),(2,29,[.v (yI 0),.v (yI 0),.v (.slice none 0 0)])]∧c=(fun w=>True)∧a=1) (1) ⟨0,rfl,rfl,rfl⟩ ?_
 rintro a b c ⟨d,rfl,rfl,rfl⟩
 refine yY (xq 1 [yB 31 false] [] ?_)
 refine yZ (zC (xb (xN (zK (zK (xV (zA (yY (xq 1 [yB 4 true] [] ?_)))))))))
 refine yZ (zG ?_)
 refine yR (.bool true) fun w' R Q=>?_
 exact⟨rfl,R⟩
instance {p q m0:Nat}:Nonempty {x:Nat × List Qr // x.2.map (fun r=>r.xs.map (·.q))=List.replicate p (List.replicate q 0)∧m0≤x.1}:=⟨⟨(m0,List.replicate p ⟨none,0,List.replicate q qv0⟩),by
 refine⟨?_,uF _⟩
 rw[List.map_replicate,List.map_replicate];rfl⟩⟩
theorem rd0:xU [48]=some ((0:Int):Rat):=ZcM.2 (cY (n:=0) qD qD qD)
theorem r0:kQ [48] 8=⟨false,0,0,0⟩:=by
 unfold kQ
 rw[vC (by rw[rd0];rfl),vC qO,dO rd0]
 rfl
theorem Zso {n:Nat}{ts:List ByteArray}(h:∀ j,j<ts.length→ts[j]!.size≤n):ts.all (fun s=>decide (s.size≤n))=true:=Zcg.2 fun j a=>vM (h j a)
theorem ZsN {n k:Nat}{ts:List ByteArray}(a:k<ts.length)(h:¬ ts[k]!.size≤n):ts.all (fun s=>decide (s.size≤n))=false:=by
 rw[sQ]
 intro b
 exact h (uA (Zcg.1 b k a))
structure Ef where
 s:Bool
 A:Option Addr
 l:Nat
 c:Nat
 e:Int
 z:Int
def ef0:Ef:=⟨false,none,0,0,0,0⟩
instance:Inhabited Ef:=⟨ef0⟩
def efC (x:Ef):List Value:=[.bool x.s,.slice x.A x.l x.c,.int .i64 x.e]
theorem ZgK (x:Ef):(efC x).length=3:=rfl
theorem Zol (x:Ef):∀ (k:IntKind) (z:Int),Value.int k z∈efC x→k=.i64:=fun k z h=>by
 simp[efC] at h;exact h.1
instance {β:Type} {m:Nat} {ys:List (Mr β)}:Nonempty {b:Nat // m≤b∧∀ y∈ys,y.A≠some ⟨b,0,none⟩}:=by
 refine⟨⟨m+(ys.map (fun y=>match y.A with | some a=>a.block+1 | none=>0)).sum,Nat.le_add_right _ _,fun y hy h=>?_⟩⟩
 have h1:∀ (l:List (Mr β)),y∈l→(match y.A with | some a=>a.block+1 | none=>0)≤(l.map (fun y=>match y.A with | some a=>a.block+1 | none=>0)).sum:=fun l hl=>by
  induction l with
  | nil=>cases hl
  | cons x l ih =>
   rw[pT,List.sum_cons]
   rcases pG.1 hl with e|e
   ·subst e;exact Nat.le_add_right _ _
   have:=ih e;omega
 have h2:=h1 ys hy
 rw[h] at h2
 dsimp only at h2
 omega
theorem ZbL (A:qA)(cap:Nat)(ts:List ByteArray)(n:Nat)(w:World)(l:SRd w A ts)(r:ts.length≤10000) :
 yA 8 #[.int .i64 ((n:Nat):Int),.slice A ts.length cap] w (RetV w (.bool (ts.all (fun s=>decide (s.size≤n))))):=by
 refine zT (Φ:=fun w=>True) func8 rfl qK (fun w' u=>trivial) ?_
 refine yY (xq 1 [yB 4 false] [] ?_)
 refine yZ (zC (yY (xq 3 [eS1 7 A ts.length cap,yJ 8 ((ts.length:Nat):Int),yJ 9 0] [] ?_)))
 refine yZ (zS ?_)
 refine yC [yJ 0 (n:Int),yB 4 false,eS1 7 A ts.length cap,yJ 8 ((ts.length:Nat):Int),yJ 9 ((0:Nat):Int)] [] (fun w=>True) (fun w Q=>trivial) ?_
 refine xR (fun m o p=>∃ (k:Nat),o=ofL [yJ 0 (n:Int),yB 4 false,eS1 7 A ts.length cap,yJ 8 ((ts.length:Nat):Int),yJ 9 (k:Int)] []∧p=(fun w=>True)∧(k≤ts.length)∧(∀ j,j<k→ts[j]!.size≤n)∧m=(1+(ts.length-k))) ((1+(ts.length-0))) ⟨0,rfl,rfl,(tA _),(fun j v=>qO),rfl⟩ ?_
 rintro m o p ⟨k,rfl,rfl,y,q,rfl⟩
 refine yY (xq 1 [yB 10 (decide ((k:Int)<((ts.length:Nat):Int)))] [] ?_)
 refine yZ (zC ?_)
 refine yQ ((decide ((k:Int)<((ts.length:Nat):Int)))) (fun a=>?_) fun a=>?_
 ·have b:k<ts.length:=by have:=uA a;omega
  refine zJ (zA (zC (zS (zC (zB ?_)))))
  refine xqk 11 (atA A (k*1)) (fun w R Q=>wY (t:=22) (e:=9) (sz:=1) (x:=.tmp 7) (ix:=.tmp 9) (len:=ts.length) (cap:=cap) (i:=k) ((l.ext R).ne b) b) ?_
  obtain⟨f,c⟩:∃ x,ts[k]! = x:=⟨_,rfl⟩
  refine xqk 12 (.string f) (fun w R Q=>by rw[←c];exact Zbb (t:=9) (x:=.tmp 11) (j:=k) (l.ext R) b) ?_
  refine xq 1 [yT 6 f] [] ?_
  refine yZ (yY (xq 4 [yB 16 (decide (((f).size:Int)>(n:Int)))] [] ?_))
  refine xe (zA ?_)
  refine yQ ((decide (((f).size:Int)>(n:Int)))) (fun d=>?_) fun d=>?_
  ·have g:=uA d
   refine yY (xq 1 [yB 4 false] [] ?_)
   refine yZ (zG (xT (zH (zH (xT (zH ?_))))))
   refine yR (.bool false) fun w' R Q=>?_
   exact⟨by rw[ZsN b (by rw[c];omega)],R⟩
  have g:=uB d
  refine zJ (xS (zA (zB (xq 1 [yJ 17 (IntKind.i64.wrap ((k:Int)+1))] [] ?_))))
  rw[yW ((k:Int)+1) (((k+1:Nat):Int)) qO]
  refine xq 1 [yJ 9 ((k+1:Nat):Int)] [] ?_
  refine xe ?_
  refine yP [yJ 0 (n:Int),yB 4 false,eS1 7 A ts.length cap,yJ 8 ((ts.length:Nat):Int),yJ 9 (((k+1):Nat):Int)] [] (fun w=>True) (fun w Q=>trivial) ?_
  exact xI ((1+(ts.length-(k+1)))) qO ⟨(k+1),rfl,rfl,b,(Ze1 q (by rw[c];omega)),rfl⟩
 have h:k=ts.length:=by have:=uB a;omega
 refine xN (zK (zK (xV (zA (yY (xq 1 [yB 4 true] [] ?_))))))
 refine yZ (zG ?_)
 refine yR (.bool true) fun w' R Q=>?_
 exact⟨by rw[Zso (by rw[←h];exact q)],R⟩
theorem ZpI (n c:Nat)(w:World)(K:n≤1000)(L:c≤1000) :
 yA 41 #[.int .i64 ((n:Nat):Int),.int .i64 ((c:Nat):Int)] w (Zp7 84 81 3 efC n (List.replicate n (List.replicate c ef0)) w):=by
 obtain⟨g,p⟩:∃ m,m=w.heap.size:=⟨_,rfl⟩
 refine zT (Φ:=fun w=>True) func41 rfl qK (fun w' M=>trivial) ?_
 refine yY (xq 1 [eS1 4 none 0 0] [] ?_)
 refine yZ (yY (xq 1 [yJ 7 (n:Int)] [] ?_))
 refine yD (d:=8) (fun s:{b:Nat // g≤b}=>.slice (yL s.1) n n) (fun s w=>OwnD w g 81 1 (yL s.1) n n ((List.replicate n (mr0:Mr Ef)).flatMap mrC)) (fun w R Q=>jX (t:=40) (e:=81) (kl:=.i64) (kc:=.i64) (l:=.tmp 7) (c:=.tmp 7) (bytes:=24) (z:=.slice none 0 0) (mr0:Mr Ef) aS qD rfl Zf6 (p ▸ R.size) (by simp only[maxLen];omega) qO) fun⟨a,D⟩=>?_
 refine xr 1 [yJ 1 (c:Int),eS1 4 none 0 0,eS1 5 (yL a) n n] [] ?_
 refine yZ (zC (yY (xq 3 [yJ 10 (n:Int),yJ 11 0] [] ?_)))
 refine yZ (zS ?_)
 refine yC [yJ 1 (c:Int),eS1 4 none 0 0,eS1 5 (yL a) n n,yJ 10 (n:Int),yJ 11 ((0:Nat):Int)] [] (fun w=>(MrOk 84 3 efC g w ([]:List (Mr Ef))∧OwnD w g 81 1 (yL a) n n ((fill n (mr0:Mr Ef) ([]:List (Mr Ef))).flatMap mrC))) (fun w Q=>⟨MrOk.nil,(by rw[cX];exact Q.2)⟩) ?_
 refine xR (fun E F G=>∃ (k:Nat) (o:List (Mr Ef)),F=ofL [yJ 1 (c:Int),eS1 4 none 0 0,eS1 5 (yL a) n n,yJ 10 (n:Int),yJ 11 (k:Int)] []∧G=(fun w=>(MrOk 84 3 efC g w o∧OwnD w g 81 1 (yL a) n n ((fill n (mr0:Mr Ef) o).flatMap mrC)))∧(k≤n)∧(o.length=k)∧(o.map (·.xs)=List.replicate k (List.replicate c ef0))∧E=(1+(n-k))) ((1+(n-0))) ⟨0,([]:List (Mr Ef)),rfl,rfl,(tA _),rfl,rfl,rfl⟩ ?_
 rintro E F G ⟨k,o,rfl,rfl,N,u,v,rfl⟩
 refine yY (xq 1 [yB 12 (decide ((k:Int)<(n:Int)))] [] ?_)
 refine yZ (zC ?_)
 refine yQ ((decide ((k:Int)<(n:Int)))) (fun q=>?_) fun q=>?_
 ·have r:k<n:=by have:=uA q;omega
  refine zJ (zA (zC (zS (yY (xq 2 [yJ 6 (k:Int)] [] ?_)))))
  refine yZ (zB (xq 3 [eS1 14 (yL a) n n,yJ 15 (k:Int),yJ 16 (c:Int)] [] ?_))
  refine yD (d:=17) (fun s:{b:Nat // g≤b∧∀ y∈o,y.A≠yL b}=>.slice (yL s.1) c c) (fun s w=>OwnD w g 84 3 (yL s.1) c c ((List.replicate c ef0).flatMap efC)) (fun w R Q=>Zmt (t:=81) (e:=84) (kl:=.i64) (kc:=.i64) (l:=.tmp 16) (c:=.tmp 16) (bytes:=40) (z:=.agg #[.bool false,.slice none 0 0, yI 0]) ef0 ZgK qD rfl Zol Q.1 (p ▸ R.size) (by simp only[maxLen];omega) qO) fun⟨f,H,B⟩=>?_
  refine xr 0 [yJ 1 (c:Int),eS1 4 none 0 0,eS1 5 (yL a) n n,yJ 10 (n:Int),yJ 11 (k:Int),eS1 14 (yL a) n n,yJ 15 (k:Int),eS1 17 (yL f) c c] [] ?_
  refine xqk 18 (.pointer (some ⟨a,0+k*1,none⟩)) (fun w R Q=>jG (t:=40) (e:=81) (sz:=1) (x:=.tmp 14) (ix:=.tmp 15) (len:=n) (cap:=n) (i:=k) r) ?_
  refine fP (t:=81) (x:=.tmp 18) (y:=.tmp 17) (j:=k) (new:=mrC ((⟨yL f,c,List.replicate c ef0⟩:Mr Ef))) g a (.slice (yL f) c c) (fun w=>(MrOk 84 3 efC g w o∧OwnD w g 84 3 (yL f) c c ((List.replicate c ef0).flatMap efC))) (fun w Q=>Q.1.2) r rfl qD (fun h=>Or.inl (uD (p ▸ uF _) h)) (by simp[mrC,Value.oneCell']) (Zf6 _) (by unfold mrC;rw[sI];rfl) (fun w w' Q I=>⟨MrOk.apart Q.1.1 Q.1.2 qD I,OwnD.apart Q.2 Q.1.2 qD I⟩) ?_
  rw[←jF aS ((fill n (mr0:Mr Ef) o)) k ((⟨yL f,c,List.replicate c ef0⟩:Mr Ef)) (by rw[cW qO];exact r),bL u r]
  refine xr 0 [yJ 1 (c:Int),eS1 4 none 0 0,eS1 5 (yL a) n n,yJ 10 (n:Int),yJ 11 (k:Int)] [] ?_
  refine xe (xS (zA (zB (xq 1 [yJ 19 (IntKind.i64.wrap ((k:Int)+1))] [] ?_))))
  rw[yW ((k:Int)+1) (((k+1:Nat):Int)) qO]
  refine xq 1 [yJ 11 ((k+1:Nat):Int)] [] ?_
  refine xe ?_
  refine yP [yJ 1 (c:Int),eS1 4 none 0 0,eS1 5 (yL a) n n,yJ 10 (n:Int),yJ 11 (((k+1):Nat):Int)] [] (fun w=>(MrOk 84 3 efC g w (o ++ [(⟨yL f,c,List.replicate c ef0⟩:Mr Ef)])∧OwnD w g 81 1 (yL a) n n ((fill n (mr0:Mr Ef) (o ++ [(⟨yL f,c,List.replicate c ef0⟩:Mr Ef)])).flatMap mrC))) (fun w Q=>⟨(MrOk.snoc Q.1.1 (by show OwnD _ _ _ _ _ _ (List.replicate c ef0).length _;rw[sI];exact Q.1.2) B),Q.2⟩) ?_
  exact xI ((1+(n-(k+1)))) qO ⟨(k+1),(o ++ [(⟨yL f,c,List.replicate c ef0⟩:Mr Ef)]),rfl,rfl,r,(by rw[vA,u];rfl),(by rw[pS,v,pZ];rfl),rfl⟩
 have C:k=n:=by have:=uB q;omega
 refine xN (zK (zK (xV (zA (yY (xq 2 [eS1 4 (yL a) n n] [] ?_))))))
 refine yZ (zG ?_)
 refine yR (.slice (yL a) n n) fun w' R Q=>?_
 exact⟨a,o,rfl,by rw[C] at v;exact v,by have h:=Q.2;have J:=u;rw[C] at J;subst J;rw[aM] at h;exact p ▸ h,p ▸ Q.1,R⟩
theorem xF.rowD {w w':World}{v:Value}{q:Rat}{m e k c n:Nat}{A:qA}{l:List Value}(h:xF w v q)(a:OwnD w m e k A c n l)(b:Fr (fun i=>A=some ⟨i,0,none⟩) w w'):xF w' v q:=h.nrb (fun _ hi=>a.nrb hi) b
theorem QsOk.row {w w':World}{xs:List Qv}{m e k c n:Nat}{A:qA}{l:List Value}(h:QsOk w xs)(a:OwnD w m e k A c n l)(b:Fr (fun i=>A=some ⟨i,0,none⟩) w w'):QsOk w' xs:=h.nrb (fun _ hi=>a.nrb hi) b
theorem QsOk.snoc {w:World}{ys:List Qv}{x:Qv}(h:QsOk w ys)(b:xF w (fZ x.c) x.q):QsOk w (ys ++ [x]):=fun y a=>by
 rcases sN.1 a with a|a
 ·exact h y a
 rw[rN.1 a];exact b
theorem ZpJ (A:qA)(cap:Nat)(ts:List ByteArray)(w:World)(S:SRd w A ts)(Y:∀ s∈ts,s.size≤100000)(hn:ts.length≤10000)(Z:∀ s∈ts,(xU (bytes s)).isSome=true) :
 yA 39 #[.slice A ts.length cap] w (fun e w'=>∃ b N,e=.returned (.tuple #[.slice (some ⟨b,0,none⟩) ts.length ts.length,.bool true])∧N.map (·.q)=ts.map (fun t=>valF (bytes t))∧OwnD w' w.heap.size 59 4 (some ⟨b,0,none⟩) ts.length ts.length (N.flatMap qvC)∧QsOk w' N∧Ext w w'):=by
 obtain⟨K,I⟩:∃ m,m=w.heap.size:=⟨_,rfl⟩
 refine zT (Φ:=fun w=>True) func39 rfl qK (fun w' hf=>trivial) ?_
 refine yY (xq 2 [eS1 2 none 0 0,yB 3 false] [] ?_)
 refine yZ (yY (xq 2 [yJ 9 ((ts.length:Nat):Int)] [] ?_))
 refine yD (d:=10) (fun O:{b:Nat // K≤b}=>.slice (yL O.1) ts.length ts.length) (fun O w=>OwnD w K 59 4 (yL O.1) ts.length ts.length ((List.replicate ts.length qv0).flatMap qvC)) (fun w R Q=>jX (t:=61) (e:=59) (kl:=.i64) (kc:=.i64) (l:=.tmp 9) (c:=.tmp 9) (bytes:=64) (z:=.agg #[.bool false,.slice none 0 0,.bool false,.slice none 0 0]) qv0 aU qD rfl Zf7 (I ▸ R.size) (by simp only[maxLen];omega) qO) fun⟨a,T⟩=>?_
 refine xr 1 [eS1 0 A ts.length cap,eS1 2 none 0 0,yB 3 false,eS1 4 (yL a) ts.length ts.length] [] ?_
 refine yZ (zC (yY (xq 1 [yJ 5 0] [] ?_)))
 refine yZ (zS ?_)
 refine yC [eS1 0 A ts.length cap,eS1 2 none 0 0,yB 3 false,eS1 4 (yL a) ts.length ts.length,yJ 5 ((0:Nat):Int)] [] (fun w=>(QsOk w ([]:List Qv)∧OwnD w K 59 4 (yL a) ts.length ts.length ((fill ts.length qv0 ([]:List Qv)).flatMap qvC))) (fun w Q=>⟨(fun _ h=>nomatch h),(by rw[cX];exact Q.2)⟩) ?_
 refine xR (fun U V W=>∃ (k:Nat) (E:List Qv),V=ofL [eS1 0 A ts.length cap,eS1 2 none 0 0,yB 3 false,eS1 4 (yL a) ts.length ts.length,yJ 5 (k:Int)] []∧W=(fun w=>(QsOk w E∧OwnD w K 59 4 (yL a) ts.length ts.length ((fill ts.length qv0 E).flatMap qvC)))∧(k≤ts.length)∧(E.map (·.q)=(ts.take k).map (fun t=>valF (bytes t)))∧U=(1+(ts.length-k))) ((1+(ts.length-0))) ⟨0,([]:List Qv),rfl,rfl,(tA _),rfl,rfl⟩ ?_
 rintro U V W ⟨k,E,rfl,rfl,hk,M,rfl⟩
 refine zC (yY (xq 4 [yB 14 (decide ((k:Int)<((ts.length:Nat):Int)))] [] ?_))
 refine xe (zA ?_)
 refine yQ ((decide ((k:Int)<((ts.length:Nat):Int)))) (fun F=>?_) fun F=>?_
 ·have f:k<ts.length:=by have:=uA F;omega
  have J:E.length=k:=by have:=vI List.length M;rw[uR,uR,uL] at this;omega
  refine zJ (zA (zC (zS (yY (xq 2 [eS1 18 A ts.length cap,yJ 19 (k:Int)] [] ?_)))))
  refine xqk 20 (atA A (k*1)) (fun w R Q=>wY (t:=22) (e:=9) (sz:=1) (x:=.tmp 18) (ix:=.tmp 19) (len:=ts.length) (cap:=cap) (i:=k) ((S.ext R).ne f) f) ?_
  obtain⟨H,C⟩:∃ x,ts[k]! = x:=⟨_,rfl⟩
  refine xqk 21 (.string H) (fun w R Q=>by rw[←C];exact Zbb (t:=9) (x:=.tmp 20) (j:=k) (S.ext R) f) ?_
  obtain⟨D,G⟩:=sC.1 (show (xU (bytes H)).isSome=true by rw[←C];exact Z _ (xY f))
  refine xqc 65 [.string H] 22 (fun x:ShQ=>.tuple #[fZ x,.bool true]) _ (fun w R Q=>(ZdJ H _ (uD (Y _ (by rw[←C];exact xY f)) qD)).mono (fun _ _ h=>ZbD h G)) fun⟨g,n,o,r,t13,u,v,B⟩=>?_
  refine xq 6 [(6,.p 6 0),yB 7 true] [bR4 6 59 g n o r t13 u v B] ?_
  refine yZ (zC (yY (xq 2 [yB 26 false] [] ?_)))
  refine yZ (xb (zJ (zA (zB (xq 3 [eS1 27 (yL a) ts.length ts.length,yJ 28 (k:Int),eR4 29 g n o r t13 u v B] [] ?_)))))
  refine xqk 30 (.pointer (some ⟨a,0+k*4,none⟩)) (fun w R Q=>jG (t:=61) (e:=59) (sz:=4) (x:=.tmp 27) (ix:=.tmp 28) (len:=ts.length) (cap:=ts.length) (i:=k) f) ?_
  refine fP (t:=59) (x:=.tmp 30) (y:=.tmp 29) (j:=k) (new:=qvC ((⟨(g,n,o,r,t13,u,v,B),D⟩:Qv))) K a (.agg #[.bool g,.slice n o r,.bool t13,.slice u v B]) (fun w=>(QsOk w E∧xF w (fZ (g,n,o,r,t13,u,v,B)) D)) (fun w Q=>Q.1.2) f rfl qD (fun h=>Or.inl (uD (I ▸ uF _) h)) (by simp[qvC,Value.oneCell']) (Zf7 _) rfl (fun w w' Q X=>⟨QsOk.row Q.1.1 Q.1.2 X,xF.rowD Q.2 Q.1.2 X⟩) ?_
  rw[←jF aU ((fill ts.length qv0 E)) k ((⟨(g,n,o,r,t13,u,v,B),D⟩:Qv)) (by rw[cW qO];exact f),bL J f]
  refine xr 0 [eS1 0 A ts.length cap,eS1 2 none 0 0,yB 3 false,eS1 4 (yL a) ts.length ts.length,yJ 5 (k:Int)] [] ?_
  refine xe (xS (zA (zB (xq 2 [yJ 16 (IntKind.i64.wrap ((k:Int)+1))] [] ?_))))
  rw[yW ((k:Int)+1) (((k+1:Nat):Int)) qO]
  refine xq 1 [yJ 5 ((k+1:Nat):Int)] [] ?_
  refine xe ?_
  refine yP [eS1 0 A ts.length cap,eS1 2 none 0 0,yB 3 false,eS1 4 (yL a) ts.length ts.length,yJ 5 (((k+1):Nat):Int)] [] (fun w=>(QsOk w (E ++ [(⟨(g,n,o,r,t13,u,v,B),D⟩:Qv)])∧OwnD w K 59 4 (yL a) ts.length ts.length ((fill ts.length qv0 (E ++ [(⟨(g,n,o,r,t13,u,v,B),D⟩:Qv)])).flatMap qvC))) (fun w Q=>⟨(QsOk.snoc Q.1.1 Q.1.2),Q.2⟩) ?_
  exact xI ((1+(ts.length-(k+1)))) qO ⟨(k+1),(E ++ [(⟨(g,n,o,r,t13,u,v,B),D⟩:Qv)]),rfl,rfl,f,(Ze3 M f (by rw[C];exact (dO G).symm)),rfl⟩
 have L:k=ts.length:=by have:=uB F;omega
 have J:E.length=k:=by have:=vI List.length M;rw[uR,uR,uL] at this;omega
 refine xN (zK (zK (xV (zA (yY (xq 3 [eS1 2 (yL a) ts.length ts.length,yB 3 true] [] ?_))))))
 refine yZ (zG ?_)
 refine yR (.tuple #[.slice (yL a) ts.length ts.length,.bool true]) fun w' R Q=>?_
 exact⟨a,E,rfl,by rw[M,L,rB],by have h:=Q.2;have P:=J;rw[L] at P;rw[←P,aM] at h;rw[P] at h;exact I ▸ h,Q.1,R⟩
theorem Zri (A:qA)(cap:Nat)(ts:List ByteArray)(w:World)(L:SRd w A ts)(M:∀ s∈ts,s.size≤100000)(W:ts.length≤10000)(V:ts.all (fun s=>(xU (bytes s)).isSome)=false) :
 yA 39 #[.slice A ts.length cap] w (RetV w (.tuple #[.slice none 0 0,.bool false])):=by
 obtain⟨G,H⟩:∃ m,m=w.heap.size:=⟨_,rfl⟩
 refine zT (Φ:=fun w=>True) func39 rfl qK (fun w' X=>trivial) ?_
 refine yY (xq 2 [eS1 2 none 0 0,yB 3 false] [] ?_)
 refine yZ (yY (xq 2 [yJ 9 ((ts.length:Nat):Int)] [] ?_))
 refine yD (d:=10) (fun J:{b:Nat // G≤b}=>.slice (yL J.1) ts.length ts.length) (fun J w=>OwnD w G 59 4 (yL J.1) ts.length ts.length ((List.replicate ts.length qv0).flatMap qvC)) (fun w R Q=>jX (t:=61) (e:=59) (kl:=.i64) (kc:=.i64) (l:=.tmp 9) (c:=.tmp 9) (bytes:=64) (z:=.agg #[.bool false,.slice none 0 0,.bool false,.slice none 0 0]) qv0 aU qD rfl Zf7 (H ▸ R.size) (by simp only[maxLen];omega) qO) fun⟨a,N⟩=>?_
 refine xr 1 [eS1 0 A ts.length cap,eS1 2 none 0 0,yB 3 false,eS1 4 (yL a) ts.length ts.length] [] ?_
 refine yZ (zC (yY (xq 1 [yJ 5 0] [] ?_)))
 refine yZ (zS ?_)
 refine yC [eS1 0 A ts.length cap,eS1 2 none 0 0,yB 3 false,eS1 4 (yL a) ts.length ts.length,yJ 5 ((0:Nat):Int)] [] (fun w=>(QsOk w ([]:List Qv)∧OwnD w G 59 4 (yL a) ts.length ts.length ((fill ts.length qv0 ([]:List Qv)).flatMap qvC))) (fun w Q=>⟨(fun _ h=>nomatch h),(by rw[cX];exact Q.2)⟩) ?_
 refine xR (fun O P S=>∃ (k:Nat) (F:List Qv),P=ofL [eS1 0 A ts.length cap,eS1 2 none 0 0,yB 3 false,eS1 4 (yL a) ts.length ts.length,yJ 5 (k:Int)] []∧S=(fun w=>(QsOk w F∧OwnD w G 59 4 (yL a) ts.length ts.length ((fill ts.length qv0 F).flatMap qvC)))∧(k≤ts.length)∧(F.length=k)∧(∀ j,j<k→(xU (bytes ts[j]!)).isSome=true)∧O=(1+(ts.length-k))) ((1+(ts.length-0))) ⟨0,([]:List Qv),rfl,rfl,(tA _),rfl,(fun j Y=>qO),rfl⟩ ?_
 rintro O P S ⟨k,F,rfl,rfl,Z,I,T,rfl⟩
 refine zC (yY (xq 4 [yB 14 (decide ((k:Int)<((ts.length:Nat):Int)))] [] ?_))
 refine xe (zA ?_)
 refine yQ ((decide ((k:Int)<((ts.length:Nat):Int)))) (fun E=>?_) fun E=>?_
 ·have v:k<ts.length:=by have:=uA E;omega
  refine zJ (zA (zC (zS (yY (xq 2 [eS1 18 A ts.length cap,yJ 19 (k:Int)] [] ?_)))))
  refine xqk 20 (atA A (k*1)) (fun w R Q=>wY (t:=22) (e:=9) (sz:=1) (x:=.tmp 18) (ix:=.tmp 19) (len:=ts.length) (cap:=cap) (i:=k) ((L.ext R).ne v) v) ?_
  obtain⟨C,B⟩:∃ x,ts[k]! = x:=⟨_,rfl⟩
  refine xqk 21 (.string C) (fun w R Q=>by rw[←B];exact Zbb (t:=9) (x:=.tmp 20) (j:=k) (L.ext R) v) ?_
  rcases hrd13:xU (bytes C) with _|D
  ·refine xqc 65 [.string C] 22 (fun x:ShQ=>.tuple #[fZ x,.bool false]) _ (fun w R Q=>(ZdJ C _ (uD (M _ (by rw[←B];exact xY v)) qD)).mono (fun _ _ h=>Zf0 h hrd13)) fun⟨f,g,n,o,t13,q,r,u⟩=>?_
   refine xq 6 [(6,.p 6 0),yB 7 false] [bR4 6 59 f g n o t13 q r u] ?_
   refine yZ (zC (yY (xq 2 [yB 26 true] [] ?_)))
   refine yZ (xa (yY (xq 2 [eS1 2 none 0 0,yB 3 false] [] ?_)))
   refine yZ (zG (zH (xT (zH (zH (xT (zH ?_)))))))
   refine yR (.tuple #[.slice none 0 0,.bool false]) fun w' R Q=>?_
   exact⟨rfl,R⟩
  refine xqc 65 [.string C] 22 (fun x:ShQ=>.tuple #[fZ x,.bool true]) _ (fun w R Q=>(ZdJ C _ (uD (M _ (by rw[←B];exact xY v)) qD)).mono (fun _ _ h=>ZbD h hrd13)) fun⟨f,g,n,o,t13,q,r,u⟩=>?_
  refine xq 6 [(6,.p 6 0),yB 7 true] [bR4 6 59 f g n o t13 q r u] ?_
  refine yZ (zC (yY (xq 2 [yB 26 false] [] ?_)))
  refine yZ (xb (zJ (zA (zB (xq 3 [eS1 27 (yL a) ts.length ts.length,yJ 28 (k:Int),eR4 29 f g n o t13 q r u] [] ?_)))))
  refine xqk 30 (.pointer (some ⟨a,0+k*4,none⟩)) (fun w R Q=>jG (t:=61) (e:=59) (sz:=4) (x:=.tmp 27) (ix:=.tmp 28) (len:=ts.length) (cap:=ts.length) (i:=k) v) ?_
  refine fP (t:=59) (x:=.tmp 30) (y:=.tmp 29) (j:=k) (new:=qvC ((⟨(f,g,n,o,t13,q,r,u),D⟩:Qv))) G a (.agg #[.bool f,.slice g n o,.bool t13,.slice q r u]) (fun w=>(QsOk w F∧xF w (fZ (f,g,n,o,t13,q,r,u)) D)) (fun w Q=>Q.1.2) v rfl qD (fun h=>Or.inl (uD (H ▸ uF _) h)) (by simp[qvC,Value.oneCell']) (Zf7 _) rfl (fun w w' Q U=>⟨QsOk.row Q.1.1 Q.1.2 U,xF.rowD Q.2 Q.1.2 U⟩) ?_
  rw[←jF aU ((fill ts.length qv0 F)) k ((⟨(f,g,n,o,t13,q,r,u),D⟩:Qv)) (by rw[cW qO];exact v),bL I v]
  refine xr 0 [eS1 0 A ts.length cap,eS1 2 none 0 0,yB 3 false,eS1 4 (yL a) ts.length ts.length,yJ 5 (k:Int)] [] ?_
  refine xe (xS (zA (zB (xq 2 [yJ 16 (IntKind.i64.wrap ((k:Int)+1))] [] ?_))))
  rw[yW ((k:Int)+1) (((k+1:Nat):Int)) qO]
  refine xq 1 [yJ 5 ((k+1:Nat):Int)] [] ?_
  refine xe ?_
  refine yP [eS1 0 A ts.length cap,eS1 2 none 0 0,yB 3 false,eS1 4 (yL a) ts.length ts.length,yJ 5 (((k+1):Nat):Int)] [] (fun w=>(QsOk w (F ++ [(⟨(f,g,n,o,t13,q,r,u),D⟩:Qv)])∧OwnD w G 59 4 (yL a) ts.length ts.length ((fill ts.length qv0 (F ++ [(⟨(f,g,n,o,t13,q,r,u),D⟩:Qv)])).flatMap qvC))) (fun w Q=>⟨(QsOk.snoc Q.1.1 Q.1.2),Q.2⟩) ?_
  exact xI ((1+(ts.length-(k+1)))) qO ⟨(k+1),(F ++ [(⟨(f,g,n,o,t13,q,r,u),D⟩:Qv)]),rfl,rfl,v,(by rw[vA,I];rfl),(Ze1 T (by rw[B,hrd13];rfl)),rfl⟩
 have K:k=ts.length:=by have:=uB E;omega
 refine xN (zK (zK (xV (zA (yY (xq 3 [eS1 2 (yL a) ts.length ts.length,yB 3 true] [] ?_))))))
 refine yZ (zG ?_)
 refine yR (.tuple #[.slice (yL a) ts.length ts.length,.bool true]) fun w' R Q=>?_
 exact absurd (Zcg (p:=fun s=>(xU (bytes s)).isSome).2 (by rw[←K];exact T)) (by rw[V];decide)
section
variable {P:Program} {o:Oper} {ρ:Operand→Value} {w:World} {t e:TypeId} {x:Operand}
theorem ZpK {g len cap off l h n m sz:Nat}{lo hi:Operand}(c:l≤h)(a:h≤cap)(f:l<cap)(j:h-l=n)(k:cap-l=m)(p:o.op=Op.slice t x (some lo) (some hi) none:=by kernel_rfl)(q:P.underlying t=some (.slice e):=by kernel_rfl)(r:(P.info? e).map (fun i=>i.size)=some sz:=by kernel_rfl)(s:ρ x=.slice (some ⟨g,off,none⟩) len cap:=by kernel_rfl)(u:ρ lo=.int .i64 (l:Int):=by kernel_rfl)(v:ρ hi=.int .i64 (h:Int):=by kernel_rfl):(execOp ρ o).run P w=.ok (.value (.slice (some ⟨g,off+l*sz,none⟩) n m)) w:=by
 subst j k
 obtain⟨y,b,z⟩:=vJ.1 r
 have d:¬ cap=l:=qO
 simp[execOp,p,Instr.sliceAt,Instr.slice,Instr.sliceBounds,Instr.sliceBound,asIntOf,underlying,q,s,u,v,c,a,sizeOf,typeInfo,b,z,Result.andThen,d,jS]
end
theorem Zbf {r c:Nat}{ts:List ByteArray}(h:mtB r c ts=true):1≤r∧r≤64∧1≤c∧c≤64∧ts.length=r*c∧∀ s∈ts,(xU (bytes s)).isSome=true:=by
 unfold mtB at h
 rw[tD,decide_eq_true_iff] at h
 obtain⟨⟨f,g,i,j,a⟩,b⟩:=h
 rw[←tL] at a
 exact⟨qO,qO,qO,qO,qO,fun s d=>uZ.1 b s d⟩
theorem Zsp {r c:Int}{ts:List ByteArray}(h:mtB r c ts=false)(a:1≤r∧r≤64∧1≤c∧c≤64∧((ts.length:Nat):Int)=r*c):ts.all (fun s=>(xU (bytes s)).isSome)=false:=by
 unfold mtB at h
 rw[vM a,Bool.true_and] at h
 exact h
theorem Zrj {m0:Nat}{ts:List ByteArray}{w w':World}{e:Ending}(a:m0≤w.heap.size)(h:∃ b xs,e=.returned (.tuple #[.slice (some ⟨b,0,none⟩) ts.length ts.length,.bool true])∧xs.map (·.q)=ts.map (fun t=>valF (bytes t))∧OwnD w' w.heap.size 59 4 (some ⟨b,0,none⟩) ts.length ts.length (xs.flatMap qvC)∧QsOk w' xs∧Ext w w') :
 wV (fun x:{x:Nat × List Qv // x.2.map (·.q)=ts.map (fun t=>valF (bytes t))∧m0≤x.1}=>.tuple #[.slice (some ⟨x.1.1,0,none⟩) ts.length ts.length,.bool true]) (fun x w=>OwnD w m0 59 4 (some ⟨x.1.1,0,none⟩) ts.length ts.length (x.1.2.flatMap qvC)∧QsOk w x.1.2) w e w':=by
 obtain⟨b,xs,rfl,d,c,f,Q⟩:=h
 exact⟨⟨(b,xs),d,uD a (c.blk rfl).1⟩,rfl,Q,(c.boxN a).and (boxn Q (fun S g i j=>f.nrb i j))⟩
instance {m:Nat} {ts:List ByteArray}:Nonempty {x:Nat × List Qv // x.2.map (·.q)=ts.map (fun t=>valF (bytes t))∧m≤x.1}:=⟨⟨(m,ts.map (fun t=>⟨qv0.c,valF (bytes t)⟩)),by rw[qL];rfl,uF _⟩⟩
def rOne (b:Nat) (xs:List Qv) (c N i:Nat):Mr Qv:=⟨some ⟨b,0+i*c*4,none⟩,N-i*c,(xs.drop (i*c)).take c⟩
def rO (b:Nat) (xs:List Qv) (c N k:Nat):List (Mr Qv):=(List.range k).map (rOne b xs c N)
theorem Zf9 {b c N k:Nat}{xs:List Qv}:(rO b xs c N k).length=k:=by unfold rO;simp
theorem Zrk {b c N:Nat}{xs:List Qv}:rO b xs c N 0=[]:=rfl
theorem Zsq {b c N k r:Nat}{xs:List Qv}(h:k<r):(fill r (mr0:Mr Qv) (rO b xs c N k)).set k (rOne b xs c N k)=fill r (mr0:Mr Qv) (rO b xs c N (k+1)):=by
 rw[bL Zf9 h]
 unfold rO
 rw[List.range_succ,pS,pQ]
theorem Zsr {b c N r:Nat}{xs:List Qv}:fill r (mr0:Mr Qv) (rO b xs c N r)=rO b xs c N r:=by
 have:=aM (z:=(mr0:Mr Qv)) (l:=rO b xs c N r)
 rwa [Zf9] at this
theorem Zjm {c i:Nat}{xs:List Qv}(h:(i+1)*c≤xs.length):((xs.drop (i*c)).take c).length=c:=by
 rw[rW] at h
 rw[uL,vT];omega
def Zp8 (r c:Nat) (ts:List ByteArray) (w:World) (e:Ending) (w':World):Prop:=∃ b bl xs,e=.returned (.tuple #[.slice (some ⟨b,0,none⟩) r r,.bool true])∧xs.map (·.q)=ts.map (fun t=>valF (bytes t))∧OwnD w' w.heap.size 61 1 (some ⟨b,0,none⟩) r r ((rO bl xs c ts.length r).flatMap mrC)∧OwnD w' w.heap.size 59 4 (some ⟨bl,0,none⟩) ts.length ts.length (xs.flatMap qvC)∧QsOk w' xs∧Ext w w'
theorem Zjn (r c:Nat)(A:qA)(cap:Nat)(ts:List ByteArray)(w:World)(hS:SRd w A ts)(hs:∀ s∈ts,s.size≤100000)(hv:mtB r c ts=true) :
 yA 11 #[.agg #[.int .i64 ((r:Nat):Int),.int .i64 ((c:Nat):Int),.slice A ts.length cap]] w (Zp8 r c ts w):=by
 obtain⟨m0,F⟩:∃ m,m=w.heap.size:=⟨_,rfl⟩
 obtain⟨a0,M,b0,N,O,S⟩:=Zbf hv
 have c0:r*c≤64*64:=vY M N
 refine zT (Φ:=fun w=>True) func11 rfl qK (fun w' hf=>trivial) ?_
 refine yY (xq 3 [(1,.p 1 0),eS1 2 none 0 0,yB 3 false] [(1,24,[.v (yI (r:Int)),.v (yI (c:Int)),.v (.slice A ts.length cap)])] ?_)
 refine yZ (zC (yY (xq 4 [yB 11 (decide ((r:Int)<1))] [] ?_)))
 rcases bl2 ((decide ((r:Int)<1))) with n|n
 ·rw[n]
  have H:=uA n
  exfalso;omega
 rw[n]
 have H:=uB n
 refine xq 5 [yB 16 (decide ((r:Int)>64))] [] ?_
 rcases bl2 ((decide ((r:Int)>64))) with u|u
 ·rw[u]
  have I:=uA u
  exfalso;omega
 rw[u]
 have I:=uB u
 refine xq 5 [yB 21 (decide ((c:Int)<1))] [] ?_
 rcases bl2 ((decide ((c:Int)<1))) with B|B
 ·rw[B]
  have J:=uA B
  exfalso;omega
 rw[B]
 have J:=uB B
 refine xq 5 [yB 26 (decide ((c:Int)>64))] [] ?_
 rcases bl2 ((decide ((c:Int)>64))) with C|C
 ·rw[C]
  have K:=uA C
  exfalso;omega
 rw[C]
 have K:=uB C
 refine xq 8 [yJ 29 ((ts.length:Nat):Int),yJ 34 (IntKind.i64.wrap ((r:Int)*(c:Int)))] [] ?_
 rw[(show IntKind.i64.wrap ((r:Int)*(c:Int))=((r*c:Nat):Int) from aQ qO qO)]
 refine xq 1 [yB 35 ((((ts.length:Nat):Int):Int) != ((r*c:Nat):Int))] [] ?_
 rw[(show ((((ts.length:Nat):Int):Int) != ((r*c:Nat):Int))=false from aR (by rw[O]))]
 refine xq 1 [yB 36 false] [] ?_
 refine yZ (xb (zJ (zA (yY (xq 2 [eS1 39 A ts.length cap] [] ?_)))))
 refine xqc 39 [.slice A ts.length cap] 40 (fun x:{x:Nat × List Qv // x.2.map (·.q)=ts.map (fun t=>valF (bytes t))∧m0≤x.1}=>.tuple #[.slice (yL x.1.1) ts.length ts.length,.bool true]) _ (fun w R Q=>(ZpJ A cap ts _ (hS.ext R) hs qO S).mono (fun _ _ h=>Zrj (m0:=m0) (F ▸ R.size) h)) fun xx=>?_
 obtain⟨⟨f,D⟩,L,d0⟩:=xx
 have e0:D.length=r*c:=by have:=vI List.length L;rw[uR,uR] at this;rw[this];exact O
 refine xq 5 [eS1 4 (yL f) ts.length ts.length,yB 5 true] [] ?_
 refine yZ (zC (yY (xq 2 [yB 44 false] [] ?_)))
 refine yZ (xb (zJ (zA (yY (xq 2 [yJ 46 (r:Int)] [] ?_)))))
 refine yD (d:=47) (fun T:{b:Nat // m0≤b}=>.slice (yL T.1) r r) (fun T w=>OwnD w m0 61 1 (yL T.1) r r ((List.replicate r (mr0:Mr Qv)).flatMap mrC)) (fun w R Q=>jX (t:=33) (e:=61) (kl:=.i64) (kc:=.i64) (l:=.tmp 46) (c:=.tmp 46) (bytes:=24) (z:=.slice none 0 0) (mr0:Mr Qv) aS qD rfl Zf6 (F ▸ R.size) (by simp only[maxLen];omega) qO) fun⟨a,V⟩=>?_
 refine xr 1 [(1,.p 1 0),eS1 2 none 0 0,yB 3 false,eS1 4 (yL f) ts.length ts.length,eS1 6 (yL a) r r] [(1,24,[.v (yI (r:Int)),.v (yI (c:Int)),.v (.slice A ts.length cap)])] ?_
 refine yZ (zC (yY (xq 1 [yJ 7 0] [] ?_)))
 refine yZ (zS ?_)
 refine yC [(1,.p 1 0),eS1 2 none 0 0,yB 3 false,eS1 4 (yL f) ts.length ts.length,eS1 6 (yL a) r r,yJ 7 ((0:Nat):Int)] [(1,24,[.v (yI (r:Int)),.v (yI (c:Int)),.v (.slice A ts.length cap)])] (fun w=>((OwnD w m0 59 4 (yL f) ts.length ts.length (D.flatMap qvC)∧QsOk w D)∧OwnD w m0 61 1 (yL a) r r ((fill r (mr0:Mr Qv) (rO f D c ts.length 0)).flatMap mrC))) (fun w Q=>⟨⟨Q.1.2.1,Q.1.2.2⟩,(by rw[Zrk,cX];exact Q.2)⟩) ?_
 refine xR (fun W X Y=>∃ (k:Nat),X=ofL [(1,.p 1 0),eS1 2 none 0 0,yB 3 false,eS1 4 (yL f) ts.length ts.length,eS1 6 (yL a) r r,yJ 7 (k:Int)] [(1,24,[.v (yI (r:Int)),.v (yI (c:Int)),.v (.slice A ts.length cap)])]∧Y=(fun w=>((OwnD w m0 59 4 (yL f) ts.length ts.length (D.flatMap qvC)∧QsOk w D)∧OwnD w m0 61 1 (yL a) r r ((fill r (mr0:Mr Qv) (rO f D c ts.length k)).flatMap mrC)))∧(k≤r)∧W=(1+(r-k))) ((1+(r-0))) ⟨0,rfl,rfl,(tA _),rfl⟩ ?_
 rintro W X Y ⟨k,rfl,rfl,hk,rfl⟩
 refine zC (yY (xq 4 [yB 51 (decide ((k:Int)<(r:Int)))] [] ?_))
 refine xe (zA ?_)
 refine yQ ((decide ((k:Int)<(r:Int)))) (fun G=>?_) fun G=>?_
 ·have E:k<r:=by have:=uA G;omega
  refine zJ (zA (zC (zS (zB (xq 7 [eS1 54 (yL a) r r,yJ 55 (k:Int),eS1 56 (yL f) ts.length ts.length,yJ 60 (IntKind.i64.wrap ((k:Int)*(c:Int)))] [] ?_)))))
  rw[(show IntKind.i64.wrap ((k:Int)*(c:Int))=((k*c:Nat):Int) from aQ qO qO)]
  refine xq 2 [yJ 62 (IntKind.i64.wrap ((k:Int)+1))] [] ?_
  rw[(show IntKind.i64.wrap ((k:Int)+1)=((k+1:Nat):Int) by rw[IntKind.wrap_i64];omega)]
  refine xq 3 [yJ 65 (IntKind.i64.wrap (((k+1:Nat):Int)*(c:Int)))] [] ?_
  rw[(show IntKind.i64.wrap (((k+1:Nat):Int)*(c:Int))=(((k+1)*c:Nat):Int) from aQ qO qO)]
  have f0:(k+1)*c≤ts.length:=by rw[O];exact uE c E
  have g0:(k+1)*c=k*c+c:=rW k c
  refine xqk 66 (.slice (some ⟨f,0+k*c*4,none⟩) c (ts.length-k*c)) (fun w R Q=>ZpK (t:=61) (e:=59) (sz:=4) (x:=.tmp 56) (lo:=.tmp 60) (hi:=.tmp 65) (g:=f) (len:=ts.length) (cap:=ts.length) (off:=0) (l:=k*c) (h:=(k+1)*c) qO qO qO qO rfl) ?_
  refine xqk 67 (.pointer (some ⟨a,0+k*1,none⟩)) (fun w R Q=>jG (t:=33) (e:=61) (sz:=1) (x:=.tmp 54) (ix:=.tmp 55) (len:=r) (cap:=r) (i:=k) E) ?_
  refine fP (t:=61) (x:=.tmp 67) (y:=.tmp 66) (j:=k) (new:=mrC ((rOne f D c ts.length k))) m0 a (.slice (some ⟨f,0+k*c*4,none⟩) c (ts.length-k*c)) (fun w=>(OwnD w m0 59 4 (yL f) ts.length ts.length (D.flatMap qvC)∧QsOk w D)) (fun w Q=>Q.2) E rfl qD (fun h=>Or.inl (uD (F ▸ uF _) h)) (by simp[mrC,Value.oneCell']) (Zf6 _) (by unfold mrC rOne;rw[Zjm qO];rfl) (fun w w' Q Z=>⟨OwnD.apart Q.1.1 Q.2 qD Z,QsOk.row Q.1.2 Q.2 Z⟩) ?_
  rw[←jF aS ((fill r (mr0:Mr Qv) (rO f D c ts.length k))) k ((rOne f D c ts.length k)) (by rw[cW (by rw[Zf9];omega)];exact E),Zsq E]
  refine xr 0 [(1,.p 1 0),eS1 2 none 0 0,yB 3 false,eS1 4 (yL f) ts.length ts.length,eS1 6 (yL a) r r,yJ 7 (k:Int)] [(1,24,[.v (yI (r:Int)),.v (yI (c:Int)),.v (.slice A ts.length cap)])] ?_
  refine xe (xS (zA (zB (xq 2 [yJ 53 (IntKind.i64.wrap ((k:Int)+1))] [] ?_))))
  rw[yW ((k:Int)+1) (((k+1:Nat):Int)) qO]
  refine xq 1 [yJ 7 ((k+1:Nat):Int)] [] ?_
  refine xe ?_
  refine yP [(1,.p 1 0),eS1 2 none 0 0,yB 3 false,eS1 4 (yL f) ts.length ts.length,eS1 6 (yL a) r r,yJ 7 (((k+1):Nat):Int)] [(1,24,[.v (yI (r:Int)),.v (yI (c:Int)),.v (.slice A ts.length cap)])] (fun w=>((OwnD w m0 59 4 (yL f) ts.length ts.length (D.flatMap qvC)∧QsOk w D)∧OwnD w m0 61 1 (yL a) r r ((fill r (mr0:Mr Qv) (rO f D c ts.length (k+1))).flatMap mrC))) (fun w Q=>⟨⟨Q.1.1,Q.1.2⟩,Q.2⟩) ?_
  exact xI ((1+(r-(k+1)))) qO ⟨(k+1),rfl,rfl,E,rfl⟩
 have U:k=r:=by have:=uB G;omega
 refine xN (zK (zK (xV (zA (yY (xq 3 [eS1 2 (yL a) r r,yB 3 true] [] ?_))))))
 refine yZ (zG ?_)
 refine yR (.tuple #[.slice (yL a) r r,.bool true]) fun w' R Q=>?_
 exact⟨a,f,D,rfl,L,by have h:=Q.2;rw[U,Zsr] at h;exact F ▸ h,F ▸ Q.1.1,Q.1.2,R⟩
theorem Zrl (r c:Int)(A:qA)(cap:Nat)(ts:List ByteArray)(w:World)(q:SRd w A ts)(u:∀ s∈ts,s.size≤100000)(y:mtB r c ts=false) :
 yA 11 #[.agg #[.int .i64 r,.int .i64 c,.slice A ts.length cap]] w (RetV w (.tuple #[.slice none 0 0,.bool false])):=by
 obtain⟨C,z⟩:∃ m,m=w.heap.size:=⟨_,rfl⟩
 refine zT (Φ:=fun w=>True) func11 rfl qK (fun w' D=>trivial) ?_
 refine yY (xq 3 [(1,.p 1 0),eS1 2 none 0 0,yB 3 false] [(1,24,[.v (yI r),.v (yI c),.v (.slice A ts.length cap)])] ?_)
 refine yZ (zC (yY (xq 4 [yB 11 (decide (r<1))] [] ?_)))
 rcases bl2 ((decide (r<1))) with a|a
 ·rw[a]
  have h:=uA a
  refine xq 25 [yB 36 true] [] ?_
  refine yZ (xa (yY (xq 2 [eS1 2 none 0 0,yB 3 false] [] ?_)))
  refine yZ (zG (zH ?_))
  refine yR (.tuple #[.slice none 0 0,.bool false]) fun w' R Q=>?_
  exact⟨rfl,R⟩
 rw[a]
 have h:=uB a
 refine xq 5 [yB 16 (decide (r>64))] [] ?_
 rcases bl2 ((decide (r>64))) with b|b
 ·rw[b]
  have i:=uA b
  refine xq 20 [yB 36 true] [] ?_
  refine yZ (xa (yY (xq 2 [eS1 2 none 0 0,yB 3 false] [] ?_)))
  refine yZ (zG (zH ?_))
  refine yR (.tuple #[.slice none 0 0,.bool false]) fun w' R Q=>?_
  exact⟨rfl,R⟩
 rw[b]
 have i:=uB b
 refine xq 5 [yB 21 (decide (c<1))] [] ?_
 rcases bl2 ((decide (c<1))) with d|d
 ·rw[d]
  have j:=uA d
  refine xq 15 [yB 36 true] [] ?_
  refine yZ (xa (yY (xq 2 [eS1 2 none 0 0,yB 3 false] [] ?_)))
  refine yZ (zG (zH ?_))
  refine yR (.tuple #[.slice none 0 0,.bool false]) fun w' R Q=>?_
  exact⟨rfl,R⟩
 rw[d]
 have j:=uB d
 refine xq 5 [yB 26 (decide (c>64))] [] ?_
 rcases bl2 ((decide (c>64))) with f|f
 ·rw[f]
  have k:=uA f
  refine xq 10 [yB 36 true] [] ?_
  refine yZ (xa (yY (xq 2 [eS1 2 none 0 0,yB 3 false] [] ?_)))
  refine yZ (zG (zH ?_))
  refine yR (.tuple #[.slice none 0 0,.bool false]) fun w' R Q=>?_
  exact⟨rfl,R⟩
 rw[f]
 have k:=uB f
 refine xq 8 [yJ 29 ((ts.length:Nat):Int),yJ 34 (IntKind.i64.wrap (r*c))] [] ?_
 rw[(show IntKind.i64.wrap (r*c)=r*c from ZkX qO qO qO qO)]
 refine xq 2 [yB 36 ((((ts.length:Nat):Int):Int) != (r*c))] [] ?_
 refine xe (zA ?_)
 refine yQ (((((ts.length:Nat):Int):Int) != (r*c))) (fun g=>?_) fun g=>?_
 ·have l:=Zbs g
  refine yY (xq 2 [eS1 2 none 0 0,yB 3 false] [] ?_)
  refine yZ (zG (zH ?_))
  refine yR (.tuple #[.slice none 0 0,.bool false]) fun w' R Q=>?_
  exact⟨rfl,R⟩
 have l:=Zbt g
 refine zJ (zA (yY (xq 2 [eS1 39 A ts.length cap] [] ?_)))
 have n:=Zsp y ⟨qO,qO,qO,qO,qO⟩
 have B:ts.length≤4096:=ZnX (r:=r) (c:=c) ⟨qO,qO,qO,qO,qO⟩
 refine xqc 39 [.slice A ts.length cap] 40 (fun _:Unit=>.tuple #[.slice none 0 0,.bool false]) _ (fun w R Q=>yN (Zri A cap ts _ (q.ext R) u qO n)) fun E=>?_
 refine xq 5 [eS1 4 none 0 0,yB 5 false] [] ?_
 refine yZ (zC (yY (xq 2 [yB 44 true] [] ?_)))
 refine yZ (xa (yY (xq 2 [eS1 2 none 0 0,yB 3 false] [] ?_)))
 refine yZ (zG (zH ?_))
 refine yR (.tuple #[.slice none 0 0,.bool false]) fun w' R Q=>?_
 exact⟨rfl,R⟩
theorem zN.rowD {w w':World}{v:Value}{z:Int}{m e k c n:Nat}{A:qA}{l:List Value}(h:zN w v z)(a:OwnD w m e k A c n l)(b:Fr (fun i=>A=some ⟨i,0,none⟩) w w'):zN w' v z:=h.nrb (fun _ hi=>a.nrb hi) b
def jH (w:World) (rs:List (Mr Qv)):Prop:=∀ y∈rs,RdD 59 4 qvC w y.A y.xs∧QsOk w y.xs
theorem jH.ext {w w':World}{rs:List (Mr Qv)}(h:jH w rs)(a:Ext w w'):jH w' rs:=fun y b=>⟨(h y b).1.ext a,(h y b).2.ext a⟩
theorem jH.at {w:World}{a:List (Mr Qv)}{i:Nat}{x:Mr Qv}(h:jH w a)(hi:i<a.length)(b:a[i]! = x):RdD 59 4 qvC w x.A x.xs∧QsOk w x.xs:=b ▸ h _ (xY hi)
theorem jH.apart {w w':World}{rs:List (Mr Qv)}{m k c n:Nat}{e:TypeId}{A:qA}{l:List Value}(h:jH w rs)(b:OwnD w m e k A c n l)(a:59≠e)(d:Fr (fun i=>A=some ⟨i,0,none⟩) w w'):jH w' rs:=fun y f=>⟨(h y f).1.apart b a d,(h y f).2.row b d⟩
theorem Zjt {v:Rat}{n:Nat}(e:0<n)(j:n≤4096)(ha:blen v.num.natAbs≤400000)(l:blen v.den≤400000):(rndF v n).err=0:=by
 have a:=v.den_pos
 rcases uJ v.num.natAbs with b|b
 ·unfold rndF
  rw[b,fC];rfl
 have f:=ZeV b a e
 have g:blen (rndM v.num.natAbs v.den n)≤n+1:=wZ.2 (vS (Zlk b a e) (by rw[uN];have:=p2 n;omega))
 have h:tzn (rndM v.num.natAbs v.den n)+1≤blen (rndM v.num.natAbs v.den n):=by
  have m:=(jV f).2
  have i:0<oddM (rndM v.num.natAbs v.den n):=by have:=(jV f).1;omega
  have o:=uE (2^tzn (rndM v.num.natAbs v.den n)) i
  exact gU.2 qO
 have p:=Zlf (n:=v.num.natAbs) (d:=v.den) (bits:=n) (k:=rndK v.num.natAbs v.den n) (Or.inr rfl)
 have c:okE (0+rndK v.num.natAbs v.den n+tzn (rndM v.num.natAbs v.den n)):=by constructor<;>omega
 unfold rndF wL wI
 rw[uO qO,uO qO,vC c]
theorem Zrr {w w':World}{g:Nat}{bits:Int}{r:FR}{e:Ending}(d:r.err=0)(f:CB w g bits 0)(h:RetC w g bits r e w'):wV (shF r.e) (fun y w=>zN w (wO y) (sg r.s r.m)) w e w':=by
 obtain⟨y,rfl,j,a,c⟩:=h
 rw[d] at c
 have Q:Ext w w':=⟨a.os,a.tape,a.output,a.size,fun i hi _=>by
  by_cases b:i=g
  ·subst b;exact Eq.trans (show w'.heap[i]? = _ from c) (show w.heap[i]? = _ from f).symm
  exact a.block i hi b⟩
 exact⟨y,rfl,Q,boxn Q (fun S k l a=>j.nrb l a)⟩
def efV (x:Ef):Int×Int:=(x.z,x.e)
noncomputable def rvF (bits:Nat) (x:Qv):Int×Int:=(sg (rndF x.q bits).s (rndF x.q bits).m,(rndF x.q bits).e)
def NfOk (w:World) (ms:List (Mr Ef)):Prop:=∀ y∈ms,∀ x∈y.xs,zN w (.agg #[.bool x.s,.slice x.A x.l x.c]) x.z
theorem NfOk.nrb {S:Nat→Prop}{w w':World}{ms:List (Mr Ef)}(h:NfOk w ms)(a:∀ i,S i→NRB w i)(b:Fr S w w'):NfOk w' ms:=fun y c x d=>(h y c x d).nrb a b
theorem NfOk.ext {w w':World}{ms:List (Mr Ef)}(h:NfOk w ms)(a:Ext w w'):NfOk w' ms:=fun y b x c=>(h y b x c).ext a
theorem NfOk.row {w w':World}{ms:List (Mr Ef)}{m e k c n:Nat}{A:qA}{l:List Value}(h:NfOk w ms)(a:OwnD w m e k A c n l)(b:Fr (fun i=>A=some ⟨i,0,none⟩) w w'):NfOk w' ms:=h.nrb (fun _ hi=>a.nrb hi) b
theorem NfOk.zero {w:World}{ms:List (Mr Ef)}{n c:Nat}(h:ms.map (·.xs)=List.replicate n (List.replicate c ef0)):NfOk w ms:=fun y d x a=>by
 have b:y.xs∈ms.map (·.xs):=rY d
 rw[h] at b
 rw[(qF.1 b).2] at a
 rw[(qF.1 a).2]
 exact zN.nil w
theorem NfOk.set {w:World}{a:List (Mr Ef)}{i j:Nat}{y:Mr Ef}{x:Ef}(h:NfOk w a)(hi:i<a.length)(f:a[i]! = y)(g:zN w (.agg #[.bool x.s,.slice x.A x.l x.c]) x.z):NfOk w (a.set i ⟨y.A,y.cap,y.xs.set j x⟩):=fun z k u e=>by
 rcases rD k with b|b
 ·exact h z b u e
 subst b
 rcases rD e with d|d
 ·exact h y (f ▸ xY hi) u d
 subst d;exact g
def PV (n c:Nat) (ms:List (Mr Ef)) (V:Nat→Nat→Int×Int) (i j:Nat):Prop:=ms.length=n∧(∀ a,a<n→ms[a]!.xs.length=c)∧∀ a b,a<n→b<c→(a<i∨(a=i∧b<j))→efV ms[a]!.xs[b]! = V a b
theorem PV.start {n c:Nat}{d:List (Mr Ef)}{V:Nat→Nat→Int×Int}(h:d.map (·.xs)=List.replicate n (List.replicate c ef0)):PV n c d V 0 0:=by
 have e:d.length=n:=by have:=vI List.length h;rwa [uR,sI] at this
 refine⟨e,fun a g=>?_,fun a b _ _ h=>qO⟩
 have f:d[a]!.xs∈d.map (·.xs):=rY (xY (e.symm ▸ g))
 rw[h] at f
 rw[(qF.1 f).2,sI]
theorem PV.next {n c i:Nat}{d:List (Mr Ef)}{V:Nat→Nat→Int×Int}(h:PV n c d V i c):PV n c d V (i+1) 0:=⟨h.1,h.2.1,fun a b e f g=>h.2.2 a b e f qO⟩
theorem Zju {α:Type}[Inhabited α]{l:List α}{i a:Nat}{x:α}(ha:a<l.length):(l.set i x)[a]! = if i=a then x else l[a]! := by
 rw[tH _ a (by rw[tR];exact ha),List.getElem_set,tH l a ha]
theorem PV.set {n c i j:Nat}{g:List (Mr Ef)}{V:Nat→Nat→Int×Int}{y:Mr Ef}{x:Ef}(h:PV n c g V i j)(hi:i<n)(o:g[i]! = y)(r:V i j=efV x):PV n c (g.set i ⟨y.A,y.cap,y.xs.set j x⟩) V i (j+1):=by
 obtain⟨k,p,q⟩:=h
 have f:y.xs.length=c:=o ▸ p i hi
 refine⟨by rw[tR];exact k,fun a d=>?_,fun a b d l s=>?_⟩
 ·rw[Zju (k.symm ▸ d)]
  by_cases e:i=a
  ·rw[vC e];show (y.xs.set j x).length=c;rw[tR];exact f
  rw[uO e];exact p a d
 rw[Zju (k.symm ▸ d)]
 by_cases e:i=a
 ·rw[vC e]
  subst e
  show efV (y.xs.set j x)[b]! = V i b
  rw[Zju (f.symm ▸ l)]
  by_cases m:j=b
  ·rw[vC m,← m,r]
  rw[uO m,← o];exact q i b d l qO
 rw[uO e];exact q a b d l qO
noncomputable def rvG (bits:Nat) (rs:List (Mr Qv)) (a b:Nat):Int×Int:=rvF bits rs[a]!.xs[b]!
theorem Zsy {bits i j:Nat}{a:List (Mr Qv)}{x:Mr Qv}{v:Qv}{r:FR}(b:a[i]! = x)(c:x.xs[j]! = v)(d:rndF v.q bits=r):rvG bits a i j=(sg r.s r.m,r.e):=by
 unfold rvG rvF
 rw[b,c,d]
theorem Zrs {bits n c:Nat}{d:List (Mr Qv)}{f:List (Mr Ef)}(l:d.length=n)(m:∀ y∈d,y.xs.length=c)(h:PV n c f (rvG bits d) n 0):f.map (fun y=>y.xs.map efV)=d.map (fun y=>y.xs.map (rvF bits)):=by
 obtain⟨o,p,q⟩:=h
 refine oX (by rw[uR,uR,o,l]) fun a j e=>?_
 rw[uR] at j e
 rw[nC,nC]
 have r:f[a]=f[a]! := (tH f a j).symm
 have s:d[a]=d[a]! := (tH d a e).symm
 rw[r,s]
 have i:=m d[a]! (xY e)
 refine oX (by rw[uR,uR,p a qO,i]) fun b k g=>?_
 rw[uR] at k g
 rw[nC,nC,← tH f[a]!.xs b k,← tH d[a]!.xs b g]
 exact q a b qO qO qO
def Zqa (n:Nat) (zs:List (List (Int×Int))) (w:World) (en:Ending) (w':World):Prop:=∃ b ms,en=.returned (.slice (some ⟨b,0,none⟩) n n)∧ms.map (fun y=>y.xs.map efV)=zs∧OwnD w' w.heap.size 81 1 (some ⟨b,0,none⟩) n n (ms.flatMap mrC)∧MrOk 84 3 efC w.heap.size w' ms∧NfOk w' ms∧Ext w w'
theorem ZpN (q bits W:Nat)(z:qA)(d n c:Nat)(r:List (Mr Qv))(w:World)(hC:CB w q ((bits:Nat):Int) 0)(hO:OwnD w W 61 1 z d n (r.flatMap mrC))(hR:jH w r)(N:r.length=n)(O:0<n)(hn:n≤64)(g0:c≤64)(hc:∀ y∈r,y.xs.length=c)(h0:8≤bits)(i0:bits≤1024)(hq:∀ y∈r,∀ x∈y.xs,ml x.q.num.natAbs≤1000∧ml x.q.den≤1000) :
 yA 15 #[.pointer (some ⟨q,0,none⟩),.slice z n d] w (Zqa n (r.map (fun y=>y.xs.map (rvF bits))) w):=by
 obtain⟨m0,X⟩:∃ m,m=w.heap.size:=⟨_,rfl⟩
 refine zT (Φ:=fun w=>(OwnD w W 61 1 z d n (r.flatMap mrC)∧jH w r)) func15 rfl qK (fun w' hf=>⟨hO.ext hf,hR.ext hf⟩) ?_
 refine yY (xq 1 [eS1 4 none 0 0] [] ?_)
 refine yZ (yY (xq 3 [yJ 9 (n:Int),eS1 10 z n d] [] ?_))
 refine xqk 11 (atA z (0*1)) (fun w R Q=>wY (t:=33) (e:=61) (sz:=1) (x:=.tmp 10) (ix:=(Operand.const (Value.int IntKind.i64 0))) (len:=n) (cap:=d) (i:=0) (Q.1.ne O) O) ?_
 obtain⟨P,Y⟩:∃ x,r[0]! = x:=⟨_,rfl⟩
 refine xqk 12 (.slice P.A P.xs.length P.cap) (fun w R Q=>by rw[←Y];exact aT (t:=61) (x:=.tmp 11) (j:=0) Q.1 (N.symm ▸ O)) ?_
 have a0:P.xs.length=c∧∀ v∈P.xs,ml v.q.num.natAbs≤1000∧ml v.q.den≤1000:=by rw[←Y];exact⟨hc _ (xY (N.symm ▸ O)),hq _ (xY (N.symm ▸ O))⟩
 rw[a0.1]
 refine xq 1 [yJ 13 (c:Int)] [] ?_
 refine xqc 41 [yI (n:Int), yI (c:Int)] 14 (fun x:{x:Nat × List (Mr Ef) // x.2.map (·.xs)=List.replicate n (List.replicate c ef0)∧m0≤x.1}=>.slice (yL x.1.1) n n) _ (fun w R Q=>(ZpI n c _ qO qO).mono (fun _ _ h=>Zra (m0:=m0) (X ▸ R.size) h)) fun xx=>?_
 obtain⟨⟨B,ys⟩,d0,j0⟩:=xx
 refine xq 1 [eS1 5 (yL B) n n] [] ?_
 refine yZ (zC (yY (xq 3 [yJ 16 (n:Int),yJ 17 0] [] ?_)))
 refine yZ (zS ?_)
 refine yC [(0,.v (.pointer (yL q))),eS1 1 z n d,eS1 4 none 0 0,eS1 5 (yL B) n n,yJ 16 (n:Int),yJ 17 ((0:Nat):Int)] [] (fun w=>((((OwnD w W 61 1 z d n (r.flatMap mrC)∧jH w r)∧NfOk w ys)∧MrOk 84 3 efC m0 w ys)∧OwnD w m0 81 1 (yL B) n n (ys.flatMap mrC))) (fun w Q=>⟨⟨⟨⟨Q.1.1,Q.1.2⟩,(NfOk.zero d0)⟩,Q.2.2⟩,Q.2.1⟩) ?_
 refine xR (fun nn ss ff=>∃ (i:Nat) (p:List (Mr Ef)),ss=ofL [(0,.v (.pointer (yL q))),eS1 1 z n d,eS1 4 none 0 0,eS1 5 (yL B) n n,yJ 16 (n:Int),yJ 17 (i:Int)] []∧ff=(fun w=>((((OwnD w W 61 1 z d n (r.flatMap mrC)∧jH w r)∧NfOk w p)∧MrOk 84 3 efC m0 w p)∧OwnD w m0 81 1 (yL B) n n (p.flatMap mrC)))∧(i≤n)∧(PV n c p (rvG bits r) i 0)∧nn=(1+(n-i))) ((1+(n-0))) ⟨0,ys,rfl,rfl,(tA _),(PV.start d0),rfl⟩ ?_
 rintro nn ss ff ⟨i,p,rfl,rfl,hi,G,rfl⟩
 refine yY (xq 1 [yB 18 (decide ((i:Int)<(n:Int)))] [] ?_)
 refine yZ (zC ?_)
 refine yQ ((decide ((i:Int)<(n:Int)))) (fun S=>?_) fun S=>?_
 ·have g:i<n:=by have:=uA S;omega
  refine zJ (zA (zC (zS (yY (xq 2 [yJ 6 (i:Int)] [] ?_)))))
  refine yZ (yY (xq 2 [eS1 20 z n d,yJ 21 (i:Int)] [] ?_))
  refine xqk 22 (atA z (i*1)) (fun w R Q=>wY (t:=33) (e:=61) (sz:=1) (x:=.tmp 20) (ix:=.tmp 21) (len:=n) (cap:=d) (i:=i) (Q.1.1.1.1.ne g) g) ?_
  obtain⟨T,Z⟩:∃ x,r[i]! = x:=⟨_,rfl⟩
  refine xqk 23 (.slice T.A T.xs.length T.cap) (fun w R Q=>by rw[←Z];exact aT (t:=61) (x:=.tmp 22) (j:=i) Q.1.1.1.1 (N.symm ▸ g)) ?_
  have b0:T.xs.length=c∧∀ v∈T.xs,ml v.q.num.natAbs≤1000∧ml v.q.den≤1000:=by rw[←Z];exact⟨hc _ (xY (N.symm ▸ g)),hq _ (xY (N.symm ▸ g))⟩
  rw[b0.1]
  refine xq 2 [yJ 24 (c:Int),yJ 25 0] [] ?_
  refine yZ (zS ?_)
  refine yC [(0,.v (.pointer (yL q))),eS1 1 z n d,eS1 4 none 0 0,eS1 5 (yL B) n n,yJ 6 (i:Int),yJ 16 (n:Int),yJ 17 (i:Int),yJ 24 (c:Int),yJ 25 ((0:Nat):Int)] [] (fun w=>((((OwnD w W 61 1 z d n (r.flatMap mrC)∧jH w r)∧NfOk w p)∧MrOk 84 3 efC m0 w p)∧OwnD w m0 81 1 (yL B) n n (p.flatMap mrC))) (fun w Q=>⟨⟨⟨⟨Q.1.1.1.1,Q.1.1.1.2⟩,Q.1.1.2⟩,Q.1.2⟩,Q.2⟩) ?_
  refine xR (fun nn ss ff=>∃ (j:Nat) (p:List (Mr Ef)),ss=ofL [(0,.v (.pointer (yL q))),eS1 1 z n d,eS1 4 none 0 0,eS1 5 (yL B) n n,yJ 6 (i:Int),yJ 16 (n:Int),yJ 17 (i:Int),yJ 24 (c:Int),yJ 25 (j:Int)] []∧ff=(fun w=>((((OwnD w W 61 1 z d n (r.flatMap mrC)∧jH w r)∧NfOk w p)∧MrOk 84 3 efC m0 w p)∧OwnD w m0 81 1 (yL B) n n (p.flatMap mrC)))∧(j≤c)∧(PV n c p (rvG bits r) i j)∧nn=(1+(c-j))) ((1+(c-0))) ⟨0,p,rfl,rfl,(tA _),G,rfl⟩ ?_
  rintro nn ss ff ⟨j,p,rfl,rfl,hj,G,rfl⟩
  refine yY (xq 1 [yB 26 (decide ((j:Int)<(c:Int)))] [] ?_)
  refine yZ (zC ?_)
  refine yQ ((decide ((j:Int)<(c:Int)))) (fun U=>?_) fun U=>?_
  ·have D:j<c:=by have:=uA U;omega
   refine zJ (zA (zC (zS (yY (xq 2 [yJ 7 (j:Int)] [] ?_)))))
   refine xe (zA ?_)
   refine Za2 14 [0,0,3,7,0,0,0,0,192,448,0,1984,4032,8160] qK qK zP ?_
   refine xqg 2 [eS1 28 (yL B) n n,yJ 29 (i:Int)] ?_
   refine xqj 30 (atA (yL B) (i*1)) (fun w Q=>wY (t:=40) (e:=81) (sz:=1) (x:=.tmp 28) (ix:=.tmp 29) (len:=n) (cap:=n) (i:=i) qS g) ?_
   obtain⟨b,o⟩:∃ x,p[i]! = x:=⟨_,rfl⟩
   refine xqj 31 (.slice b.A b.xs.length b.cap) (fun w Q=>by rw[←o];exact aT (t:=81) (x:=.tmp 30) (j:=i) Q.2 (G.1.symm ▸ g)) ?_
   have H:b.xs.length=c:=by rw[←o];exact G.2.1 i g
   refine xqg 4 [yJ 32 (j:Int),(33,.v (.pointer (yL q))),eS1 34 z n d,yJ 35 (i:Int)] ?_
   refine xqj 36 (atA z (i*1)) (fun w Q=>wY (t:=33) (e:=61) (sz:=1) (x:=.tmp 34) (ix:=.tmp 35) (len:=n) (cap:=d) (i:=i) (Q.1.1.1.1.ne g) g) ?_
   obtain⟨E,C⟩:∃ x,r[i]! = x:=⟨_,rfl⟩
   refine xqj 37 (.slice E.A E.xs.length E.cap) (fun w Q=>by rw[←C];exact aT (t:=61) (x:=.tmp 36) (j:=i) Q.1.1.1.1 (N.symm ▸ g)) ?_
   have u:E.xs.length=c∧∀ v∈E.xs,ml v.q.num.natAbs≤1000∧ml v.q.den≤1000:=by rw[←C];exact⟨hc _ (xY (N.symm ▸ g)),hq _ (xY (N.symm ▸ g))⟩
   refine xqg 1 [yJ 38 (j:Int)] ?_
   refine xqj 39 (atA E.A (j*4)) (fun w Q=>wY (t:=61) (e:=59) (sz:=4) (x:=.tmp 37) (ix:=.tmp 38) (len:=E.xs.length) (cap:=E.cap) (i:=j) (RdD.ne (jH.at Q.1.1.1.2 (N.symm ▸ g) C).1 aU qD (u.1.symm ▸ D)) (u.1.symm ▸ D)) ?_
   obtain⟨f,M⟩:∃ x,E.xs[j]! = x:=⟨_,rfl⟩
   refine xqj 40 (.agg #[.bool f.c.1,.slice f.c.2.1 f.c.2.2.1 f.c.2.2.2.1,.bool f.c.2.2.2.2.1,.slice f.c.2.2.2.2.2.1 f.c.2.2.2.2.2.2.1 f.c.2.2.2.2.2.2.2]) (fun w Q=>by rw[←M];exact Zq9 (t:=59) (x:=.tmp 39) (j:=j) (jH.at Q.1.1.1.2 (N.symm ▸ g) C).1 aU (u.1.symm ▸ D)) ?_
   obtain⟨l,V⟩:=yE (rndF f.q bits)
   have F:=u.2 f (by rw[←M];exact xY (u.1.symm ▸ D))
   have c0:l.err=0:=by rw[←V];exact Zjt qO qO (by have:=aV F.1;omega) (by have:=aV F.2;omega)
   refine xqd 42 [.pointer (yL q),vR4 f.c.1 f.c.2.1 f.c.2.2.1 f.c.2.2.2.1 f.c.2.2.2.2.1 f.c.2.2.2.2.2.1 f.c.2.2.2.2.2.2.1 f.c.2.2.2.2.2.2.2] 41 (shF l.e) _ (fun w R Q=>((show Calls _ _ _ _ (RetC _ q (bits:Int) l) by rw[←V];exact Zke q bits f.c.1 f.c.2.1 f.c.2.2.1 f.c.2.2.2.1 f.c.2.2.2.2.1 f.c.2.2.2.2.2.1 f.c.2.2.2.2.2.2.1 f.c.2.2.2.2.2.2.2 f.q _ (hC.ext R) (show xF _ (fZ f.c) f.q from (jH.at Q.1.1.1.2 (N.symm ▸ g) C).2 _ (by rw[←M];exact xY (u.1.symm ▸ D))) (uD F.1 qD) (uD F.2 qD) qO qO)).mono (fun _ _ h=>Zrr c0 (hC.ext R) h)) fun⟨I,J,K,L⟩=>?_
   refine xz ?_
   refine xqk 42 (atA b.A (j*3)) (fun w R Q=>wY (t:=81) (e:=84) (sz:=3) (x:=.tmp 31) (ix:=.tmp 32) (len:=b.xs.length) (cap:=b.cap) (i:=j) (OwnD.ne (show OwnD _ m0 84 3 b.A b.cap b.xs.length (b.xs.flatMap efC) by rw[←o];exact MrOk.at Q.1.1.2 (G.1.symm ▸ g)) (H.symm ▸ D)) (H.symm ▸ D)) ?_
   refine Zrc (t:=84) (x:=.tmp 42) (y:=.tmp 41) (e:=84) (k:=3) (enc:=efC) (a:=i) (j:=j) (ys:=p) m0 (⟨I,J,K,L,l.e,sg l.s l.m⟩:Ef) (yV I J K L l.e) (fun w=>((((OwnD w W 61 1 z d n (r.flatMap mrC)∧jH w r)∧NfOk w p)∧OwnD w m0 81 1 (yL B) n n (p.flatMap mrC))∧zN w (.agg #[.bool I,.slice J K L]) (sg l.s l.m))) ZgK qD (fun w Q=>Q.1.1.2) (G.1.symm ▸ g) o (H.symm ▸ D) (fun _ h=>Or.inl (uD (X ▸ uF _) h)) (by simp[efC,Value.oneCell']) (Zol _) rfl (fun w w' Q hF=>⟨⟨⟨⟨OwnD.apart Q.1.1.1.1.1 (show OwnD _ m0 84 3 b.A b.cap b.xs.length (b.xs.flatMap efC) by rw[←o];exact MrOk.at Q.1.1.2 (G.1.symm ▸ g)) qD hF,jH.apart Q.1.1.1.1.2 (show OwnD _ m0 84 3 b.A b.cap b.xs.length (b.xs.flatMap efC) by rw[←o];exact MrOk.at Q.1.1.2 (G.1.symm ▸ g)) qD hF⟩,NfOk.row Q.1.1.1.2 (show OwnD _ m0 84 3 b.A b.cap b.xs.length (b.xs.flatMap efC) by rw[←o];exact MrOk.at Q.1.1.2 (G.1.symm ▸ g)) hF⟩,OwnD.apart Q.1.2 (show OwnD _ m0 84 3 b.A b.cap b.xs.length (b.xs.flatMap efC) by rw[←o];exact MrOk.at Q.1.1.2 (G.1.symm ▸ g)) qD hF⟩,zN.rowD Q.2 (show OwnD _ m0 84 3 b.A b.cap b.xs.length (b.xs.flatMap efC) by rw[←o];exact MrOk.at Q.1.1.2 (G.1.symm ▸ g)) hF⟩) ?_
   refine xr 0 [(0,.v (.pointer (yL q))),eS1 1 z n d,eS1 4 none 0 0,eS1 5 (yL B) n n,yJ 6 (i:Int),yJ 16 (n:Int),yJ 17 (i:Int),yJ 24 (c:Int),yJ 25 (j:Int)] [] ?_
   refine xe (xS (zA (zB (xq 1 [yJ 43 (IntKind.i64.wrap ((j:Int)+1))] [] ?_))))
   rw[yW ((j:Int)+1) (((j+1:Nat):Int)) qO]
   refine xq 1 [yJ 25 ((j+1:Nat):Int)] [] ?_
   refine xe ?_
   refine yP [(0,.v (.pointer (yL q))),eS1 1 z n d,eS1 4 none 0 0,eS1 5 (yL B) n n,yJ 6 (i:Int),yJ 16 (n:Int),yJ 17 (i:Int),yJ 24 (c:Int),yJ 25 (((j+1):Nat):Int)] [] (fun w=>((((OwnD w W 61 1 z d n (r.flatMap mrC)∧jH w r)∧NfOk w (p.set i ⟨b.A,b.cap,b.xs.set j (⟨I,J,K,L,l.e,sg l.s l.m⟩:Ef)⟩))∧MrOk 84 3 efC m0 w (p.set i ⟨b.A,b.cap,b.xs.set j (⟨I,J,K,L,l.e,sg l.s l.m⟩:Ef)⟩))∧OwnD w m0 81 1 (yL B) n n ((p.set i ⟨b.A,b.cap,b.xs.set j (⟨I,J,K,L,l.e,sg l.s l.m⟩:Ef)⟩).flatMap mrC))) (fun w Q=>⟨⟨⟨⟨Q.1.1.1.1.1,Q.1.1.1.1.2⟩,(NfOk.set Q.1.1.1.2 (G.1.symm ▸ g) o Q.1.2)⟩,Q.2⟩,(by rw[Zji (G.1.symm ▸ g) o (tR ..)];exact Q.1.1.2)⟩) ?_
   exact xI ((1+(c-(j+1)))) qO ⟨(j+1),(p.set i ⟨b.A,b.cap,b.xs.set j (⟨I,J,K,L,l.e,sg l.s l.m⟩:Ef)⟩),rfl,rfl,D,(PV.set G g o (by rw[Zsy C M V];rfl)),rfl⟩
  have e0:j=c:=by have:=uB U;omega
  refine xN (zK (zK (xV (xS (zA (zB (xq 1 [yJ 44 (IntKind.i64.wrap ((i:Int)+1))] [] ?_)))))))
  rw[yW ((i:Int)+1) (((i+1:Nat):Int)) qO]
  refine xq 1 [yJ 17 ((i+1:Nat):Int)] [] ?_
  refine xe ?_
  refine yP [(0,.v (.pointer (yL q))),eS1 1 z n d,eS1 4 none 0 0,eS1 5 (yL B) n n,yJ 16 (n:Int),yJ 17 (((i+1):Nat):Int)] [] (fun w=>((((OwnD w W 61 1 z d n (r.flatMap mrC)∧jH w r)∧NfOk w p)∧MrOk 84 3 efC m0 w p)∧OwnD w m0 81 1 (yL B) n n (p.flatMap mrC))) (fun w Q=>⟨⟨⟨⟨Q.1.1.1.1,Q.1.1.1.2⟩,Q.1.1.2⟩,Q.1.2⟩,Q.2⟩) ?_
  exact xI ((1+(n-(i+1)))) qO ⟨(i+1),p,rfl,rfl,g,(PV.next (e0 ▸ G)),rfl⟩
 have f0:i=n:=by have:=uB S;omega
 refine xN (zK (zK (xV (zA (yY (xq 2 [eS1 4 (yL B) n n] [] ?_))))))
 refine yZ (zG ?_)
 refine yR (.slice (yL B) n n) fun w' R Q=>?_
 exact⟨B,p,rfl,Zrs N hc (f0 ▸ G),X ▸ Q.2,X ▸ Q.1.2,Q.1.1.2,R⟩
def ftE (x:Ef):ByteArray×Int:=(⟨(Lib.itoa x.z).toArray⟩,x.e)
theorem Zrt {a:List (Mr Ef)}{i j:Nat}{y:Mr Ef}{x:Ef}{l:List (ByteArray×Int)}(c:a[i]! = y)(b:j<y.xs.length)(d:y.xs[j]! = x)(f:l=(a.take i).flatMap (fun y=>y.xs.map ftE) ++ (a[i]!.xs.take j).map ftE) :
 l ++ [(⟨(Lib.itoa x.z).toArray⟩,x.e)]=(a.take i).flatMap (fun y=>y.xs.map ftE) ++ (a[i]!.xs.take (j+1)).map ftE:=by
 subst c
 rw[f,vU,tB b,pS,pQ,← tH a[i]!.xs j b,d]
 rfl
theorem Zru {a:List (Mr Ef)}{i c:Nat}{l:List (ByteArray×Int)}(hi:i<a.length)(b:a[i]!.xs.length=c)(d:l=(a.take i).flatMap (fun y=>y.xs.map ftE) ++ (a[i]!.xs.take c).map ftE):l=(a.take (i+1)).flatMap (fun y=>y.xs.map ftE):=by
 rw[Zog hi,d,← b,rB]
theorem Zsz {a:List (Mr Ef)}{i j c:Nat}{l:List (ByteArray×Int)}(hi:i≤a.length)(e:∀ y∈a,y.xs.length=c)(f:l=(a.take i).flatMap (fun y=>y.xs.map ftE) ++ (a[i]!.xs.take j).map ftE):l.length≤i*c+j:=by
 have g:∀ (zs:List (Mr Ef)),(∀ y∈zs,y.xs.length=c)→(zs.flatMap (fun y=>y.xs.map ftE)).length=zs.length*c:=fun zs d=>by
  induction zs with
  | nil=>simp
  | cons z zs ih=>rw[rV,vA,ih (fun y b=>d y (List.mem_cons_of_mem _ b)),uR,d z rM,sE,rW,vP]
 rw[f,vA,g _ (fun y b=>e y (tZ b)),uR,uL,uL,uT hi]
 omega
def Zmw (n c:Nat) (fs:List (ByteArray×Int)) (w:World) (e:Ending) (w':World):Prop:=∃ A cap,e=.returned (.agg #[.int .i64 ((n:Nat):Int),.int .i64 ((c:Nat):Int),.slice A fs.length cap])∧OwnD w' w.heap.size 76 2 A cap fs.length (fs.flatMap flC)∧Ext w w'
theorem eqFl (a b:ByteArray)(d c:Int)(w:World):(Op.equalIn 10000 76 (yS a d) (yS b c)).run prog w =
 .ok ((a.toList == b.toList) && (d == c)) w:=by
 have e:prog.underlying 76=some (.struct (prog.fieldsOf 76)):=qK
 have f:prog.stoodInHeld 76=false:=qK
 have g:=underlying3
 have h:=isAgg3
 have i:=underlying9
 have j:=isAgg9
 rw[show (10000:Nat)=9999+1 from rfl,run_equalIn_agg w 9999 _ _ _ e f]
 simp only[Program.fieldsOf,underlying76]
 go_simp
 cases h1:(a.toList == b.toList)<;>cases h3:(d == c)<;>simp_all
theorem Zrv {o:Oper}{ρ:Operand→Value}{w:World}{x y:Operand}{k:TypeId}{a:ByteArray}{d:Int}(b:o.op=Op.binOp .neq 76 x y k:=by kernel_rfl)(c:ρ x=.agg #[.string a,.int .i64 d]:=by kernel_rfl)(e:ρ y=.agg #[.string a,.int .i64 d]:=by kernel_rfl) :
 (execOp ρ o).run prog w=.ok (.value (.bool false)) w:=by
 have f:prog.eqGuardType prog.depth 76=false:=qK
 have g:(!((a.toList == a.toList) && (d == d)))=false:=qS
 simp only[execOp,b,c,e,Sem.run_bind,run_eqGuard_agg w _ _ _ _ _ _ f,Result.andThen_ok,run_neq_struct,eqFl,Sem.run_pure,g]
theorem Zrw (u:Nat)(q:qA)(a n c:Nat)(ms:List (Mr Ef))(w:World)(hO:OwnD w u 81 1 q a n (ms.flatMap mrC))(hM:MrOk 84 3 efC u w ms)(hN:NfOk w ms)(D:ms.length=n)(K:0<n)(hn:n≤64)(d0:c≤64)(X:∀ y∈ms,y.xs.length=c)(hz:∀ y∈ms,∀ x∈y.xs,ml x.z.natAbs≤1000) :
 yA 14 #[.slice q n a] w (Zmw n c (ms.flatMap (fun y=>y.xs.map ftE)) w):=by
 obtain⟨m0,L⟩:∃ m,m=w.heap.size:=⟨_,rfl⟩
 refine zT (Φ:=fun w=>((OwnD w u 81 1 q a n (ms.flatMap mrC)∧MrOk 84 3 efC u w ms)∧NfOk w ms)) func14 rfl qK (fun w' hf=>⟨⟨hO.ext hf,hM.ext hf⟩,hN.ext hf⟩) ?_
 refine yY (xq 1 [(2,.p 2 0)] [(2,29,[.v (yI 0),.v (yI 0),.v (.slice none 0 0)])] ?_)
 refine yZ (yY (xq 3 [yJ 7 (n:Int),eS1 8 q n a] [] ?_))
 refine xqk 9 (atA q (0*1)) (fun w R Q=>wY (t:=40) (e:=81) (sz:=1) (x:=.tmp 8) (ix:=(Operand.const (Value.int IntKind.i64 0))) (len:=n) (cap:=a) (i:=0) (Q.1.1.ne K) K) ?_
 obtain⟨M,T⟩:∃ x,ms[0]! = x:=⟨_,rfl⟩
 refine xqk 10 (.slice M.A M.xs.length M.cap) (fun w R Q=>by rw[←T];exact aT (t:=81) (x:=.tmp 9) (j:=0) Q.1.1 (D.symm ▸ K)) ?_
 have V:M.xs.length=c:=by rw[←T];exact X _ (xY (D.symm ▸ K))
 rw[V]
 refine xq 4 [(3,.p 3 0)] [(3,29,[.v (yI (n:Int)),.v (yI (c:Int)),.v (.slice none 0 0)])] ?_
 refine yZ (zC (yY (xq 3 [yJ 14 (n:Int),yJ 15 0] [] ?_)))
 refine yZ (zS ?_)
 refine yC [eS1 0 q n a,(2,.p 2 0),(3,.p 3 0),yJ 14 (n:Int),yJ 15 ((0:Nat):Int)] [(3,29,[.v (yI (n:Int)),.v (yI (c:Int)),.v (.slice none 0 0)]),(2,29,[.v (yI 0),.v (yI 0),.v (.slice none 0 0)])] (fun w=>(((OwnD w u 81 1 q a n (ms.flatMap mrC)∧MrOk 84 3 efC u w ms)∧NfOk w ms)∧OwnD w m0 76 2 none 0 0 (([]:List (ByteArray×Int)).flatMap flC))) (fun w Q=>⟨⟨⟨Q.1.1,Q.1.2⟩,Q.2⟩,(OwnD.nil _ _ _ _)⟩) ?_
 refine xR (fun Y Z ff=>∃ (i:Nat) (A:Option Addr) (cap:Nat) (l:List (ByteArray×Int)) (p:Nat),Z=ofL [eS1 0 q n a,(2,.p 2 0),(3,.p 3 0),yJ 14 (n:Int),yJ 15 (i:Int)] [(3,29,[.v (yI (n:Int)),.v (yI (c:Int)),.v (.slice A p cap)]),(2,29,[.v (yI 0),.v (yI 0),.v (.slice none 0 0)])]∧ff=(fun w=>(((OwnD w u 81 1 q a n (ms.flatMap mrC)∧MrOk 84 3 efC u w ms)∧NfOk w ms)∧OwnD w m0 76 2 A cap p (l.flatMap flC)))∧(i≤n)∧(l=(ms.take i).flatMap (fun y=>y.xs.map ftE))∧(l.length=0→A=none)∧(l.length=p)∧Y=(1+(n-i))) ((1+(n-0))) ⟨0,none,0,([]:List (ByteArray×Int)),0,rfl,rfl,(tA _),rfl,(fun _=>rfl),rfl,rfl⟩ ?_
 rintro Y Z ff ⟨i,A,cap,l,p,rfl,rfl,hi,C,N,hp,rfl⟩
 subst hp
 refine yY (xq 1 [yB 16 (decide ((i:Int)<(n:Int)))] [] ?_)
 refine yZ (zC ?_)
 refine yQ ((decide ((i:Int)<(n:Int)))) (fun F=>?_) fun F=>?_
 ·have o:i<n:=by have:=uA F;omega
  refine zJ (zA (zC (zS (yY (xq 2 [yJ 4 (i:Int)] [] ?_)))))
  refine yZ (yY (xq 2 [eS1 18 q n a,yJ 19 (i:Int)] [] ?_))
  refine xqk 20 (atA q (i*1)) (fun w R Q=>wY (t:=40) (e:=81) (sz:=1) (x:=.tmp 18) (ix:=.tmp 19) (len:=n) (cap:=a) (i:=i) (Q.1.1.1.ne o) o) ?_
  obtain⟨O,U⟩:∃ x,ms[i]! = x:=⟨_,rfl⟩
  refine xqk 21 (.slice O.A O.xs.length O.cap) (fun w R Q=>by rw[←U];exact aT (t:=81) (x:=.tmp 20) (j:=i) Q.1.1.1 (D.symm ▸ o)) ?_
  have W:O.xs.length=c:=by rw[←U];exact X _ (xY (D.symm ▸ o))
  rw[W]
  refine xq 2 [yJ 22 (c:Int),yJ 23 0] [] ?_
  refine yZ (zS ?_)
  refine yC [eS1 0 q n a,(2,.p 2 0),(3,.p 3 0),yJ 4 (i:Int),yJ 14 (n:Int),yJ 15 (i:Int),yJ 22 (c:Int),yJ 23 ((0:Nat):Int)] [(3,29,[.v (yI (n:Int)),.v (yI (c:Int)),.v (.slice A l.length cap)]),(2,29,[.v (yI 0),.v (yI 0),.v (.slice none 0 0)])] (fun w=>(((OwnD w u 81 1 q a n (ms.flatMap mrC)∧MrOk 84 3 efC u w ms)∧NfOk w ms)∧OwnD w m0 76 2 A cap l.length (l.flatMap flC))) (fun w Q=>⟨⟨⟨Q.1.1.1,Q.1.1.2⟩,Q.1.2⟩,Q.2⟩) ?_
  refine xR (fun Y Z ff=>∃ (j:Nat) (A:Option Addr) (cap:Nat) (l:List (ByteArray×Int)) (p:Nat),Z=ofL [eS1 0 q n a,(2,.p 2 0),(3,.p 3 0),yJ 4 (i:Int),yJ 14 (n:Int),yJ 15 (i:Int),yJ 22 (c:Int),yJ 23 (j:Int)] [(3,29,[.v (yI (n:Int)),.v (yI (c:Int)),.v (.slice A p cap)]),(2,29,[.v (yI 0),.v (yI 0),.v (.slice none 0 0)])]∧ff=(fun w=>(((OwnD w u 81 1 q a n (ms.flatMap mrC)∧MrOk 84 3 efC u w ms)∧NfOk w ms)∧OwnD w m0 76 2 A cap p (l.flatMap flC)))∧(j≤c)∧(l=(ms.take i).flatMap (fun y=>y.xs.map ftE) ++ (ms[i]!.xs.take j).map ftE)∧(l.length=0→A=none)∧(l.length=p)∧Y=(1+(c-j))) ((1+(c-0))) ⟨0,A,cap,l,l.length,rfl,rfl,(tA _),(by rw[C,List.take_zero,pM,rJ]),N,rfl,rfl⟩ ?_
  rintro Y Z ff ⟨j,A,cap,l,p,rfl,rfl,hj,C,N,hp,rfl⟩
  subst hp
  refine yY (xq 1 [yB 24 (decide ((j:Int)<(c:Int)))] [] ?_)
  refine yZ (zC ?_)
  refine yQ ((decide ((j:Int)<(c:Int)))) (fun G=>?_) fun G=>?_
  ·have E:j<c:=by have:=uA G;omega
   refine zJ (zA (zC (zS (yY (xq 2 [yJ 5 (j:Int)] [] ?_)))))
   refine xe (zA ?_)
   have g0:=Zsz (D.symm ▸ hi) X C
   have h0:i*c≤64*64:=vY qO qO
   refine ZoO 8 11 ?_
   refine xqg 4 [eS1 27 A l.length cap,eS1 28 q n a,yJ 29 (i:Int)] ?_
   refine xqj 30 (atA q (i*1)) (fun w Q=>wY (t:=40) (e:=81) (sz:=1) (x:=.tmp 28) (ix:=.tmp 29) (len:=n) (cap:=a) (i:=i) (Q.1.1.1.ne o) o) ?_
   obtain⟨g,B⟩:∃ x,ms[i]! = x:=⟨_,rfl⟩
   refine xqj 31 (.slice g.A g.xs.length g.cap) (fun w Q=>by rw[←B];exact aT (t:=81) (x:=.tmp 30) (j:=i) Q.1.1.1 (D.symm ▸ o)) ?_
   have r:g.xs.length=c:=by rw[←B];exact X _ (xY (D.symm ▸ o))
   refine xqg 1 [yJ 32 (j:Int)] ?_
   refine xqj 33 (atA g.A (j*3)) (fun w Q=>wY (t:=81) (e:=84) (sz:=3) (x:=.tmp 31) (ix:=.tmp 32) (len:=g.xs.length) (cap:=g.cap) (i:=j) (OwnD.ne (show OwnD _ u 84 3 g.A g.cap g.xs.length (g.xs.flatMap efC) by rw[←B];exact MrOk.at Q.1.1.2 (D.symm ▸ o)) (r.symm ▸ E)) (r.symm ▸ E)) ?_
   obtain⟨f,H⟩:∃ x,g.xs[j]! = x:=⟨_,rfl⟩
   refine xqj 34 (yV f.s f.A f.l f.c f.e) (fun w Q=>by rw[←H];exact eP (t:=84) (x:=.tmp 33) (j:=j) (show OwnD _ u 84 3 g.A g.cap g.xs.length (g.xs.flatMap efC) by rw[←B];exact MrOk.at Q.1.1.2 (D.symm ▸ o)) ZgK (r.symm ▸ E)) ?_
   have I:f∈g.xs:=by rw[←H];exact xY (r.symm ▸ E)
   have J:g∈ms:=by rw[←B];exact xY (D.symm ▸ o)
   refine xqd 40 [yV f.s f.A f.l f.c f.e] 35 (fun _:Unit=>.agg #[.string ⟨(Lib.itoa f.z).toArray⟩, yI f.e]) _ (fun w R Q=>yN (Zmj f.s f.A f.l f.c f.z f.e _ (Q.1.2 _ J _ I) (uD (hz _ J _ I) qD))) fun xx=>?_
   refine ZaK 36 (fun zb:{b:Nat // m0≤b}=>.slice (yL zb.1) 1 1) (fun zb zw=>Blk 76 zw zb.1 #[.string ⟨(Lib.itoa f.z).toArray⟩, yI f.e]) qK qK qK qK qK qK qK (fun w R Q=>Za9 (m0:=m0) (L ▸ R.size) (t:=27) (e:=76) (n:=1) (sz:=2) (z:=.agg #[.string ⟨#[]⟩, yI 0]) (parts:=#[(0,Operand.tmp 35)]) qK qK qK qK qK qK) fun⟨a0,e0⟩=>?_
   refine xf 0 [eS1 0 q n a,(2,.p 2 0),(3,.p 3 0),yJ 4 (i:Int),yJ 14 (n:Int),yJ 15 (i:Int),yJ 22 (c:Int),yJ 23 (j:Int),eS1 27 A l.length cap,eS1 36 (yL a0) 1 1] [(3,29,[.v (yI (n:Int)),.v (yI (c:Int)),.v (.slice A l.length cap)]),(2,29,[.v (yI 0),.v (yI 0),.v (.slice none 0 0)])] ?_
   refine xz ?_
   refine Zqu (d:=37) (k:=2) (n:=l.length) (m:=1) (cap:=cap) (bytes:=24) (t:=27) (e:=76) (s0:=Operand.tmp 27) (x:=Operand.tmp 36) (xs:=l.flatMap flC) (news:=[.string ⟨(Lib.itoa f.z).toArray⟩, yI f.e]) (z:=(yS ⟨#[]⟩ 0)) m0 A (fun j hj h=>Or.inl (L ▸ h)) a0 1 (fun w=>((OwnD w u 81 1 q a n (ms.flatMap mrC)∧MrOk 84 3 efC u w ms)∧NfOk w ms)) (fun w R Q=>L ▸ R.size) (fun w Q=>Q.1.1.2) (fun w Q=>Blk.news Q.2) rfl qD rfl (iE.list qS) qD (by simp[Value.oneCell']) qS (by simp only[maxLen];omega) qO N (fun w w2 R Q hF=>⟨⟨OwnD.apart Q.1.1.1.1.1 Q.1.1.2 qD hF,MrOk.apart Q.1.1.1.1.2 Q.1.1.2 qD hF⟩,NfOk.row Q.1.1.1.2 Q.1.1.2 hF⟩) fun P S f0=>?_
   refine xr 2 [eS1 0 q n a,(2,.p 2 0),(3,.p 3 0),yJ 4 (i:Int),yJ 14 (n:Int),yJ 15 (i:Int),yJ 22 (c:Int),yJ 23 (j:Int)] [(3,29,[.v (yI (n:Int)),.v (yI (c:Int)),.v (.slice P (l.length+1) S)]),(2,29,[.v (yI 0),.v (yI 0),.v (.slice none 0 0)])] ?_
   refine xe (xS (zA (zB (xq 1 [yJ 39 (IntKind.i64.wrap ((j:Int)+1))] [] ?_))))
   rw[yW ((j:Int)+1) (((j+1:Nat):Int)) qO]
   refine xq 1 [yJ 23 ((j+1:Nat):Int)] [] ?_
   refine xe ?_
   refine yP [eS1 0 q n a,(2,.p 2 0),(3,.p 3 0),yJ 4 (i:Int),yJ 14 (n:Int),yJ 15 (i:Int),yJ 22 (c:Int),yJ 23 (((j+1):Nat):Int)] [(3,29,[.v (yI (n:Int)),.v (yI (c:Int)),.v (.slice P (l.length+1) S)]),(2,29,[.v (yI 0),.v (yI 0),.v (.slice none 0 0)])] (fun w=>(((OwnD w u 81 1 q a n (ms.flatMap mrC)∧MrOk 84 3 efC u w ms)∧NfOk w ms)∧OwnD w m0 76 2 P S (l.length+1) ((l ++ [((⟨(Lib.itoa f.z).toArray⟩,f.e):ByteArray×Int)]).flatMap flC))) (fun w Q=>⟨⟨⟨Q.1.1.1,Q.1.1.2⟩,Q.1.2⟩,(by rw[List.flatMap_append];exact Q.2)⟩) ?_
   exact xI ((1+(c-(j+1)))) qO ⟨(j+1),P,S,(l ++ [((⟨(Lib.itoa f.z).toArray⟩,f.e):ByteArray×Int)]),(l.length+1),rfl,rfl,E,(Zrt B (r.symm ▸ E) H C),(fun h=>by rw[vA] at h;simp at h),vA,rfl⟩
  have c0:j=c:=by have:=uB G;omega
  refine xN (zK (zK (xV (xS (zA (zB (xq 1 [yJ 40 (IntKind.i64.wrap ((i:Int)+1))] [] ?_)))))))
  rw[yW ((i:Int)+1) (((i+1:Nat):Int)) qO]
  refine xq 1 [yJ 15 ((i+1:Nat):Int)] [] ?_
  refine xe ?_
  refine yP [eS1 0 q n a,(2,.p 2 0),(3,.p 3 0),yJ 14 (n:Int),yJ 15 (((i+1):Nat):Int)] [(3,29,[.v (yI (n:Int)),.v (yI (c:Int)),.v (.slice A l.length cap)]),(2,29,[.v (yI 0),.v (yI 0),.v (.slice none 0 0)])] (fun w=>(((OwnD w u 81 1 q a n (ms.flatMap mrC)∧MrOk 84 3 efC u w ms)∧NfOk w ms)∧OwnD w m0 76 2 A cap l.length (l.flatMap flC))) (fun w Q=>⟨⟨⟨Q.1.1.1,Q.1.1.2⟩,Q.1.2⟩,Q.2⟩) ?_
  exact xI ((1+(n-(i+1)))) qO ⟨(i+1),A,cap,l,l.length,rfl,rfl,o,(Zru (D.symm ▸ o) (X _ (xY (D.symm ▸ o))) (c0 ▸ C)),N,rfl,rfl⟩
 have b0:i=n:=by have:=uB F;omega
 refine xN (zK (zK (xV (zA (yY (xq 2 [] [(2,29,[.v (yI (n:Int)),.v (yI (c:Int)),.v (.slice A l.length cap)])] ?_))))))
 refine yZ (zG ?_)
 refine yR (.agg #[yI (n:Int), yI (c:Int),.slice A l.length cap]) fun w' R Q=>?_
 exact⟨A,cap,by rw[C,b0,← D,rB],by have h:=Q.2;rw[C,b0,← D,rB] at h;exact L ▸ h,R⟩
theorem Zmx (r c q s n:Nat)(A B:qA)(g h:Nat)(l:List (ByteArray×Int))(w:World)(F:OwnD w q 76 2 A g n (l.flatMap flC))(G:OwnD w s 76 2 B h n (l.flatMap flC))(u:l.length=n)(I:n≤4096) :
 yA 12 #[.agg #[.int .i64 ((r:Nat):Int),.int .i64 ((c:Nat):Int),.slice A n g],.agg #[.int .i64 ((r:Nat):Int),.int .i64 ((c:Nat):Int),.slice B n h]] w (RetV w (.bool true)):=by
 refine zT (Φ:=fun w=>(OwnD w q 76 2 A g n (l.flatMap flC)∧OwnD w s 76 2 B h n (l.flatMap flC))) func12 rfl qK (fun w' z=>⟨F.ext z,G.ext z⟩) ?_
 refine yY (xq 3 [(2,.p 2 0),(3,.p 3 0),yB 4 false] [(3,29,[.v (yI (r:Int)),.v (yI (c:Int)),.v (.slice B n h)]),(2,29,[.v (yI (r:Int)),.v (yI (c:Int)),.v (.slice A n g)])] ?_)
 refine yZ (zC (yY (xq 5 [yB 10 (((r:Int):Int) != (r:Int))] [] ?_)))
 rw[(show (((r:Int):Int) != (r:Int))=false from aR rfl)]
 refine xq 6 [yB 11 false,yB 16 (((c:Int):Int) != (c:Int))] [] ?_
 rw[(show (((c:Int):Int) != (c:Int))=false from aR rfl)]
 refine xq 9 [yB 18 false,yB 25 (((n:Int):Int) != (n:Int))] [] ?_
 rw[(show (((n:Int):Int) != (n:Int))=false from aR rfl)]
 refine xq 1 [yB 26 false] [] ?_
 refine yZ (xb (zJ (zA (zC (yY (xq 4 [yJ 29 (n:Int),yJ 30 0] [] ?_))))))
 refine yZ (zS ?_)
 refine yC [(2,.p 2 0),(3,.p 3 0),yB 4 false,yJ 29 (n:Int),yJ 30 ((0:Nat):Int)] [(3,29,[.v (yI (r:Int)),.v (yI (c:Int)),.v (.slice B n h)]),(2,29,[.v (yI (r:Int)),.v (yI (c:Int)),.v (.slice A n g)])] (fun w=>(OwnD w q 76 2 A g n (l.flatMap flC)∧OwnD w s 76 2 B h n (l.flatMap flC))) (fun w Q=>⟨Q.1,Q.2⟩) ?_
 refine xR (fun C D E=>∃ (k:Nat),D=ofL [(2,.p 2 0),(3,.p 3 0),yB 4 false,yJ 29 (n:Int),yJ 30 (k:Int)] [(3,29,[.v (yI (r:Int)),.v (yI (c:Int)),.v (.slice B n h)]),(2,29,[.v (yI (r:Int)),.v (yI (c:Int)),.v (.slice A n g)])]∧E=(fun w=>(OwnD w q 76 2 A g n (l.flatMap flC)∧OwnD w s 76 2 B h n (l.flatMap flC)))∧(k≤n)∧C=(1+(n-k))) ((1+(n-0))) ⟨0,rfl,rfl,(tA _),rfl⟩ ?_
 rintro C D E ⟨k,rfl,rfl,J,rfl⟩
 refine yY (xq 1 [yB 31 (decide ((k:Int)<(n:Int)))] [] ?_)
 refine yZ (zC ?_)
 refine yQ ((decide ((k:Int)<(n:Int)))) (fun m=>?_) fun m=>?_
 ·have b:k<n:=by have:=uA m;omega
  refine zJ (zA (zC (zS (yY (xq 2 [yJ 5 (k:Int)] [] ?_)))))
  refine yZ (zC ?_)
  refine yO 11 zP ?_
  refine xqg 3 [eS1 34 A n g,yJ 35 (k:Int)] ?_
  refine xqj 36 (atA A (k*2)) (fun w Q=>wY (t:=27) (e:=76) (sz:=2) (x:=.tmp 34) (ix:=.tmp 35) (len:=n) (cap:=g) (i:=k) (Q.1.ne b) b) ?_
  obtain⟨f,o⟩:∃ x,l[k]! = x:=⟨_,rfl⟩
  refine xqj 37 (yS f.1 f.2) (fun w Q=>by rw[←o];exact eP (t:=76) (x:=.tmp 36) (j:=k) Q.1 dU (u.symm ▸ b)) ?_
  refine xqg 3 [eS1 39 B n h,yJ 40 (k:Int)] ?_
  refine xqj 41 (atA B (k*2)) (fun w Q=>wY (t:=27) (e:=76) (sz:=2) (x:=.tmp 39) (ix:=.tmp 40) (len:=n) (cap:=h) (i:=k) (Q.2.ne b) b) ?_
  refine xqj 42 (yS f.1 f.2) (fun w Q=>by rw[←o];exact eP (t:=76) (x:=.tmp 41) (j:=k) Q.2 dU (u.symm ▸ b)) ?_
  refine xqj 43 (.bool false) (fun w Q=>Zrv (x:=.tmp 37) (y:=.tmp 42) (k:=76) (a:=f.1) (d:=f.2)) ?_
  refine xz (yZ (xb (zJ (xS (zA (zB (xq 1 [yJ 44 (IntKind.i64.wrap ((k:Int)+1))] [] ?_)))))))
  rw[yW ((k:Int)+1) (((k+1:Nat):Int)) qO]
  refine xq 1 [yJ 30 ((k+1:Nat):Int)] [] ?_
  refine xe ?_
  refine yP [(2,.p 2 0),(3,.p 3 0),yB 4 false,yJ 29 (n:Int),yJ 30 (((k+1):Nat):Int)] [(3,29,[.v (yI (r:Int)),.v (yI (c:Int)),.v (.slice B n h)]),(2,29,[.v (yI (r:Int)),.v (yI (c:Int)),.v (.slice A n g)])] (fun w=>(OwnD w q 76 2 A g n (l.flatMap flC)∧OwnD w s 76 2 B h n (l.flatMap flC))) (fun w Q=>⟨Q.1,Q.2⟩) ?_
  exact xI ((1+(n-(k+1)))) qO ⟨(k+1),rfl,rfl,b,rfl⟩
 have H:k=n:=by have:=uB m;omega
 refine xN (zK (zK (xV (zA (yY (xq 1 [yB 4 true] [] ?_))))))
 refine yZ (zG ?_)
 refine yR (.bool true) fun w' R Q=>?_
 exact⟨rfl,R⟩
theorem Zmy (r c:Int)(A:qA)(cap:Nat)(ts:List ByteArray)(b:Int)(w:World)(a:Glob w)(d:SRd w A ts)(e:∀ s∈ts,(bytes s).length≤570)(f:mtB r c ts=false) :
 yA 10 #[.agg #[.int .i64 r,.int .i64 c,.slice A ts.length cap],.int .i64 b] w (RetV w (.tuple #[.agg #[.int .i64 0,.int .i64 0,.slice none 0 0],.int .i64 1])):=by
 obtain⟨i,g⟩:∃ m,m=w.heap.size:=⟨_,rfl⟩
 refine zT (Φ:=fun w=>True) func10 rfl qK (fun w' j=>trivial) ?_
 refine yY (xq 3 [(2,.p 2 0),(4,.p 4 0),yJ 5 0] [(4,29,[.v (yI 0),.v (yI 0),.v (.slice none 0 0)]),(2,24,[.v (yI r),.v (yI c),.v (.slice A ts.length cap)])] ?_)
 refine yZ (zC (yY (xq 1 [(11,.v (.agg #[yI r, yI c,.slice A ts.length cap]))] [] ?_)))
 refine xqc 37 [.agg #[yI r, yI c,.slice A ts.length cap]] 12 (fun _:Unit=>.bool false) _ (fun w R Q=>(Zbe r c A cap ts _ (a.ext R) (d.ext R) e).mono (fun _ _ h=>zL h (by rw[f]))) fun k=>?_
 refine xq 1 [yB 13 true] [] ?_
 refine yZ (xa (yY (xq 3 [yJ 5 1] [] ?_)))
 refine yZ (zG (zH ?_))
 refine yR (.tuple #[.agg #[yI 0, yI 0,.slice none 0 0], yI 1]) fun w' R Q=>?_
 exact⟨rfl,R⟩
theorem Zmz (r c:Int)(A:qA)(cap:Nat)(ts:List ByteArray)(b:Int)(w:World)(g:Glob w)(i:SRd w A ts)(j:∀ s∈ts,(bytes s).length≤570)(k:mtB r c ts=true)(n:b<8∨1024<b) :
 yA 10 #[.agg #[.int .i64 r,.int .i64 c,.slice A ts.length cap],.int .i64 b] w (RetV w (.tuple #[.agg #[.int .i64 0,.int .i64 0,.slice none 0 0],.int .i64 3])):=by
 obtain⟨o,l⟩:∃ m,m=w.heap.size:=⟨_,rfl⟩
 refine zT (Φ:=fun w=>True) func10 rfl qK (fun w' q=>trivial) ?_
 refine yY (xq 3 [(2,.p 2 0),(4,.p 4 0),yJ 5 0] [(4,29,[.v (yI 0),.v (yI 0),.v (.slice none 0 0)]),(2,24,[.v (yI r),.v (yI c),.v (.slice A ts.length cap)])] ?_)
 refine yZ (zC (yY (xq 1 [(11,.v (.agg #[yI r, yI c,.slice A ts.length cap]))] [] ?_)))
 refine xqc 37 [.agg #[yI r, yI c,.slice A ts.length cap]] 12 (fun _:Unit=>.bool true) _ (fun w R Q=>(Zbe r c A cap ts _ (g.ext R) (i.ext R) j).mono (fun _ _ h=>zL h (by rw[k]))) fun t=>?_
 refine xq 1 [yB 13 false] [] ?_
 refine yZ (xb (zJ (zA (zC (yY (xq 3 [yB 17 (decide (b<8))] [] ?_))))))
 rcases bl2 ((decide (b<8))) with a|a
 ·rw[a]
  have e:=uA a
  refine xq 3 [yB 20 true] [] ?_
  refine yZ (xa (yY (xq 3 [yJ 5 3] [] ?_)))
  refine yZ (zG (zH ?_))
  refine yR (.tuple #[.agg #[yI 0, yI 0,.slice none 0 0], yI 3]) fun w' R Q=>?_
  exact⟨rfl,R⟩
 rw[a]
 have e:=uB a
 refine xq 3 [yB 20 (decide (b>1024))] [] ?_
 refine xe (zA ?_)
 refine yQ ((decide (b>1024))) (fun d=>?_) fun d=>?_
 ·have f:=uA d
  refine yY (xq 3 [yJ 5 3] [] ?_)
  refine yZ (zG (zH ?_))
  refine yR (.tuple #[.agg #[yI 0, yI 0,.slice none 0 0], yI 3]) fun w' R Q=>?_
  exact⟨rfl,R⟩
 have f:=uB d
 exfalso;omega
theorem ZdV {ts:List ByteArray}(h:ts.all (fun s=>decide (s.size≤60))=true):∀ s∈ts,s.size≤60:=fun s a=>uA (uZ.1 h s a)
theorem Zjv {ts:List ByteArray}(h:ts.all (fun s=>decide (s.size≤60))=true):∀ s∈ts,s.size≤100000:=fun s a=>uD (ZdV h s a) qD
theorem Zjw {ts:List ByteArray}(h:ts.all (fun s=>decide (s.size≤60))=true):∀ s∈ts,(bytes s).length≤570:=fun s a=>by
 rw[zQ];exact uD (ZdV h s a) qD
theorem Zos {r c:Int}{ts:List ByteArray}(h:mtB r c ts=true):1≤r∧1≤c:=by
 unfold mtB at h
 rw[tD,decide_eq_true_iff] at h
 exact⟨h.1.1,h.1.2.2.1⟩
theorem Zot {s:ByteArray}(c:s.size≤60)(d:(xU (bytes s)).isSome=true):ml (valF (bytes s)).num.natAbs≤61∧ml (valF (bytes s)).den≤61:=by
 obtain⟨v,a⟩:=sC.1 d
 have b:=Zht a
 have g:(bytes s).length≤60:=by rw[zQ];exact c
 have e:=Zlj b.1
 have f:ml v.den≤(bytes s).length+1:=by have h:=Zlj b.2;rwa [tO] at h
 rw[dO a]
 exact⟨qO,qO⟩
theorem Zll {s:ByteArray}{n:Nat}(b:s.size≤60)(a:(xU (bytes s)).isSome=true)(c:8≤n)(d:n≤1024):kQ (bytes s) ((n:Nat):Int)=rndF (valF (bytes s)) n∧(rndF (valF (bytes s)) n).err=0:=by
 have h:=Zot b a
 have e:=aV h.1
 have f:=aV h.2
 refine⟨?_,Zjt qO qO qO qO⟩
 unfold kQ
 rw[vC a,vC qO]
 rfl
theorem Zrx {r c n:Nat}{ts:List ByteArray}(f:mtB r c ts=true)(h:ts.all (fun s=>decide (s.size≤60))=true)(a:8≤n)(b:n≤1024):∀ s∈ts,(kQ (bytes s) ((n:Nat):Int)).err=0:=fun s d=>by
 have e:=Zll (ZdV h s d) ((Zbf f).2.2.2.2.2 s d) a b
 rw[e.1];exact e.2
theorem ZsB {w:World}{m b c r N:Nat}{xs:List Qv}(h:OwnD w m 59 4 (some ⟨b,0,none⟩) N N (xs.flatMap qvC))(e:QsOk w xs)(g:xs.length=r*c):jH w (rO b xs c N r):=fun y d=>by
 unfold rO at d
 obtain⟨i,hi,rfl⟩:=oJ.1 d
 have hi:=sV.1 hi
 have a:(i+1)*c≤r*c:=uE c hi
 rw[rW] at a
 exact⟨RdD.sub (h.rd aU) qO,fun x f=>e x (rP (tZ f))⟩
theorem Zlm {m0 r c:Nat}{ts:List ByteArray}{w w':World}{e:Ending}(g:m0≤w.heap.size)(m:ts.length=r*c)(h:Zp8 r c ts w e w') :
 wV (fun x:{x:Nat × Nat × List Qv // x.2.2.map (·.q)=ts.map (fun t=>valF (bytes t))∧m0≤x.1}=>.tuple #[.slice (some ⟨x.1.1,0,none⟩) r r,.bool true]) (fun x w=>OwnD w m0 61 1 (some ⟨x.1.1,0,none⟩) r r ((rO x.1.2.1 x.1.2.2 c ts.length r).flatMap mrC)∧jH w (rO x.1.2.1 x.1.2.2 c ts.length r)) w e w':=by
 obtain⟨b,n,j,rfl,k,l,o,p,Q⟩:=h
 have i:j.length=r*c:=by have:=vI List.length k;rw[uR,uR] at this;rw[this];exact m
 refine⟨⟨(b,n,j),k,uD g (l.blk rfl).1⟩,rfl,Q,(l.boxN g).and (fun S d a f=>?_)⟩
 exact ZsB (o.boxN g S d a f) (boxn Q (fun S a d f=>p.nrb d f) S d a f) i
theorem ZsC {e:List (Mr Qv)}{g c r:Nat}{xs:List Qv}{ts:List ByteArray}(a:e=rO g xs c ts.length r)(b:xs.map (·.q)=ts.map (fun t=>valF (bytes t)))(h:ts.length=r*c):∀ y∈e,y.xs.length=c:=fun y f=>by
 have d:xs.length=r*c:=by have:=vI List.length b;rw[uR,uR] at this;rw[this];exact h
 rw[a] at f
 obtain⟨i,hi,rfl⟩:=oJ.1 f
 exact Zjm (by rw[d];exact uE c (sV.1 hi))
theorem rO_q {e:List (Mr Qv)}{l c r:Nat}{xs:List Qv}{ts:List ByteArray}(a:e=rO l xs c ts.length r)(b:xs.map (·.q)=ts.map (fun t=>valF (bytes t)))(m:ts.all (fun s=>decide (s.size≤60))=true)(n:mtB r c ts=true):∀ y∈e,∀ x∈y.xs,ml x.q.num.natAbs≤1000∧ml x.q.den≤1000:=fun y g x o=>by
 rw[a] at g
 obtain⟨i,hi,rfl⟩:=oJ.1 g
 have d:x∈xs:=rP (tZ o)
 have h:x.q∈xs.map (·.q):=rY (f:=fun v:Qv=>v.q) d
 rw[b] at h
 obtain⟨s,j,p⟩:=oJ.1 h
 have k:=Zot (ZdV m s j) ((Zbf n).2.2.2.2.2 s j)
 rw[←p]
 exact⟨uD k.1 qD,uD k.2 qD⟩
theorem Zry {c:Nat}:∀ (r:Nat) (a:List Qv),a.length=r*c→((List.range r).flatMap fun i=>(a.drop (i*c)).take c)=a:=fun r=>by
 have b:∀ (r:Nat) (a:List Qv),r*c≤a.length→((List.range r).flatMap fun i=>(a.drop (i*c)).take c)=a.take (r*c):=fun r a=>by
  induction r with
  | zero=>intro _;simp
  | succ r ih =>
   intro h
   rw[rW] at h ⊢
   rw[List.range_succ,List.flatMap_append,ih qO,List.flatMap_singleton,List.take_add]
 intro a d
 rw[b r a qO,← d,rB]
theorem Zrz {n m0:Nat}{zs:List (List (Int×Int))}{w w':World}{c:Ending}(a:m0≤w.heap.size)(h:Zqa n zs w c w') :
 wV (fun x:{x:Nat × List (Mr Ef) // x.2.map (fun y=>y.xs.map efV)=zs∧m0≤x.1}=>.slice (some ⟨x.1.1,0,none⟩) n n) (fun x w=>(OwnD w m0 81 1 (some ⟨x.1.1,0,none⟩) n n (x.1.2.flatMap mrC)∧MrOk 84 3 efC m0 w x.1.2)∧NfOk w x.1.2) w c w':=by
 obtain⟨b,e,rfl,f,d,g,i,Q⟩:=h
 exact⟨⟨(b,e),f,uD a (d.blk rfl).1⟩,rfl,Q,((d.boxN a).and (g.boxN a)).and (boxn Q (fun S j k l=>i.nrb k l))⟩
theorem ZrA {n c m0:Nat}{a:List (ByteArray×Int)}{w w':World}{d:Ending}(e:m0≤w.heap.size)(h:Zmw n c a w d w') :
 wV (fun x:Option Addr×Nat=>.agg #[.int .i64 ((n:Nat):Int),.int .i64 ((c:Nat):Int),.slice x.1 a.length x.2]) (fun x w=>OwnD w m0 76 2 x.1 x.2 a.length (a.flatMap flC)) w d w':=by
 obtain⟨A,b,rfl,f,Q⟩:=h
 exact⟨(A,b),rfl,Q,f.boxN e⟩
theorem Zou {a:List (Mr Ef)}{b:List (Mr Qv)}{n:Nat}(h:a.map (fun y=>y.xs.map efV)=b.map (fun y=>y.xs.map (rvF n))){y:Mr Ef}(d:y∈a):∃ z∈b,y.xs.map efV=z.xs.map (rvF n):=by
 have c:y.xs.map efV∈a.map (fun y=>y.xs.map efV):=rY (f:=fun y:Mr Ef=>y.xs.map efV) d
 rw[h] at c
 obtain⟨z,g,e⟩:=oJ.1 c
 exact⟨z,g,e.symm⟩
theorem ZsD {a:List (Mr Ef)}{b:List (Mr Qv)}{n c:Nat}(h:a.map (fun y=>y.xs.map efV)=b.map (fun y=>y.xs.map (rvF n)))(d:∀ y∈b,y.xs.length=c):∀ y∈a,y.xs.length=c:=fun y f=>by
 obtain⟨z,g,e⟩:=Zou h f
 have:=vI List.length e
 rw[uR,uR] at this
 rw[this];exact d z g
theorem me_z {a:List (Mr Ef)}{c:List (Mr Qv)}{n:Nat}(h:a.map (fun y=>y.xs.map efV)=c.map (fun y=>y.xs.map (rvF n)))(d:8≤n)(f:n≤1024):∀ y∈a,∀ x∈y.xs,ml x.z.natAbs≤1000:=fun y g x i=>by
 obtain⟨z,l,e⟩:=Zou h g
 have b:efV x∈y.xs.map efV:=rY i
 rw[e] at b
 obtain⟨v,o,j⟩:=oJ.1 b
 have k:x.z=sg (rndF v.q n).s (rndF v.q n).m:=(vI Prod.fst j).symm
 rw[k,Zas]
 exact uD (Zrq v.q.den_pos qO qO) qD
def ftP (x:Int×Int):ByteArray×Int:=(⟨(Lib.itoa x.1).toArray⟩,x.2)
theorem ZrB {a:List (Mr Ef)}{d:List (Mr Qv)}{w c r n:Nat}{xs:List Qv}{ts:List ByteArray}{u:List (ByteArray×Int)}(f:u=ts.map (rdF ((n:Nat):Int)))(g:d=rO w xs c ts.length r)(b:xs.map (·.q)=ts.map (fun t=>valF (bytes t)))(x:ts.length=r*c)(j:a.map (fun y=>y.xs.map efV)=d.map (fun y=>y.xs.map (rvF n)))(z:mtB r c ts=true)(A:ts.all (fun s=>decide (s.size≤60))=true)(k:8≤n)(l:n≤1024):a.flatMap (fun y=>y.xs.map ftE)=u:=by
 have o:xs.length=r*c:=by have:=vI List.length b;rw[uR,uR] at this;rw[this];exact x
 have B:a.flatMap (fun y=>y.xs.map ftE)=((a.map (fun y=>y.xs.map efV)).flatten).map ftP:=by
  rw[List.map_flatten,qL]
  show (a.map (fun y=>y.xs.map ftE)).flatten=_
  congr 1
  refine List.map_congr_left fun y _=>?_
  show y.xs.map ftE=(y.xs.map efV).map ftP
  rw[qL];rfl
 have C:(d.map (fun y=>y.xs.map (rvF n))).flatten=xs.map (rvF n):=by
  rw[g]
  unfold rO
  rw[qL]
  have D:((List.range r).map fun i=>(xs.drop (i*c)).take c).flatten=xs:=Zry r xs o
  have v:=vI (List.map (rvF n)) D
  rw[List.map_flatten,qL] at v
  exact v
 rw[B,j,C,f,qL]
 have E:xs.map (ftP ∘ rvF n)=(xs.map (·.q)).map (fun q=>ftP (sg (rndF q n).s (rndF q n).m,(rndF q n).e)):=by
  rw[qL];rfl
 rw[E,b,qL]
 refine List.map_congr_left fun s h=>?_
 have p:=Zll (ZdV A s h) ((Zbf z).2.2.2.2.2 s h) k l
 show ftP _=rdF _ s
 unfold rdF
 rw[p.1,Zsw p.2,Zsx p.2]
 rfl
theorem Zkf (r c b:Int)(A:qA)(cap:Nat)(ts:List ByteArray)(w:World)(f:Glob w)(i:SRd w A ts)(e:¬ (ts.length≤9∧ts.all (fun s=>decide (s.size≤60))=true)) :
 yA 3 #[.agg #[.int .i64 r,.int .i64 c,.slice A ts.length cap],.int .i64 b] w (RetV w (.bool true)):=by
 obtain⟨k,j⟩:∃ m,m=w.heap.size:=⟨_,rfl⟩
 refine zT (Φ:=fun w=>True) func3 rfl qK (fun w' l=>trivial) ?_
 refine yY (xq 2 [(2,.p 2 0),yB 4 false] [(2,24,[.v (yI r),.v (yI c),.v (.slice A ts.length cap)])] ?_)
 refine yZ (zC (yY (xq 5 [yB 13 (decide (((ts.length:Nat):Int)>9))] [] ?_)))
 rcases bl2 ((decide (((ts.length:Nat):Int)>9))) with a|a
 ·rw[a]
  have d:=uA a
  refine xq 5 [yB 18 true] [] ?_
  refine yZ (xa (zC (zB ?_)))
  refine xqc 9 [] 19 (fun _:Unit=>.bool true) _ (fun w R Q=>yN (cG _ (f.ext R))) fun g=>?_
  refine xq 1 [yB 4 true] [] ?_
  refine yZ (zG (zH ?_))
  refine yR (.bool true) fun w' R Q=>?_
  exact⟨rfl,R⟩
 rw[a]
 have d:=uB a
 refine xq 2 [eS1 15 A ts.length cap] [] ?_
 refine xqc 8 [yI 60,.slice A ts.length cap] 16 (fun _:Unit=>.bool false) _ (fun w R Q=>(ZbL A cap ts 60 _ (i.ext R) qO).mono (fun _ _ h=>zL h (by rw[sQ.2 (fun h=>e ⟨qO,h⟩)]))) fun g=>?_
 refine xq 2 [yB 18 true] [] ?_
 refine yZ (xa (zC (zB ?_)))
 refine xqc 9 [] 19 (fun _:Unit=>.bool true) _ (fun w R Q=>yN (cG _ (f.ext R))) fun g=>?_
 refine xq 1 [yB 4 true] [] ?_
 refine yZ (zG (zH ?_))
 refine yR (.bool true) fun w' R Q=>?_
 exact⟨rfl,R⟩
theorem ZmA (r c b:Int)(A:qA)(cap:Nat)(ts:List ByteArray)(w:World)(f:Glob w)(e:SRd w A ts)(i:ts.length≤9)(a:ts.all (fun s=>decide (s.size≤60))=true)(g:mtB r c ts=false) :
 yA 3 #[.agg #[.int .i64 r,.int .i64 c,.slice A ts.length cap],.int .i64 b] w (RetV w (.bool true)):=by
 obtain⟨k,j⟩:∃ m,m=w.heap.size:=⟨_,rfl⟩
 refine zT (Φ:=fun w=>True) func3 rfl qK (fun w' l=>trivial) ?_
 refine yY (xq 2 [(2,.p 2 0),yB 4 false] [(2,24,[.v (yI r),.v (yI c),.v (.slice A ts.length cap)])] ?_)
 refine yZ (zC (yY (xq 4 [yB 12 (decide (((ts.length:Nat):Int)>9))] [] ?_)))
 rw[(show decide (((ts.length:Nat):Int)>9)=false from uV qO)]
 refine xq 3 [yB 13 false,eS1 15 A ts.length cap] [] ?_
 refine xqc 8 [yI 60,.slice A ts.length cap] 16 (fun _:Unit=>.bool true) _ (fun w R Q=>(ZbL A cap ts 60 _ (e.ext R) qO).mono (fun _ _ h=>zL h (by rw[a]))) fun d=>?_
 refine xq 2 [yB 18 false] [] ?_
 refine yZ (xb (zJ (zA (yY (xq 2 [(21,.v (.agg #[yI r, yI c,.slice A ts.length cap])),yJ 22 b] [] ?_)))))
 refine xqc 10 [.agg #[yI r, yI c,.slice A ts.length cap], yI b] 23 (fun _:Unit=>.tuple #[.agg #[yI 0, yI 0,.slice none 0 0], yI 1]) _ (fun w R Q=>yN (Zmy r c A cap ts b _ (f.ext R) (e.ext R) (Zjw a) g)) fun d=>?_
 refine xq 6 [(5,.p 5 0),yJ 6 1] [(5,29,[.v (yI 0),.v (yI 0),.v (.slice none 0 0)])] ?_
 refine yZ (yY (xq 1 [(27,.v (.agg #[yI r, yI c,.slice A ts.length cap]))] [] ?_))
 refine xqc 11 [.agg #[yI r, yI c,.slice A ts.length cap]] 28 (fun _:Unit=>.tuple #[.slice none 0 0,.bool false]) _ (fun w R Q=>yN (Zrl r c A cap ts _ (e.ext R) (Zjv a) g)) fun d=>?_
 refine xq 5 [eS1 7 none 0 0,yB 8 false] [] ?_
 refine yZ (zC (yY (xq 2 [yB 32 true] [] ?_)))
 refine yZ (xa (zC (zB ?_)))
 refine xqc 9 [] 33 (fun _:Unit=>.bool true) _ (fun w R Q=>yN (cG _ (f.ext R))) fun d=>?_
 refine xq 7 [yB 38 true,(39,.v (.agg #[yI 0, yI 0,.slice none 0 0])),(40,.v (.agg #[yI 0, yI 0,.slice none 0 0]))] [] ?_
 refine xqc 12 [.agg #[yI 0, yI 0,.slice none 0 0],.agg #[yI 0, yI 0,.slice none 0 0]] 41 (fun _:Unit=>.bool true) _ (fun w R Q=>yN (Zhz _)) fun d=>?_
 refine xq 2 [yB 4 true] [] ?_
 refine yZ (zG (zH ?_))
 refine yR (.bool true) fun w' R Q=>?_
 exact⟨rfl,R⟩
theorem ZmB (r c:Nat)(b:Int)(A:qA)(cap:Nat)(ts:List ByteArray)(w:World)(i:Glob w)(e:SRd w A ts)(k:ts.length≤9)(a:ts.all (fun s=>decide (s.size≤60))=true)(f:mtB r c ts=true)(l:b<8∨1024<b) :
 yA 3 #[.agg #[.int .i64 ((r:Nat):Int),.int .i64 ((c:Nat):Int),.slice A ts.length cap],.int .i64 b] w (RetV w (.bool true)):=by
 obtain⟨m0,g⟩:∃ m,m=w.heap.size:=⟨_,rfl⟩
 refine zT (Φ:=fun w=>True) func3 rfl qK (fun w' u=>trivial) ?_
 refine yY (xq 2 [(2,.p 2 0),yB 4 false] [(2,24,[.v (yI (r:Int)),.v (yI (c:Int)),.v (.slice A ts.length cap)])] ?_)
 refine yZ (zC (yY (xq 4 [yB 12 (decide (((ts.length:Nat):Int)>9))] [] ?_)))
 rw[(show decide (((ts.length:Nat):Int)>9)=false from uV qO)]
 refine xq 3 [yB 13 false,eS1 15 A ts.length cap] [] ?_
 refine xqc 8 [yI 60,.slice A ts.length cap] 16 (fun _:Unit=>.bool true) _ (fun w R Q=>(ZbL A cap ts 60 _ (e.ext R) qO).mono (fun _ _ h=>zL h (by rw[a]))) fun d=>?_
 refine xq 2 [yB 18 false] [] ?_
 refine yZ (xb (zJ (zA (yY (xq 2 [(21,.v (.agg #[yI (r:Int), yI (c:Int),.slice A ts.length cap])),yJ 22 b] [] ?_)))))
 refine xqc 10 [.agg #[yI (r:Int), yI (c:Int),.slice A ts.length cap], yI b] 23 (fun _:Unit=>.tuple #[.agg #[yI 0, yI 0,.slice none 0 0], yI 3]) _ (fun w R Q=>yN (Zmz (r:Int) (c:Int) A cap ts b _ (i.ext R) (e.ext R) (Zjw a) f l)) fun d=>?_
 refine xq 6 [(5,.p 5 0),yJ 6 3] [(5,29,[.v (yI 0),.v (yI 0),.v (.slice none 0 0)])] ?_
 refine yZ (yY (xq 1 [(27,.v (.agg #[yI (r:Int), yI (c:Int),.slice A ts.length cap]))] [] ?_))
 refine xqc 11 [.agg #[yI (r:Int), yI (c:Int),.slice A ts.length cap]] 28 (fun x:{x:Nat × Nat × List Qv // x.2.2.map (·.q)=ts.map (fun t=>valF (bytes t))∧m0≤x.1}=>.tuple #[.slice (yL x.1.1) r r,.bool true]) _ (fun w R Q=>(Zjn r c A cap ts _ (e.ext R) (Zjv a) f).mono (fun _ _ h=>Zlm (m0:=m0) (g ▸ R.size) (Zbf f).2.2.2.2.1 h)) fun d=>?_
 obtain⟨⟨j,y,z⟩,n,o⟩:=d
 refine xq 5 [eS1 7 (yL j) r r,yB 8 true] [] ?_
 refine yZ (zC (yY (xq 2 [yB 32 false] [] ?_)))
 refine yZ (xb (zJ (zA (zC (yY (xq 1 [yJ 43 b] [] ?_))))))
 refine xqc 13 [yI b] 44 (fun _:Unit=>.bool false) _ (fun w R Q=>(ZdU b _).mono (fun _ _ h=>zL h (by rw[uV qO]))) fun d=>?_
 refine xq 1 [yB 45 true] [] ?_
 refine yZ (xa (zC (zB ?_)))
 refine xqc 9 [] 46 (fun _:Unit=>.bool true) _ (fun w R Q=>yN (cG _ (i.ext R))) fun d=>?_
 refine xq 7 [yB 51 true,(52,.v (.agg #[yI 0, yI 0,.slice none 0 0])),(53,.v (.agg #[yI 0, yI 0,.slice none 0 0]))] [] ?_
 refine xqc 12 [.agg #[yI 0, yI 0,.slice none 0 0],.agg #[yI 0, yI 0,.slice none 0 0]] 54 (fun _:Unit=>.bool true) _ (fun w R Q=>yN (Zhz _)) fun d=>?_
 refine xr 2 [yJ 1 b,yB 4 true,(5,.p 5 0),yJ 6 3,eS1 7 (yL j) r r] [(5,29,[.v (yI 0),.v (yI 0),.v (.slice none 0 0)])] ?_
 refine yZ (zG (zH ?_))
 refine yR (.bool true) fun w' R Q=>?_
 exact⟨rfl,R⟩
theorem Zov (r c n:Nat)(A:qA)(cap:Nat)(ts:List ByteArray)(w:World)(P:Glob w)(H:SRd w A ts)(X:ts.length≤9)(d:ts.all (fun s=>decide (s.size≤60))=true)(l:mtB r c ts=true)(j:8≤n)(k:n≤1024) :
 yA 3 #[.agg #[.int .i64 ((r:Nat):Int),.int .i64 ((c:Nat):Int),.slice A ts.length cap],.int .i64 ((n:Nat):Int)] w (RetV w (.bool true)):=by
 obtain⟨m0,e⟩:∃ m,m=w.heap.size:=⟨_,rfl⟩
 obtain⟨I,Y,J,Z,K,_⟩:=Zbf l
 have a0:r≤r*c:=Nat.le_mul_of_pos_right r J
 have b0:c≤r*c:=Nat.le_mul_of_pos_left c I
 refine zT (Φ:=fun w=>True) func3 rfl qK (fun w' hf=>trivial) ?_
 refine yY (xq 2 [(2,.p 2 0),yB 4 false] [(2,24,[.v (yI (r:Int)),.v (yI (c:Int)),.v (.slice A ts.length cap)])] ?_)
 refine yZ (zC (yY (xq 4 [yB 12 (decide (((ts.length:Nat):Int)>9))] [] ?_)))
 rw[(show decide (((ts.length:Nat):Int)>9)=false from uV qO)]
 refine xq 3 [yB 13 false,eS1 15 A ts.length cap] [] ?_
 refine xqc 8 [yI 60,.slice A ts.length cap] 16 (fun _:Unit=>.bool true) _ (fun w R Q=>(ZbL A cap ts 60 _ (H.ext R) qO).mono (fun _ _ h=>zL h (by rw[d]))) fun C=>?_
 refine xq 2 [yB 18 false] [] ?_
 refine yZ (xb (zJ (zA (yY (xq 2 [(21,.v (.agg #[yI (r:Int), yI (c:Int),.slice A ts.length cap])),yJ 22 (n:Int)] [] ?_)))))
 obtain⟨a,o⟩:∃ a,a=ts.map (rdF ((n:Int))):=⟨_,rfl⟩
 refine xqc 10 [.agg #[yI (r:Int), yI (c:Int),.slice A ts.length cap], yI (n:Int)] 23 (fun b:{b:Nat // m0≤b}=>.tuple #[.agg #[yI (r:Int), yI (c:Int),.slice (yL b.1) a.length a.length], yI 0]) _ (fun w R Q=>((show Calls _ _ _ _ (ZbH (fun v=>.tuple #[v, yI 0]) r c a _) by rw[o];exact Zhu r c A cap ts (n:Int) _ (P.ext R) (H.ext R) (Zjw d) l qO qO qO qO qO (Zrx l d j k))).mono (fun _ _ h=>ZaS (sh:=fun v=>.tuple #[v, yI 0]) (m0:=m0) (e ▸ R.size) h)) fun⟨u,c0⟩=>?_
 refine xq 6 [(5,.p 5 0),yJ 6 0] [(5,29,[.v (yI (r:Int)),.v (yI (c:Int)),.v (.slice (yL u) a.length a.length)])] ?_
 refine yZ (yY (xq 1 [(27,.v (.agg #[yI (r:Int), yI (c:Int),.slice A ts.length cap]))] [] ?_))
 refine xqc 11 [.agg #[yI (r:Int), yI (c:Int),.slice A ts.length cap]] 28 (fun x:{x:Nat × Nat × List Qv // x.2.2.map (·.q)=ts.map (fun t=>valF (bytes t))∧m0≤x.1}=>.tuple #[.slice (yL x.1.1) r r,.bool true]) _ (fun w R Q=>(Zjn r c A cap ts _ (H.ext R) (Zjv d) l).mono (fun _ _ h=>Zlm (m0:=m0) (e ▸ R.size) (Zbf l).2.2.2.2.1 h)) fun C=>?_
 obtain⟨⟨B,bl,xs⟩,z,d0⟩:=C
 refine xq 5 [eS1 7 (yL B) r r,yB 8 true] [] ?_
 refine yZ (zC (yY (xq 2 [yB 32 false] [] ?_)))
 refine yZ (xb (zJ (zA (zC (yY (xq 1 [yJ 43 (n:Int)] [] ?_))))))
 refine xqc 13 [yI (n:Int)] 44 (fun _:Unit=>.bool true) _ (fun w R Q=>(ZdU (n:Int) _).mono (fun _ _ h=>zL h (by rw[vM qO]))) fun C=>?_
 refine xq 1 [yB 45 false] [] ?_
 refine yZ (xb (zJ (zA (zC ?_))))
 refine SXc.freezeN 5 29 [yI (r:Int), yI (c:Int),.slice (yL u) a.length a.length] (fun D=>[yJ 1 (n:Int),yB 4 false,(5,.v (.pointer (yL D))),yJ 6 0,eS1 7 (yL B) r r]) [] qK (fun _=>qK) qK qK (fun _=>qK) fun D e0=>?_
 refine SXc.weak [yJ 1 (n:Int),(5,.v (.pointer (yL D))),yJ 6 0,eS1 7 (yL B) r r] [] (zY.of qK) qK (fun _ h=>h) ?_
 refine sx_T 15 16 (fun w=>Blk 29 w D [yI (r:Int), yI (c:Int),.slice (yL u) a.length a.length].toArray) ?_
 refine Zgb 0 9 [] 56 (fun _:Unit=>.bool true) (fun _ _=>True) (fun w Q=>Q.2) (fun w R Q=>yN (cG _ (P.ext R))) fun _=>?_
 refine ZaH 1 57 (.bool true) (fun _ _ _ h=>h) (fun w Q=>Q.1.2) ?_
 refine ZaH 2 58 (yI 0) (fun _ _ _ h=>h) (fun w Q=>Q.1.2) ?_
 refine ZaH 3 59 (.bool true) (fun _ _ _ h=>h) (fun w Q=>Q.1.2) ?_
 refine ZaH 4 60 (.bool true) (fun _ _ _ h=>h) (fun w Q=>Q.1.2) ?_
 refine ZaH 5 61 (.bool true) (fun _ _ _ h=>h) (fun w Q=>Q.1.2) ?_
 refine ZsA 6 62 (.agg #[yI (r:Int), yI (c:Int),.slice (yL u) a.length a.length]) (fun _ _ _ h=>h) (fun w Q=>Q.1.2) (fun w hB=>Zks (t:=29) (x:=.tmp 5) (g:=D) (cs:=[yI (r:Int), yI (c:Int),.slice (yL u) a.length a.length]) hB) ?_
 refine ZaH 7 63 (yI (n:Int)) (fun _ _ _ h=>h) (fun w Q=>Q.1.2) ?_
 refine ZaH 8 64 (.agg #[yI (n:Int), yI 0]) (fun _ _ _ h=>h) (fun w Q=>Q.1.2) ?_
 refine ZaH 10 66 (.slice (yL B) r r) (fun _ _ _ h=>h) (fun w Q=>Q.1.2) ?_
 refine Zor 9 65 (fun g:{g:Nat // m0≤g}=>.pointer (yL g.1)) (fun g w=>CB w g.1 (n:Int) 0) (fun w Q=>Q.1.2) (fun w R Q=>ZpO (t:=44) (x:=.tmp 64) (cells:=#[yI (n:Int), yI 0]) (e ▸ R.size)) fun⟨S,f0⟩=>?_
 obtain⟨E,f⟩:∃ E,E=rO bl xs c ts.length r:=⟨_,rfl⟩
 rw[←f]
 have F:E.length=r:=by rw[f];exact Zf9
 have G:=ZsC f z K
 have L:=rO_q f z d l
 refine Zgb 11 15 [.pointer (yL S),.slice (yL B) r r] 67 (fun x:{x:Nat × List (Mr Ef) // x.2.map (fun y=>y.xs.map efV)=E.map (fun y=>y.xs.map (rvF n))∧m0≤x.1}=>.slice (yL x.1.1) r r) (fun x w=>(OwnD w m0 81 1 (yL x.1.1) r r (x.1.2.flatMap mrC)∧MrOk 84 3 efC m0 w x.1.2)∧NfOk w x.1.2) (fun w Q=>Q.1.1.2) (fun w R Q=>(ZpN S n m0 (yL B) r r c E _ Q.2 Q.1.1.1.1.2.1 Q.1.1.1.1.2.2 F qO qO qO G j k L).mono (fun _ _ h=>Zrz (m0:=m0) (e ▸ R.size) h)) fun C=>?_
 obtain⟨⟨T,U⟩,i,M⟩:=C
 dsimp only at i M ⊢
 have N:=ZrB o f z K i l d j k
 have O:U.length=r:=by have:=vI List.length i;rw[uR,uR] at this;rw[this];exact F
 have g0:a.length=r*c:=by rw[o,uR];exact K
 refine Zgb 12 14 [.slice (yL T) r r] 68 (fun x:Option Addr×Nat=>.agg #[yI (r:Int), yI (c:Int),.slice x.1 a.length x.2]) (fun x w=>OwnD w m0 76 2 x.1 x.2 a.length (a.flatMap flC)) (fun w Q=>Q.1.1.1.2) (fun w R Q=>((show Calls _ _ _ _ (Zmw r c a _) by rw[←N];exact Zrw m0 (yL T) r r c U _ Q.2.1.1 Q.2.1.2 Q.2.2 O qO qO qO (ZsD i G) (me_z i j k))).mono (fun _ _ h=>ZrA (m0:=m0) (e ▸ R.size) h)) fun⟨V,W⟩=>?_
 dsimp only
 refine Zgb 13 12 [.agg #[yI (r:Int), yI (c:Int),.slice (yL u) a.length a.length],.agg #[yI (r:Int), yI (c:Int),.slice V a.length W]] 69 (fun _:Unit=>.bool true) (fun _ _=>True) (fun w Q=>Q.1.1.1.1.2) (fun w R Q=>yN (Zmx r c m0 m0 a.length (yL u) V a.length W a _ Q.1.1.1.1.1.1.1.2 Q.2 rfl qO)) fun _=>?_
 refine ZaH 14 70 (.bool true) (fun _ _ _ h=>h) (fun w Q=>Q.1.1.1.1.1.2) ?_
 refine ZsP 15 ?_
 refine xr 1 [yB 4 true] [] ?_
 refine yZ (zG ?_)
 refine yR (.bool true) fun w' R Q=>?_
 exact⟨rfl,R⟩
theorem Zgc (r c b:Int)(A:qA)(cap:Nat)(ts:List ByteArray)(w:World)(e:Glob w)(f:SRd w A ts) :
 yA 3 #[.agg #[.int .i64 r,.int .i64 c,.slice A ts.length cap],.int .i64 b] w (RetV w (.bool true)):=by
 by_cases g:ts.length≤9∧ts.all (fun s=>decide (s.size≤60))=true
 ·obtain⟨a,d⟩:=g
  cases hv:mtB r c ts
  ·exact ZmA r c b A cap ts w e f a d hv
  obtain⟨r,rfl⟩:∃ n:Nat,r=n:=⟨r.toNat,by have:=Zos hv;omega⟩
  obtain⟨c,rfl⟩:∃ n:Nat,c=n:=⟨c.toNat,by have:=Zos hv;omega⟩
  by_cases h:b<8∨1024<b
  ·exact ZmB r c b A cap ts w e f a d hv h
  obtain⟨n,rfl⟩:∃ n:Nat,b=n:=⟨b.toNat,qO⟩
  exact Zov r c n A cap ts w e f a d hv qO qO
 exact Zkf r c b A cap ts w e f g
end Go.Proofs.YtenchljfmfgeoaaGreatDoor
