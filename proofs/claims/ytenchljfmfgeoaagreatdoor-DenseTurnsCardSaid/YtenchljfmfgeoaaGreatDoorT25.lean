/-
 My texts Dn6, Dn9, Do0, Do1, Et3, Et4, Et5, Et6, Et7, Et0, Et1, Et8, Em0, Do4, Do5, Do2, Do3, Do6, Do7, Em1, Do9, Em2, Em3, Em4, Et9 put together.
-/
import Derived.Test.YtenchljfmfgeoaaGreatDoorT24
import Derived.Test.YtenchljfmfgeoaaGreatDoorT15
import Derived.Recover
import Derived.Defers
import Derived.Deep.RegionHeld3
import Derived.Deep.DeepCutAuto
import Derived.Deep.Onto
import Derived.Test.YtenchljfmfgeoaaGreatDoorT23
import Derived.Test.YtenchljfmfgeoaaGreatDoorT20
import Derived.Test.YtenchljfmfgeoaaGreatDoorT19
import Derived.Laws.StructEq
set_option maxRecDepth 100000
set_option maxHeartbeats 8000000
namespace Go.Proofs.YtenchljfmfgeoaaGreatDoor
open Go.RowKit Tryz
theorem ZjQ (p q:Nat)(w:World) :
 CallsD prog 128 #[.pointer (some ⟨p,0,none⟩),.pointer (some ⟨q,0,none⟩)] .returning w fun e c w'=>e=.returned (.tuple #[])∧c=.returning∧Ext w w':=by
 refine callsD_of_wpS func128 rfl fun d f b=>?_
 apply wpS_seq
 apply wpS_region
 simp[wpOpsS,go_sem,recoverD,b,ntmps128,Exit.thenS]
 refine wpS_of_wp ?_
 rw[show (#[Value.pointer (yL p),.pointer (yL q)] ++ ((Array.replicate 15 undef).setIfInBounds 4 .nilIface).setIfInBounds 0 .nilIface)=#[.pointer (yL p),.pointer (yL q),.nilIface,undef,undef,undef,.nilIface,undef,undef,undef,undef,undef,undef,undef,undef,undef,undef] from rfl]
 refine Zop (N:=17) (S0:=fun _=>False) (sl:=[(0,.v (.pointer (yL p))),(1,.v (.pointer (yL q))),(2,.v .nilIface)]) (Φ:=fun w=>True) rfl rfl (fun w' g=>trivial) ?_
 refine yY (xr 2 [(0,.v (.pointer (yL p))),(1,.v (.pointer (yL q))),(2,.v .nilIface),yB 8 false] [] ?_)
 refine yZ (xb (zJ (fun L a w' hi=>?_)))
 exact⟨hi.df,_,rfl,.tuple #[],by simp[results,Tryz.results128],rfl,b,hi.mem.ext⟩
theorem Zo3 {fn:Func}{a:Array Value}{w:World}{p q:Nat}{T:TypeId}{zs:List Value}{e:Int}(k:fn.results=#[ResultVar.cell 2 T,ResultVar.cell 3 30])(l:a[2]? = some (.pointer (some ⟨p,0,none⟩)))(m:a[3]? = some (.pointer (some ⟨q,0,none⟩)))(n:Blk T w p zs.toArray)(o:Blk 30 w q #[.int .i64 e])(r:(teOf prog T).map (fun e=>(e.agg,e.size))=some (true,zs.length)):(results fn a).run prog w=.ok (.tuple #[.agg zs.toArray,.int .i64 e]) w:=by
 obtain⟨u,b,s⟩:=vH.1 r
 injection s with ha hn
 have Q:(teOf prog 30).map (fun e=>e.agg)=some false:=qK
 obtain⟨v,d,f⟩:=vH.1 Q
 have h:=bS (P:=prog) (w:=w) b (g:=p) (off:=0) (cs:=zs) hn.symm (fun j t=>by rw[vU,n.cell];simp[t]) ha
 have i:=ZaM (P:=prog) (w:=w) d (g:=q) (off:=0) (c:=.int .i64 e) (by rw[o.cell];rfl) f
 simp only[Instr.loadAt,Instr.sureAddr,Sem.run_bind,Sem.run_pure,Result.andThen_ok] at h i
 rw[Zd5,k,Array.mapM_eq_mapM_toList]
 simp[Za5,l,m,asAddr,h,i,Result.andThen_ok]
theorem ZeX (f:FuncId)(cap:Array Value)(r c:Nat)(E:List Fv3)(w:World)(R:∀ w,(callFunc f cap).run prog w=.ok (.enter f cap) w)(U:∀ w1,Ext w w1→yA f cap w1 (gB (fun v=>v) r c E w1)) :
 yA 78 #[.func (.func f) #[] cap] w (gB (fun v=>.tuple #[v,.int .i64 0]) r c E w):=by
 have V:∀ (F:Fn) (g cap:Array Value) (w:World),(Instr.makeFunc F g cap).run prog w=.ok (.func F g cap) w:=fun _ _ _ _=>rfl
 go_enter_defers func78,ntmps78
 go_wp2_with fail
 generalize o:World.alloc (World.alloc w _) _=wb
 obtain⟨G,H,Q⟩:=Znt o
 have I:=zh G
 have J:=zh H
 have K:=zh Q
 clear G H Q o
 refine (U _ K.out).mono ?_
 rintro e k ⟨b,d,rfl,L,M,N,m⟩
 have a:=zh (Blk.ext I.out m)
 have n:=zh (Blk.ext J.out m)
 have O:=zh M
 have W:=zh N
 have X:=zh L
 have s:=zh m
 have Y:k.cell? ⟨w.heap.size,0,none⟩=some (.int .i64 0):=by rw[Blk.cell a.out];rfl
 have Z:k.cell? ⟨w.heap.size,1,none⟩=some (.int .i64 0):=by rw[Blk.cell a.out];rfl
 have a0:k.cell? ⟨w.heap.size,2,none⟩=some (.slice none 0 0):=by rw[Blk.cell a.out];rfl
 have b0:=Blk.frozen a.out 0
 have c0:=Blk.frozen a.out 1
 have d0:=Blk.frozen a.out 2
 have e0:k.cell? ⟨w.heap.size+1,0,none⟩=some (.int .i64 0):=by rw[Blk.cell n.out];rfl
 have f0:=Blk.frozen n.out 0
 clear L M N m
 go_wp2_with fail
 have hp:w.heap.size<wb.heap.size:=Blk.lt I.out
 have hq:w.heap.size+1<wb.heap.size:=Blk.lt J.out
 have x:Hid (Blk 97 (((k.setCell ⟨w.heap.size,0,none⟩ (.int .i64 (r:Int))).setCell ⟨w.heap.size,1,none⟩ (.int .i64 (c:Int))).setCell ⟨w.heap.size,2,none⟩ (.slice (some ⟨b,0,none⟩) d.length d.length)) w.heap.size #[.int .i64 (r:Int),.int .i64 (c:Int),.slice (some ⟨b,0,none⟩) d.length d.length]):=zh (Blk.set_ (Blk.set_ (Blk.set_ a.out 0 (.int .i64 (r:Int))) 1 (.int .i64 (c:Int))) 2 (.slice (some ⟨b,0,none⟩) d.length d.length))
 have t:Hid (Fr (fun i=>i=w.heap.size) k (((k.setCell ⟨w.heap.size,0,none⟩ (.int .i64 (r:Int))).setCell ⟨w.heap.size,1,none⟩ (.int .i64 (c:Int))).setCell ⟨w.heap.size,2,none⟩ (.slice (some ⟨b,0,none⟩) d.length d.length))):=zh (Fr.setCell (S:=fun i=>i=w.heap.size) (p:=⟨w.heap.size,2,none⟩) (Fr.setCell (S:=fun i=>i=w.heap.size) (p:=⟨w.heap.size,1,none⟩) (Fr.setCell (S:=fun i=>i=w.heap.size) (p:=⟨w.heap.size,0,none⟩) (Fr.refl _ _) (Or.inl rfl) _) (Or.inl rfl) _) (Or.inl rfl) _)
 generalize ((k.setCell ⟨w.heap.size,0,none⟩ (.int .i64 (r:Int))).setCell ⟨w.heap.size,1,none⟩ (.int .i64 (c:Int))).setCell ⟨w.heap.size,2,none⟩ (.slice (some ⟨b,0,none⟩) d.length d.length)=w3 at *
 have y:=zh (Blk.fr n.out t.out (fun h=>by have h:w.heap.size+1=w.heap.size:=h;omega))
 have z:Hid (Blk 30 (w3.setCell ⟨w.heap.size+1,0,none⟩ (.int .i64 0)) (w.heap.size+1) #[.int .i64 0]):=zh (Blk.set_ y.out 0 (.int .i64 0))
 have u:Hid (Fr (fun i=>i=w.heap.size+1) w3 (w3.setCell ⟨w.heap.size+1,0,none⟩ (.int .i64 0))):=zh (Fr.setCell (S:=fun i=>i=w.heap.size+1) (p:=⟨w.heap.size+1,0,none⟩) (Fr.refl _ _) (Or.inl rfl) _)
 generalize w3.setCell ⟨w.heap.size+1,0,none⟩ (.int .i64 0)=w4 at *
 have A:=zh (Blk.fr x.out u.out (fun h=>by have h:w.heap.size=w.heap.size+1:=h;omega))
 have B:Hid (Fr (fun i=>i=w.heap.size∨i=w.heap.size+1) k w4):=zh ((t.out.mono (fun _ _ h=>Or.inl h)).trans (u.out.mono (fun _ _ h=>Or.inr h)))
 refine leaves_cons (f:=128) (args:=#[.pointer (some ⟨w.heap.size,0,none⟩),.pointer (some ⟨w.heap.size+1,0,none⟩)]) qS (by simp[go_sem]) ?_
 refine (ZjQ _ _ _).mono ?_
 rintro e u' w7 ⟨rfl,rfl,j⟩
 have P:wb.heap.size≤k.heap.size:=s.out.size
 have hW:Ext w w7:=((K.out.trans s.out).next B.out (fun i hi h=>by rcases h with h|h<;>omega)).trans j
 have C:=OwnD.ext (O.out.fr B.out (fun i hi h=>by have:=(O.out.blk hi).1;rcases h with h|h<;>omega)) j
 have D:=(W.out.nrb (fun i h=>by
  rcases h with h|h
  ·rw[h];exact⟨_,_,a.out,iE.list (l:=[.int .i64 0,.int .i64 0,.slice none 0 0]) qS⟩
  rw[h];exact⟨_,_,n.out,iE.list (l:=[.int .i64 0]) qS⟩) B.out).ext j
 exact⟨_,Zo3 (p:=w.heap.size) (q:=w.heap.size+1) (T:=97) (zs:=[.int .i64 (r:Int),.int .i64 (c:Int),.slice (some ⟨b,0,none⟩) d.length d.length]) Tryz.results78 rfl rfl (A.out.ext j) (z.out.ext j) qK,b,d,rfl,X.out,OwnD.mono C qO,D,hW⟩
theorem eB {sh:Value→Value}{r c m0:Nat}{a:List Fv3}{w w':World}{e:Ending}(d:m0≤w.heap.size)(h:gB sh r c a w e w') :
 lQ (fun x:{x:Nat × List Nb // x.2.map nbV=a∧m0≤x.1}=>sh (.agg #[.int .i64 ((r:Nat):Int),.int .i64 ((c:Nat):Int),.slice (some ⟨x.1.1,0,none⟩) x.1.2.length x.1.2.length])) (fun x w=>OwnD w m0 109 3 (some ⟨x.1.1,0,none⟩) x.1.2.length x.1.2.length (x.1.2.flatMap nbC)∧zY w x.1.2) w e w':=by
 obtain⟨b,g,rfl,i,f,j,Q⟩:=h
 exact⟨⟨(b,g),i,uC d (f.blk rfl).1⟩,rfl,Q,(f.boxN d).and (boxn Q (fun S k l m=>j.nrb l m))⟩
theorem kH {sh:Value→Value}{r c m0:Nat}{a:List (ByteArray×Int)}{w w':World}{e:Ending}(d:m0≤w.heap.size)(h:kV sh r c a w e w') :
 lQ (fun b:{b:Nat // m0≤b}=>sh (.agg #[.int .i64 ((r:Nat):Int),.int .i64 ((c:Nat):Int),.slice (some ⟨b.1,0,none⟩) a.length a.length])) (fun b w=>OwnD w m0 76 2 (some ⟨b.1,0,none⟩) a.length a.length (a.flatMap flC)) w e w':=by
 obtain⟨b,rfl,f,Q⟩:=h
 exact⟨⟨b,uC d (f.blk rfl).1⟩,rfl,Q,f.boxN d⟩
theorem ZmB (m n:Nat)(A:qA)(cap:Nat)(xs:List Nb)(b:Nat)(i:List Fv3)(w:World)(r:Glob w)(s:OwnD w m 109 3 A cap (n*n) (xs.flatMap nbC))(t:zY w xs)(u:xs.length=n*n)(y:n≤32)(k:8≤b)(l:b≤1024)(o:∀ x∈xs,FvOk (nbV x))(z:ZbP b (xs.map nbV) n=some i) :
 yA 57 #[.agg #[.int .i64 ((n:Nat):Int),.int .i64 ((n:Nat):Int),.slice A (n*n) cap],.int .i64 ((b:Nat):Int)] w (gB (fun v=>.tuple #[v,.int .i64 0]) n n i w):=by
 obtain⟨m0,j⟩:∃ m,m=w.heap.size:=⟨_,rfl⟩
 refine zQ (Φ:=fun w=>True) func57 rfl qK (fun w' E=>trivial) ?_
 refine yY (xq 4 [(2,.p 2 0),(3,.p 3 0),(4,.p 4 0),yJ 5 0] [(4,97,[.v (yI 0),.v (yI 0),.v (.slice none 0 0)]),(3,3,[.v (yI (b:Int))]),(2,97,[.v (yI (n:Int)),.v (yI (n:Int)),.v (.slice A (n*n) cap)])] ?_)
 refine yZ (zC (yY (xq 5 [yB 10 (((n:Int):Int) != (n:Int))] [] ?_)))
 rw[(show (((n:Int):Int) != (n:Int))=false from eU rfl)]
 refine yZ (xb (zJ (zA (zC ?_))))
 refine SXc.freezeN 2 97 [yI (n:Int), yI (n:Int),.slice A (n*n) cap] (fun d=>[(2,.v (.pointer (yL d))),(3,.p 3 0),(4,.p 4 0),yJ 5 0]) [(4,97,[.v (yI 0),.v (yI 0),.v (.slice none 0 0)]),(3,3,[.v (yI (b:Int))])] qK (fun _=>qK) qK qK (fun _=>qK) fun d B=>?_
 refine SXc.freezeN 3 3 [yI (b:Int)] (fun g=>[(2,.v (.pointer (yL d))),(3,.v (.pointer (yL g))),(4,.p 4 0),yJ 5 0]) [(4,97,[.v (yI 0),.v (yI 0),.v (.slice none 0 0)])] qK (fun _=>qK) qK qK (fun _=>qK) fun g C=>?_
 refine zB (xq 1 [(12,.v (.func (.func 95) #[] #[.pointer (yL d),.pointer (yL g)]))] [] ?_)
 refine xqc 78 [.func (.func 95) #[] #[.pointer (yL d),.pointer (yL g)]] 13 (fun x:{x:Nat × List Nb // x.2.map nbV=i∧m0≤x.1}=>.tuple #[.agg #[yI (n:Int), yI (n:Int),.slice (yL x.1.1) x.1.2.length x.1.2.length], yI 0]) _ (fun w R Q=>(ZeX 95 #[.pointer (yL d),.pointer (yL g)] n n i _ (fun _=>rfl) (fun F c=>Zlo m n A cap xs b d g i _ (r.ext (R.trans c)) (Q.1.2.ext c) (Q.2.ext c) (OwnD.ext s (R.trans c)) (zY.ext t (R.trans c)) u y k l o z)).mono (fun _ _ h=>eB (sh:=fun v=>.tuple #[v, yI 0]) (m0:=m0) (j ▸ R.size) h)) fun D=>?_
 obtain⟨⟨e,a⟩,f,q⟩:=D
 refine xq 4 [yJ 5 0] [(4,97,[.v (yI (n:Int)),.v (yI (n:Int)),.v (.slice (yL e) a.length a.length)])] ?_
 refine yZ (zG ?_)
 refine yR (.tuple #[.agg #[yI (n:Int), yI (n:Int),.slice (yL e) a.length a.length], yI 0]) fun w' R Q=>?_
 exact⟨e,a,rfl,f,j ▸ Q.2.1,Q.2.2,R⟩
theorem ZbW (m r c:Nat)(A:qA)(cap n:Nat)(xs:List Nb)(w:World)(f:OwnD w m 109 3 A cap n (xs.flatMap nbC))(g:zY w xs)(i:xs.length=n)(j:Glob w)(k:n≤4096)(l:∀ x∈xs,wl x.m≤1000000∧(x.s=true→0<x.m)) :
 yA 77 #[.agg #[.int .i64 ((r:Nat):Int),.int .i64 ((c:Nat):Int),.slice A n cap],.int .i64 0] w (kV (fun v=>.tuple #[v,.int .i64 0]) r c (xs.map ftV) w):=by
 obtain⟨m0,d⟩:∃ m,m=w.heap.size:=⟨_,rfl⟩
 refine zQ (Φ:=fun w=>True) func77 rfl qK (fun w' o=>trivial) ?_
 refine yY (xq 3 [(2,.p 2 0),(4,.p 4 0),yJ 5 0] [(4,29,[.v (yI 0),.v (yI 0),.v (.slice none 0 0)]),(2,97,[.v (yI (r:Int)),.v (yI (c:Int)),.v (.slice A n cap)])] ?_)
 refine yZ (zC (yY (xq 2 [yB 7 false] [] ?_)))
 refine yZ (xb (zJ (zA (yY (xq 1 [(10,.v (.agg #[yI (r:Int), yI (c:Int),.slice A n cap]))] [] ?_)))))
 refine xqc 127 [.agg #[yI (r:Int), yI (c:Int),.slice A n cap]] 11 (fun b:{b:Nat // m0≤b}=>.agg #[yI (r:Int), yI (c:Int),.slice (yL b.1) (xs.map ftV).length (xs.map ftV).length]) _ (fun w R Q=>(ZhU m r c A cap n xs _ (OwnD.ext f R) (zY.ext g R) i (j.ext R) k l).mono (fun _ _ h=>kH (sh:=fun v=>v) (m0:=m0) (d ▸ R.size) h)) fun⟨a,e⟩=>?_
 refine xq 2 [yJ 5 0] [(4,29,[.v (yI (r:Int)),.v (yI (c:Int)),.v (.slice (yL a) (xs.map ftV).length (xs.map ftV).length)])] ?_
 refine yZ (zG ?_)
 refine yR (.tuple #[.agg #[yI (r:Int), yI (c:Int),.slice (yL a) (xs.map ftV).length (xs.map ftV).length], yI 0]) fun w' R Q=>?_
 exact⟨a,rfl,d ▸ Q.2,R⟩
structure Fm where
 r:Nat
 c:Nat
 A:Option Addr
 cap:Nat
 fs:List (ByteArray×Int)
instance:Inhabited Fm:=⟨⟨0,0,none,0,[]⟩⟩
def fmC (x:Fm):List Value:=[.int .i64 ((x.r:Nat):Int),.int .i64 ((x.c:Nat):Int),.slice x.A x.fs.length x.cap]
theorem Zn3 (x:Fm):(fmC x).length=3:=rfl
theorem Zes (x:Fm):∀ (k:IntKind) (z:Int),Value.int k z∈fmC x→k=.i64:=fun k z h=>by
 simp[fmC] at h;rcases h with h|h<;>exact h.1
structure Mx where
 r:Nat
 c:Nat
 A:Option Addr
 cap:Nat
 xs:List Nb
def mx0:Mx:=⟨0,0,none,0,[]⟩
instance:Inhabited Mx:=⟨mx0⟩
def mxC (x:Mx):List Value:=[.int .i64 ((x.r:Nat):Int),.int .i64 ((x.c:Nat):Int),.slice x.A x.xs.length x.cap]
theorem aN (x:Mx):(mxC x).length=3:=rfl
theorem Zlp (x:Mx):∀ (k:IntKind) (z:Int),Value.int k z∈mxC x→k=.i64:=fun k z h=>by
 simp[mxC] at h;rcases h with h|h<;>exact h.1
def fmV (x:Fm):Nat × Nat × List Fv3:=(x.r,x.c,x.fs.map ldV)
def mxV (x:Mx):Nat × Nat × List Fv3:=(x.r,x.c,x.xs.map nbV)
structure FmG (x:Fm):Prop where
 hr:1≤x.r∧x.r≤32
 hc:1≤x.c∧x.c≤32
 hn:x.fs.length=x.r*x.c
 hv:∀ f∈x.fs,fvB (bytes f.1) f.2=true
 hs:∀ f∈x.fs,(bytes f.1).length≤1000
def MsOk (m:Nat) (w:World) (ys:List Mx):Prop:=∀ y∈ys,OwnD w m 109 3 y.A y.cap y.xs.length (y.xs.flatMap nbC)∧zY w y.xs
theorem Blk.same {T c:TypeId}{w:World}{i:Nat}{cs a:Array Value}(h:Blk T w i cs)(d:Blk c w i a):T=c:=by
 have f:w.heap[i]? = some (.cells cs T (0,0)):=h
 have b:w.heap[i]? = some (.cells a c (0,0)):=d
 rw[f] at b
 injection b with b
 injection b with _ e _
theorem OwnD.apart {w w':World}{m g n j c l k o:Nat}{e d:TypeId}{A f:qA}{xs a:List Value}(h:OwnD w m e k A c n xs)(p:OwnD w g d o f l j a)(b:e≠d)(q:Fr (fun i=>f=some ⟨i,0,none⟩) w w'):OwnD w' m e k A c n xs :=
 h.fr q (fun i hi r=>by
  obtain⟨_,_,s,_⟩:=h.blk hi
  obtain⟨_,_,t,_⟩:=p.blk r
  exact b (Blk.same s t))
theorem MsOk.row {m e k c n:Nat}{w w':World}{ys:List Mx}{A:qA}{l:List Value}(h:MsOk m w ys)(a:OwnD w e 97 k A c n l)(b:Fr (fun i=>A=some ⟨i,0,none⟩) w w'):MsOk m w' ys:=fun y d =>
 ⟨(h y d).1.apart a qD b,(h y d).2.row a b⟩
theorem MsOk.snoc {m:Nat}{w:World}{ys:List Mx}{x:Mx}(h:MsOk m w ys)(b:OwnD w m 109 3 x.A x.cap x.xs.length (x.xs.flatMap nbC)∧zY w x.xs):MsOk m w (ys ++ [x]):=fun y a=>by
 rcases sD.1 a with a|a
 ·exact h y a
 rw[sV.1 a];exact b
def Zm8 (ls:List Fm) (nl:Nat) (w:World) (e:Ending) (w':World):Prop:=∃ b ms,e=.returned (.tuple #[.slice (some ⟨b,0,none⟩) nl nl,.int .i64 0])∧ms.map mxV=ls.map fmV∧OwnD w' w.heap.size 97 3 (some ⟨b,0,none⟩) nl nl (ms.flatMap mxC)∧MsOk w.heap.size w' ms∧Ext w w'
theorem ZdD (ml C nl:Nat)(ls:List Fm)(b:Nat)(w:World)(K:OwnD w ml 29 3 (some ⟨C,0,none⟩) nl nl (ls.flatMap fmC))(F:ls.length=nl)(X:nl≤2)(G:∀ x∈ls,OwnD w ml 76 2 x.A x.cap x.fs.length (x.fs.flatMap flC))(T:∀ x∈ls,FmG x)(U:8≤b)(V:b≤1024) :
 yA 76 #[.int .i64 ((b:Nat):Int),.slice (some ⟨C,0,none⟩) nl nl] w (Zm8 ls nl w):=by
 obtain⟨m0,u⟩:∃ m,m=w.heap.size:=⟨_,rfl⟩
 refine zQ (Φ:=fun w=>True) func76 rfl qK (fun w' Y=>trivial) ?_
 refine yY (xq 2 [eS1 4 none 0 0,yJ 5 0] [] ?_)
 refine yZ (yY (xq 2 [yJ 12 (nl:Int)] [] ?_))
 refine yD (d:=13) (fun J:{b:Nat // m0≤b}=>.slice (yL J.1) nl nl) (fun J w=>OwnD w m0 97 3 (yL J.1) nl nl ((List.replicate nl mx0).flatMap mxC)) (fun w R Q=>fY (t:=123) (e:=97) (kl:=.i64) (kc:=.i64) (l:=.tmp 12) (c:=.tmp 12) (bytes:=40) (z:=.agg #[yI 0, yI 0,.slice none 0 0]) mx0 aN qD rfl Zlp (u ▸ R.size) (by simp only[maxLen];omega) qO) fun⟨f,L⟩=>?_
 refine xr 1 [yJ 0 (b:Int),eS1 1 (yL C) nl nl,eS1 4 none 0 0,yJ 5 0,eS1 6 (yL f) nl nl] [] ?_
 refine yZ (zC (yY (xq 3 [eS1 14 (yL C) nl nl,yJ 15 (nl:Int),yJ 16 0] [] ?_)))
 refine yZ (zO ?_)
 refine yC [yJ 0 (b:Int),eS1 4 none 0 0,yJ 5 0,eS1 6 (yL f) nl nl,eS1 14 (yL C) nl nl,yJ 15 (nl:Int),yJ 16 ((0:Nat):Int)] [] (fun w=>(MsOk m0 w ([]:List Mx)∧OwnD w m0 97 3 (yL f) nl nl ((fill nl mx0 ([]:List Mx)).flatMap mxC))) (fun w Q=>⟨(fun _ h=>nomatch h),(by rw[Zdy];exact Q.2)⟩) ?_
 refine xQ (fun M N O=>∃ (k:Nat) (s:List Mx),N=ofL [yJ 0 (b:Int),eS1 4 none 0 0,yJ 5 0,eS1 6 (yL f) nl nl,eS1 14 (yL C) nl nl,yJ 15 (nl:Int),yJ 16 (k:Int)] []∧O=(fun w=>(MsOk m0 w s∧OwnD w m0 97 3 (yL f) nl nl ((fill nl mx0 s).flatMap mxC)))∧(k≤nl)∧(s.map mxV=(ls.take k).map fmV)∧M=(1+(nl-k))) ((1+(nl-0))) ⟨0,([]:List Mx),rfl,rfl,(vK _),rfl,rfl⟩ ?_
 rintro M N O ⟨k,s,rfl,rfl,Z,I,rfl⟩
 refine yY (xq 1 [yB 17 (decide ((k:Int)<(nl:Int)))] [] ?_)
 refine yZ (zC ?_)
 refine yQ ((decide ((k:Int)<(nl:Int)))) (fun B=>?_) fun B=>?_
 ·have g:k<nl:=by have:=uA B;omega
  have D:s.length=k:=by have:=vF List.length I;rw[uR,uR,uM] at this;omega
  refine zJ (zA (zC (zO (yY (xq 1 [yJ 18 (k:Int)] [] ?_)))))
  refine xqk 19 (atA (yL C) (k*3)) (fun w R Q=>lV (t:=179) (e:=29) (sz:=3) (x:=.tmp 14) (ix:=.tmp 16) (len:=nl) (cap:=nl) (i:=k) ((OwnD.ext K R).ne g) g) ?_
  obtain⟨x12,q⟩:∃ x,ls[k]! = x:=⟨_,rfl⟩
  refine xqk 20 (.agg #[yI ((x12.r:Nat):Int), yI ((x12.c:Nat):Int),.slice x12.A x12.fs.length x12.cap]) (fun w R Q=>by rw[←q];exact jU (t:=29) (x:=.tmp 19) (j:=k) (OwnD.ext K R) Zn3 (F.symm ▸ g)) ?_
  refine xq 3 [yJ 7 (k:Int),(8,.p 8 0)] [(8,29,[.v (yI ((x12.r:Nat):Int)),.v (yI ((x12.c:Nat):Int)),.v (.slice x12.A x12.fs.length x12.cap)])] ?_
  refine yZ (yY (xq 1 [(22,.v (.agg #[yI ((x12.r:Nat):Int), yI ((x12.c:Nat):Int),.slice x12.A x12.fs.length x12.cap]))] [] ?_))
  have n:FmG x12:=by rw[←q];exact T _ (xR (F.symm ▸ g))
  refine xqc 126 [.agg #[yI ((x12.r:Nat):Int), yI ((x12.c:Nat):Int),.slice x12.A x12.fs.length x12.cap]] 23 (fun x:{x:Nat × List Nb // x.2.map nbV=x12.fs.map ldV∧m0≤x.1}=>.tuple #[.agg #[yI ((x12.r:Nat):Int), yI ((x12.c:Nat):Int),.slice (yL x.1.1) x.1.2.length x.1.2.length],.bool true]) _ (fun w R Q=>((show Calls _ _ _ _ (gB (fun v=>.tuple #[v,.bool true]) x12.r x12.c (x12.fs.map ldV) _) from Zlj ml x12.r x12.c x12.A x12.cap x12.fs _ (by rw[←q];exact OwnD.ext (G _ (xR (F.symm ▸ g))) R) n.hr n.hc n.hn n.hv n.hs)).mono (fun _ _ h=>eB (sh:=fun v=>.tuple #[v,.bool true]) (m0:=m0) (u ▸ R.size) h)) fun W=>?_
  obtain⟨⟨o,a⟩,E,P⟩:=W
  refine xq 6 [(9,.p 9 0),yB 10 true] [(9,97,[.v (yI ((x12.r:Nat):Int)),.v (yI ((x12.c:Nat):Int)),.v (.slice (yL o) a.length a.length)])] ?_
  refine yZ (zC (yY (xq 2 [yB 27 false] [] ?_)))
  refine yZ (xb (zJ (zA (zB (xq 3 [eS1 28 (yL f) nl nl,yJ 29 (k:Int),(30,.v (.agg #[yI ((x12.r:Nat):Int), yI ((x12.c:Nat):Int),.slice (yL o) a.length a.length]))] [] ?_)))))
  refine xqk 31 (.pointer (some ⟨f,0+k*3,none⟩)) (fun w R Q=>iA (t:=123) (e:=97) (sz:=3) (x:=.tmp 28) (ix:=.tmp 29) (len:=nl) (cap:=nl) (i:=k) g) ?_
  refine cH (t:=97) (x:=.tmp 31) (y:=.tmp 30) (j:=k) (new:=mxC ((⟨x12.r,x12.c,yL o,a.length,a⟩:Mx))) m0 f (.agg #[yI ((x12.r:Nat):Int), yI ((x12.c:Nat):Int),.slice (yL o) a.length a.length]) (fun w=>((MsOk m0 w s∧OwnD w m0 109 3 (yL o) a.length a.length (a.flatMap nbC))∧zY w a)) (fun w Q=>Q.1.2) g rfl qD (fun h=>Or.inl (uC (u ▸ uG _) h)) (by simp[mxC,Value.oneCell']) (Zlp _) rfl (fun w w' Q G=>⟨⟨MsOk.row Q.1.1 Q.1.2 G,OwnD.apart Q.2.1 Q.1.2 qD G⟩,zY.row Q.2.2 Q.1.2 G⟩) ?_
  rw[←fP aN ((fill nl mx0 s)) k ((⟨x12.r,x12.c,yL o,a.length,a⟩:Mx)) (by rw[Zdw qO];exact g),ZfC D g]
  refine xr 0 [yJ 0 (b:Int),eS1 4 none 0 0,yJ 5 0,eS1 6 (yL f) nl nl,eS1 14 (yL C) nl nl,yJ 15 (nl:Int),yJ 16 (k:Int)] [] ?_
  refine xe (xN (zA (zB (xq 1 [yJ 32 (IntKind.i64.wrap ((k:Int)+1))] [] ?_))))
  rw[yW ((k:Int)+1) (((k+1:Nat):Int)) qO]
  refine xq 1 [yJ 16 ((k+1:Nat):Int)] [] ?_
  refine xe ?_
  refine yP [yJ 0 (b:Int),eS1 4 none 0 0,yJ 5 0,eS1 6 (yL f) nl nl,eS1 14 (yL C) nl nl,yJ 15 (nl:Int),yJ 16 (((k+1):Nat):Int)] [] (fun w=>(MsOk m0 w (s ++ [(⟨x12.r,x12.c,yL o,a.length,a⟩:Mx)])∧OwnD w m0 97 3 (yL f) nl nl ((fill nl mx0 (s ++ [(⟨x12.r,x12.c,yL o,a.length,a⟩:Mx)])).flatMap mxC))) (fun w Q=>⟨(MsOk.snoc Q.1.1.1 ⟨Q.1.1.2,Q.1.2⟩),Q.2⟩) ?_
  exact xE ((1+(nl-(k+1)))) qO ⟨(k+1),(s ++ [(⟨x12.r,x12.c,yL o,a.length,a⟩:Mx)]),rfl,rfl,g,(Zhh I (F.symm ▸ g) (by rw[q];show (_,_,_)=(_,_,_);rw[E])),rfl⟩
 have H:k=nl:=by have:=uB B;omega
 have D:s.length=k:=by have:=vF List.length I;rw[uR,uR,uM] at this;omega
 refine xL (zH (zH (xT (zA (zC (yY (xq 2 [yB 34 (decide ((b:Int)<8))] [] ?_)))))))
 rw[(show decide ((b:Int)<8)=false from uX qO)]
 refine xq 3 [yB 35 false,yB 37 (decide ((b:Int)>1024))] [] ?_
 rw[(show decide ((b:Int)>1024)=false from uX qO)]
 refine xq 1 [yB 38 false] [] ?_
 refine yZ (xb (zJ (zA (yY (xq 3 [eS1 4 (yL f) nl nl,yJ 5 0] [] ?_)))))
 refine yZ (zG ?_)
 refine yR (.tuple #[.slice (yL f) nl nl, yI 0]) fun w' R Q=>?_
 exact⟨f,s,rfl,by rw[I,H,← F,pE],by have h:=Q.2;have S:=D;rw[H] at S;subst S;rw[Zdx] at h;exact u ▸ h,u ▸ Q.1,R⟩
theorem ZeY {ls:List Fm}{c m0:Nat}{w w':World}{e:Ending}(g:m0≤w.heap.size)(h:Zm8 ls c w e w') :
 lQ (fun x:{x:Nat × List Mx // x.2.map mxV=ls.map fmV∧m0≤x.1}=>.tuple #[.slice (some ⟨x.1.1,0,none⟩) c c,.int .i64 0]) (fun x w=>OwnD w m0 97 3 (some ⟨x.1.1,0,none⟩) c c (x.1.2.flatMap mxC)∧MsOk m0 w x.1.2) w e w':=by
 obtain⟨b,l,rfl,m,i,j,Q⟩:=h
 exact⟨⟨(b,l),m,uC g (i.blk rfl).1⟩,rfl,Q,(i.boxN g).and (fun S d a f y k=>⟨(j y k).1.boxN g S d a f,boxn Q (fun S a d f=>(j y k).2.nrb d f) S d a f⟩)⟩
theorem Zlq {a:List Mx}{b:Fm}{x:Mx}(h:a.map mxV=[b].map fmV)(d:a.length=1)(f:a[0]! = x):x.r=b.r∧x.c=b.c∧x.xs.map nbV=b.fs.map ldV:=by
 match a,d with
 | [y],_ =>
  have e:y=x:=f
  subst e
  injection h with h _
  injection h with h1 h
  injection h with h2 h3
  exact⟨h1,h2,h3⟩
theorem Zlr {f:ByteArray×Int}(a:fvB (bytes f.1) f.2=true)(c:(bytes f.1).length≤1000):FvOk (ldV f):=by
 have h:=ZbN a
 have b:ldR (bytes f.1) f.2=⟨(xB (bytes f.1)).1,zM (xB (bytes f.1)).2,f.2,0⟩:=uS a
 refine⟨Zm4 qO,?_,ZoE,?_⟩
 ·unfold ldV;rw[b];exact⟨h.1,h.2.1⟩
 unfold ldV;rw[b];exact h.2.2.2
theorem ZiK {x:Fm}(h:FmG x):∀ v∈x.fs.map ldV,FvOk v:=fun v b=>by
 obtain⟨f,a,rfl⟩:=List.mem_map.1 b
 exact Zlr (h.hv f a) (h.hs f a)
theorem Zet {x:Fm}{xs:List Nb}(h:FmG x)(a:xs.map nbV=x.fs.map ldV):∀ y∈xs,FvOk (nbV y):=fun y b=>ZiK h _ (by rw[←a];exact pK b)
def ftW (v:Fv3):ByteArray×Int:=(⟨(Lib.itoa (sg v.1 v.2.1)).toArray⟩,v.2.2)
theorem ZoH {A:List Fv3}(h:∀ v∈A,FvOk v)(i:Nat):FvOk (at3 A i):=by
 unfold at3
 rw[tM]
 cases e:A[i]? with
 | none=>exact Zbf
 | some v=>exact h v (pB e)
theorem Zls {b i j n:Nat}{L:List Fv3}(c:0<b)(a:b≤4096):∀ (f k:Nat) (t t1:Fv3),FvOk t→chK b L i j n f k t=some t1→FvOk t1
 | 0,_,t,t1,ht,h=>by injection h with h;exact h ▸ ht
 | f+1,k,t,t1,ht,h=>by
  obtain⟨v,d,e⟩:=vJ.1 h
  exact Zls c a f (k+1) v t1 (Zhj c a d) e
theorem ZoI {b i j n:Nat}{L:List Fv3}{t v:Fv3}(c:0<b)(a:b≤4096)(e:FvOk t)(h:chE b L i j n t=some v):FvOk v:=by
 by_cases d:j<i
 ·exact ZcX (ZiG c a) (ZeW d h rfl)
 exact ZcX (Zhd e c a) (ZbU d h).2
theorem Zlt {b n j:Nat}{A:List Fv3}(g:∀ v∈A,FvOk v)(e:0<b)(a:b≤4096):∀ (f i:Nat) (L c:List Fv3),(∀ v∈L,FvOk v)→chI b A n j f i L=some c→(∀ v∈c,FvOk v)∧c.length=L.length
 | 0,_,L,c,hL,h=>by injection h with h;exact h ▸ ⟨hL,rfl⟩
 | f+1,i,L,c,hL,h=>by
  obtain⟨t,k,l⟩:=vJ.1 h
  obtain⟨v,m,o⟩:=vJ.1 l
  have p:=ZoI e a (Zls e a _ _ _ _ (ZoH g _) k) m
  have:=Zlt g e a f (i+1) _ c (fun u d=>by
   rcases rW d with d|d
   ·exact hL u d
   rw[d];exact p) o
  rwa [sS] at this
theorem Zlu {b n:Nat}{A:List Fv3}(d:∀ v∈A,FvOk v)(e:0<b)(c:b≤4096):∀ (f j:Nat) (L a:List Fv3),(∀ v∈L,FvOk v)→chJ b A n f j L=some a→(∀ v∈a,FvOk v)∧a.length=L.length
 | 0,_,L,a,hL,h=>by injection h with h;exact h ▸ ⟨hL,rfl⟩
 | f+1,j,L,a,hL,h=>by
  obtain⟨k,l,m⟩:=vJ.1 h
  have g:=Zlt d e c _ _ _ _ hL l
  have i:=Zlu d e c f (j+1) k a g.1 m
  exact⟨i.1,i.2.trans g.2⟩
theorem ZmC (k:Nat):∀ v∈List.replicate k ((false,0,0):Fv3),FvOk v:=fun v a=>by rw[(pN.1 a).2];exact Zbf
theorem Zn4 {b n:Nat}{A c:List Fv3}(d:∀ v∈A,FvOk v)(e:0<b)(a:b≤4096)(h:ZbP b A n=some c):∀ v∈c,FvOk v:=(Zlu d e a _ _ _ _ (ZmC _) h).1
theorem ZiL {b n j:Nat}{A:List Fv3}:∀ (f i:Nat) (L a:List Fv3),chI b A n j f i L=some a→a.length=L.length
 | 0,_,L,a,h=>by injection h with h;rw[h]
 | f+1,i,L,a,h=>by
  obtain⟨t,e,c⟩:=vJ.1 h
  obtain⟨v,g,d⟩:=vJ.1 c
  rw[ZiL f (i+1) _ a d,sS]
theorem ZiM {b n:Nat}{A:List Fv3}:∀ (f j:Nat) (L a:List Fv3),chJ b A n f j L=some a→a.length=L.length
 | 0,_,L,a,h=>by injection h with h;rw[h]
 | f+1,j,L,a,h=>by
  obtain⟨c,d,e⟩:=vJ.1 h
  rw[ZiM f (j+1) c a e,ZiL _ _ _ _ d]
theorem ZmD {b n:Nat}{A a:List Fv3}(h:ZbP b A n=some a):a.length=n*n:=by rw[ZiM _ _ _ _ h,rJ]
theorem ZjR (ml n:Nat)(A:qA)(cap:Nat)(o:List (ByteArray×Int))(b:Nat)(l:List Fv3)(w:World)(P:Glob w)(X:OwnD w ml 76 2 A cap o.length (o.flatMap flC))(u:FmG ⟨n,n,A,cap,o⟩)(E:8≤b)(F:b≤1024)(J:ZbP b (o.map ldV) n=some l) :
 yA 53 #[.agg #[.int .i64 ((n:Nat):Int),.int .i64 ((n:Nat):Int),.slice A o.length cap],.int .i64 ((b:Nat):Int),.func (.func 57) #[] #[]] w (kV (fun v=>.tuple #[v,.int .i64 0]) n n (l.map ftW) w):=by
 obtain⟨m0,q⟩:∃ m,m=w.heap.size:=⟨_,rfl⟩
 refine zQ (Φ:=fun w=>True) func53 rfl qK (fun w' hf=>trivial) ?_
 refine yY (xq 3 [(3,.p 3 0),(6,.p 6 0),yJ 7 0] [(6,29,[.v (yI 0),.v (yI 0),.v (.slice none 0 0)]),(3,29,[.v (yI (n:Int)),.v (yI (n:Int)),.v (.slice A o.length cap)])] ?_)
 refine yZ (yY (xq 2 [yJ 11 (b:Int),(12,.v (.agg #[yI (n:Int), yI (n:Int),.slice A o.length cap]))] [] ?_))
 refine yD (d:=13) (fun K:{b:Nat // m0≤b}=>.slice (yL K.1) 1 1) (fun K Y=>Blk 29 Y K.1 #[yI (n:Int), yI (n:Int),.slice A o.length cap]) (fun w R Q=>fO (m0:=m0) (q ▸ R.size) (t:=179) (e:=29) (n:=1) (sz:=3) (z:=.agg #[yI 0, yI 0,.slice none 0 0]) (parts:=#[(0,Operand.tmp 12)]) qK qK qK qK qK qK) fun⟨y,S⟩=>?_
 refine xr 0 [yJ 1 (b:Int),(2,.v (.func (.func 57) #[] #[])),(6,.p 6 0),yJ 7 0,yJ 11 (b:Int),eS1 13 (yL y) 1 1] [(6,29,[.v (yI 0),.v (yI 0),.v (.slice none 0 0)])] ?_
 refine xqc 76 [yI (b:Int),.slice (yL y) 1 1] 14 (fun x:{x:Nat × List Mx // x.2.map mxV=[(⟨n,n,A,cap,o⟩:Fm)].map fmV∧m0≤x.1}=>.tuple #[.slice (yL x.1.1) 1 1, yI 0]) _ (fun w R Q=>(ZdD 0 y 1 [⟨n,n,A,cap,o⟩] b _ (show OwnD _ 0 29 3 _ 1 1 ([(⟨n,n,A,cap,o⟩:Fm)].flatMap fmC) from OwnD.ofBlk (xs:=fmC ⟨n,n,A,cap,o⟩) Q.2 (vK _) rfl qD (Zes _)) rfl qD (fun x G=>by rw[sV.1 G];exact OwnD.mono (OwnD.ext X R) (vK _)) (fun x G=>by rw[sV.1 G];exact u) E F).mono (fun _ _ h=>ZeY (m0:=m0) (q ▸ R.size) h)) fun L=>?_
 obtain⟨⟨B,I⟩,H,T⟩:=L
 have s:I.length=1:=by have:=vF List.length H;rw[uR,uR] at this;exact this
 refine xq 5 [eS1 8 (yL B) 1 1,yJ 9 0] [] ?_
 refine yZ (zC (yY (xq 2 [yB 18 false] [] ?_)))
 refine yZ (xb (zJ (zA (yY (xq 2 [(21,.v (.func (.func 57) #[] #[])),eS1 22 (yL B) 1 1] [] ?_)))))
 refine xqk 23 (atA (yL B) (0*3)) (fun w R Q=>lV (t:=123) (e:=97) (sz:=3) (x:=.tmp 22) (ix:=.const (yI 0)) (len:=1) (cap:=1) (i:=0) qS qD) ?_
 obtain⟨a,k⟩:∃ x,I[0]! = x:=⟨_,rfl⟩
 refine xqk 24 (.agg #[yI ((a.r:Nat):Int), yI ((a.c:Nat):Int),.slice a.A a.xs.length a.cap]) (fun w R Q=>by rw[←k];exact jU (t:=97) (x:=.tmp 23) (j:=0) Q.2.1 aN (by rw[s];decide)) ?_
 obtain⟨Z,e2,M⟩:=Zlq H s k
 have e4:a.xs.length=n*n:=by have:=vF List.length M;rw[uR,uR] at this;rw[this];exact u.hn
 refine xq 1 [yJ 25 (b:Int)] [] ?_
 refine xqc 57 [.agg #[yI ((a.r:Nat):Int), yI ((a.c:Nat):Int),.slice a.A a.xs.length a.cap], yI (b:Int)] 26 (fun x:{x:Nat × List Nb // x.2.map nbV=l∧m0≤x.1}=>.tuple #[.agg #[yI (n:Int), yI (n:Int),.slice (yL x.1.1) x.1.2.length x.1.2.length], yI 0]) _ (fun w R Q=>((show Calls _ _ _ _ (gB (fun v=>.tuple #[v, yI 0]) n n l _) by rw[Z,e2,e4];exact ZmB m0 n a.A a.cap a.xs b l _ (P.ext R) (by have h:=(Q.2.2 _ (xR (by rw[s];decide:0<I.length))).1;rw[k,e4] at h;exact h) (by have h:=(Q.2.2 _ (xR (by rw[s];decide:0<I.length))).2;rw[k] at h;exact h) e4 u.hr.2 E F (Zet u M) (by rw[M];exact J))).mono (fun _ _ h=>eB (sh:=fun v=>.tuple #[v, yI 0]) (m0:=m0) (q ▸ R.size) h)) fun L=>?_
 obtain⟨⟨C,f⟩,g,U⟩:=L
 refine xq 2 [(27,.v (.agg #[yI (n:Int), yI (n:Int),.slice (yL C) f.length f.length])),yJ 28 0] [] ?_
 have N:(f.map ftV)=l.map ftW:=by rw[←g,qL];rfl
 have O:f.length≤4096:=by have V:=ZmD J;rw[←g,uR] at V;have:=uZ u.hr.2 u.hr.2;rw[V];exact uC this qD
 refine xqc 77 [.agg #[yI (n:Int), yI (n:Int),.slice (yL C) f.length f.length], yI 0] 29 (fun b:{b:Nat // m0≤b}=>.tuple #[.agg #[yI (n:Int), yI (n:Int),.slice (yL b.1) (l.map ftW).length (l.map ftW).length], yI 0]) _ (fun w R Q=>((show Calls _ _ _ _ (kV (fun v=>.tuple #[v, yI 0]) n n (l.map ftW) _) by rw[←N];exact ZbW m0 n n (yL C) f.length f.length f _ Q.2.1 Q.2.2 rfl (P.ext R) O (fun x G=>(fun h=>⟨uC h.1 qD,h.2.2.2⟩:FvOk (nbV x)→_) (Zn4 (ZiK u) qO qO J _ (by rw[←g];exact pK G))))).mono (fun _ _ h=>kH (sh:=fun v=>.tuple #[v, yI 0]) (m0:=m0) (q ▸ R.size) h)) fun⟨D,W⟩=>?_
 refine xq 4 [yJ 7 0] [(6,29,[.v (yI (n:Int)),.v (yI (n:Int)),.v (.slice (yL D) (l.map ftW).length (l.map ftW).length)])] ?_
 refine yZ (zG ?_)
 refine yR (.tuple #[.agg #[yI (n:Int), yI (n:Int),.slice (yL D) (l.map ftW).length (l.map ftW).length], yI 0]) fun w' R Q=>?_
 exact⟨D,rfl,q ▸ Q.2,R⟩
theorem Zhk (ml n:Nat)(A:qA)(cap:Nat)(a:List (ByteArray×Int))(b:Nat)(c:List Fv3)(w:World)(j:Glob w)(k:OwnD w ml 76 2 A cap a.length (a.flatMap flC))(l:FmG ⟨n,n,A,cap,a⟩)(f:8≤b)(g:b≤1024)(o:ZbP b (a.map ldV) n=some c) :
 yA 34 #[.agg #[.int .i64 ((n:Nat):Int),.int .i64 ((n:Nat):Int),.slice A a.length cap],.int .i64 ((b:Nat):Int)] w (kV (fun v=>.tuple #[v,.int .i64 0]) n n (c.map ftW) w):=by
 obtain⟨m0,e⟩:∃ m,m=w.heap.size:=⟨_,rfl⟩
 refine zQ (Φ:=fun w=>True) func34 rfl qK (fun w' q=>trivial) ?_
 refine yY (xq 3 [(2,.p 2 0),(4,.p 4 0),yJ 5 0] [(4,29,[.v (yI 0),.v (yI 0),.v (.slice none 0 0)]),(2,29,[.v (yI (n:Int)),.v (yI (n:Int)),.v (.slice A a.length cap)])] ?_)
 refine yZ (yY (xq 2 [(6,.v (.agg #[yI (n:Int), yI (n:Int),.slice A a.length cap])),yJ 7 (b:Int)] [] ?_))
 refine xqc 53 [.agg #[yI (n:Int), yI (n:Int),.slice A a.length cap], yI (b:Int),.func (.func 57) #[] #[]] 8 (fun b:{b:Nat // m0≤b}=>.tuple #[.agg #[yI (n:Int), yI (n:Int),.slice (yL b.1) (c.map ftW).length (c.map ftW).length], yI 0]) _ (fun w R Q=>(ZjR ml n A cap a b c _ (j.ext R) (OwnD.ext k R) l f g o).mono (fun _ _ h=>kH (sh:=fun v=>.tuple #[v, yI 0]) (m0:=m0) (e ▸ R.size) h)) fun⟨d,i⟩=>?_
 refine xq 4 [yJ 5 0] [(4,29,[.v (yI (n:Int)),.v (yI (n:Int)),.v (.slice (yL d) (c.map ftW).length (c.map ftW).length)])] ?_
 refine yZ (zG ?_)
 refine yR (.tuple #[.agg #[yI (n:Int), yI (n:Int),.slice (yL d) (c.map ftW).length (c.map ftW).length], yI 0]) fun w' R Q=>?_
 exact⟨d,rfl,e ▸ Q.2,R⟩
theorem Blk.ext' {T:TypeId}{w w':World}{g:Nat}{cs:Array Value}(h:Blk T w g cs)(a:Ext w w'):Blk T w' g cs:=h.fr a (fun f=>f)
def Zf6 (xs:List Nb) (n b i j:Nat):Option Fv3:=(musT (addV (nbV xs[i*n+j]!) (nbV xs[j*n+i]!) b)).bind fun p=>musT (shV p (-1))
theorem ZmE {b c k:Nat}{f g:Nat→Fv3}{t v:Fv3}(h:k<c)(a:dtK b f g (c-k) k t=some v):∃ d,eA t (f k) (g k) b=some d∧dtK b f g (c-(k+1)) (k+1) d=some v:=by
 obtain⟨n,e⟩:∃ n,c-k=n+1:=⟨c-k-1,qO⟩
 rw[show c-(k+1)=n by omega]
 rw[e] at a
 exact vJ.1 a
theorem ZmF {t x y v:Fv3}{b:Nat}(c:FvOk t)(d:0<b)(a:b≤4096)(h:eA t x y b=some v):FvOk v:=by
 unfold eA at h
 split at h
 ·injection h with h;exact h ▸ c
 obtain⟨p,_,e⟩:=vJ.1 h
 exact ZcX (cL d a) e
theorem ZmG (t x y:Nb)(b:Nat)(v:Fv3)(w:World)(N:Glob w)(J:NbOk w t)(K:NbOk w x)(L:NbOk w y)(E:FvOk (nbV t))(F:FvOk (nbV x))(G:FvOk (nbV y))(S:8≤b)(T:b≤1024)(H:eA (nbV t) (nbV x) (nbV y) b=some v) :
 yA 88 #[yV t.s t.A t.l t.c t.e, yV x.s x.A x.l x.c x.e, yV y.s y.A y.l y.c y.e,.int .i64 ((b:Nat):Int)] w (aB v w):=by
 refine zQ (Φ:=fun w=>True) func88 rfl qK (fun w' U=>trivial) ?_
 refine yY (xq 4 [(4,.p 4 0),(5,.p 5 0),(6,.p 6 0),(8,.p 8 0)] [yF 8 109 false none 0 0 0,yF 6 109 y.s y.A y.l y.c y.e,yF 5 109 x.s x.A x.l x.c x.e,yF 4 109 t.s t.A t.l t.c t.e] ?_)
 refine yZ (zC (yY (xq 1 [(9,.v (yV x.s x.A x.l x.c x.e))] [] ?_)))
 by_cases z:sgnV (nbV x)=0
 ·refine xqc 97 [yV x.s x.A x.l x.c x.e] 10 (fun _:Unit=>yI 0) _ (fun w R Q=>(dW x.s x.A x.l x.c x.m x.e _ (K.ext R)).mono (fun _ _ h=>zL h (by show yI (sgnV (nbV x))=_;rw[z]))) fun I=>?_
  refine xq 6 [yB 16 true] [] ?_
  refine yZ (xa (yY (xq 2 [] [yF 8 109 t.s t.A t.l t.c t.e] ?_)))
  refine yZ (zG (zK ?_))
  refine yR (yV t.s t.A t.l t.c t.e) fun w' R Q=>?_
  exact⟨t,rfl,by rw[eA,uS (Or.inl z)] at H;injection H,J.ext R,R⟩
 refine xqc 97 [yV x.s x.A x.l x.c x.e] 10 (fun _:Unit=>yI (sgnV (nbV x))) _ (fun w R Q=>yN (dW x.s x.A x.l x.c x.m x.e _ (K.ext R))) fun I=>?_
 refine xq 1 [yB 11 (((sgnV (nbV x)):Int) == 0)] [] ?_
 rw[(show ((sgnV (nbV x):Int) == 0)=false from sP.2 z)]
 refine xq 2 [yB 12 false,(13,.v (yV y.s y.A y.l y.c y.e))] [] ?_
 by_cases B:sgnV (nbV y)=0
 ·refine xqc 97 [yV y.s y.A y.l y.c y.e] 14 (fun _:Unit=>yI 0) _ (fun w R Q=>(dW y.s y.A y.l y.c y.m y.e _ (L.ext R)).mono (fun _ _ h=>zL h (by show yI (sgnV (nbV y))=_;rw[B]))) fun I=>?_
  refine xq 2 [yB 16 true] [] ?_
  refine yZ (xa (yY (xq 2 [] [yF 8 109 t.s t.A t.l t.c t.e] ?_)))
  refine yZ (zG (zK ?_))
  refine yR (yV t.s t.A t.l t.c t.e) fun w' R Q=>?_
  exact⟨t,rfl,by rw[eA,uS (Or.inr B)] at H;injection H,J.ext R,R⟩
 refine xqc 97 [yV y.s y.A y.l y.c y.e] 14 (fun _:Unit=>yI (sgnV (nbV y))) _ (fun w R Q=>yN (dW y.s y.A y.l y.c y.m y.e _ (L.ext R))) fun I=>?_
 refine xq 1 [yB 15 (((sgnV (nbV y)):Int) == 0)] [] ?_
 rw[(show ((sgnV (nbV y):Int) == 0)=false from sP.2 B)]
 refine xq 1 [yB 16 false] [] ?_
 refine yZ (xb (zJ (zA (zC ?_))))
 rw[eA,uL (fun h=>h.elim z B)] at H
 obtain⟨p,M,O⟩:=vJ.1 H
 refine yO 13 zN ?_
 refine xqg 4 [(18,.v (yV t.s t.A t.l t.c t.e)),(19,.v (yV x.s x.A x.l x.c x.e)),(20,.v (yV y.s y.A y.l y.c y.e)),yJ 21 (b:Int)] ?_
 obtain⟨d,f⟩:=yE (mulV (nbV x) (nbV y) b)
 have C:d.err=0:=by rw[←f];exact (wW M).1
 have u:FvOk (fvR d):=by rw[←f];exact ZiE qO qO (by rw[f];exact C)
 refine xqd 130 [yV x.s x.A x.l x.c x.e, yV y.s y.A y.l y.c y.e, yI (b:Int)] 22 (fun q:ShN=>.tuple #[yV d.s q.1 q.2.1 q.2.2 d.e, yI 0]) _ (fun w R Q=>((show Calls _ _ _ _ (xJ w d) by rw[←f];exact Zft x.s x.A x.l x.c x.m x.e y.s y.A y.l y.c y.m y.e b qO qO _ (N.ext R) (K.ext R) F.wl F.lo F.hi (L.ext R) G.wl G.lo G.hi)).mono (fun _ _ h=>fS C h)) fun⟨n,o,r⟩=>?_
 refine xqg 2 [(23,.v (yV d.s n o r d.e)),yJ 24 0] ?_
 refine xqd 90 [yV d.s n o r d.e, yI 0] 25 (fun _:Unit=>.agg #[.bool d.s,.slice n o r, yI d.e]) _ (fun w R Q=>yN (fR d.s n o r d.e _)) fun I=>?_
 refine xqg 1 [yJ 26 (b:Int)] ?_
 obtain⟨a,g⟩:=yE (addV (nbV t) (fvR d) b)
 have D:a.err=0:=by rw[←g];exact (wW (by rw[←f,← (wW M).2];exact O)).1
 have P:FvOk (fvR a):=by rw[←g];exact cL qO qO (by rw[g];exact D)
 refine xqd 91 [yV t.s t.A t.l t.c t.e, yV d.s n o r d.e, yI (b:Int)] 27 (fun q:ShN=>.tuple #[yV a.s q.1 q.2.1 q.2.2 a.e, yI 0]) _ (fun w R Q=>((show Calls _ _ _ _ (xJ w a) by rw[←g];exact Zax t.s t.A t.l t.c t.m t.e d.s n o r d.m d.e b qO qO _ (N.ext R) (J.ext R) E.wl E.lo E.hi Q.1.2 u.wl u.lo u.hi)).mono (fun _ _ h=>fS D h)) fun⟨i,j,k⟩=>?_
 refine xqg 2 [(28,.v (yV a.s i j k a.e)),yJ 29 0] ?_
 refine xqd 90 [yV a.s i j k a.e, yI 0] 30 (fun _:Unit=>.agg #[.bool a.s,.slice i j k, yI a.e]) _ (fun w R Q=>yN (fR a.s i j k a.e _)) fun I=>?_
 refine xz (xq 1 [] [yF 8 109 a.s i j k a.e] ?_)
 refine yZ (zG ?_)
 refine yR (yV a.s i j k a.e) fun w' R Q=>?_
 exact⟨(⟨a.s,i,j,k,a.m,a.e⟩:Nb),rfl,by rw[(wW O).2,(wW M).2,f,g];rfl,Q.1.2,R⟩
theorem Zlv (m n:Nat)(A:qA)(cap:Nat)(xs:List Nb)(b N T i j:Nat)(v:Fv3)(w:World)(Y:Glob w)(U:Blk 97 w N #[.int .i64 ((n:Nat):Int),.int .i64 ((n:Nat):Int),.slice A (n*n) cap])(V:Blk 3 w T #[.int .i64 ((b:Nat):Int)])(O:OwnD w m 109 3 A cap (n*n) (xs.flatMap nbC))(P:zY w xs)(E:xs.length=n*n)(S:∀ x∈xs,FvOk (nbV x))(hn:n≤32)(b0:8≤b)(c0:b≤1024)(hi:i<n)(M:j<n)(hv:Zf6 xs n b i j=some v) :
 yA 89 #[.int .i64 ((i:Nat):Int),.int .i64 ((j:Nat):Int),.pointer (some ⟨N,0,none⟩),.pointer (some ⟨T,0,none⟩)] w (aB v w):=by
 obtain⟨p,W,Z⟩:=vJ.1 hv
 refine zQ (Φ:=fun w=>(Blk 97 w N #[yI (n:Int), yI (n:Int),.slice A (n*n) cap]∧Blk 3 w T #[yI (b:Int)])) func89 rfl qK (fun w' hf=>⟨Blk.ext' U hf,Blk.ext' V hf⟩) ?_
 refine yY (xq 1 [(6,.p 6 0)] [yF 6 109 false none 0 0 0] ?_)
 refine yZ (zC ?_)
 refine fM 17 [0,0,0,7,0,0,0,127,0,511,1023,1023,4095,8191,16383,16383,65535] qK qK zN ?_
 refine xqj 7 (.agg #[yI (n:Int), yI (n:Int),.slice A (n*n) cap]) (fun w Q=>Za6 (t:=97) (x:=.tmp 2) (g:=N) (cs:=[yI (n:Int), yI (n:Int),.slice A (n*n) cap]) Q.1) ?_
 refine xqg 2 [yJ 8 (i:Int),yJ 9 (j:Int)] ?_
 obtain⟨x10,f⟩:∃ x,xs[i*n+j]! = x:=⟨_,rfl⟩
 have u:FvOk (nbV x10):=by rw[←f];exact S _ (xR (by rw[E];exact (gidx hi M)))
 have K:NbOk w x10:=by rw[←f];exact P _ (xR (by rw[E];exact (gidx hi M)))
 refine xqd 81 [.agg #[yI (n:Int), yI (n:Int),.slice A (n*n) cap], yI (i:Int), yI (j:Int)] 10 (fun _:Unit=>.agg #[.bool x10.s,.slice x10.A x10.l x10.c, yI x10.e]) _ (fun w R Q=>yN ((show Calls _ _ _ _ (RetV _ (yV x10.s x10.A x10.l x10.c x10.e)) by rw[←f];exact dJ m n n A cap (n*n) xs i j _ (OwnD.ext O R) E qO qO (gidx hi M) (by have:=uZ (show n≤32 by omega) (show n≤32 by omega);omega)))) fun X=>?_
 refine xqj 11 (.agg #[yI (n:Int), yI (n:Int),.slice A (n*n) cap]) (fun w Q=>Za6 (t:=97) (x:=.tmp 2) (g:=N) (cs:=[yI (n:Int), yI (n:Int),.slice A (n*n) cap]) Q.1) ?_
 refine xqg 2 [yJ 12 (j:Int),yJ 13 (i:Int)] ?_
 obtain⟨x11,k⟩:∃ x,xs[j*n+i]! = x:=⟨_,rfl⟩
 have y:FvOk (nbV x11):=by rw[←k];exact S _ (xR (by rw[E];exact (gidx M hi)))
 have L:NbOk w x11:=by rw[←k];exact P _ (xR (by rw[E];exact (gidx M hi)))
 refine xqd 81 [.agg #[yI (n:Int), yI (n:Int),.slice A (n*n) cap], yI (j:Int), yI (i:Int)] 14 (fun _:Unit=>.agg #[.bool x11.s,.slice x11.A x11.l x11.c, yI x11.e]) _ (fun w R Q=>yN ((show Calls _ _ _ _ (RetV _ (yV x11.s x11.A x11.l x11.c x11.e)) by rw[←k];exact dJ m n n A cap (n*n) xs j i _ (OwnD.ext O R) E qO qO (gidx M hi) (by have:=uZ (show n≤32 by omega) (show n≤32 by omega);omega)))) fun X=>?_
 refine xqj 15 (yI (b:Int)) (fun w Q=>xG (t:=3) (x:=.tmp 3) (g:=T) (off:=0) (Blk.news Q.2 0 _ rfl)) ?_
 obtain⟨d,o⟩:=yE (addV (nbV x10) (nbV x11) b)
 have I:d.err=0:=by rw[←o];exact (wW (by rw[←f,← k];exact W)).1
 have D:FvOk (fvR d):=by rw[←o];exact cL qO qO (by rw[o];exact I)
 refine xqd 91 [yV x10.s x10.A x10.l x10.c x10.e, yV x11.s x11.A x11.l x11.c x11.e, yI (b:Int)] 16 (fun q:ShN=>.tuple #[yV d.s q.1 q.2.1 q.2.2 d.e, yI 0]) _ (fun w R Q=>((show Calls _ _ _ _ (xJ w d) by rw[←o];exact Zax x10.s x10.A x10.l x10.c x10.m x10.e x11.s x11.A x11.l x11.c x11.m x11.e b qO qO _ (Y.ext R) (zD.ext K R) u.wl u.lo u.hi (zD.ext L R) y.wl y.lo y.hi)).mono (fun _ _ h=>fS I h)) fun⟨F,G,H⟩=>?_
 refine xqg 2 [(17,.v (yV d.s F G H d.e)),yJ 18 0] ?_
 refine xqd 90 [yV d.s F G H d.e, yI 0] 19 (fun _:Unit=>.agg #[.bool d.s,.slice F G H, yI d.e]) _ (fun w R Q=>yN (fR d.s F G H d.e _)) fun X=>?_
 obtain⟨a,r⟩:=yE (shV (fvR d) (-1))
 have J:a.err=0:=by rw[←r];exact (wW (by rw[←o,← f,← k,← (wW W).2];exact Z)).1
 have a0:FvOk (fvR a):=by rw[←r];exact Zle D (by rw[r];exact J)
 refine xqd 92 [yV d.s F G H d.e, yI (-1)] 20 (fun q:ShN=>.tuple #[yV a.s q.1 q.2.1 q.2.2 a.e, yI 0]) _ (fun w R Q=>((show Calls _ _ _ _ (xJ w a) by rw[←r];exact ZhI d.s F G H d.m d.e (-1) _ (Y.ext R) Q.1.2 D.wl D.lo D.hi)).mono (fun _ _ h=>fS J h)) fun⟨z,B,C⟩=>?_
 refine xqg 2 [(21,.v (yV a.s z B C a.e)),yJ 22 0] ?_
 refine xqd 90 [yV a.s z B C a.e, yI 0] 23 (fun _:Unit=>.agg #[.bool a.s,.slice z B C, yI a.e]) _ (fun w R Q=>yN (fR a.s z B C a.e _)) fun X=>?_
 refine xz (xq 1 [] [yF 6 109 a.s z B C a.e] ?_)
 refine yZ (zG ?_)
 refine yR (yV a.s z B C a.e) fun w' R Q=>?_
 exact⟨(⟨a.s,z,B,C,a.m,a.e⟩:Nb),rfl,by rw[(wW Z).2,(wW W).2,f,k,o,r];rfl,Q.1.2,R⟩
theorem ZmH (m r c d:Nat)(A B:qA)(cap a:Nat)(xs ys:List Nb)(b u C D i j:Nat)(v:Fv3)(w:World)(hg:Glob w)(O:Blk 97 w u #[.int .i64 ((r:Nat):Int),.int .i64 ((c:Nat):Int),.slice A (r*c) cap])(P:Blk 97 w C #[.int .i64 ((c:Nat):Int),.int .i64 ((d:Nat):Int),.slice B (c*d) a])(S:Blk 3 w D #[.int .i64 ((b:Nat):Int)])(T:OwnD w m 109 3 A cap (r*c) (xs.flatMap nbC))(U:zY w xs)(F:xs.length=r*c)(V:∀ x∈xs,FvOk (nbV x))(W:OwnD w m 109 3 B a (c*d) (ys.flatMap nbC))(X:zY w ys)(G:ys.length=c*d)(Y:∀ x∈ys,FvOk (nbV x))(hr:r≤32)(hc:c≤32)(hd:d≤32)(Z:8≤b)(a0:b≤1024)(hi:i<r)(hj:j<d)(hv:dtK b (fun q=>nbV xs[i*c+q]!) (fun q=>nbV ys[q*d+j]!) c 0 (false,0,0)=some v) :
 yA 87 #[.int .i64 ((i:Nat):Int),.int .i64 ((j:Nat):Int),.pointer (some ⟨u,0,none⟩),.pointer (some ⟨C,0,none⟩),.pointer (some ⟨D,0,none⟩)] w (aB v w):=by
 refine zQ (Φ:=fun w=>((Blk 97 w u #[yI (r:Int), yI (c:Int),.slice A (r*c) cap]∧Blk 97 w C #[yI (c:Int), yI (d:Int),.slice B (c*d) a])∧Blk 3 w D #[yI (b:Int)])) func87 rfl qK (fun w' hf=>⟨⟨Blk.ext' O hf,Blk.ext' P hf⟩,Blk.ext' S hf⟩) ?_
 refine yY (xq 1 [(7,.p 7 0)] [yF 7 109 false none 0 0 0] ?_)
 refine yZ (yY (xq 1 [(8,.p 8 0)] [yF 8 109 false none 0 0 0] ?_))
 refine yZ (zC (yY (xq 1 [(10,.v (.pointer (some ⟨u,0+1,none⟩)))] [] ?_)))
 refine xqk 11 (yI (c:Int)) (fun w R Q=>xG (t:=3) (x:=.tmp 10) (g:=u) (off:=0+1) (Blk.news Q.1.1 1 _ rfl)) ?_
 refine xq 1 [yJ 12 0] [] ?_
 refine yZ (zO ?_)
 refine yC [yJ 0 (i:Int),yJ 1 (j:Int),(2,.v (.pointer (yL u))),(3,.v (.pointer (yL C))),(4,.v (.pointer (yL D))),(7,.p 7 0),(8,.p 8 0),yJ 11 (c:Int),yJ 12 ((0:Nat):Int)] [yF 8 109 nb0.s nb0.A nb0.l nb0.c nb0.e,yF 7 109 false none 0 0 0] (fun w=>(((Blk 97 w u #[yI (r:Int), yI (c:Int),.slice A (r*c) cap]∧Blk 97 w C #[yI (c:Int), yI (d:Int),.slice B (c*d) a])∧Blk 3 w D #[yI (b:Int)])∧NbOk w nb0)) (fun w Q=>⟨⟨⟨Q.1.1,Q.1.2⟩,Q.2⟩,(ZkL _)⟩) ?_
 refine xQ (fun nn ss ff=>∃ (k:Nat) (t:Nb),ss=ofL [yJ 0 (i:Int),yJ 1 (j:Int),(2,.v (.pointer (yL u))),(3,.v (.pointer (yL C))),(4,.v (.pointer (yL D))),(7,.p 7 0),(8,.p 8 0),yJ 11 (c:Int),yJ 12 (k:Int)] [yF 8 109 t.s t.A t.l t.c t.e,yF 7 109 false none 0 0 0]∧ff=(fun w=>(((Blk 97 w u #[yI (r:Int), yI (c:Int),.slice A (r*c) cap]∧Blk 97 w C #[yI (c:Int), yI (d:Int),.slice B (c*d) a])∧Blk 3 w D #[yI (b:Int)])∧NbOk w t))∧(k≤c)∧(FvOk (nbV t))∧(dtK b (fun q=>nbV xs[i*c+q]!) (fun q=>nbV ys[q*d+j]!) (c-k) k (nbV t)=some v)∧nn=(1+(c-k))) ((1+(c-0))) ⟨0,nb0,rfl,rfl,(vK _),Zbf,(by rw[Nat.sub_zero];exact hv),rfl⟩ ?_
 rintro nn ss ff ⟨k,t,rfl,rfl,hk,L,hK,rfl⟩
 refine yY (xq 1 [yB 13 (decide ((k:Int)<(c:Int)))] [] ?_)
 refine yZ (zC ?_)
 refine yQ ((decide ((k:Int)<(c:Int)))) (fun y=>?_) fun y=>?_
 ·have h:k<c:=by have:=uA y;omega
  obtain⟨v1,M,b0⟩:=ZmE h hK
  refine zJ (zA (zC (zO (yY (xq 2 [yJ 9 (k:Int)] [] ?_)))))
  refine xe (zA ?_)
  refine yO 11 zN ?_
  refine xqg 1 [(15,.v (yV t.s t.A t.l t.c t.e))] ?_
  refine xqj 16 (.agg #[yI (r:Int), yI (c:Int),.slice A (r*c) cap]) (fun w Q=>Za6 (t:=97) (x:=.tmp 2) (g:=u) (cs:=[yI (r:Int), yI (c:Int),.slice A (r*c) cap]) Q.1.1.1) ?_
  refine xqg 2 [yJ 17 (i:Int),yJ 18 (k:Int)] ?_
  obtain⟨x11,n⟩:∃ x,xs[i*c+k]! = x:=⟨_,rfl⟩
  have H:FvOk (nbV x11):=by rw[←n];exact V _ (xR (by rw[F];exact (gidx hi h)))
  have I:NbOk w x11:=by rw[←n];exact U _ (xR (by rw[F];exact (gidx hi h)))
  refine xqd 81 [.agg #[yI (r:Int), yI (c:Int),.slice A (r*c) cap], yI (i:Int), yI (k:Int)] 19 (fun _:Unit=>.agg #[.bool x11.s,.slice x11.A x11.l x11.c, yI x11.e]) _ (fun w R Q=>yN ((show Calls _ _ _ _ (RetV _ (yV x11.s x11.A x11.l x11.c x11.e)) by rw[←n];exact dJ m r c A cap (r*c) xs i k _ (OwnD.ext T R) F qO qO (gidx hi h) (by have:=uZ (show r≤32 by omega) (show c≤32 by omega);omega)))) fun xx=>?_
  refine xqj 20 (.agg #[yI (c:Int), yI (d:Int),.slice B (c*d) a]) (fun w Q=>Za6 (t:=97) (x:=.tmp 3) (g:=C) (cs:=[yI (c:Int), yI (d:Int),.slice B (c*d) a]) Q.1.1.2) ?_
  refine xqg 2 [yJ 21 (k:Int),yJ 22 (j:Int)] ?_
  obtain⟨x12,o⟩:∃ x,ys[k*d+j]! = x:=⟨_,rfl⟩
  have J:FvOk (nbV x12):=by rw[←o];exact Y _ (xR (by rw[G];exact (gidx h hj)))
  have K:NbOk w x12:=by rw[←o];exact X _ (xR (by rw[G];exact (gidx h hj)))
  refine xqd 81 [.agg #[yI (c:Int), yI (d:Int),.slice B (c*d) a], yI (k:Int), yI (j:Int)] 23 (fun _:Unit=>.agg #[.bool x12.s,.slice x12.A x12.l x12.c, yI x12.e]) _ (fun w R Q=>yN ((show Calls _ _ _ _ (RetV _ (yV x12.s x12.A x12.l x12.c x12.e)) by rw[←o];exact dJ m c d B a (c*d) ys k j _ (OwnD.ext W R) G qO qO (gidx h hj) (by have:=uZ (show c≤32 by omega) (show d≤32 by omega);omega)))) fun xx=>?_
  refine xqj 24 (yI (b:Int)) (fun w Q=>xG (t:=3) (x:=.tmp 4) (g:=D) (off:=0) (Blk.news Q.1.2 0 _ rfl)) ?_
  have N:eA (nbV t) (nbV x11) (nbV x12) b=some v1:=by rw[←n,← o];exact M
  refine xqd 88 [yV t.s t.A t.l t.c t.e, yV x11.s x11.A x11.l x11.c x11.e, yV x12.s x12.A x12.l x12.c x12.e, yI (b:Int)] 25 (fun z:{z:Nb // nbV z=v1}=>.agg #[.bool z.1.s,.slice z.1.A z.1.l z.1.c, yI z.1.e]) _ (fun w R Q=>yM Zc0 (ZmG t x11 x12 b v1 _ (hg.ext R) Q.1.1.2 (zD.ext I R) (zD.ext K R) L H J Z a0 N)) fun⟨f,E⟩=>?_
  refine xz (xq 1 [] [yF 8 109 f.s f.A f.l f.c f.e] ?_)
  refine xe (xN (zA (zB (xq 1 [yJ 26 (IntKind.i64.wrap ((k:Int)+1))] [] ?_))))
  rw[yW ((k:Int)+1) (((k+1:Nat):Int)) qO]
  refine xq 1 [yJ 12 ((k+1:Nat):Int)] [] ?_
  refine xe ?_
  refine yP [yJ 0 (i:Int),yJ 1 (j:Int),(2,.v (.pointer (yL u))),(3,.v (.pointer (yL C))),(4,.v (.pointer (yL D))),(7,.p 7 0),(8,.p 8 0),yJ 11 (c:Int),yJ 12 (((k+1):Nat):Int)] [yF 8 109 f.s f.A f.l f.c f.e,yF 7 109 false none 0 0 0] (fun w=>(((Blk 97 w u #[yI (r:Int), yI (c:Int),.slice A (r*c) cap]∧Blk 97 w C #[yI (c:Int), yI (d:Int),.slice B (c*d) a])∧Blk 3 w D #[yI (b:Int)])∧NbOk w f)) (fun w Q=>⟨⟨⟨Q.1.1.1.1.1.1,Q.1.1.1.1.1.2⟩,Q.1.1.1.1.2⟩,Q.2⟩) ?_
  exact xE ((1+(c-(k+1)))) qO ⟨(k+1),f,rfl,rfl,h,(by rw[E];exact ZmF L qO qO M),(by rw[E];exact b0),rfl⟩
 have c0:k=c:=by have:=uB y;omega
 refine xL (zH (zH (xT (zA (yY (xq 2 [] [yF 7 109 t.s t.A t.l t.c t.e] ?_))))))
 refine yZ (zG ?_)
 refine yR (yV t.s t.A t.l t.c t.e) fun w' R Q=>?_
 exact⟨t,rfl,by rw[c0,sX] at hK;injection hK,Q.2,R⟩
theorem ZiN {α:Type}[Inhabited α]{l:List α}{i a:Nat}{x:α}(ha:a<l.length):(l.set i x)[a]! = if i=a then x else l[a]! := by
 rw[tI _ a (by rw[sS];exact ha),List.getElem_set,tI l a ha]
def PG (r c:Nat) (ys:List Nb) (V:Nat→Nat→Fv3) (i j:Nat):Prop:=ys.length=r*c∧∀ a b,a<r→b<c→(a<i∨(a=i∧b<j))→nbV ys[a*c+b]! = V a b
theorem PG.start {r c:Nat}{V:Nat→Nat→Fv3}:PG r c (List.replicate (r*c) nb0) V 0 0:=⟨qS,fun a b _ _ h=>qO⟩
theorem PG.next {r c i:Nat}{ys:List Nb}{V:Nat→Nat→Fv3}(h:PG r c ys V i c):PG r c ys V (i+1) 0:=⟨h.1,fun a b d e f=>h.2 a b d e qO⟩
theorem PG.set {r c i j:Nat}{ys:List Nb}{V:Nat→Nat→Fv3}{z:Nb}(h:PG r c ys V i j)(hi:i<r)(o:j<c)(n:nbV z=V i j):PG r c (ys.set (i*c+j) z) V i (j+1):=by
 refine⟨by rw[sS];exact h.1,fun a b l m f=>?_⟩
 rw[ZiN (by rw[h.1];exact gidx l m)]
 by_cases e:i*c+j=a*c+b
 ·rw[uS e]
  have g:a=i:=by
   rcases f with d|d
   ·have:=uE c (show a+1≤i by omega)
    rw[sZ] at this
    omega
   exact d.1
  subst g
  have k:b=j:=qO
  subst k
  exact n
 rw[uL e]
 refine h.2 a b l m ?_
 rcases f with d|⟨d,p⟩
 ·exact Or.inl d
 refine Or.inr ⟨d,?_⟩
 subst d
 omega
theorem PG.fin {r c:Nat}{ys:List Nb}{V:Nat→Nat→Fv3}(h:PG r c ys V r 0):ys.map nbV=zZ r c V:=ZaF (by rw[uR];exact h.1) (fun i j hi a=>by
 have b:i*c+j<ys.length:=by rw[h.1];exact gidx hi a
 rw[tI _ _ (by rw[uR];exact b),List.getElem_map,← tI ys _ b]
 exact h.2 i j hi a qO)
theorem ZjS (r c q n o u y:Nat)(V:Nat→Nat→Fv3)(w:World)(T:Blk 3 w q #[.int .i64 ((r:Nat):Int)])(U:Blk 3 w n #[.int .i64 ((c:Nat):Int)])(W:Blk 130 w o #[.func (.func 89) #[] #[.pointer (some ⟨u,0,none⟩),.pointer (some ⟨y,0,none⟩)]])(X:r≤32)(Y:c≤32)(N:∀ (i j:Nat) (w1:World),i<r→j<c→Ext w w1→yA 89 #[.int .i64 ((i:Nat):Int),.int .i64 ((j:Nat):Int),.pointer (some ⟨u,0,none⟩),.pointer (some ⟨y,0,none⟩)] w1 (aB (V i j) w1)) :
 yA 131 #[.pointer (some ⟨q,0,none⟩),.pointer (some ⟨n,0,none⟩),.pointer (some ⟨o,0,none⟩)] w (gB (fun v=>v) r c (zZ r c V) w):=by
 obtain⟨m0,G⟩:∃ m,m=w.heap.size:=⟨_,rfl⟩
 have Z:r*c≤32*32:=uZ X Y
 have l0:=Blk.lt T
 have l1:=Blk.lt U
 have l2:=Blk.lt W
 refine zQ (Φ:=fun w=>((Blk 3 w q #[yI (r:Int)]∧Blk 3 w n #[yI (c:Int)])∧Blk 130 w o #[.func (.func 89) #[] #[.pointer (yL u),.pointer (yL y)]])) func131 rfl qK (fun w' O=>⟨⟨Blk.ext' T O,Blk.ext' U O⟩,Blk.ext' W O⟩) ?_
 refine yY (xq 1 [(3,.p 3 0)] [(3,97,[.v (yI 0),.v (yI 0),.v (.slice none 0 0)])] ?_)
 refine yZ (zC (zB ?_))
 refine xqk 7 (yI (r:Int)) (fun w R Q=>xG (t:=3) (x:=.tmp 0) (g:=q) (off:=0) (Blk.news Q.1.1 0 _ rfl)) ?_
 refine xqk 8 (yI (c:Int)) (fun w R Q=>xG (t:=3) (x:=.tmp 1) (g:=n) (off:=0) (Blk.news Q.1.2 0 _ rfl)) ?_
 refine xqc 80 [yI (r:Int), yI (c:Int)] 9 (fun b:{b:Nat // m0≤b}=>.agg #[yI (r:Int), yI (c:Int),.slice (yL b.1) (r*c) (r*c)]) _ (fun w R Q=>(ZaG r c _ qO qO).mono (fun _ _ h=>ZaH (m0:=m0) (G ▸ R.size) rfl h)) fun⟨a,H⟩=>?_
 refine xq 2 [(4,.p 4 0)] [(4,97,[.v (yI (r:Int)),.v (yI (c:Int)),.v (.slice (yL a) (r*c) (r*c))])] ?_
 refine yZ (zC (zC (zB ?_)))
 refine xqk 10 (yI (r:Int)) (fun w R Q=>xG (t:=3) (x:=.tmp 0) (g:=q) (off:=0) (Blk.news Q.1.1.1 0 _ rfl)) ?_
 refine xq 1 [yJ 11 0] [] ?_
 refine yZ (zO ?_)
 refine yC [(1,.v (.pointer (yL n))),(2,.v (.pointer (yL o))),(3,.p 3 0),(4,.p 4 0),yJ 10 (r:Int),yJ 11 ((0:Nat):Int)] [(4,97,[.v (yI (r:Int)),.v (yI (c:Int)),.v (.slice (yL a) (r*c) (r*c))]),(3,97,[.v (yI 0),.v (yI 0),.v (.slice none 0 0)])] (fun w=>((((Blk 3 w q #[yI (r:Int)]∧Blk 3 w n #[yI (c:Int)])∧Blk 130 w o #[.func (.func 89) #[] #[.pointer (yL u),.pointer (yL y)]])∧zY w (List.replicate (r*c) nb0))∧OwnD w m0 109 3 (yL a) (r*c) (r*c) ((List.replicate (r*c) nb0).flatMap nbC))) (fun w Q=>⟨⟨⟨⟨Q.1.1.1,Q.1.1.2⟩,Q.1.2⟩,(zY.zero _ _)⟩,(by exact Q.2)⟩) ?_
 refine xQ (fun I J K=>∃ (i:Nat) (f:List Nb),J=ofL [(1,.v (.pointer (yL n))),(2,.v (.pointer (yL o))),(3,.p 3 0),(4,.p 4 0),yJ 10 (r:Int),yJ 11 (i:Int)] [(4,97,[.v (yI (r:Int)),.v (yI (c:Int)),.v (.slice (yL a) (r*c) (r*c))]),(3,97,[.v (yI 0),.v (yI 0),.v (.slice none 0 0)])]∧K=(fun w=>((((Blk 3 w q #[yI (r:Int)]∧Blk 3 w n #[yI (c:Int)])∧Blk 130 w o #[.func (.func 89) #[] #[.pointer (yL u),.pointer (yL y)]])∧zY w f)∧OwnD w m0 109 3 (yL a) (r*c) (r*c) (f.flatMap nbC)))∧(i≤r)∧(PG r c f V i 0)∧I=(1+(r-i))) ((1+(r-0))) ⟨0,(List.replicate (r*c) nb0),rfl,rfl,(vK _),PG.start,rfl⟩ ?_
 rintro I J K ⟨i,f,rfl,rfl,hi,F,rfl⟩
 refine yY (xq 1 [yB 12 (decide ((i:Int)<(r:Int)))] [] ?_)
 refine yZ (zC ?_)
 refine yQ ((decide ((i:Int)<(r:Int)))) (fun B=>?_) fun B=>?_
 ·have C:i<r:=by have:=uA B;omega
  refine zJ (zA (zC (zO (yY (xq 2 [yJ 5 (i:Int)] [] ?_)))))
  refine yZ (zC (zB ?_))
  refine xqk 14 (yI (c:Int)) (fun w R Q=>xG (t:=3) (x:=.tmp 1) (g:=n) (off:=0) (Blk.news Q.1.1.1.2 0 _ rfl)) ?_
  refine xq 1 [yJ 15 0] [] ?_
  refine yZ (zO ?_)
  refine yC [(1,.v (.pointer (yL n))),(2,.v (.pointer (yL o))),(3,.p 3 0),(4,.p 4 0),yJ 5 (i:Int),yJ 10 (r:Int),yJ 11 (i:Int),yJ 14 (c:Int),yJ 15 ((0:Nat):Int)] [(4,97,[.v (yI (r:Int)),.v (yI (c:Int)),.v (.slice (yL a) (r*c) (r*c))]),(3,97,[.v (yI 0),.v (yI 0),.v (.slice none 0 0)])] (fun w=>((((Blk 3 w q #[yI (r:Int)]∧Blk 3 w n #[yI (c:Int)])∧Blk 130 w o #[.func (.func 89) #[] #[.pointer (yL u),.pointer (yL y)]])∧zY w f)∧OwnD w m0 109 3 (yL a) (r*c) (r*c) (f.flatMap nbC))) (fun w Q=>⟨⟨⟨⟨Q.1.1.1.1,Q.1.1.1.2⟩,Q.1.1.2⟩,Q.1.2⟩,Q.2⟩) ?_
  refine xQ (fun I J K=>∃ (j:Nat) (f:List Nb),J=ofL [(1,.v (.pointer (yL n))),(2,.v (.pointer (yL o))),(3,.p 3 0),(4,.p 4 0),yJ 5 (i:Int),yJ 10 (r:Int),yJ 11 (i:Int),yJ 14 (c:Int),yJ 15 (j:Int)] [(4,97,[.v (yI (r:Int)),.v (yI (c:Int)),.v (.slice (yL a) (r*c) (r*c))]),(3,97,[.v (yI 0),.v (yI 0),.v (.slice none 0 0)])]∧K=(fun w=>((((Blk 3 w q #[yI (r:Int)]∧Blk 3 w n #[yI (c:Int)])∧Blk 130 w o #[.func (.func 89) #[] #[.pointer (yL u),.pointer (yL y)]])∧zY w f)∧OwnD w m0 109 3 (yL a) (r*c) (r*c) (f.flatMap nbC)))∧(j≤c)∧(PG r c f V i j)∧I=(1+(c-j))) ((1+(c-0))) ⟨0,f,rfl,rfl,(vK _),F,rfl⟩ ?_
  rintro I J K ⟨j,f,rfl,rfl,hj,F,rfl⟩
  refine yY (xq 1 [yB 16 (decide ((j:Int)<(c:Int)))] [] ?_)
  refine yZ (zC ?_)
  refine yQ ((decide ((j:Int)<(c:Int)))) (fun D=>?_) fun D=>?_
  ·have E:j<c:=by have:=uA D;omega
   refine zJ (zA (zC (zO (yY (xq 2 [yJ 6 (j:Int)] [] ?_)))))
   refine xe (zA ?_)
   refine yO 7 zN ?_
   refine xqg 3 [(18,.v (.agg #[yI (r:Int), yI (c:Int),.slice (yL a) (r*c) (r*c)])),yJ 19 (i:Int),yJ 20 (j:Int)] ?_
   refine xqj 21 (.func (.func 89) #[] #[.pointer (yL u),.pointer (yL y)]) (fun w Q=>xG (t:=130) (x:=.tmp 2) (g:=o) (off:=0) (Blk.news Q.1.1.2 0 _ rfl)) ?_
   refine xqg 2 [yJ 22 (i:Int),yJ 23 (j:Int)] ?_
   refine xqd 89 [yI (i:Int), yI (j:Int),.pointer (yL u),.pointer (yL y)] 24 (fun z:{z:Nb // nbV z=V i j}=>.agg #[.bool z.1.s,.slice z.1.A z.1.l z.1.c, yI z.1.e]) _ (fun w R Q=>yM Zc0 (N i j _ C E R)) fun⟨k,L⟩=>?_
   refine xz ?_
   refine iX (b:=a) (d:=25) (j:=0) (c:=.bool f[0]!.s) 83 [.agg #[yI (r:Int), yI (c:Int),.slice (yL a) (r*c) (r*c)], yI (i:Int), yI (j:Int), yV k.s k.A k.l k.c k.e] (fun _:Unit=>.tuple #[]) (fun w=>(((Blk 3 w q #[yI (r:Int)]∧Blk 3 w n #[yI (c:Int)])∧Blk 130 w o #[.func (.func 89) #[] #[.pointer (yL u),.pointer (yL y)]])∧zY w (f.set (i*c+j) k))) (fun _ w=>OwnD w m0 109 3 (yL a) (r*c) (r*c) ((f.set (i*c+j) k).flatMap nbC)) (fun w Q=>ZaI Q.1.2 (by rw[F.1];have:=(gidx C E);omega)) (Or.inl (G ▸ H)) (fun w R Q=>yM ZbV (ZbT m0 r c a (r*c) (r*c) f i j k _ Q.1.2 F.1 qO qO (gidx C E) qO)) (fun w w' R Q M=>⟨⟨⟨Blk.fr Q.1.1.1.1.1 M (fun h=>by have h:q=a:=h;omega),Blk.fr Q.1.1.1.1.2 M (fun h=>by have h:n=a:=h;omega)⟩,Blk.fr Q.1.1.1.2 M (fun h=>by have h:o=a:=h;omega)⟩,zY.set (zY.nrb Q.1.1.2 (fun i e=>by subst e;exact OwnD.nrb Q.1.2 rfl) M) (zD.nrb Q.2 (fun i e=>by subst e;exact OwnD.nrb Q.1.2 rfl) M)⟩) fun _=>?_
   refine xr 0 [(1,.v (.pointer (yL n))),(2,.v (.pointer (yL o))),(3,.p 3 0),(4,.p 4 0),yJ 5 (i:Int),yJ 10 (r:Int),yJ 11 (i:Int),yJ 14 (c:Int),yJ 15 (j:Int)] [(4,97,[.v (yI (r:Int)),.v (yI (c:Int)),.v (.slice (yL a) (r*c) (r*c))]),(3,97,[.v (yI 0),.v (yI 0),.v (.slice none 0 0)])] ?_
   refine xe (xN (zA (zB (xq 1 [yJ 26 (IntKind.i64.wrap ((j:Int)+1))] [] ?_))))
   rw[yW ((j:Int)+1) (((j+1:Nat):Int)) qO]
   refine xq 1 [yJ 15 ((j+1:Nat):Int)] [] ?_
   refine xe ?_
   refine yP [(1,.v (.pointer (yL n))),(2,.v (.pointer (yL o))),(3,.p 3 0),(4,.p 4 0),yJ 5 (i:Int),yJ 10 (r:Int),yJ 11 (i:Int),yJ 14 (c:Int),yJ 15 (((j+1):Nat):Int)] [(4,97,[.v (yI (r:Int)),.v (yI (c:Int)),.v (.slice (yL a) (r*c) (r*c))]),(3,97,[.v (yI 0),.v (yI 0),.v (.slice none 0 0)])] (fun w=>((((Blk 3 w q #[yI (r:Int)]∧Blk 3 w n #[yI (c:Int)])∧Blk 130 w o #[.func (.func 89) #[] #[.pointer (yL u),.pointer (yL y)]])∧zY w (f.set (i*c+j) k))∧OwnD w m0 109 3 (yL a) (r*c) (r*c) ((f.set (i*c+j) k).flatMap nbC))) (fun w Q=>⟨⟨⟨⟨Q.1.1.1.1,Q.1.1.1.2⟩,Q.1.1.2⟩,Q.1.2⟩,Q.2⟩) ?_
   exact xE ((1+(c-(j+1)))) qO ⟨(j+1),(f.set (i*c+j) k),rfl,rfl,E,(PG.set F C E L),rfl⟩
  have P:j=c:=by have:=uB D;omega
  refine xL (zH (zH (xT (xN (zA (zB (xq 1 [yJ 27 (IntKind.i64.wrap ((i:Int)+1))] [] ?_)))))))
  rw[yW ((i:Int)+1) (((i+1:Nat):Int)) qO]
  refine xq 1 [yJ 11 ((i+1:Nat):Int)] [] ?_
  refine xe ?_
  refine yP [(1,.v (.pointer (yL n))),(2,.v (.pointer (yL o))),(3,.p 3 0),(4,.p 4 0),yJ 10 (r:Int),yJ 11 (((i+1):Nat):Int)] [(4,97,[.v (yI (r:Int)),.v (yI (c:Int)),.v (.slice (yL a) (r*c) (r*c))]),(3,97,[.v (yI 0),.v (yI 0),.v (.slice none 0 0)])] (fun w=>((((Blk 3 w q #[yI (r:Int)]∧Blk 3 w n #[yI (c:Int)])∧Blk 130 w o #[.func (.func 89) #[] #[.pointer (yL u),.pointer (yL y)]])∧zY w f)∧OwnD w m0 109 3 (yL a) (r*c) (r*c) (f.flatMap nbC))) (fun w Q=>⟨⟨⟨⟨Q.1.1.1.1,Q.1.1.1.2⟩,Q.1.1.2⟩,Q.1.2⟩,Q.2⟩) ?_
  exact xE ((1+(r-(i+1)))) qO ⟨(i+1),f,rfl,rfl,C,(PG.next (P ▸ F)),rfl⟩
 have S:i=r:=by have:=uB B;omega
 refine xL (zH (zH (xT (zA (yY (xq 2 [] [(3,97,[.v (yI (r:Int)),.v (yI (c:Int)),.v (.slice (yL a) (r*c) (r*c))])] ?_))))))
 refine yZ (zG ?_)
 refine yR (.agg #[yI (r:Int), yI (c:Int),.slice (yL a) (r*c) (r*c)]) fun w' R Q=>?_
 exact⟨a,f,by rw[F.1],PG.fin (S ▸ F),by rw[F.1];exact G ▸ Q.2,Q.1.2,R⟩
theorem ZjT (r c q n o u y B:Nat)(V:Nat→Nat→Fv3)(w:World)(U:Blk 3 w q #[.int .i64 ((r:Nat):Int)])(W:Blk 3 w n #[.int .i64 ((c:Nat):Int)])(X:Blk 130 w o #[.func (.func 87) #[] #[.pointer (some ⟨u,0,none⟩),.pointer (some ⟨y,0,none⟩),.pointer (some ⟨B,0,none⟩)]])(Y:r≤32)(Z:c≤32)(O:∀ (i j:Nat) (w1:World),i<r→j<c→Ext w w1→yA 87 #[.int .i64 ((i:Nat):Int),.int .i64 ((j:Nat):Int),.pointer (some ⟨u,0,none⟩),.pointer (some ⟨y,0,none⟩),.pointer (some ⟨B,0,none⟩)] w1 (aB (V i j) w1)) :
 yA 131 #[.pointer (some ⟨q,0,none⟩),.pointer (some ⟨n,0,none⟩),.pointer (some ⟨o,0,none⟩)] w (gB (fun v=>v) r c (zZ r c V) w):=by
 obtain⟨m0,H⟩:∃ m,m=w.heap.size:=⟨_,rfl⟩
 have a0:r*c≤32*32:=uZ Y Z
 have l0:=Blk.lt U
 have l1:=Blk.lt W
 have l2:=Blk.lt X
 refine zQ (Φ:=fun w=>((Blk 3 w q #[yI (r:Int)]∧Blk 3 w n #[yI (c:Int)])∧Blk 130 w o #[.func (.func 87) #[] #[.pointer (yL u),.pointer (yL y),.pointer (yL B)]])) func131 rfl qK (fun w' P=>⟨⟨Blk.ext' U P,Blk.ext' W P⟩,Blk.ext' X P⟩) ?_
 refine yY (xq 1 [(3,.p 3 0)] [(3,97,[.v (yI 0),.v (yI 0),.v (.slice none 0 0)])] ?_)
 refine yZ (zC (zB ?_))
 refine xqk 7 (yI (r:Int)) (fun w R Q=>xG (t:=3) (x:=.tmp 0) (g:=q) (off:=0) (Blk.news Q.1.1 0 _ rfl)) ?_
 refine xqk 8 (yI (c:Int)) (fun w R Q=>xG (t:=3) (x:=.tmp 1) (g:=n) (off:=0) (Blk.news Q.1.2 0 _ rfl)) ?_
 refine xqc 80 [yI (r:Int), yI (c:Int)] 9 (fun b:{b:Nat // m0≤b}=>.agg #[yI (r:Int), yI (c:Int),.slice (yL b.1) (r*c) (r*c)]) _ (fun w R Q=>(ZaG r c _ qO qO).mono (fun _ _ h=>ZaH (m0:=m0) (H ▸ R.size) rfl h)) fun⟨a,I⟩=>?_
 refine xq 2 [(4,.p 4 0)] [(4,97,[.v (yI (r:Int)),.v (yI (c:Int)),.v (.slice (yL a) (r*c) (r*c))])] ?_
 refine yZ (zC (zC (zB ?_)))
 refine xqk 10 (yI (r:Int)) (fun w R Q=>xG (t:=3) (x:=.tmp 0) (g:=q) (off:=0) (Blk.news Q.1.1.1 0 _ rfl)) ?_
 refine xq 1 [yJ 11 0] [] ?_
 refine yZ (zO ?_)
 refine yC [(1,.v (.pointer (yL n))),(2,.v (.pointer (yL o))),(3,.p 3 0),(4,.p 4 0),yJ 10 (r:Int),yJ 11 ((0:Nat):Int)] [(4,97,[.v (yI (r:Int)),.v (yI (c:Int)),.v (.slice (yL a) (r*c) (r*c))]),(3,97,[.v (yI 0),.v (yI 0),.v (.slice none 0 0)])] (fun w=>((((Blk 3 w q #[yI (r:Int)]∧Blk 3 w n #[yI (c:Int)])∧Blk 130 w o #[.func (.func 87) #[] #[.pointer (yL u),.pointer (yL y),.pointer (yL B)]])∧zY w (List.replicate (r*c) nb0))∧OwnD w m0 109 3 (yL a) (r*c) (r*c) ((List.replicate (r*c) nb0).flatMap nbC))) (fun w Q=>⟨⟨⟨⟨Q.1.1.1,Q.1.1.2⟩,Q.1.2⟩,(zY.zero _ _)⟩,(by exact Q.2)⟩) ?_
 refine xQ (fun J K L=>∃ (i:Nat) (f:List Nb),K=ofL [(1,.v (.pointer (yL n))),(2,.v (.pointer (yL o))),(3,.p 3 0),(4,.p 4 0),yJ 10 (r:Int),yJ 11 (i:Int)] [(4,97,[.v (yI (r:Int)),.v (yI (c:Int)),.v (.slice (yL a) (r*c) (r*c))]),(3,97,[.v (yI 0),.v (yI 0),.v (.slice none 0 0)])]∧L=(fun w=>((((Blk 3 w q #[yI (r:Int)]∧Blk 3 w n #[yI (c:Int)])∧Blk 130 w o #[.func (.func 87) #[] #[.pointer (yL u),.pointer (yL y),.pointer (yL B)]])∧zY w f)∧OwnD w m0 109 3 (yL a) (r*c) (r*c) (f.flatMap nbC)))∧(i≤r)∧(PG r c f V i 0)∧J=(1+(r-i))) ((1+(r-0))) ⟨0,(List.replicate (r*c) nb0),rfl,rfl,(vK _),PG.start,rfl⟩ ?_
 rintro J K L ⟨i,f,rfl,rfl,hi,G,rfl⟩
 refine yY (xq 1 [yB 12 (decide ((i:Int)<(r:Int)))] [] ?_)
 refine yZ (zC ?_)
 refine yQ ((decide ((i:Int)<(r:Int)))) (fun C=>?_) fun C=>?_
 ·have D:i<r:=by have:=uA C;omega
  refine zJ (zA (zC (zO (yY (xq 2 [yJ 5 (i:Int)] [] ?_)))))
  refine yZ (zC (zB ?_))
  refine xqk 14 (yI (c:Int)) (fun w R Q=>xG (t:=3) (x:=.tmp 1) (g:=n) (off:=0) (Blk.news Q.1.1.1.2 0 _ rfl)) ?_
  refine xq 1 [yJ 15 0] [] ?_
  refine yZ (zO ?_)
  refine yC [(1,.v (.pointer (yL n))),(2,.v (.pointer (yL o))),(3,.p 3 0),(4,.p 4 0),yJ 5 (i:Int),yJ 10 (r:Int),yJ 11 (i:Int),yJ 14 (c:Int),yJ 15 ((0:Nat):Int)] [(4,97,[.v (yI (r:Int)),.v (yI (c:Int)),.v (.slice (yL a) (r*c) (r*c))]),(3,97,[.v (yI 0),.v (yI 0),.v (.slice none 0 0)])] (fun w=>((((Blk 3 w q #[yI (r:Int)]∧Blk 3 w n #[yI (c:Int)])∧Blk 130 w o #[.func (.func 87) #[] #[.pointer (yL u),.pointer (yL y),.pointer (yL B)]])∧zY w f)∧OwnD w m0 109 3 (yL a) (r*c) (r*c) (f.flatMap nbC))) (fun w Q=>⟨⟨⟨⟨Q.1.1.1.1,Q.1.1.1.2⟩,Q.1.1.2⟩,Q.1.2⟩,Q.2⟩) ?_
  refine xQ (fun J K L=>∃ (j:Nat) (f:List Nb),K=ofL [(1,.v (.pointer (yL n))),(2,.v (.pointer (yL o))),(3,.p 3 0),(4,.p 4 0),yJ 5 (i:Int),yJ 10 (r:Int),yJ 11 (i:Int),yJ 14 (c:Int),yJ 15 (j:Int)] [(4,97,[.v (yI (r:Int)),.v (yI (c:Int)),.v (.slice (yL a) (r*c) (r*c))]),(3,97,[.v (yI 0),.v (yI 0),.v (.slice none 0 0)])]∧L=(fun w=>((((Blk 3 w q #[yI (r:Int)]∧Blk 3 w n #[yI (c:Int)])∧Blk 130 w o #[.func (.func 87) #[] #[.pointer (yL u),.pointer (yL y),.pointer (yL B)]])∧zY w f)∧OwnD w m0 109 3 (yL a) (r*c) (r*c) (f.flatMap nbC)))∧(j≤c)∧(PG r c f V i j)∧J=(1+(c-j))) ((1+(c-0))) ⟨0,f,rfl,rfl,(vK _),G,rfl⟩ ?_
  rintro J K L ⟨j,f,rfl,rfl,hj,G,rfl⟩
  refine yY (xq 1 [yB 16 (decide ((j:Int)<(c:Int)))] [] ?_)
  refine yZ (zC ?_)
  refine yQ ((decide ((j:Int)<(c:Int)))) (fun E=>?_) fun E=>?_
  ·have F:j<c:=by have:=uA E;omega
   refine zJ (zA (zC (zO (yY (xq 2 [yJ 6 (j:Int)] [] ?_)))))
   refine xe (zA ?_)
   refine yO 7 zN ?_
   refine xqg 3 [(18,.v (.agg #[yI (r:Int), yI (c:Int),.slice (yL a) (r*c) (r*c)])),yJ 19 (i:Int),yJ 20 (j:Int)] ?_
   refine xqj 21 (.func (.func 87) #[] #[.pointer (yL u),.pointer (yL y),.pointer (yL B)]) (fun w Q=>xG (t:=130) (x:=.tmp 2) (g:=o) (off:=0) (Blk.news Q.1.1.2 0 _ rfl)) ?_
   refine xqg 2 [yJ 22 (i:Int),yJ 23 (j:Int)] ?_
   refine xqd 87 [yI (i:Int), yI (j:Int),.pointer (yL u),.pointer (yL y),.pointer (yL B)] 24 (fun z:{z:Nb // nbV z=V i j}=>.agg #[.bool z.1.s,.slice z.1.A z.1.l z.1.c, yI z.1.e]) _ (fun w R Q=>yM Zc0 (O i j _ D F R)) fun⟨k,M⟩=>?_
   refine xz ?_
   refine iX (b:=a) (d:=25) (j:=0) (c:=.bool f[0]!.s) 83 [.agg #[yI (r:Int), yI (c:Int),.slice (yL a) (r*c) (r*c)], yI (i:Int), yI (j:Int), yV k.s k.A k.l k.c k.e] (fun _:Unit=>.tuple #[]) (fun w=>(((Blk 3 w q #[yI (r:Int)]∧Blk 3 w n #[yI (c:Int)])∧Blk 130 w o #[.func (.func 87) #[] #[.pointer (yL u),.pointer (yL y),.pointer (yL B)]])∧zY w (f.set (i*c+j) k))) (fun _ w=>OwnD w m0 109 3 (yL a) (r*c) (r*c) ((f.set (i*c+j) k).flatMap nbC)) (fun w Q=>ZaI Q.1.2 (by rw[G.1];have:=(gidx D F);omega)) (Or.inl (H ▸ I)) (fun w R Q=>yM ZbV (ZbT m0 r c a (r*c) (r*c) f i j k _ Q.1.2 G.1 qO qO (gidx D F) qO)) (fun w w' R Q N=>⟨⟨⟨Blk.fr Q.1.1.1.1.1 N (fun h=>by have h:q=a:=h;omega),Blk.fr Q.1.1.1.1.2 N (fun h=>by have h:n=a:=h;omega)⟩,Blk.fr Q.1.1.1.2 N (fun h=>by have h:o=a:=h;omega)⟩,zY.set (zY.nrb Q.1.1.2 (fun i e=>by subst e;exact OwnD.nrb Q.1.2 rfl) N) (zD.nrb Q.2 (fun i e=>by subst e;exact OwnD.nrb Q.1.2 rfl) N)⟩) fun _=>?_
   refine xr 0 [(1,.v (.pointer (yL n))),(2,.v (.pointer (yL o))),(3,.p 3 0),(4,.p 4 0),yJ 5 (i:Int),yJ 10 (r:Int),yJ 11 (i:Int),yJ 14 (c:Int),yJ 15 (j:Int)] [(4,97,[.v (yI (r:Int)),.v (yI (c:Int)),.v (.slice (yL a) (r*c) (r*c))]),(3,97,[.v (yI 0),.v (yI 0),.v (.slice none 0 0)])] ?_
   refine xe (xN (zA (zB (xq 1 [yJ 26 (IntKind.i64.wrap ((j:Int)+1))] [] ?_))))
   rw[yW ((j:Int)+1) (((j+1:Nat):Int)) qO]
   refine xq 1 [yJ 15 ((j+1:Nat):Int)] [] ?_
   refine xe ?_
   refine yP [(1,.v (.pointer (yL n))),(2,.v (.pointer (yL o))),(3,.p 3 0),(4,.p 4 0),yJ 5 (i:Int),yJ 10 (r:Int),yJ 11 (i:Int),yJ 14 (c:Int),yJ 15 (((j+1):Nat):Int)] [(4,97,[.v (yI (r:Int)),.v (yI (c:Int)),.v (.slice (yL a) (r*c) (r*c))]),(3,97,[.v (yI 0),.v (yI 0),.v (.slice none 0 0)])] (fun w=>((((Blk 3 w q #[yI (r:Int)]∧Blk 3 w n #[yI (c:Int)])∧Blk 130 w o #[.func (.func 87) #[] #[.pointer (yL u),.pointer (yL y),.pointer (yL B)]])∧zY w (f.set (i*c+j) k))∧OwnD w m0 109 3 (yL a) (r*c) (r*c) ((f.set (i*c+j) k).flatMap nbC))) (fun w Q=>⟨⟨⟨⟨Q.1.1.1.1,Q.1.1.1.2⟩,Q.1.1.2⟩,Q.1.2⟩,Q.2⟩) ?_
   exact xE ((1+(c-(j+1)))) qO ⟨(j+1),(f.set (i*c+j) k),rfl,rfl,F,(PG.set G D F M),rfl⟩
  have S:j=c:=by have:=uB E;omega
  refine xL (zH (zH (xT (xN (zA (zB (xq 1 [yJ 27 (IntKind.i64.wrap ((i:Int)+1))] [] ?_)))))))
  rw[yW ((i:Int)+1) (((i+1:Nat):Int)) qO]
  refine xq 1 [yJ 11 ((i+1:Nat):Int)] [] ?_
  refine xe ?_
  refine yP [(1,.v (.pointer (yL n))),(2,.v (.pointer (yL o))),(3,.p 3 0),(4,.p 4 0),yJ 10 (r:Int),yJ 11 (((i+1):Nat):Int)] [(4,97,[.v (yI (r:Int)),.v (yI (c:Int)),.v (.slice (yL a) (r*c) (r*c))]),(3,97,[.v (yI 0),.v (yI 0),.v (.slice none 0 0)])] (fun w=>((((Blk 3 w q #[yI (r:Int)]∧Blk 3 w n #[yI (c:Int)])∧Blk 130 w o #[.func (.func 87) #[] #[.pointer (yL u),.pointer (yL y),.pointer (yL B)]])∧zY w f)∧OwnD w m0 109 3 (yL a) (r*c) (r*c) (f.flatMap nbC))) (fun w Q=>⟨⟨⟨⟨Q.1.1.1.1,Q.1.1.1.2⟩,Q.1.1.2⟩,Q.1.2⟩,Q.2⟩) ?_
  exact xE ((1+(r-(i+1)))) qO ⟨(i+1),f,rfl,rfl,D,(PG.next (S ▸ G)),rfl⟩
 have T:i=r:=by have:=uB C;omega
 refine xL (zH (zH (xT (zA (yY (xq 2 [] [(3,97,[.v (yI (r:Int)),.v (yI (c:Int)),.v (.slice (yL a) (r*c) (r*c))])] ?_))))))
 refine yZ (zG ?_)
 refine yR (.agg #[yI (r:Int), yI (c:Int),.slice (yL a) (r*c) (r*c)]) fun w' R Q=>?_
 exact⟨a,f,by rw[G.1],PG.fin (T ▸ G),by rw[G.1];exact H ▸ Q.2,Q.1.2,R⟩
theorem Zlw (r c e f:Nat)(V:Nat→Nat→Fv3)(w:World)(u:r≤32)(y:c≤32)(q:∀ (i j:Nat) (w1:World),i<r→j<c→Ext w w1→yA 89 #[.int .i64 ((i:Nat):Int),.int .i64 ((j:Nat):Int),.pointer (some ⟨e,0,none⟩),.pointer (some ⟨f,0,none⟩)] w1 (aB (V i j) w1)) :
 yA 86 #[.int .i64 ((r:Nat):Int),.int .i64 ((c:Nat):Int),.func (.func 89) #[] #[.pointer (some ⟨e,0,none⟩),.pointer (some ⟨f,0,none⟩)]] w (gB (fun v=>.tuple #[v,.int .i64 0]) r c (zZ r c V) w):=by
 obtain⟨m0,o⟩:∃ m,m=w.heap.size:=⟨_,rfl⟩
 refine zQ (Φ:=fun w=>True) func86 rfl qK (fun w' F=>trivial) ?_
 refine yY (xq 5 [(3,.p 3 0),(4,.p 4 0),(5,.p 5 0),(6,.p 6 0),yJ 7 0] [(6,97,[.v (yI 0),.v (yI 0),.v (.slice none 0 0)]),(5,130,[.v (.func (.func 89) #[] #[.pointer (yL e),.pointer (yL f)])]),(4,3,[.v (yI (c:Int))]),(3,3,[.v (yI (r:Int))])] ?_)
 refine yZ (zC ?_)
 refine SXc.freezeN 3 3 [yI (r:Int)] (fun d=>[(3,.v (.pointer (yL d))),(4,.p 4 0),(5,.p 5 0),(6,.p 6 0),yJ 7 0]) [(6,97,[.v (yI 0),.v (yI 0),.v (.slice none 0 0)]),(5,130,[.v (.func (.func 89) #[] #[.pointer (yL e),.pointer (yL f)])]),(4,3,[.v (yI (c:Int))])] qK (fun _=>qK) qK qK (fun _=>qK) fun d z=>?_
 refine SXc.freezeN 4 3 [yI (c:Int)] (fun g=>[(3,.v (.pointer (yL d))),(4,.v (.pointer (yL g))),(5,.p 5 0),(6,.p 6 0),yJ 7 0]) [(6,97,[.v (yI 0),.v (yI 0),.v (.slice none 0 0)]),(5,130,[.v (.func (.func 89) #[] #[.pointer (yL e),.pointer (yL f)])])] qK (fun _=>qK) qK qK (fun _=>qK) fun g A=>?_
 refine SXc.freezeN 5 130 [.func (.func 89) #[] #[.pointer (yL e),.pointer (yL f)]] (fun n=>[(3,.v (.pointer (yL d))),(4,.v (.pointer (yL g))),(5,.v (.pointer (yL n))),(6,.p 6 0),yJ 7 0]) [(6,97,[.v (yI 0),.v (yI 0),.v (.slice none 0 0)])] qK (fun _=>qK) qK qK (fun _=>qK) fun n B=>?_
 refine zB (xq 1 [(8,.v (.func (.func 131) #[] #[.pointer (yL d),.pointer (yL g),.pointer (yL n)]))] [] ?_)
 refine xqc 78 [.func (.func 131) #[] #[.pointer (yL d),.pointer (yL g),.pointer (yL n)]] 9 (fun x:{x:Nat × List Nb // x.2.map nbV=zZ r c V∧m0≤x.1}=>.tuple #[.agg #[yI (r:Int), yI (c:Int),.slice (yL x.1.1) x.1.2.length x.1.2.length], yI 0]) _ (fun w R Q=>(ZeX 131 #[.pointer (yL d),.pointer (yL g),.pointer (yL n)] r c (zZ r c V) _ (fun _=>rfl) (fun w1 b=>ZjS r c d g n e f V _ (Blk.ext' Q.1.1.2 b) (Blk.ext' Q.1.2 b) (Blk.ext' Q.2 b) u y (fun i j C hi D s=>q i j C hi D (R.trans (b.trans s))))).mono (fun _ _ h=>eB (sh:=fun v=>.tuple #[v, yI 0]) (m0:=m0) (o ▸ R.size) h)) fun E=>?_
 obtain⟨⟨k,a⟩,l,t⟩:=E
 refine xq 4 [yJ 7 0] [(6,97,[.v (yI (r:Int)),.v (yI (c:Int)),.v (.slice (yL k) a.length a.length)])] ?_
 refine yZ (zG ?_)
 refine yR (.tuple #[.agg #[yI (r:Int), yI (c:Int),.slice (yL k) a.length a.length], yI 0]) fun w' R Q=>?_
 exact⟨k,a,rfl,l,o ▸ Q.2.1,Q.2.2,R⟩
theorem Zlx (r c e f g:Nat)(V:Nat→Nat→Fv3)(w:World)(y:r≤32)(z:c≤32)(s:∀ (i j:Nat) (w1:World),i<r→j<c→Ext w w1→yA 87 #[.int .i64 ((i:Nat):Int),.int .i64 ((j:Nat):Int),.pointer (some ⟨e,0,none⟩),.pointer (some ⟨f,0,none⟩),.pointer (some ⟨g,0,none⟩)] w1 (aB (V i j) w1)) :
 yA 86 #[.int .i64 ((r:Nat):Int),.int .i64 ((c:Nat):Int),.func (.func 87) #[] #[.pointer (some ⟨e,0,none⟩),.pointer (some ⟨f,0,none⟩),.pointer (some ⟨g,0,none⟩)]] w (gB (fun v=>.tuple #[v,.int .i64 0]) r c (zZ r c V) w):=by
 obtain⟨m0,q⟩:∃ m,m=w.heap.size:=⟨_,rfl⟩
 refine zQ (Φ:=fun w=>True) func86 rfl qK (fun w' G=>trivial) ?_
 refine yY (xq 5 [(3,.p 3 0),(4,.p 4 0),(5,.p 5 0),(6,.p 6 0),yJ 7 0] [(6,97,[.v (yI 0),.v (yI 0),.v (.slice none 0 0)]),(5,130,[.v (.func (.func 87) #[] #[.pointer (yL e),.pointer (yL f),.pointer (yL g)])]),(4,3,[.v (yI (c:Int))]),(3,3,[.v (yI (r:Int))])] ?_)
 refine yZ (zC ?_)
 refine SXc.freezeN 3 3 [yI (r:Int)] (fun d=>[(3,.v (.pointer (yL d))),(4,.p 4 0),(5,.p 5 0),(6,.p 6 0),yJ 7 0]) [(6,97,[.v (yI 0),.v (yI 0),.v (.slice none 0 0)]),(5,130,[.v (.func (.func 87) #[] #[.pointer (yL e),.pointer (yL f),.pointer (yL g)])]),(4,3,[.v (yI (c:Int))])] qK (fun _=>qK) qK qK (fun _=>qK) fun d A=>?_
 refine SXc.freezeN 4 3 [yI (c:Int)] (fun k=>[(3,.v (.pointer (yL d))),(4,.v (.pointer (yL k))),(5,.p 5 0),(6,.p 6 0),yJ 7 0]) [(6,97,[.v (yI 0),.v (yI 0),.v (.slice none 0 0)]),(5,130,[.v (.func (.func 87) #[] #[.pointer (yL e),.pointer (yL f),.pointer (yL g)])])] qK (fun _=>qK) qK qK (fun _=>qK) fun k B=>?_
 refine SXc.freezeN 5 130 [.func (.func 87) #[] #[.pointer (yL e),.pointer (yL f),.pointer (yL g)]] (fun o=>[(3,.v (.pointer (yL d))),(4,.v (.pointer (yL k))),(5,.v (.pointer (yL o))),(6,.p 6 0),yJ 7 0]) [(6,97,[.v (yI 0),.v (yI 0),.v (.slice none 0 0)])] qK (fun _=>qK) qK qK (fun _=>qK) fun o C=>?_
 refine zB (xq 1 [(8,.v (.func (.func 131) #[] #[.pointer (yL d),.pointer (yL k),.pointer (yL o)]))] [] ?_)
 refine xqc 78 [.func (.func 131) #[] #[.pointer (yL d),.pointer (yL k),.pointer (yL o)]] 9 (fun x:{x:Nat × List Nb // x.2.map nbV=zZ r c V∧m0≤x.1}=>.tuple #[.agg #[yI (r:Int), yI (c:Int),.slice (yL x.1.1) x.1.2.length x.1.2.length], yI 0]) _ (fun w R Q=>(ZeX 131 #[.pointer (yL d),.pointer (yL k),.pointer (yL o)] r c (zZ r c V) _ (fun _=>rfl) (fun w1 b=>ZjT r c d k o e f g V _ (Blk.ext' Q.1.1.2 b) (Blk.ext' Q.1.2 b) (Blk.ext' Q.2 b) y z (fun i j D hi E t=>s i j D hi E (R.trans (b.trans t))))).mono (fun _ _ h=>eB (sh:=fun v=>.tuple #[v, yI 0]) (m0:=m0) (q ▸ R.size) h)) fun F=>?_
 obtain⟨⟨l,a⟩,n,u⟩:=F
 refine xq 4 [yJ 7 0] [(6,97,[.v (yI (r:Int)),.v (yI (c:Int)),.v (.slice (yL l) a.length a.length)])] ?_
 refine yZ (zG ?_)
 refine yR (.tuple #[.agg #[yI (r:Int), yI (c:Int),.slice (yL l) a.length a.length], yI 0]) fun w' R Q=>?_
 exact⟨l,a,rfl,n,q ▸ Q.2.1,Q.2.2,R⟩
theorem Zly (m n:Nat)(A:qA)(cap:Nat)(xs:List Nb)(b:Nat)(V:Nat→Nat→Fv3)(w:World)(D:Glob w)(o:OwnD w m 109 3 A cap (n*n) (xs.flatMap nbC))(q:zY w xs)(r:xs.length=n*n)(s:∀ x∈xs,FvOk (nbV x))(u:n≤32)(y:8≤b)(z:b≤1024)(E:∀ i j,i<n→j<n→Zf6 xs n b i j=some (V i j)) :
 yA 54 #[.agg #[.int .i64 ((n:Nat):Int),.int .i64 ((n:Nat):Int),.slice A (n*n) cap],.int .i64 ((b:Nat):Int)] w (gB (fun v=>.tuple #[v,.int .i64 0]) n n (zZ n n V) w):=by
 obtain⟨m0,l⟩:∃ m,m=w.heap.size:=⟨_,rfl⟩
 refine zQ (Φ:=fun w=>True) func54 rfl qK (fun w' I=>trivial) ?_
 refine yY (xq 4 [(2,.p 2 0),(3,.p 3 0),(4,.p 4 0),yJ 5 0] [(4,97,[.v (yI 0),.v (yI 0),.v (.slice none 0 0)]),(3,3,[.v (yI (b:Int))]),(2,97,[.v (yI (n:Int)),.v (yI (n:Int)),.v (.slice A (n*n) cap)])] ?_)
 refine yZ (zC (yY (xq 5 [yB 10 (((n:Int):Int) != (n:Int))] [] ?_)))
 rw[(show (((n:Int):Int) != (n:Int))=false from eU rfl)]
 refine yZ (xb (zJ (zA (zC ?_))))
 refine SXc.freezeN 2 97 [yI (n:Int), yI (n:Int),.slice A (n*n) cap] (fun c=>[(2,.v (.pointer (yL c))),(3,.p 3 0),(4,.p 4 0),yJ 5 0]) [(4,97,[.v (yI 0),.v (yI 0),.v (.slice none 0 0)]),(3,3,[.v (yI (b:Int))])] qK (fun _=>qK) qK qK (fun _=>qK) fun c F=>?_
 refine SXc.freezeN 3 3 [yI (b:Int)] (fun k=>[(2,.v (.pointer (yL c))),(3,.v (.pointer (yL k))),(4,.p 4 0),yJ 5 0]) [(4,97,[.v (yI 0),.v (yI 0),.v (.slice none 0 0)])] qK (fun _=>qK) qK qK (fun _=>qK) fun k G=>?_
 refine zB (xq 1 [(12,.v (.pointer (yL c)))] [] ?_)
 refine xqk 13 (yI (n:Int)) (fun w R Q=>xG (t:=3) (x:=.tmp 12) (g:=c) (off:=0) (Blk.news Q.1.2 0 _ rfl)) ?_
 refine xq 1 [(14,.v (.pointer (some ⟨c,0+1,none⟩)))] [] ?_
 refine xqk 15 (yI (n:Int)) (fun w R Q=>xG (t:=3) (x:=.tmp 14) (g:=c) (off:=0+1) (Blk.news Q.1.2 1 _ rfl)) ?_
 refine xq 1 [(16,.v (.func (.func 89) #[] #[.pointer (yL c),.pointer (yL k)]))] [] ?_
 refine xqc 86 [yI (n:Int), yI (n:Int),.func (.func 89) #[] #[.pointer (yL c),.pointer (yL k)]] 17 (fun x:{x:Nat × List Nb // x.2.map nbV=zZ n n V∧m0≤x.1}=>.tuple #[.agg #[yI (n:Int), yI (n:Int),.slice (yL x.1.1) x.1.2.length x.1.2.length], yI 0]) _ (fun w R Q=>(Zlw n n c k V _ u u (fun i j J hi B d=>Zlv m n A cap xs b c k i j (V i j) _ (D.ext (R.trans d)) (Blk.ext' Q.1.2 d) (Blk.ext' Q.2 d) (OwnD.ext o (R.trans d)) (zY.ext q (R.trans d)) r s u y z hi B (E i j hi B))).mono (fun _ _ h=>eB (sh:=fun v=>.tuple #[v, yI 0]) (m0:=m0) (l ▸ R.size) h)) fun H=>?_
 obtain⟨⟨e,a⟩,f,C⟩:=H
 refine xq 4 [yJ 5 0] [(4,97,[.v (yI (n:Int)),.v (yI (n:Int)),.v (.slice (yL e) a.length a.length)])] ?_
 refine yZ (zG ?_)
 refine yR (.tuple #[.agg #[yI (n:Int), yI (n:Int),.slice (yL e) a.length a.length], yI 0]) fun w' R Q=>?_
 exact⟨e,a,rfl,f,l ▸ Q.2.1,Q.2.2,R⟩
theorem ZmI (m r c d:Nat)(A B:qA)(cap a:Nat)(xs ys:List Nb)(b:Nat)(V:Nat→Nat→Fv3)(w:World)(O:Glob w)(y:OwnD w m 109 3 A cap (r*c) (xs.flatMap nbC))(z:zY w xs)(C:xs.length=r*c)(D:∀ x∈xs,FvOk (nbV x))(E:OwnD w m 109 3 B a (c*d) (ys.flatMap nbC))(F:zY w ys)(G:ys.length=c*d)(H:∀ x∈ys,FvOk (nbV x))(K:r≤32)(P:c≤32)(L:d≤32)(I:8≤b)(J:b≤1024)(S:∀ i j,i<r→j<d→dtK b (fun q=>nbV xs[i*c+q]!) (fun q=>nbV ys[q*d+j]!) c 0 (false,0,0)=some (V i j)) :
 yA 52 #[.agg #[.int .i64 ((r:Nat):Int),.int .i64 ((c:Nat):Int),.slice A (r*c) cap],.agg #[.int .i64 ((c:Nat):Int),.int .i64 ((d:Nat):Int),.slice B (c*d) a],.int .i64 ((b:Nat):Int)] w (gB (fun v=>.tuple #[v,.int .i64 0]) r d (zZ r d V) w):=by
 obtain⟨m0,u⟩:∃ m,m=w.heap.size:=⟨_,rfl⟩
 refine zQ (Φ:=fun w=>True) func52 rfl qK (fun w' Y=>trivial) ?_
 refine yY (xq 5 [(3,.p 3 0),(4,.p 4 0),(5,.p 5 0),(6,.p 6 0),yJ 7 0] [(6,97,[.v (yI 0),.v (yI 0),.v (.slice none 0 0)]),(5,3,[.v (yI (b:Int))]),(4,97,[.v (yI (c:Int)),.v (yI (d:Int)),.v (.slice B (c*d) a)]),(3,97,[.v (yI (r:Int)),.v (yI (c:Int)),.v (.slice A (r*c) cap)])] ?_)
 refine yZ (zC (yY (xq 5 [yB 12 (((c:Int):Int) != (c:Int))] [] ?_)))
 rw[(show (((c:Int):Int) != (c:Int))=false from eU rfl)]
 refine yZ (xb (zJ (zA (zC ?_))))
 refine SXc.freezeN 3 97 [yI (r:Int), yI (c:Int),.slice A (r*c) cap] (fun k=>[(3,.v (.pointer (yL k))),(4,.p 4 0),(5,.p 5 0),(6,.p 6 0),yJ 7 0]) [(6,97,[.v (yI 0),.v (yI 0),.v (.slice none 0 0)]),(5,3,[.v (yI (b:Int))]),(4,97,[.v (yI (c:Int)),.v (yI (d:Int)),.v (.slice B (c*d) a)])] qK (fun _=>qK) qK qK (fun _=>qK) fun k T=>?_
 refine SXc.freezeN 4 97 [yI (c:Int), yI (d:Int),.slice B (c*d) a] (fun l=>[(3,.v (.pointer (yL k))),(4,.v (.pointer (yL l))),(5,.p 5 0),(6,.p 6 0),yJ 7 0]) [(6,97,[.v (yI 0),.v (yI 0),.v (.slice none 0 0)]),(5,3,[.v (yI (b:Int))])] qK (fun _=>qK) qK qK (fun _=>qK) fun l U=>?_
 refine SXc.freezeN 5 3 [yI (b:Int)] (fun s=>[(3,.v (.pointer (yL k))),(4,.v (.pointer (yL l))),(5,.v (.pointer (yL s))),(6,.p 6 0),yJ 7 0]) [(6,97,[.v (yI 0),.v (yI 0),.v (.slice none 0 0)])] qK (fun _=>qK) qK qK (fun _=>qK) fun s W=>?_
 refine zB (xq 1 [(14,.v (.pointer (yL k)))] [] ?_)
 refine xqk 15 (yI (r:Int)) (fun w R Q=>xG (t:=3) (x:=.tmp 14) (g:=k) (off:=0) (Blk.news Q.1.1.2 0 _ rfl)) ?_
 refine xq 1 [(16,.v (.pointer (some ⟨l,0+1,none⟩)))] [] ?_
 refine xqk 17 (yI (d:Int)) (fun w R Q=>xG (t:=3) (x:=.tmp 16) (g:=l) (off:=0+1) (Blk.news Q.1.2 1 _ rfl)) ?_
 refine xq 1 [(18,.v (.func (.func 87) #[] #[.pointer (yL k),.pointer (yL l),.pointer (yL s)]))] [] ?_
 refine xqc 86 [yI (r:Int), yI (d:Int),.func (.func 87) #[] #[.pointer (yL k),.pointer (yL l),.pointer (yL s)]] 19 (fun x:{x:Nat × List Nb // x.2.map nbV=zZ r d V∧m0≤x.1}=>.tuple #[.agg #[yI (r:Int), yI (d:Int),.slice (yL x.1.1) x.1.2.length x.1.2.length], yI 0]) _ (fun w R Q=>(Zlx r d k l s V _ K L (fun i j Z hi M e=>ZmH m r c d A B cap a xs ys b k l s i j (V i j) _ (O.ext (R.trans e)) (Blk.ext' Q.1.1.2 e) (Blk.ext' Q.1.2 e) (Blk.ext' Q.2 e) (OwnD.ext y (R.trans e)) (zY.ext z (R.trans e)) C D (OwnD.ext E (R.trans e)) (zY.ext F (R.trans e)) G H K P L I J hi M (S i j hi M))).mono (fun _ _ h=>eB (sh:=fun v=>.tuple #[v, yI 0]) (m0:=m0) (u ▸ R.size) h)) fun X=>?_
 obtain⟨⟨n,f⟩,o,N⟩:=X
 refine xq 4 [yJ 7 0] [(6,97,[.v (yI (r:Int)),.v (yI (d:Int)),.v (.slice (yL n) f.length f.length)])] ?_
 refine yZ (zG ?_)
 refine yR (.tuple #[.agg #[yI (r:Int), yI (d:Int),.slice (yL n) f.length f.length], yI 0]) fun w' R Q=>?_
 exact⟨n,f,rfl,o,u ▸ Q.2.1,Q.2.2,R⟩
def Zeu (f:Nat→Fv3) (n b i j:Nat):Option Fv3:=(musT (addV (f (i*n+j)) (f (j*n+i)) b)).bind fun p=>musT (shV p (-1))
theorem Zf7 {xs:List Nb}{a:List (ByteArray×Int)}(h:xs.map nbV=a.map ldV){q:Nat}(c:q<a.length):nbV xs[q]! = ldV a[q]! := by
 have d:xs.length=a.length:=by have:=vF List.length h;rwa [uR,uR] at this
 have b:=vF (fun l=>l[q]?) h
 simp only[qZ] at b
 rw[uO qO,uO c] at b
 rw[tI xs q qO,tI a q c]
 injection b
theorem ZmJ {xs:List Nb}{a:List (ByteArray×Int)}{n b i j:Nat}(c:a.length=n*n)(h:xs.map nbV=a.map ldV)(hi:i<n)(d:j<n):Zf6 xs n b i j=Zeu (fun q=>ldV a[q]!) n b i j:=by
 unfold Zf6 Zeu
 rw[Zf7 h (by rw[c];exact gidx hi d),Zf7 h (by rw[c];exact gidx d hi)]
theorem ZoJ {xs ys:List Nb}{a e:List (ByteArray×Int)}{r c d b i j:Nat}{t:Fv3}(g:a.length=r*c)(f:e.length=c*d)(h:xs.map nbV=a.map ldV)(k:ys.map nbV=e.map ldV)(hi:i<r)(l:j<d) :
 dtK b (fun q=>nbV xs[i*c+q]!) (fun q=>nbV ys[q*d+j]!) c 0 t=dtK b (fun q=>ldV a[i*c+q]!) (fun q=>ldV e[q*d+j]!) c 0 t:=ZaE c 0 t (fun q _ m=>⟨Zf7 h (by rw[g];exact gidx hi qO),Zf7 k (by rw[f];exact gidx qO l)⟩)
theorem ZiO {r c:Nat}{V:Nat→Nat→Fv3}(h:∀ i j,i<r→j<c→FvOk (V i j)):∀ v∈zZ r c V,FvOk v:=fun v a=>by
 obtain⟨i,hi,a⟩:=List.mem_flatMap.1 a
 obtain⟨j,b,rfl⟩:=List.mem_map.1 a
 exact h i j (rA.1 hi) (rA.1 b)
instance {vs:List Fv3} {m0:Nat}:Nonempty {x:Nat × List Nb // x.2.map nbV=vs∧m0≤x.1}:=⟨⟨(m0,vs.map (fun v=>(⟨v.1,none,0,0,v.2.1,v.2.2⟩:Nb))),by
 refine⟨?_,uG _⟩
 show (vs.map _).map nbV=vs
 rw[qL]
 exact List.map_id'' (fun v=>rfl) vs⟩⟩
theorem ZiP {α:Type}{x a b:α}(h:x ∈ [a,b]):x=a∨x=b:=by simpa using h
theorem Zlz {b:List Mx}{ls:List Fm}{j:Nat}{x:Mx}{y:Fm}(h:b.map mxV=ls.map fmV)(d:ls[j]? = some y)(e:b[j]! = x):x.r=y.r∧x.c=y.c∧x.xs.map nbV=y.fs.map ldV:=by
 have g:b.length=ls.length:=by have:=vF List.length h;rwa [uR,uR] at this
 have f:j<ls.length:=(List.getElem?_eq_some_iff.1 d).1
 have a:=vF (fun l=>l[j]?) h
 simp only[qZ] at a
 rw[d,uO (show j<b.length by omega)] at a
 rw[tI b j qO] at e
 rw[e] at a
 injection a with a
 injection a with h2 h3
 injection h3 with h3 h4
 exact⟨h2,h3,h4⟩
theorem ZjU (ml n:Nat)(A:qA)(cap:Nat)(l:List (ByteArray×Int))(b:Nat)(V:Nat→Nat→Fv3)(w:World)(T:Glob w)(hO:OwnD w ml 76 2 A cap l.length (l.flatMap flC))(E:FmG ⟨n,n,A,cap,l⟩)(F:8≤b)(G:b≤1024)(hv:∀ i j,i<n→j<n→Zeu (fun q=>ldV l[q]!) n b i j=some (V i j))(H:∀ i j,i<n→j<n→FvOk (V i j)) :
 yA 53 #[.agg #[.int .i64 ((n:Nat):Int),.int .i64 ((n:Nat):Int),.slice A l.length cap],.int .i64 ((b:Nat):Int),.func (.func 54) #[] #[]] w (kV (fun v=>.tuple #[v,.int .i64 0]) n n ((zZ n n V).map ftW) w):=by
 obtain⟨m0,o⟩:∃ m,m=w.heap.size:=⟨_,rfl⟩
 have u:n≤32:=E.hr.2
 have I:n≤32:=E.hr.2
 refine zQ (Φ:=fun w=>True) func53 rfl qK (fun w' hf=>trivial) ?_
 refine yY (xq 3 [(3,.p 3 0),(6,.p 6 0),yJ 7 0] [(6,29,[.v (yI 0),.v (yI 0),.v (.slice none 0 0)]),(3,29,[.v (yI (n:Int)),.v (yI (n:Int)),.v (.slice A l.length cap)])] ?_)
 refine yZ (yY (xq 2 [yJ 11 (b:Int),(12,.v (.agg #[yI (n:Int), yI (n:Int),.slice A l.length cap]))] [] ?_))
 refine yD (d:=13) (fun M:{b:Nat // m0≤b}=>.slice (yL M.1) 1 1) (fun M zw=>Blk 29 zw M.1 #[yI (n:Int), yI (n:Int),.slice A l.length cap]) (fun w R Q=>fO (m0:=m0) (o ▸ R.size) (t:=179) (e:=29) (n:=1) (sz:=3) (z:=.agg #[yI 0, yI 0,.slice none 0 0]) (parts:=#[(0,Operand.tmp 12)]) qK qK qK qK qK qK) fun⟨y,U⟩=>?_
 refine xr 0 [yJ 1 (b:Int),(2,.v (.func (.func 54) #[] #[])),(6,.p 6 0),yJ 7 0,yJ 11 (b:Int),eS1 13 (yL y) 1 1] [(6,29,[.v (yI 0),.v (yI 0),.v (.slice none 0 0)])] ?_
 refine xqc 76 [yI (b:Int),.slice (yL y) 1 1] 14 (fun x:{x:Nat × List Mx // x.2.map mxV=[(⟨n,n,A,cap,l⟩:Fm)].map fmV∧m0≤x.1}=>.tuple #[.slice (yL x.1.1) 1 1, yI 0]) _ (fun w R Q=>(ZdD 0 y 1 [⟨n,n,A,cap,l⟩] b _ (show OwnD _ 0 29 3 _ 1 1 ([(⟨n,n,A,cap,l⟩:Fm)].flatMap fmC) from OwnD.ofBlk (xs:=fmC ⟨n,n,A,cap,l⟩) Q.2 (vK _) rfl qD (Zes _)) rfl qD (fun x J=>by rw[sV.1 J];exact OwnD.mono (OwnD.ext hO R) (vK _)) (fun x J=>by rw[sV.1 J];exact E) F G).mono (fun _ _ h=>ZeY (m0:=m0) (o ▸ R.size) h)) fun N=>?_
 obtain⟨⟨B,L⟩,K,W⟩:=N
 have s:L.length=1:=by have:=vF List.length K;rw[uR,uR] at this;exact this
 refine xq 5 [eS1 8 (yL B) 1 1,yJ 9 0] [] ?_
 refine yZ (zC (yY (xq 2 [yB 18 false] [] ?_)))
 refine yZ (xb (zJ (zA (yY (xq 2 [(21,.v (.func (.func 54) #[] #[])),eS1 22 (yL B) 1 1] [] ?_)))))
 refine xqk 23 (atA (yL B) (0*3)) (fun w R Q=>lV (t:=123) (e:=97) (sz:=3) (x:=.tmp 22) (ix:=.const (yI 0)) (len:=1) (cap:=1) (i:=0) qS qD) ?_
 obtain⟨a,k⟩:∃ x,L[0]! = x:=⟨_,rfl⟩
 refine xqk 24 (.agg #[yI ((a.r:Nat):Int), yI ((a.c:Nat):Int),.slice a.A a.xs.length a.cap]) (fun w R Q=>by rw[←k];exact jU (t:=97) (x:=.tmp 23) (j:=0) Q.2.1 aN (by rw[s];decide)) ?_
 obtain⟨e1,e2,O⟩:=Zlq K s k
 have e4:a.xs.length=n*n:=by have:=vF List.length O;rw[uR,uR] at this;rw[this];exact E.hn
 refine xq 1 [yJ 25 (b:Int)] [] ?_
 refine xqc 54 [.agg #[yI ((a.r:Nat):Int), yI ((a.c:Nat):Int),.slice a.A a.xs.length a.cap], yI (b:Int)] 26 (fun x:{x:Nat × List Nb // x.2.map nbV=zZ n n V∧m0≤x.1}=>.tuple #[.agg #[yI (n:Int), yI (n:Int),.slice (yL x.1.1) x.1.2.length x.1.2.length], yI 0]) _ (fun w R Q=>((show Calls _ _ _ _ (gB (fun v=>.tuple #[v, yI 0]) n n (zZ n n V) _) by rw[e1,e2,e4];exact Zly m0 n a.A a.cap a.xs b V _ (T.ext R) (by have h:=(Q.2.2 _ (xR (by rw[s];decide:0<L.length))).1;rw[k,e4] at h;exact h) (by have h:=(Q.2.2 _ (xR (by rw[s];decide:0<L.length))).2;rw[k] at h;exact h) e4 (Zet E O) u F G (fun i j hi X=>by rw[ZmJ E.hn O hi X];exact hv i j hi X))).mono (fun _ _ h=>eB (sh:=fun v=>.tuple #[v, yI 0]) (m0:=m0) (o ▸ R.size) h)) fun N=>?_
 obtain⟨⟨C,f⟩,g,Y⟩:=N
 refine xq 2 [(27,.v (.agg #[yI (n:Int), yI (n:Int),.slice (yL C) f.length f.length])),yJ 28 0] [] ?_
 have P:(f.map ftV)=(zZ n n V).map ftW:=by rw[←g,qL];rfl
 have S:f.length≤4096:=by have Z:=jS n n V;rw[←g,uR] at Z;rw[Z];exact uC (uZ u I) qD
 refine xqc 77 [.agg #[yI (n:Int), yI (n:Int),.slice (yL C) f.length f.length], yI 0] 29 (fun b:{b:Nat // m0≤b}=>.tuple #[.agg #[yI (n:Int), yI (n:Int),.slice (yL b.1) ((zZ n n V).map ftW).length ((zZ n n V).map ftW).length], yI 0]) _ (fun w R Q=>((show Calls _ _ _ _ (kV (fun v=>.tuple #[v, yI 0]) n n ((zZ n n V).map ftW) _) by rw[←P];exact ZbW m0 n n (yL C) f.length f.length f _ Q.2.1 Q.2.2 rfl (T.ext R) S (fun x J=>(fun h=>⟨uC h.1 qD,h.2.2.2⟩:FvOk (nbV x)→_) (ZiO H _ (by rw[←g];exact pK J))))).mono (fun _ _ h=>kH (sh:=fun v=>.tuple #[v, yI 0]) (m0:=m0) (o ▸ R.size) h)) fun⟨D,a0⟩=>?_
 refine xq 4 [yJ 7 0] [(6,29,[.v (yI (n:Int)),.v (yI (n:Int)),.v (.slice (yL D) ((zZ n n V).map ftW).length ((zZ n n V).map ftW).length)])] ?_
 refine yZ (zG ?_)
 refine yR (.tuple #[.agg #[yI (n:Int), yI (n:Int),.slice (yL D) ((zZ n n V).map ftW).length ((zZ n n V).map ftW).length], yI 0]) fun w' R Q=>?_
 exact⟨D,rfl,o ▸ Q.2,R⟩
theorem ZmK (ml n:Nat)(A:qA)(cap:Nat)(a:List (ByteArray×Int))(b:Nat)(V:Nat→Nat→Fv3)(w:World)(l:Glob w)(o:OwnD w ml 76 2 A cap a.length (a.flatMap flC))(r:FmG ⟨n,n,A,cap,a⟩)(f:8≤b)(g:b≤1024)(s:∀ i j,i<n→j<n→Zeu (fun q=>ldV a[q]!) n b i j=some (V i j))(d:∀ i j,i<n→j<n→FvOk (V i j)) :
 yA 30 #[.agg #[.int .i64 ((n:Nat):Int),.int .i64 ((n:Nat):Int),.slice A a.length cap],.int .i64 ((b:Nat):Int)] w (kV (fun v=>.tuple #[v,.int .i64 0]) n n ((zZ n n V).map ftW) w):=by
 obtain⟨m0,e⟩:∃ m,m=w.heap.size:=⟨_,rfl⟩
 refine zQ (Φ:=fun w=>True) func30 rfl qK (fun w' t=>trivial) ?_
 refine yY (xq 3 [(2,.p 2 0),(4,.p 4 0),yJ 5 0] [(4,29,[.v (yI 0),.v (yI 0),.v (.slice none 0 0)]),(2,29,[.v (yI (n:Int)),.v (yI (n:Int)),.v (.slice A a.length cap)])] ?_)
 refine yZ (yY (xq 2 [(6,.v (.agg #[yI (n:Int), yI (n:Int),.slice A a.length cap])),yJ 7 (b:Int)] [] ?_))
 refine xqc 53 [.agg #[yI (n:Int), yI (n:Int),.slice A a.length cap], yI (b:Int),.func (.func 54) #[] #[]] 8 (fun b:{b:Nat // m0≤b}=>.tuple #[.agg #[yI (n:Int), yI (n:Int),.slice (yL b.1) ((zZ n n V).map ftW).length ((zZ n n V).map ftW).length], yI 0]) _ (fun w R Q=>(ZjU ml n A cap a b V _ (l.ext R) (OwnD.ext o R) r f g s d).mono (fun _ _ h=>kH (sh:=fun v=>.tuple #[v, yI 0]) (m0:=m0) (e ▸ R.size) h)) fun⟨c,k⟩=>?_
 refine xq 4 [yJ 5 0] [(4,29,[.v (yI (n:Int)),.v (yI (n:Int)),.v (.slice (yL c) ((zZ n n V).map ftW).length ((zZ n n V).map ftW).length)])] ?_
 refine yZ (zG ?_)
 refine yR (.tuple #[.agg #[yI (n:Int), yI (n:Int),.slice (yL c) ((zZ n n V).map ftW).length ((zZ n n V).map ftW).length], yI 0]) fun w' R Q=>?_
 exact⟨c,rfl,e ▸ Q.2,R⟩
theorem ZjV (ma mb r c d:Nat)(A B:qA)(cap a:Nat)(o s:List (ByteArray×Int))(b:Nat)(V:Nat→Nat→Fv3)(w:World)(hg:Glob w)(hO:OwnD w ma 76 2 A cap o.length (o.flatMap flC))(d0:OwnD w mb 76 2 B a s.length (s.flatMap flC))(hG:FmG ⟨r,c,A,cap,o⟩)(J:FmG ⟨c,d,B,a,s⟩)(a0:8≤b)(b0:b≤1024)(hv:∀ i j,i<r→j<d→dtK b (fun q=>ldV o[i*c+q]!) (fun q=>ldV s[q*d+j]!) c 0 (false,0,0)=some (V i j))(c0:∀ i j,i<r→j<d→FvOk (V i j)) :
 yA 48 #[.agg #[.int .i64 ((r:Nat):Int),.int .i64 ((c:Nat):Int),.slice A o.length cap],.agg #[.int .i64 ((c:Nat):Int),.int .i64 ((d:Nat):Int),.slice B s.length a],.int .i64 ((b:Nat):Int),.func (.func 52) #[] #[]] w (kV (fun v=>.tuple #[v,.int .i64 0]) r d ((zZ r d V).map ftW) w):=by
 obtain⟨m0,K⟩:∃ m,m=w.heap.size:=⟨_,rfl⟩
 have N:r≤32:=hG.hr.2
 have O:d≤32:=J.hc.2
 refine zQ (Φ:=fun w=>True) func48 rfl qK (fun w' hf=>trivial) ?_
 refine yY (xq 4 [(4,.p 4 0),(5,.p 5 0),(8,.p 8 0),yJ 9 0] [(8,29,[.v (yI 0),.v (yI 0),.v (.slice none 0 0)]),(5,29,[.v (yI (c:Int)),.v (yI (d:Int)),.v (.slice B s.length a)]),(4,29,[.v (yI (r:Int)),.v (yI (c:Int)),.v (.slice A o.length cap)])] ?_)
 refine yZ (yY (xq 3 [yJ 13 (b:Int),(14,.v (.agg #[yI (r:Int), yI (c:Int),.slice A o.length cap])),(15,.v (.agg #[yI (c:Int), yI (d:Int),.slice B s.length a]))] [] ?_))
 refine yD (d:=16) (fun zb:{b:Nat // m0≤b}=>.slice (yL zb.1) 2 2) (fun zb zw=>Blk 29 zw zb.1 #[yI (r:Int), yI (c:Int),.slice A o.length cap, yI (c:Int), yI (d:Int),.slice B s.length a]) (fun w R Q=>fO (m0:=m0) (K ▸ R.size) (t:=179) (e:=29) (n:=2) (sz:=3) (z:=.agg #[yI 0, yI 0,.slice none 0 0]) (parts:=#[(0,Operand.tmp 14),(1,Operand.tmp 15)]) qK qK qK qK qK qK) fun⟨P,g0⟩=>?_
 refine xr 0 [yJ 2 (b:Int),(3,.v (.func (.func 52) #[] #[])),(8,.p 8 0),yJ 9 0,yJ 13 (b:Int),eS1 16 (yL P) 2 2] [(8,29,[.v (yI 0),.v (yI 0),.v (.slice none 0 0)])] ?_
 refine xqc 76 [yI (b:Int),.slice (yL P) 2 2] 17 (fun x:{x:Nat × List Mx // x.2.map mxV=[(⟨r,c,A,cap,o⟩:Fm),⟨c,d,B,a,s⟩].map fmV∧m0≤x.1}=>.tuple #[.slice (yL x.1.1) 2 2, yI 0]) _ (fun w R Q=>(ZdD 0 P 2 [(⟨r,c,A,cap,o⟩:Fm),⟨c,d,B,a,s⟩] b _ (show OwnD _ 0 29 3 _ 2 2 ([(⟨r,c,A,cap,o⟩:Fm),⟨c,d,B,a,s⟩].flatMap fmC) from OwnD.ofBlk (xs:=fmC ⟨r,c,A,cap,o⟩ ++ fmC ⟨c,d,B,a,s⟩) Q.2 (vK _) rfl qD (fun k z h=>(sD.1 h).elim (Zes _ k z) (Zes _ k z))) rfl qD (fun x hx=>by rcases ZiP hx with rfl|rfl;exact OwnD.mono (OwnD.ext hO R) (vK _);exact OwnD.mono (OwnD.ext d0 R) (vK _)) (fun x hx=>by rcases ZiP hx with rfl|rfl;exact hG;exact J) a0 b0).mono (fun _ _ h=>ZeY (m0:=m0) (K ▸ R.size) h)) fun xx=>?_
 obtain⟨⟨L,S⟩,T,h0⟩:=xx
 have I:S.length=2:=by have:=vF List.length T;rw[uR,uR] at this;exact this
 refine xq 5 [eS1 10 (yL L) 2 2,yJ 11 0] [] ?_
 refine yZ (zC (yY (xq 2 [yB 21 false] [] ?_)))
 refine yZ (xb (zJ (zA (zC ?_))))
 refine fM 14 [0,0,2,6,0,16,48,0,255,511,511,2047,4095,4095] qK qK zN ?_
 refine xqg 2 [(24,.v (.func (.func 52) #[] #[])),eS1 25 (yL L) 2 2] ?_
 refine xqj 26 (atA (yL L) (0*3)) (fun w Q=>lV (t:=123) (e:=97) (sz:=3) (x:=.tmp 25) (ix:=.const (yI 0)) (len:=2) (cap:=2) (i:=0) qS qD) ?_
 obtain⟨f,G⟩:∃ x,S[0]! = x:=⟨_,rfl⟩
 refine xqj 27 (.agg #[yI ((f.r:Nat):Int), yI ((f.c:Nat):Int),.slice f.A f.xs.length f.cap]) (fun w Q=>by rw[←G];exact jU (t:=97) (x:=.tmp 26) (j:=0) Q.2.1 aN (by rw[I];decide)) ?_
 obtain⟨U,W,u⟩:=Zlz (ls:=[(⟨r,c,A,cap,o⟩:Fm),⟨c,d,B,a,s⟩]) T (j:=0) (y:=⟨r,c,A,cap,o⟩) rfl G
 have C:f.xs.length=r*c:=by have:=vF List.length u;rw[uR,uR] at this;rw[this];exact hG.hn
 refine xqg 1 [eS1 28 (yL L) 2 2] ?_
 refine xqj 29 (atA (yL L) (1*3)) (fun w Q=>lV (t:=123) (e:=97) (sz:=3) (x:=.tmp 28) (ix:=.const (yI 1)) (len:=2) (cap:=2) (i:=1) qS qD) ?_
 obtain⟨g,H⟩:∃ x,S[1]! = x:=⟨_,rfl⟩
 refine xqj 30 (.agg #[yI ((g.r:Nat):Int), yI ((g.c:Nat):Int),.slice g.A g.xs.length g.cap]) (fun w Q=>by rw[←H];exact jU (t:=97) (x:=.tmp 29) (j:=1) Q.2.1 aN (by rw[I];decide)) ?_
 obtain⟨X,Y,D⟩:=Zlz (ls:=[(⟨r,c,A,cap,o⟩:Fm),⟨c,d,B,a,s⟩]) T (j:=1) (y:=⟨c,d,B,a,s⟩) rfl H
 have E:g.xs.length=c*d:=by have:=vF List.length D;rw[uR,uR] at this;rw[this];exact J.hn
 refine xqg 1 [yJ 31 (b:Int)] ?_
 refine xqd 52 [.agg #[yI ((f.r:Nat):Int), yI ((f.c:Nat):Int),.slice f.A f.xs.length f.cap],.agg #[yI ((g.r:Nat):Int), yI ((g.c:Nat):Int),.slice g.A g.xs.length g.cap], yI (b:Int)] 32 (fun x:{x:Nat × List Nb // x.2.map nbV=zZ r d V∧m0≤x.1}=>.tuple #[.agg #[yI (r:Int), yI (d:Int),.slice (yL x.1.1) x.1.2.length x.1.2.length], yI 0]) _ (fun w R Q=>((show Calls _ _ _ _ (gB (fun v=>.tuple #[v, yI 0]) r d (zZ r d V) _) by rw[U,W,C,X,Y,E];exact ZmI m0 r c d f.A g.A f.cap g.cap f.xs g.xs b V _ (hg.ext R) (by have h:=(Q.2.2 _ (xR (by rw[I];decide:0<S.length))).1;rw[G,C] at h;exact h) (by have h:=(Q.2.2 _ (xR (by rw[I];decide:0<S.length))).2;rw[G] at h;exact h) C (Zet hG u) (by have h:=(Q.2.2 _ (xR (by rw[I];decide:1<S.length))).1;rw[H,E] at h;exact h) (by have h:=(Q.2.2 _ (xR (by rw[I];decide:1<S.length))).2;rw[H] at h;exact h) E (Zet J D) N hG.hc.2 O a0 b0 (fun i j hi hj=>by rw[ZoJ hG.hn J.hn u D hi hj];exact hv i j hi hj))).mono (fun _ _ h=>eB (sh:=fun v=>.tuple #[v, yI 0]) (m0:=m0) (K ▸ R.size) h)) fun xx=>?_
 obtain⟨⟨Z,l⟩,F,i0⟩:=xx
 refine xqg 2 [(33,.v (.agg #[yI (r:Int), yI (d:Int),.slice (yL Z) l.length l.length])),yJ 34 0] ?_
 have e0:(l.map ftV)=(zZ r d V).map ftW:=by rw[←F,qL];rfl
 have f0:l.length≤4096:=by have h1:=jS r d V;rw[←F,uR] at h1;rw[h1];exact uC (uZ N O) qD
 refine xqd 77 [.agg #[yI (r:Int), yI (d:Int),.slice (yL Z) l.length l.length], yI 0] 35 (fun b:{b:Nat // m0≤b}=>.tuple #[.agg #[yI (r:Int), yI (d:Int),.slice (yL b.1) ((zZ r d V).map ftW).length ((zZ r d V).map ftW).length], yI 0]) _ (fun w R Q=>((show Calls _ _ _ _ (kV (fun v=>.tuple #[v, yI 0]) r d ((zZ r d V).map ftW) _) by rw[←e0];exact ZbW m0 r d (yL Z) l.length l.length l _ Q.2.1 Q.2.2 rfl (hg.ext R) f0 (fun x hx=>(fun h=>⟨uC h.1 qD,h.2.2.2⟩:FvOk (nbV x)→_) (ZiO c0 _ (by rw[←F];exact pK hx))))).mono (fun _ _ h=>kH (sh:=fun v=>.tuple #[v, yI 0]) (m0:=m0) (K ▸ R.size) h)) fun⟨M,j0⟩=>?_
 refine xqg 2 [(36,.v (.agg #[yI (r:Int), yI (d:Int),.slice (yL M) ((zZ r d V).map ftW).length ((zZ r d V).map ftW).length])),yJ 37 0] ?_
 refine xz (xq 2 [yJ 9 0] [(8,29,[.v (yI (r:Int)),.v (yI (d:Int)),.v (.slice (yL M) ((zZ r d V).map ftW).length ((zZ r d V).map ftW).length)])] ?_)
 refine yZ (zG ?_)
 refine yR (.tuple #[.agg #[yI (r:Int), yI (d:Int),.slice (yL M) ((zZ r d V).map ftW).length ((zZ r d V).map ftW).length], yI 0]) fun w' R Q=>?_
 exact⟨M,rfl,K ▸ Q.2,R⟩
theorem ZiQ (u x r c d:Nat)(A B:qA)(cap a:Nat)(e f:List (ByteArray×Int))(b:Nat)(V:Nat→Nat→Fv3)(w:World)(z:Glob w)(C:OwnD w u 76 2 A cap e.length (e.flatMap flC))(n:OwnD w x 76 2 B a f.length (f.flatMap flC))(D:FmG ⟨r,c,A,cap,e⟩)(o:FmG ⟨c,d,B,a,f⟩)(s:8≤b)(t:b≤1024)(E:∀ i j,i<r→j<d→dtK b (fun q=>ldV e[i*c+q]!) (fun q=>ldV f[q*d+j]!) c 0 (false,0,0)=some (V i j))(k:∀ i j,i<r→j<d→FvOk (V i j)) :
 yA 28 #[.agg #[.int .i64 ((r:Nat):Int),.int .i64 ((c:Nat):Int),.slice A e.length cap],.agg #[.int .i64 ((c:Nat):Int),.int .i64 ((d:Nat):Int),.slice B f.length a],.int .i64 ((b:Nat):Int)] w (kV (fun v=>.tuple #[v,.int .i64 0]) r d ((zZ r d V).map ftW) w):=by
 obtain⟨m0,l⟩:∃ m,m=w.heap.size:=⟨_,rfl⟩
 refine zQ (Φ:=fun w=>True) func28 rfl qK (fun w' F=>trivial) ?_
 refine yY (xq 4 [(3,.p 3 0),(4,.p 4 0),(6,.p 6 0),yJ 7 0] [(6,29,[.v (yI 0),.v (yI 0),.v (.slice none 0 0)]),(4,29,[.v (yI (c:Int)),.v (yI (d:Int)),.v (.slice B f.length a)]),(3,29,[.v (yI (r:Int)),.v (yI (c:Int)),.v (.slice A e.length cap)])] ?_)
 refine yZ (yY (xq 3 [(8,.v (.agg #[yI (r:Int), yI (c:Int),.slice A e.length cap])),(9,.v (.agg #[yI (c:Int), yI (d:Int),.slice B f.length a])),yJ 10 (b:Int)] [] ?_))
 refine xqc 48 [.agg #[yI (r:Int), yI (c:Int),.slice A e.length cap],.agg #[yI (c:Int), yI (d:Int),.slice B f.length a], yI (b:Int),.func (.func 52) #[] #[]] 11 (fun b:{b:Nat // m0≤b}=>.tuple #[.agg #[yI (r:Int), yI (d:Int),.slice (yL b.1) ((zZ r d V).map ftW).length ((zZ r d V).map ftW).length], yI 0]) _ (fun w R Q=>(ZjV u x r c d A B cap a e f b V _ (z.ext R) (OwnD.ext C R) (OwnD.ext n R) D o s t E k).mono (fun _ _ h=>kH (sh:=fun v=>.tuple #[v, yI 0]) (m0:=m0) (l ▸ R.size) h)) fun⟨g,y⟩=>?_
 refine xq 4 [yJ 7 0] [(6,29,[.v (yI (r:Int)),.v (yI (d:Int)),.v (.slice (yL g) ((zZ r d V).map ftW).length ((zZ r d V).map ftW).length)])] ?_
 refine yZ (zG ?_)
 refine yR (.tuple #[.agg #[yI (r:Int), yI (d:Int),.slice (yL g) ((zZ r d V).map ftW).length ((zZ r d V).map ftW).length], yI 0]) fun w' R Q=>?_
 exact⟨g,rfl,l ▸ Q.2,R⟩
theorem OwnD.oldrow {w w':World}{m m0 n d c f k g:Nat}{e j:TypeId}{A b:qA}{xs a:List Value}(h:OwnD w m e k A c n xs)(l:OwnD w m0 j g b f d a)(o:∀ i,A=some ⟨i,0,none⟩→i<m0)(p:Fr (fun i=>b=some ⟨i,0,none⟩) w w'):OwnD w' m e k A c n xs:=h.fr p (fun i hi q=>by
 have r:=o i hi
 have s:=(l.blk q).1
 omega)
def PT (r c:Nat) (zs fs:List (ByteArray×Int)) (i j:Nat):Prop:=zs.length=c*r∧∀ a b,a<r→b<c→(a<i∨(a=i∧b<j))→zs[b*r+a]! = fs[a*c+b]!
theorem PT.start {r c:Nat}{d:List (ByteArray×Int)}(h:d.length=r*c):PT r c (List.replicate d.length fl0) d 0 0:=⟨by rw[rJ,h,uF],fun a b _ _ h=>qO⟩
theorem PT.next {r c i:Nat}{zs d:List (ByteArray×Int)}(h:PT r c zs d i c):PT r c zs d (i+1) 0:=⟨h.1,fun a b e f g=>h.2 a b e f qO⟩
theorem PT.set {r c i j:Nat}{zs f:List (ByteArray×Int)}{x:ByteArray×Int}(h:PT r c zs f i j)(hi:i<r)(q:j<c)(o:f[i*c+j]! = x):PT r c (zs.set (j*r+i) x) f i (j+1):=by
 refine⟨by rw[sS];exact h.1,fun a b m n g=>?_⟩
 rw[ZiN (by rw[h.1];exact gidx n m)]
 by_cases e:j*r+i=b*r+a
 ·rw[uS e]
  have k:b=j:=by
   rcases qB b j with d|d|d
   ·have:=uE r (show b+1≤j by omega)
    rw[sZ] at this
    omega
   ·exact d
   have:=uE r (show j+1≤b by omega)
   rw[sZ] at this
   omega
  subst k
  have l:a=i:=qO
  subst l
  exact o.symm
 rw[uL e]
 refine h.2 a b m n ?_
 rcases g with d|⟨d,s⟩
 ·exact Or.inl d
 refine Or.inr ⟨d,?_⟩
 subst d
 have:b≠j:=fun p=>e (by rw[p])
 omega
theorem PT.fin {r c:Nat}{zs a:List (ByteArray×Int)}(h:PT r c zs a r 0):zs=zZ c r (fun j i=>a[i*c+j]!):=ZaF h.1 (fun i j hi b=>h.2 j i b hi qO)
theorem bO (m r c:Nat)(A:qA)(cap:Nat)(a:List (ByteArray×Int))(w:World)(J:OwnD w m 76 2 A cap a.length (a.flatMap flC))(n:FmG ⟨r,c,A,cap,a⟩) :
 yA 29 #[.agg #[.int .i64 ((r:Nat):Int),.int .i64 ((c:Nat):Int),.slice A a.length cap]] w (kV (fun v=>.tuple #[v,.int .i64 0]) c r (zZ c r (fun j i=>a[i*c+j]!)) w):=by
 obtain⟨m0,u⟩:∃ m,m=w.heap.size:=⟨_,rfl⟩
 have D:r≤32:=n.hr.2
 have E:c≤32:=n.hc.2
 have S:a.length=r*c:=n.hn
 have T:r*c≤32*32:=uZ D E
 have K:∀ i,A=yL i→i<m0:=fun i hi=>by obtain⟨_,U,V,_⟩:=J.blk hi;rw[u];exact V.lt
 refine zQ (Φ:=fun w=>OwnD w m 76 2 A cap a.length (a.flatMap flC)) func29 rfl qK (fun w' W=>J.ext W) ?_
 refine yY (xq 3 [(1,.p 1 0),(2,.p 2 0),yJ 3 0] [(2,29,[.v (yI 0),.v (yI 0),.v (.slice none 0 0)]),(1,29,[.v (yI (r:Int)),.v (yI (c:Int)),.v (.slice A a.length cap)])] ?_)
 refine yZ (zC (yY (xq 1 [(7,.v (.agg #[yI (r:Int), yI (c:Int),.slice A a.length cap]))] [] ?_)))
 refine xqc 18 [.agg #[yI (r:Int), yI (c:Int),.slice A a.length cap]] 8 (fun _:Unit=>.bool true) _ (fun w R Q=>yN (ZbS m r c A cap a _ (OwnD.ext J R) n.hr n.hc n.hn n.hv n.hs)) fun xx=>?_
 refine xq 1 [yB 9 false] [] ?_
 refine yZ (xb (zJ (zA (zC ?_))))
 refine yO 10 zN ?_
 refine xqg 7 [yJ 12 (c:Int),yJ 14 (r:Int),yJ 17 ((a.length:Nat):Int)] ?_
 refine aG 18 (fun L:{b:Nat // m0≤b}=>.slice (yL L.1) a.length a.length) (fun L w=>OwnD w m0 76 2 (yL L.1) a.length a.length ((List.replicate a.length fl0).flatMap flC)) qK qK qK qK qK qK qK (fun w R Q=>fY (t:=27) (e:=76) (kl:=.i64) (kc:=.i64) (l:=.tmp 17) (c:=.tmp 17) (bytes:=24) (z:=.agg #[.string ⟨#[]⟩, yI 0]) fl0 iL qD rfl Zba (u ▸ R.size) (by simp only[maxLen];omega) qO) fun⟨d,O⟩=>?_
 refine xf 2 [(1,.p 1 0),(2,.p 2 0),yJ 3 0,(4,.p 4 0),(19,.v (.agg #[yI (c:Int), yI (r:Int),.slice (yL d) a.length a.length]))] [(4,29,[.v (yI 0),.v (yI 0),.v (.slice none 0 0)]),(2,29,[.v (yI 0),.v (yI 0),.v (.slice none 0 0)]),(1,29,[.v (yI (r:Int)),.v (yI (c:Int)),.v (.slice A a.length cap)])] ?_
 refine xz (xq 1 [] [(4,29,[.v (yI (c:Int)),.v (yI (r:Int)),.v (.slice (yL d) a.length a.length)])] ?_)
 refine yZ (zC (yY (xq 3 [yJ 21 (r:Int),yJ 22 0] [] ?_)))
 refine yZ (zO ?_)
 refine yC [(1,.p 1 0),(2,.p 2 0),yJ 3 0,(4,.p 4 0),yJ 21 (r:Int),yJ 22 ((0:Nat):Int)] [(4,29,[.v (yI (c:Int)),.v (yI (r:Int)),.v (.slice (yL d) a.length a.length)]),(2,29,[.v (yI 0),.v (yI 0),.v (.slice none 0 0)]),(1,29,[.v (yI (r:Int)),.v (yI (c:Int)),.v (.slice A a.length cap)])] (fun w=>(OwnD w m 76 2 A cap a.length (a.flatMap flC)∧OwnD w m0 76 2 (yL d) a.length a.length ((List.replicate a.length fl0).flatMap flC))) (fun w Q=>⟨Q.1.1,Q.2⟩) ?_
 refine xQ (fun F G H=>∃ (i:Nat) (o:List (ByteArray×Int)),G=ofL [(1,.p 1 0),(2,.p 2 0),yJ 3 0,(4,.p 4 0),yJ 21 (r:Int),yJ 22 (i:Int)] [(4,29,[.v (yI (c:Int)),.v (yI (r:Int)),.v (.slice (yL d) a.length a.length)]),(2,29,[.v (yI 0),.v (yI 0),.v (.slice none 0 0)]),(1,29,[.v (yI (r:Int)),.v (yI (c:Int)),.v (.slice A a.length cap)])]∧H=(fun w=>(OwnD w m 76 2 A cap a.length (a.flatMap flC)∧OwnD w m0 76 2 (yL d) a.length a.length (o.flatMap flC)))∧(i≤r)∧(PT r c o a i 0)∧F=(1+(r-i))) ((1+(r-0))) ⟨0,(List.replicate a.length fl0),rfl,rfl,(vK _),(PT.start n.hn),rfl⟩ ?_
 rintro F G H ⟨i,o,rfl,rfl,hi,C,rfl⟩
 refine yY (xq 1 [yB 23 (decide ((i:Int)<(r:Int)))] [] ?_)
 refine yZ (zC ?_)
 refine yQ ((decide ((i:Int)<(r:Int)))) (fun q=>?_) fun q=>?_
 ·have f:i<r:=by have:=uA q;omega
  refine zJ (zA (zC (zO (yY (xq 2 [yJ 5 (i:Int)] [] ?_)))))
  refine yZ (yY (xq 3 [yJ 26 (c:Int),yJ 27 0] [] ?_))
  refine yZ (zO ?_)
  refine yC [(1,.p 1 0),(2,.p 2 0),yJ 3 0,(4,.p 4 0),yJ 5 (i:Int),yJ 21 (r:Int),yJ 22 (i:Int),yJ 26 (c:Int),yJ 27 ((0:Nat):Int)] [(4,29,[.v (yI (c:Int)),.v (yI (r:Int)),.v (.slice (yL d) a.length a.length)]),(2,29,[.v (yI 0),.v (yI 0),.v (.slice none 0 0)]),(1,29,[.v (yI (r:Int)),.v (yI (c:Int)),.v (.slice A a.length cap)])] (fun w=>(OwnD w m 76 2 A cap a.length (a.flatMap flC)∧OwnD w m0 76 2 (yL d) a.length a.length (o.flatMap flC))) (fun w Q=>⟨Q.1,Q.2⟩) ?_
  refine xQ (fun F G H=>∃ (j:Nat) (o:List (ByteArray×Int)),G=ofL [(1,.p 1 0),(2,.p 2 0),yJ 3 0,(4,.p 4 0),yJ 5 (i:Int),yJ 21 (r:Int),yJ 22 (i:Int),yJ 26 (c:Int),yJ 27 (j:Int)] [(4,29,[.v (yI (c:Int)),.v (yI (r:Int)),.v (.slice (yL d) a.length a.length)]),(2,29,[.v (yI 0),.v (yI 0),.v (.slice none 0 0)]),(1,29,[.v (yI (r:Int)),.v (yI (c:Int)),.v (.slice A a.length cap)])]∧H=(fun w=>(OwnD w m 76 2 A cap a.length (a.flatMap flC)∧OwnD w m0 76 2 (yL d) a.length a.length (o.flatMap flC)))∧(j≤c)∧(PT r c o a i j)∧F=(1+(c-j))) ((1+(c-0))) ⟨0,o,rfl,rfl,(vK _),C,rfl⟩ ?_
  rintro F G H ⟨j,o,rfl,rfl,hj,C,rfl⟩
  refine yY (xq 1 [yB 28 (decide ((j:Int)<(c:Int)))] [] ?_)
  refine yZ (zC ?_)
  refine yQ ((decide ((j:Int)<(c:Int)))) (fun s=>?_) fun s=>?_
  ·have g:j<c:=by have:=uA s;omega
   have X:j*r+i<1025:=uQ (gidx g f) (by rw[uF];omega)
   have Y:i*c+j<1025:=uQ (gidx f g) qO
   refine zJ (zA (zC (zO (yY (xq 2 [yJ 6 (j:Int)] [] ?_)))))
   refine xe (zA ?_)
   refine fM 18 [0,1,0,0,8,28,0,124,0,256,0,0,2048,7168,0,31744,65280,130816] qK qK zN ?_
   refine xqg 6 [eS1 31 (yL d) a.length a.length,yJ 35 (IntKind.i64.wrap ((j:Int)*(r:Int)))] ?_
   rw[(show IntKind.i64.wrap ((j:Int)*(r:Int))=((j*r:Nat):Int) from cO qO qO)]
   refine xqg 2 [yJ 37 (IntKind.i64.wrap (((j*r:Nat):Int)+(i:Int)))] ?_
   rw[(show IntKind.i64.wrap (((j*r:Nat):Int)+(i:Int))=((j*r+i:Nat):Int) by rw[IntKind.wrap_i64];omega)]
   refine xqg 6 [eS1 39 A a.length cap,yJ 43 (IntKind.i64.wrap ((i:Int)*(c:Int)))] ?_
   rw[(show IntKind.i64.wrap ((i:Int)*(c:Int))=((i*c:Nat):Int) from cO qO qO)]
   refine xqg 2 [yJ 45 (IntKind.i64.wrap (((i*c:Nat):Int)+(j:Int)))] ?_
   rw[(show IntKind.i64.wrap (((i*c:Nat):Int)+(j:Int))=((i*c+j:Nat):Int) by rw[IntKind.wrap_i64];omega)]
   refine xqj 46 (atA A ((i*c+j)*2)) (fun w Q=>lV (t:=27) (e:=76) (sz:=2) (x:=.tmp 39) (ix:=.tmp 45) (len:=a.length) (cap:=cap) (i:=i*c+j) (OwnD.ne Q.1 (by rw[n.hn];exact gidx f g)) (by rw[n.hn];exact gidx f g)) ?_
   obtain⟨k,B⟩:∃ x,a[i*c+j]! = x:=⟨_,rfl⟩
   refine xqj 47 (yS k.1 k.2) (fun w Q=>by rw[←B];exact jU (t:=76) (x:=.tmp 46) (j:=i*c+j) Q.1 iL (by rw[n.hn];exact gidx f g)) ?_
   refine xz ?_
   refine xqk 48 (.pointer (some ⟨d,0+(j*r+i)*2,none⟩)) (fun w R Q=>iA (t:=27) (e:=76) (sz:=2) (x:=.tmp 31) (ix:=.tmp 37) (len:=a.length) (cap:=a.length) (i:=j*r+i) (by rw[n.hn,uF r c];exact gidx g f)) ?_
   refine cH (t:=76) (x:=.tmp 48) (y:=.tmp 47) (j:=j*r+i) (new:=flC k) m0 d (yS k.1 k.2) (fun w=>OwnD w m 76 2 A cap a.length (a.flatMap flC)) (fun w Q=>Q.2) (by rw[n.hn,uF r c];exact gidx g f) rfl qD (fun h=>Or.inl (uC (u ▸ uG _) h)) (by simp[flC,Value.oneCell']) (Zba _) rfl (fun w w' Q Z=>OwnD.oldrow Q.1 Q.2 K Z) ?_
   rw[←fP iL o (j*r+i) k (by rw[C.1];exact gidx g f)]
   refine xr 0 [(1,.p 1 0),(2,.p 2 0),yJ 3 0,(4,.p 4 0),yJ 5 (i:Int),yJ 21 (r:Int),yJ 22 (i:Int),yJ 26 (c:Int),yJ 27 (j:Int)] [(4,29,[.v (yI (c:Int)),.v (yI (r:Int)),.v (.slice (yL d) a.length a.length)]),(2,29,[.v (yI 0),.v (yI 0),.v (.slice none 0 0)]),(1,29,[.v (yI (r:Int)),.v (yI (c:Int)),.v (.slice A a.length cap)])] ?_
   refine xe (xN (zA (zB (xq 1 [yJ 49 (IntKind.i64.wrap ((j:Int)+1))] [] ?_))))
   rw[yW ((j:Int)+1) (((j+1:Nat):Int)) qO]
   refine xq 1 [yJ 27 ((j+1:Nat):Int)] [] ?_
   refine xe ?_
   refine yP [(1,.p 1 0),(2,.p 2 0),yJ 3 0,(4,.p 4 0),yJ 5 (i:Int),yJ 21 (r:Int),yJ 22 (i:Int),yJ 26 (c:Int),yJ 27 (((j+1):Nat):Int)] [(4,29,[.v (yI (c:Int)),.v (yI (r:Int)),.v (.slice (yL d) a.length a.length)]),(2,29,[.v (yI 0),.v (yI 0),.v (.slice none 0 0)]),(1,29,[.v (yI (r:Int)),.v (yI (c:Int)),.v (.slice A a.length cap)])] (fun w=>(OwnD w m 76 2 A cap a.length (a.flatMap flC)∧OwnD w m0 76 2 (yL d) a.length a.length ((o.set (j*r+i) k).flatMap flC))) (fun w Q=>⟨Q.1,Q.2⟩) ?_
   exact xE ((1+(c-(j+1)))) qO ⟨(j+1),(o.set (j*r+i) k),rfl,rfl,g,(PT.set C f g B),rfl⟩
  have M:j=c:=by have:=uB s;omega
  refine xL (zH (zH (xT (xN (zA (zB (xq 1 [yJ 50 (IntKind.i64.wrap ((i:Int)+1))] [] ?_)))))))
  rw[yW ((i:Int)+1) (((i+1:Nat):Int)) qO]
  refine xq 1 [yJ 22 ((i+1:Nat):Int)] [] ?_
  refine xe ?_
  refine yP [(1,.p 1 0),(2,.p 2 0),yJ 3 0,(4,.p 4 0),yJ 21 (r:Int),yJ 22 (((i+1):Nat):Int)] [(4,29,[.v (yI (c:Int)),.v (yI (r:Int)),.v (.slice (yL d) a.length a.length)]),(2,29,[.v (yI 0),.v (yI 0),.v (.slice none 0 0)]),(1,29,[.v (yI (r:Int)),.v (yI (c:Int)),.v (.slice A a.length cap)])] (fun w=>(OwnD w m 76 2 A cap a.length (a.flatMap flC)∧OwnD w m0 76 2 (yL d) a.length a.length (o.flatMap flC))) (fun w Q=>⟨Q.1,Q.2⟩) ?_
  exact xE ((1+(r-(i+1)))) qO ⟨(i+1),o,rfl,rfl,f,(PT.next (M ▸ C)),rfl⟩
 have N:i=r:=by have:=uB q;omega
 refine xL (zH (zH (xT (zA (yY (xq 3 [yJ 3 0] [(2,29,[.v (yI (c:Int)),.v (yI (r:Int)),.v (.slice (yL d) a.length a.length)])] ?_))))))
 refine yZ (zG ?_)
 refine yR (.tuple #[.agg #[yI (c:Int), yI (r:Int),.slice (yL d) a.length a.length], yI 0]) fun w' R Q=>?_
 have P:=PT.fin (N ▸ C)
 have I:o.length=a.length:=by rw[C.1,n.hn,uF]
 exact⟨d,by rw[←P,I],by rw[←P,I];exact u ▸ Q.2,R⟩
structure Tap where
 g:Nat
 A:Option Addr
 l:Nat
 c:Nat
def TOld (wl:World) (τ:Tap):Prop:=∃ zs,lU wl τ.A zs∧zs.length=τ.l∧τ.l≤1000000∧wl.heap.size≤τ.g
def TOk (τ:Tap) (w:World):Prop:=∃ p,p≤τ.l∧TB w τ.g τ.A τ.l τ.c p
theorem TOk.fr {τ:Tap}{w w':World}{S:Nat→Prop}(h:TOk τ w)(a:Fr S w w')(b:¬ S τ.g):TOk τ w':=by
 obtain⟨p,c,d⟩:=h
 exact⟨p,c,Blk.fr d a b⟩
theorem TOk.ext {τ:Tap}{w w':World}(h:TOk τ w)(a:Ext w w'):TOk τ w':=h.fr a (fun f=>f)
theorem TOk.lt {τ:Tap}{w:World}(h:TOk τ w):τ.g<w.heap.size:=by
 obtain⟨p,b,a⟩:=h
 exact Blk.lt a
theorem TOk.cell {τ:Tap}{w:World}(h:TOk τ w):w.cell? ⟨τ.g,0,none⟩=some (.slice τ.A τ.l τ.c):=by
 obtain⟨p,b,a⟩:=h
 rw[Blk.cell a];rfl
theorem TOk.boxT {τ:Tap}{w w':World}(h:TOk τ w'):BoxT τ.g w w' (TOk τ):=fun _ _ a b=>h.fr b (fun c=>(a _ c).2.1 rfl)
theorem TOld.old {wl a w:World}{τ:Tap}(h:TOld wl τ)(b:Ext wl a)(Q:Fr (fun i=>i=τ.g) a w):Ext wl w:=by
 obtain⟨_,_,_,_,c⟩:=h
 exact b.next Q (fun i hi e=>by have e:i=τ.g:=e;omega)
def RetT {α:Type} (τ:Tap) (sh:α→Value) (good:α→Prop) (φ:α→World→Prop) (w:World) (e:Ending) (w':World):Prop:=∃ x,good x∧e=.returned (sh x)∧Fr (fun i=>i=τ.g) w w'∧TOk τ w'∧φ x w'
theorem Zad {α:Type}{τ:Tap}{sh:α→Value}{a:α→Prop}{φ ψ:α→World→Prop}{w:World}{e:Ending}{w':World}(h:RetT τ sh a φ w e w')(c:∀ x,Fr (fun i=>i=τ.g) w w'→φ x w'→BoxT τ.g w w' (ψ x)) :
 ∃ x:{x:α // a x},e=.returned (sh x.1)∧Fr (fun i=>i=τ.g) w w'∧BoxT τ.g w w' (fun w=>TOk τ w∧ψ x.1 w):=by
 obtain⟨x,d,rfl,b,f,h⟩:=h
 exact⟨⟨x,d⟩,rfl,b,f.boxT.and (c x b h)⟩
theorem ZcH (τ:Tap)(wl:World)(n:Int)(w:World)(j:TOld wl τ)(k:Ext wl w)(m:TOk τ w)(a:0<n)(o:n≤1048576) :
 yA 20 #[.pointer (some ⟨τ.g,0,none⟩),.int .i64 n] w (RetT τ (fun v:Nat=>.int .i64 ((v:Nat):Int)) (fun v=>(v:Int)<n) (fun _ _=>True) w):=by
 obtain⟨q,d,r,s,t⟩:=j
 obtain⟨p,u,x⟩:=m
 refine (cS τ.g τ.A τ.l τ.c p q n w x u (lU.next d (k.mono (fun _ _ f=>f.elim):Fr (fun i=>i=τ.g) wl w) (d.apart t)) r s a o).mono ?_
 rintro e w' ⟨v,y,rfl,h,z,b⟩
 exact⟨v,h.1,rfl,z,⟨y,h.2,b⟩,trivial⟩
theorem OwnD.tape {w w':World}{m n c k g:Nat}{e:TypeId}{A:qA}{xs:List Value}(h:OwnD w m e k A c n xs)(a:Fr (fun i=>i=g) w w')(b:g<m):OwnD w' m e k A c n xs :=
 h.fr a (fun i hi e=>by have:=(h.blk hi).1;have e:i=g:=e;omega)
theorem TOk.row {w w':World}{τ:Tap}{m n c k:Nat}{e:TypeId}{A:qA}{xs:List Value}(h:TOk τ w)(a:OwnD w m e k A c n xs)(f:τ.g<m)(b:Fr (fun i=>A=some ⟨i,0,none⟩) w w'):TOk τ w' :=
 h.fr b (fun d=>by have:=(a.blk d).1;omega)
theorem ZhV (τ:Tap)(wl:World)(w:World)(j:TOld wl τ)(k:Ext wl w)(m:TOk τ w) :
 yA 51 #[.pointer (some ⟨τ.g,0,none⟩)] w (RetT τ (fun x:Int×Int=>.agg #[.string ⟨(Lib.itoa x.1).toArray⟩,.int .i64 x.2]) (fun x=>TF x.1 x.2) (fun _ _=>True) w):=by
 obtain⟨n,a,o,q,d⟩:=j
 obtain⟨p,r,s⟩:=m
 refine (ZjW τ.g τ.A τ.l τ.c p n w s r (lU.next a (k.mono (fun _ _ f=>f.elim):Fr (fun i=>i=τ.g) wl w) (a.apart d)) o q (a.apart d)).mono ?_
 rintro e w' ⟨z,x,t,rfl,h,u,b⟩
 exact⟨(z,x),h.1,rfl,u,⟨t,h.2,b⟩,trivial⟩
def TFf (f:ByteArray×Int):Prop:=∃ z x,TF z x∧f=(⟨(Lib.itoa z).toArray⟩,x)
instance:Nonempty {x:Int×Int // (fun x:Int×Int=>TF x.1 x.2) x}:=⟨⟨(0,0),Or.inl ⟨rfl,rfl⟩,by decide,by decide,by decide⟩⟩
theorem ZmP {l:List (ByteArray×Int)}{z x:Int}(h:∀ f∈l,TFf f)(b:TF z x):∀ f∈l ++ [((⟨(Lib.itoa z).toArray⟩,x):ByteArray×Int)],TFf f:=fun f a=>by
 rcases sD.1 a with a|a
 ·exact h f a
 exact⟨z,x,b,sV.1 a⟩
theorem ZaR (τ:Tap)(wl w:World)(K:TOld wl τ)(T:Ext wl w)(L:TOk τ w)(r c:Nat)(U:r≤3)(V:c≤3) :
 yA 27 #[.pointer (some ⟨τ.g,0,none⟩),.int .i64 ((r:Nat):Int),.int .i64 ((c:Nat):Int)] w (RetT τ (fun x:Option Addr×Nat × List (ByteArray×Int)=>.agg #[.int .i64 ((r:Nat):Int),.int .i64 ((c:Nat):Int),.slice x.1 x.2.2.length x.2.1]) (fun x=>x.2.2.length=r*c∧∀ f∈x.2.2,TFf f) (fun x w'=>OwnD w' w.heap.size 76 2 x.1 x.2.1 x.2.2.length (x.2.2.flatMap flC)) w):=by
 obtain⟨m0,a⟩:∃ m,m=w.heap.size:=⟨_,rfl⟩
 have B:τ.g<m0:=a ▸ L.lt
 have W:r*c≤3*3:=uZ U V
 refine Zfm (fun i=>i=τ.g) (Φ:=fun w=>TOk τ w) func27 rfl qK (fun w' X=>L.ext X) ?_
 refine yY (xq 1 [(6,.p 6 0)] [(6,29,[.v (yI 0),.v (yI 0),.v (.slice none 0 0)])] ?_)
 refine yZ (yY (xq 5 [(7,.p 7 0)] [(7,29,[.v (yI (r:Int)),.v (yI (c:Int)),.v (.slice none 0 0)])] ?_))
 refine yZ (zC (yY (xq 1 [yJ 8 0] [] ?_)))
 refine yZ (zO ?_)
 refine yC [(0,.v (.pointer (some ⟨τ.g,0,none⟩))),yJ 1 (r:Int),yJ 2 (c:Int),(6,.p 6 0),(7,.p 7 0),yJ 8 ((0:Nat):Int)] [(7,29,[.v (yI (r:Int)),.v (yI (c:Int)),.v (.slice none 0 0)]),(6,29,[.v (yI 0),.v (yI 0),.v (.slice none 0 0)])] (fun w=>(TOk τ w∧OwnD w m0 76 2 none 0 0 (([]:List (ByteArray×Int)).flatMap flC))) (fun w Q=>⟨Q,(OwnD.nil _ _ _ _)⟩) ?_
 refine xQ (fun M N O=>∃ (A:Option Addr) (cap:Nat) (l:List (ByteArray×Int)) (p:Nat),N=ofL [(0,.v (.pointer (some ⟨τ.g,0,none⟩))),yJ 1 (r:Int),yJ 2 (c:Int),(6,.p 6 0),(7,.p 7 0),yJ 8 (p:Int)] [(7,29,[.v (yI (r:Int)),.v (yI (c:Int)),.v (.slice A p cap)]),(6,29,[.v (yI 0),.v (yI 0),.v (.slice none 0 0)])]∧O=(fun w=>(TOk τ w∧OwnD w m0 76 2 A cap p (l.flatMap flC)))∧(l.length≤r*c)∧(∀ f∈l,TFf f)∧(l.length=0→A=none)∧(l.length=p)∧M=(1+(r*c-p))) ((1+(r*c-0))) ⟨none,0,([]:List (ByteArray×Int)),0,rfl,rfl,(vK _),(fun _ h=>nomatch h),(fun _=>rfl),rfl,rfl⟩ ?_
 rintro M N O ⟨A,cap,l,p,rfl,rfl,hl,C,G,Y,rfl⟩
 subst Y
 refine zC (yY (xq 4 [yJ 12 ((l.length:Nat):Int),yJ 15 (IntKind.i64.wrap ((r:Int)*(c:Int)))] [] ?_))
 rw[(show IntKind.i64.wrap ((r:Int)*(c:Int))=((r*c:Nat):Int) from cO qO qO)]
 refine xq 1 [yB 16 (decide (((l.length:Nat):Int)<((r*c:Nat):Int)))] [] ?_
 refine xe (zA ?_)
 refine yQ ((decide (((l.length:Nat):Int)<((r*c:Nat):Int)))) (fun o=>?_) fun o=>?_
 ·have H:l.length<r*c:=by have:=uA o;omega
  refine zJ (zA (zC (zO ?_)))
  refine yO 5 zN ?_
  refine xqg 3 [eS1 20 A l.length cap,(21,.v (.pointer (some ⟨τ.g,0,none⟩)))] ?_
  refine ZmO 22 (b:=τ.g) (j:=0) (c:=.slice τ.A τ.l τ.c) 51 [.pointer (some ⟨τ.g,0,none⟩)] (fun x:{x:Int×Int // (fun x=>TF x.1 x.2) x}=>(fun x=>.agg #[.string ⟨(Lib.itoa x.1).toArray⟩, yI x.2]) x.1) (fun w=>OwnD w m0 76 2 A cap l.length (l.flatMap flC)) (fun x w=>TOk τ w∧(fun _ _=>True) x.1 w) (fun w Q=>TOk.cell Q.1) (Or.inr rfl) (fun w R Q=>(ZhV τ wl _ K (K.old T R) Q.1).mono (fun _ _ h=>Zad h (fun x F h=>fun _ _ _ _=>trivial))) (fun w Z R Q F=>OwnD.tape Q.2 F B) (fun x w Q=>⟨Q.2.1,Q.1⟩) fun xx=>?_
  obtain⟨⟨q,s⟩,D⟩:=xx
  refine xf 0 [(0,.v (.pointer (some ⟨τ.g,0,none⟩))),yJ 1 (r:Int),yJ 2 (c:Int),(6,.p 6 0),(7,.p 7 0),yJ 8 ((l.length:Nat):Int),eS1 20 A l.length cap,(22,.v (yS ⟨(Lib.itoa q).toArray⟩ s))] [(7,29,[.v (yI (r:Int)),.v (yI (c:Int)),.v (.slice A l.length cap)]),(6,29,[.v (yI 0),.v (yI 0),.v (.slice none 0 0)])] ?_
  refine aG 23 (fun I:{b:Nat // m0≤b}=>.slice (yL I.1) 1 1) (fun I zw=>Blk 76 zw I.1 #[.string ⟨(Lib.itoa q).toArray⟩, yI s]) qK qK qK qK qK qK qK (fun w R Q=>fO (m0:=m0) (a ▸ R.size) (t:=27) (e:=76) (n:=1) (sz:=2) (z:=.agg #[.string ⟨#[]⟩, yI 0]) (parts:=#[(0,Operand.tmp 22)]) qK qK qK qK qK qK) fun⟨E,P⟩=>?_
  refine xf 0 [(0,.v (.pointer (some ⟨τ.g,0,none⟩))),yJ 1 (r:Int),yJ 2 (c:Int),(6,.p 6 0),(7,.p 7 0),yJ 8 ((l.length:Nat):Int),eS1 20 A l.length cap,eS1 23 (yL E) 1 1] [(7,29,[.v (yI (r:Int)),.v (yI (c:Int)),.v (.slice A l.length cap)]),(6,29,[.v (yI 0),.v (yI 0),.v (.slice none 0 0)])] ?_
  refine xz ?_
  refine Znx (d:=24) (k:=2) (n:=l.length) (m:=1) (cap:=cap) (bytes:=24) (t:=27) (e:=76) (s0:=Operand.tmp 20) (x:=Operand.tmp 23) (xs:=l.flatMap flC) (news:=[.string ⟨(Lib.itoa q).toArray⟩, yI s]) (z:=(yS ⟨#[]⟩ 0)) m0 A (fun j hj h=>Or.inl (a ▸ h)) E 1 (fun w=>TOk τ w) (fun w R Q=>a ▸ R.size) (fun w Q=>Q.1.1) (fun w Q=>Blk.news Q.2) rfl qD rfl (iE.list qS) qD (by simp[Value.oneCell']) qS (by simp only[maxLen];omega) qO G (fun w Z R Q F=>TOk.row Q.1.2.1 Q.1.1 B F) fun u y S=>?_
  refine xr 2 [(0,.v (.pointer (some ⟨τ.g,0,none⟩))),yJ 1 (r:Int),yJ 2 (c:Int),(6,.p 6 0),(7,.p 7 0),yJ 8 ((l.length:Nat):Int)] [(7,29,[.v (yI (r:Int)),.v (yI (c:Int)),.v (.slice u (l.length+1) y)]),(6,29,[.v (yI 0),.v (yI 0),.v (.slice none 0 0)])] ?_
  refine xe (xN (zA (zB (xq 2 [yJ 18 (IntKind.i64.wrap (((l.length:Nat):Int)+1))] [] ?_))))
  rw[yW (((l.length:Nat):Int)+1) (((l.length+1:Nat):Int)) qO]
  refine xq 1 [yJ 8 ((l.length+1:Nat):Int)] [] ?_
  refine xe ?_
  refine yP [(0,.v (.pointer (some ⟨τ.g,0,none⟩))),yJ 1 (r:Int),yJ 2 (c:Int),(6,.p 6 0),(7,.p 7 0),yJ 8 (((l.length+1):Nat):Int)] [(7,29,[.v (yI (r:Int)),.v (yI (c:Int)),.v (.slice u (l.length+1) y)]),(6,29,[.v (yI 0),.v (yI 0),.v (.slice none 0 0)])] (fun w=>(TOk τ w∧OwnD w m0 76 2 u y (l.length+1) ((l ++ [((⟨(Lib.itoa q).toArray⟩,s):ByteArray×Int)]).flatMap flC))) (fun w Q=>⟨Q.1,(by rw[List.flatMap_append];exact Q.2)⟩) ?_
  exact xE ((1+(r*c-(l.length+1)))) qO ⟨u,y,(l ++ [((⟨(Lib.itoa q).toArray⟩,s):ByteArray×Int)]),(l.length+1),rfl,rfl,(by rw[uU];exact H),(ZmP C D),(fun h=>by rw[uU] at h;simp at h),uU,rfl⟩
 have J:l.length=r*c:=by have:=uB o;omega
 refine xL (zH (zH (xT (zA (yY (xq 2 [] [(6,29,[.v (yI (r:Int)),.v (yI (c:Int)),.v (.slice A l.length cap)])] ?_))))))
 refine yZ (zG ?_)
 refine yR (.agg #[yI (r:Int), yI (c:Int),.slice A l.length cap]) fun w' R Q=>?_
 exact⟨(A,cap,l),⟨J,C⟩,rfl,R,Q.1,by show OwnD _ _ _ _ _ _ l.length _;exact a ▸ Q.2⟩
def Gd (f:ByteArray×Int):Prop:=fvB (bytes f.1) f.2=true∧(bytes f.1).length≤1000
theorem eJ {r c cap:Nat}{A:qA}{a:List (ByteArray×Int)}(d:1≤r∧r≤32)(e:1≤c∧c≤32)(g:a.length=r*c)(h:∀ f∈a,Gd f):FmG ⟨r,c,A,cap,a⟩:=⟨d,e,g,fun f b=>(h f b).1,fun f b=>(h f b).2⟩
theorem ZjX {z:Int}(h:blen z.natAbs≤65):(Lib.itoa z).length≤1000:=uC (ZnL (k:=20) qD (uQ (xM.1 h) qD)) qD
theorem ZeZ {z x:Int}(h:(z=0∧x=0)∨(z%2=1∧okE x))(a:blen z.natAbs≤65):Gd (⟨(Lib.itoa z).toArray⟩,x):=by
 refine⟨?_,?_⟩
 ·show fvB (Lib.itoa z) x=true
  rw[Zil];exact vR h
 exact ZjX a
theorem Zn7 {z x:Int}(h:(z=0∧x=0)∨(z%2=1∧okE x)):ldV (⟨(Lib.itoa z).toArray⟩,x)=(decide (z<0),z.natAbs,x):=by
 unfold ldV
 show ((ldR (Lib.itoa z) x).s,(ldR (Lib.itoa z) x).m,(ldR (Lib.itoa z) x).e)=_
 have a:fvB (Lib.itoa z) x=true:=by rw[Zil];exact vR h
 unfold ldR
 rw[uS a,eG,gK]
theorem Zhl {z x:Int}(h:TF z x):(z=0∧x=0)∨(z%2=1∧okE x):=h.1.imp id (fun e=>⟨e,by have:=h.2;constructor<;>omega⟩)
theorem Ze0 {z x:Int}(h:TF z x):blen z.natAbs≤40:=xM.2 (by have:=h.2.1;omega)
theorem ZjY {f:ByteArray×Int}(h:TFf f):Gd f:=by
 obtain⟨z,x,a,rfl⟩:=h
 exact ZeZ (Zhl a) (uC (Ze0 a) qD)
theorem Zc1 {f:ByteArray×Int}(h:TFf f):Bv 60 (ldV f)∧FvOk (ldV f):=by
 obtain⟨z,x,a,rfl⟩:=h
 have b:=Zhl a
 have c:=ZeZ b (uC (Ze0 a) qD)
 refine⟨?_,Zlr c.1 c.2⟩
 rw[Zn7 b]
 refine⟨uC (Ze0 a) qD,⟨by show -60≤x;have:=a.2;omega,by show x≤60;exact a.2.2.2⟩,fun e=>?_⟩
 have e:z.natAbs=0:=e
 show x=0
 rcases b with d|d
 ·exact d.2
 omega
theorem ZoN {s:Bool}{m:Nat}(h:m%2=1):sg s m%2=1:=by cases s<;>simp[sg]<;>omega
theorem ZoO (s:Bool)(m:Nat):(sg s m).natAbs=m:=by cases s<;>simp[sg]
theorem Zo5 {v:Fv3}{E:Int}(h:FvOk v)(hb:Bv E v):Gd (ftW v):=by
 refine ZeZ ?_ (by rw[ZoO];exact hb.1)
 rcases h.2.2.1 with h0|a
 ·exact Or.inl ⟨by rw[h0];cases v.1<;>rfl,hb.2.2 h0⟩
 exact Or.inr ⟨ZoN a,h.2.1⟩
theorem Zhm {α:Type}{r c:Nat}{V:Nat→Nat→α}{p:α→Prop}(h:∀ i j,i<r→j<c→p (V i j)):∀ v∈zZ r c V,p v:=fun v a=>by
 obtain⟨i,hi,a⟩:=List.mem_flatMap.1 a
 obtain⟨j,b,rfl⟩:=List.mem_map.1 a
 exact h i j (rA.1 hi) (rA.1 b)
theorem ZdE {α β:Type}{r c:Nat}{V:Nat→Nat→α}{f:α→β}:(zZ r c V).map f=zZ r c (fun i j=>f (V i j)):=by
 unfold zZ
 rw[List.map_flatMap]
 congr 1
 exact funext fun i=>by rw[qL];rfl
theorem Zm9 {r c:Nat}{a:List (ByteArray×Int)}(b:a.length=r*c)(h:∀ f∈a,Gd f):∀ f∈zZ c r (fun j i=>a[i*c+j]!),Gd f:=Zhm (fun j i d hi=>h _ (xR (by rw[b];exact gidx hi d)))
theorem ZoP {r c d b:Nat}{k l:List (ByteArray×Int)}(t:c≤3)(u:8≤b)(m:b≤64)(w:k.length=r*c)(n:l.length=c*d)(x:∀ f∈k,TFf f)(y:∀ f∈l,TFf f) :
 ∃ V:Nat→Nat→Fv3,(∀ i j,i<r→j<d→dtK b (fun q=>ldV k[i*c+q]!) (fun q=>ldV l[q*d+j]!) c 0 (false,0,0)=some (V i j))∧∀ i j,i<r→j<d→FvOk (V i j)∧Bv 150000 (V i j):=by
 have e:∀ i j,∃ v,(i<r→j<d→dtK b (fun q=>ldV k[i*c+q]!) (fun q=>ldV l[q*d+j]!) c 0 (false,0,0)=some v∧FvOk v∧Bv 150000 v):=fun i j=>by
  by_cases h:i<r∧j<d
  ·obtain⟨v,o,p⟩:=ZdB (b:=b) (f:=fun q=>if q<c then ldV k[i*c+q]! else (false,0,0)) (g:=fun q=>if q<c then ldV l[q*d+j]! else (false,0,0)) qO m (fun q=>by
    by_cases a:q<c
    ·simp only[uS a];exact (Zc1 (x _ (xR (by rw[w];exact gidx h.1 a)))).1
    ·simp only[uL a];exact bv0 qD) (fun q=>by
    by_cases a:q<c
    ·simp only[uS a];exact (Zc1 (y _ (xR (by rw[n];exact gidx a h.2)))).1
    ·simp only[uL a];exact bv0 qD) c 0 (false,0,0) 420 Zbf (bv0 qD) qD (by
    have z:3^c≤3^3:=uW qD t
    have A:=uI (420+150) z
    omega)
   refine⟨v,fun _ _=>⟨?_,p⟩⟩
   rw[←o]
   exact ZaE c 0 _ (fun q _ a=>⟨by simp only[uS (show q<c by omega)],by simp only[uS (show q<c by omega)]⟩)
  exact⟨(false,0,0),fun o p=>absurd ⟨o,p⟩ h⟩
 refine⟨fun i j=>Classical.choose (e i j),fun i j hi s=>(rT (e i j) hi s).1,fun i j hi s=>(rT (e i j) hi s).2⟩
theorem ZmQ {r c d b:Nat}{a e:List (ByteArray×Int)}{V:Nat→Nat→Fv3}(g:∀ i j,i<r→j<d→dtK b (fun q=>ldV a[i*c+q]!) (fun q=>ldV e[q*d+j]!) c 0 (false,0,0)=some (V i j)) :
 ∀ j i,j<d→i<r→dtK b (fun q=>ldV (zZ d c (fun j i=>e[i*d+j]!))[j*c+q]!) (fun q=>ldV (zZ c r (fun j i=>a[i*c+j]!))[q*r+i]!) c 0 (false,0,0)=some (V i j):=fun j i f hi=>by
 rw[←g i j hi f,Zhf]
 exact ZaE c 0 _ (fun q _ h=>⟨by rw[Zac (show q<c by omega) hi],by rw[Zac f (show q<c by omega)]⟩)
theorem ZfD {r d:Nat}{V:Nat→Nat→Fv3}{a:List (ByteArray×Int)}(c:a=(zZ r d V).map ftW):zZ d r (fun j i=>a[i*d+j]!)=(zZ d r (fun j i=>V i j)).map ftW:=by
 rw[ZdE]
 refine ZaF (jS _ _ _) fun j i b hi=>?_
 rw[Zac b hi,c,ZdE,Zac hi b]
theorem ZlB {r c:Nat}{a:List (ByteArray×Int)}(b:a.length=r*c):zZ r c (fun i j=>(zZ c r (fun j i=>a[i*c+j]!))[j*r+i]!)=a:=(ZaF b (fun i j hi d=>by rw[Zac d hi])).symm
theorem Zn8 {n b:Nat}{a:List (ByteArray×Int)}(t:8≤b)(c:b≤64)(g:a.length=n*n)(h:∀ f∈a,TFf f) :
 ∃ V:Nat→Nat→Fv3,(∀ i j,i<n→j<n→Zeu (fun q=>ldV a[q]!) n b i j=some (V i j))∧(∀ i j,i<n→j<n→FvOk (V i j)∧Bv 150000 (V i j))∧∀ i j,V i j=V j i:=by
 refine⟨fun i j=>fvR (shV (fvR (addV (ldV a[i*n+j]!) (ldV a[j*n+i]!) b)) (-1)),fun i j hi d=>?_,fun i j hi d=>?_,fun i j=>vF (fun r=>fvR (shV (fvR r) (-1))) (Zld _ _ _)⟩
 ·have k:=Zc1 (h _ (xR (by rw[g];exact gidx hi d)))
  have l:=Zc1 (h _ (xR (by rw[g];exact gidx d hi)))
  obtain⟨e,m⟩:=ZeV k.1 l.1 qD qD qO c
  obtain⟨o,s⟩:=Zlf (cL qO qO e) m qD
  show (musT (addV (ldV a[i*n+j]!) (ldV a[j*n+i]!) b)).bind (fun p=>musT (shV p (-1)))=_
  rw[ZbQ e,Option.bind_some,ZbQ o]
 have k:=Zc1 (h _ (xR (by rw[g];exact gidx hi d)))
 have l:=Zc1 (h _ (xR (by rw[g];exact gidx d hi)))
 obtain⟨e,m⟩:=ZeV k.1 l.1 qD qD (show 0<b by omega) c
 obtain⟨o,s⟩:=Zlf (cL qO qO e) m qD
 exact⟨Zle (cL qO qO e) o,s.mono qD⟩
theorem ZlC {n:Nat}{V:Nat→Nat→Fv3}{a:List (ByteArray×Int)}(b:a=(zZ n n V).map ftW)(c:∀ i j,V i j=V j i):zZ n n (fun j i=>a[i*n+j]!)=a:=by
 rw[ZfD b,b]
 congr 2
 exact funext fun i=>funext fun j=>(c i j).symm
theorem Ze1 {r c:Nat}{V:Nat→Nat→Fv3}(h:∀ i j,i<r→j<c→FvOk (V i j)∧Bv 150000 (V i j)):∀ f∈(zZ r c V).map ftW,Gd f:=fun f a=>by
 rw[ZdE] at a
 exact Zhm (fun i j hi b=>Zo5 (h i j hi b).1 (h i j hi b).2) f a
theorem ZdF {r c:Nat}{V:Nat→Nat→Fv3}:((zZ r c V).map ftW).length=r*c:=by rw[uR,jS]
structure Mr (α:Type) where
 A:Option Addr
 cap:Nat
 xs:List α
instance {α:Type}:Inhabited (Mr α):=⟨⟨none,0,[]⟩⟩
structure MrOk {α:Type} (e:TypeId) (k:Nat) (enc:α→List Value) (m:Nat) (w:World) (ys:List (Mr α)):Prop where
 own:∀ y∈ys,OwnD w m e k y.A y.cap y.xs.length (y.xs.flatMap enc)
 dif:ys.Pairwise (fun a b=>a.A≠b.A)
section
variable {α:Type} {e e':TypeId} {k k' m m' c n:Nat} {enc:α→List Value} {w w':World} {ys:List (Mr α)} {A:Option Addr} {l:List Value}
end
section
variable {α:Type} [Inhabited α] {e e':TypeId} {k k' m m' c n:Nat} {enc:α→List Value} {w w':World} {A A':Option Addr} {xs:List α} {l:List Value}
end
section
variable {P:Program} {o:Oper} {ρ:Operand→Value} {w:World} {t e:TypeId} {x:Operand}
end
section
variable {N:Nat} {S0:Nat→Prop} {w0:World} {s:St} {Φ Φ2:World→Prop} {P:Program} {ops:Array Oper} {Q:Exit→Act→World→Prop}
end
structure Qv where
 c:ShQ
 q:Rat
def qv0:Qv:=⟨(false,none,0,0,false,none,0,0),0⟩
instance:Inhabited Qv:=⟨qv0⟩
structure Qr where
 A:Option Addr
 cap:Nat
 xs:List Qv
def qr0:Qr:=⟨none,0,[]⟩
instance:Inhabited Qr:=⟨qr0⟩
section
variable {P:Program} {o:Oper} {ρ:Operand→Value} {w:World} {t e:TypeId} {x:Operand}
end
end Go.Proofs.YtenchljfmfgeoaaGreatDoor
namespace Go.Proofs.YtenchljfmfgeoaaGreatDoor
theorem few (s:Bool){n o j b:Nat}(e:Int)(d:0<b)(a:n=o*2^j)(c:o%2=1)(f:n<2^b)(g:okE (e+(j:Int))):wK s n 1 e b=⟨s,o,e+(j:Int),0⟩:=by
 have h:0<n:=by rw[a];exact tZ qO (p2 j)
 rw[←lZ s n e d]
 unfold wO
 rw[uS (xM.2 f)]
 unfold xU
 rw[uL qO,a,Za9 c,ZcU c,uS g]
theorem Zev {e:Int}(a : -1000≤e)(b:e≤1000):okE e:=by unfold okE;omega
theorem rd4:wJ [52]=some ((4:Int):Rat):=ZbG.2 (eS (n:=4) qD qD qD)
theorem rd2:wJ [50]=some ((2:Int):Rat):=ZbG.2 (eS (n:=2) qD qD qD)
theorem rd5:wJ [53]=some ((5:Int):Rat):=ZbG.2 (eS (n:=5) qD qD qD)
theorem ZjZ {l:List UInt8}{n o j:Nat}(h:wJ l=some ((n:Int):Rat))(a:n=o*2^j)(b:o%2=1)(c:n<256)(d:j≤1000):kM l 8=⟨false,o,(j:Int),0⟩:=by
 unfold kM
 rw[uS (by rw[h];rfl),uS qO,bN h]
 unfold rndF
 rw[Rat.num_intCast,Rat.den_intCast]
 show wK (decide ((n:Int)<0)) n 1 0 8=_
 rw[show decide ((n:Int)<0)=false from uX qO,few false 0 qD a b c (Zev qO qO),Int.zero_add]
theorem r4:kM [52] 8=⟨false,1,2,0⟩:=ZjZ (n:=4) (o:=1) (j:=2) rd4 qD qD qD qD
theorem r2:kM [50] 8=⟨false,1,1,0⟩:=ZjZ (n:=2) (o:=1) (j:=1) rd2 qD qD qD qD
theorem r5:kM [53] 8=⟨false,5,0,0⟩:=ZjZ (n:=5) (o:=5) (j:=0) rd5 qD qD qD qD
theorem Zhn {n:Nat}{c:UInt8}(a:Lib.decDigits n=[c]):Lib.itoa ((n:Nat):Int)=[c]:=by rw[iY,a]
theorem it1:Lib.itoa 1=[49]:=Zhn (n:=1) (by rw[gJ qO];rfl)
theorem it5:Lib.itoa 5=[53]:=Zhn (n:=5) (by rw[gJ qO];rfl)
theorem it2:Lib.itoa 2=[50]:=Zhn (n:=2) (by rw[gJ qO];rfl)
theorem Zho {c d:UInt8}{o:Nat}{e:Int}(h:kM [c] 8=⟨false,o,e,0⟩)(a:Lib.itoa (sg false o)=[d]):rdF 8 ⟨#[c]⟩=(⟨#[d]⟩,e):=by
 unfold rdF
 rw[show bytes ⟨#[c]⟩=[c] from rfl,h]
 show ((⟨(Lib.itoa (sg false o)).toArray⟩:ByteArray),e)=_
 rw[a]
def kF:List (ByteArray×Int):=[(⟨#[49]⟩,2),(⟨#[49]⟩,1),(⟨#[49]⟩,1),(⟨#[53]⟩,0)]
theorem ZmR:[(⟨#[52]⟩:ByteArray),⟨#[50]⟩,⟨#[50]⟩,⟨#[53]⟩].map (rdF 8)=kF:=by
 simp only[pL,pW]
 rw[Zho r4 it1,Zho r2 it1,Zho r5 it5]
 rfl
def kA:List Fv3:=[(false,1,2),(false,1,1),(false,1,1),(false,5,0)]
theorem Zn9:kF.map ldV=kA:=by
 unfold kF kA
 simp only[pL,pW]
 refine congr (vF _ ?_) (congr (vF _ ?_) (congr (vF _ ?_) (congr (vF _ ?_) rfl)))
 all_goals (unfold ldV ldR;rw[uS qD];rfl)
theorem Zc2 {r:FR}{s:Bool}{m:Nat}{e:Int}(h:r=⟨s,m,e,0⟩):musT r=some (s,m,e):=by subst h;rfl
theorem ZoQ:blen 1=1:=ZcT (k:=0) qD qD
theorem ZiU:musT (ZcW (false,1,2) 8)=some (false,1,1):=by
 refine Zc2 ?_
 show hZ false 1 2 8=_
 unfold hZ
 rw[uL qD,uL qD]
 have a:sqK 1 2 8 = -6:=by unfold sqK;rw[ZoQ];decide
 have b:fq 1 1 (-16)=65536:=by have:=aH 1 16;rw[show (-((16:Nat):Int)) = -16 from rfl] at this;rw[this]
 have hi:isq 65536=256:=Zek qD qD
 have c:sqM 1 2 8=128:=by
  unfold sqM jI
  rw[a,show (2:Int)-2*(-6)+2=16 from rfl,b,hi]
  decide
 unfold Zau xU
 rw[a,c,uL qD,show (128:Nat)=1*2^7 from rfl,Za9 qD,ZcU qD,uS (Zev qD qD)]
 rfl
theorem ZoR:musT (divV (false,1,1) (false,1,1) 8)=some (false,1,0):=by
 refine Zc2 ?_
 show ZbD false 1 1 0 8=_
 unfold ZbD
 rw[uL qD]
 exact few (n:=1) (o:=1) (j:=0) (b:=8) false 0 qD qD qD qD (Zev qD qD)
theorem ZoS:ZaD (false,5,0) (false,1,0) (false,1,0) 8=some (false,1,2):=by
 unfold ZaD
 rw[show musT (mulV (false,1,0) (false,1,0) 8)=some (false,1,0) from Zc2 (few (n:=1) (o:=1) (j:=0) false 0 qD qD qD qD (Zev qD qD))]
 show musT (subV (false,5,0) (false,1,0) 8)=_
 refine Zc2 ?_
 show sumR false 5 0 true 1 0 8=_
 unfold sumR addR
 rw[uL qD,uL qD]
 exact few (n:=4) (o:=1) (j:=2) (b:=8) false 0 qD qD qD qD (Zev qD qD)
theorem ZdG {b n i j f:Nat}{A L:List Fv3}{t v:Fv3}(a:chK b L i j n j 0 (at3 A (i*n+j))=some t)(Q:chE b L i j n t=some v):chI b A n j (f+1) i L=chI b A n j f (i+1) (L.set (i*n+j) v):=by
 show (chK b L i j n j 0 (at3 A (i*n+j))).bind _=_
 rw[a]
 show (chE b L i j n t).bind _=_
 rw[Q]
 rfl
def kL:List Fv3:=[(false,1,1),(false,0,0),(false,1,0),(false,1,1)]
theorem Zoa:ZbP 8 kA 2=some kL:=by
 have a:chI 8 kA 2 0 2 0 [(false,0,0),(false,0,0),(false,0,0),(false,0,0)]=some [(false,1,1),(false,0,0),(false,1,0),(false,0,0)]:=by
  rw[ZdG (t:=(false,1,2)) (v:=(false,1,1)) rfl (by unfold chE;rw[uL qD,uL qD];exact ZiU)]
  rw[ZdG (t:=(false,1,1)) (v:=(false,1,0)) rfl (by unfold chE;rw[uS qD];exact ZoR)]
  rfl
 have b:chI 8 kA 2 1 1 1 [(false,1,1),(false,0,0),(false,1,0),(false,0,0)]=some kL:=by
  rw[ZdG (t:=(false,1,2)) (v:=(false,1,1)) (by show (ZaD (false,5,0) (false,1,0) (false,1,0) 8).bind _=_;rw[ZoS];rfl) (by unfold chE;rw[uL qD,uL qD];exact ZiU)]
  rfl
 show (chI 8 kA 2 0 2 0 [(false,0,0),(false,0,0),(false,0,0),(false,0,0)]).bind _=_
 rw[a]
 show (chI 8 kA 2 1 1 1 [(false,1,1),(false,0,0),(false,1,0),(false,0,0)]).bind _=_
 rw[b]
 rfl
def kG:List (ByteArray×Int):=[(⟨#[49]⟩,1),(⟨#[48]⟩,0),(⟨#[49]⟩,0),(⟨#[49]⟩,1)]
theorem ZlD:kL.map ftW=kG:=by
 unfold kL kG
 simp only[pL,pW]
 unfold ftW
 show [((⟨(Lib.itoa 1).toArray⟩:ByteArray),(1:Int)),(⟨(Lib.itoa 0).toArray⟩,0),(⟨(Lib.itoa 1).toArray⟩,0),(⟨(Lib.itoa 1).toArray⟩,1)]=_
 rw[it1,Zay]
theorem ZmS:kG.map exV=[⟨#[50]⟩,⟨#[48]⟩,⟨#[49]⟩,⟨#[50]⟩]:=by
 have a:flM [49]=1:=qD
 have b:exT [49] 1=[50]:=by
  unfold exT;rw[uS (fv_1 qD qD),a,uL qD,uL qD];exact it2
 have c:exT [49] 0=[49]:=by
  unfold exT;rw[uS (fv_1 qD qD),a,uL qD,uL qD];exact it1
 have d:exT [48] 0=[48]:=Zha qD qD
 unfold kG
 simp only[pL,pW]
 unfold exV
 show [(⟨(exT [49] 1).toArray⟩:ByteArray),⟨(exT [48] 0).toArray⟩,⟨(exT [49] 0).toArray⟩,⟨(exT [49] 1).toArray⟩]=_
 rw[b,c,d]
end Go.Proofs.YtenchljfmfgeoaaGreatDoor
namespace Go.Proofs.YtenchljfmfgeoaaGreatDoor
open Go.RowKit Tryz
def kS:List ByteArray:=[⟨#[52]⟩,⟨#[50]⟩,⟨#[50]⟩,⟨#[53]⟩]
theorem ZoT {w:World}{b:Nat}(h:Blk 9 w b #[.string ⟨#[52]⟩,.string ⟨#[50]⟩,.string ⟨#[50]⟩,.string ⟨#[53]⟩]):SRd w (some ⟨b,0,none⟩) kS:=fun i hi=>by
 refine⟨b,0,rfl,h.lt,?_⟩
 rw[h.cell,vU]
 match i,hi with
 | 0,_=>rfl
 | 1,_=>rfl
 | 2,_=>rfl
 | 3,_=>rfl
theorem ZmT:mtB (2:Nat) (2:Nat) kS=true:=by
 unfold mtB
 rw[vR qD,Bool.true_and]
 show ([(⟨#[52]⟩:ByteArray),⟨#[50]⟩,⟨#[50]⟩,⟨#[53]⟩]:List ByteArray).all (fun s=>(wJ (bytes s)).isSome)=true
 simp only[sR,List.all_nil]
 rw[show bytes ⟨#[52]⟩=[52] from rfl,show bytes ⟨#[50]⟩=[50] from rfl,show bytes ⟨#[53]⟩=[53] from rfl,rd4,rd2,rd5]
 rfl
theorem ZoU:∀ s∈kS,(kM (bytes s) 8).err=0:=fun s a=>by
 simp only[kS,qV,oE,or_false] at a
 rcases a with rfl|rfl|rfl|rfl
 ·rw[show bytes ⟨#[52]⟩=[52] from rfl,r4]
 ·rw[show bytes ⟨#[50]⟩=[50] from rfl,r2]
 ·rw[show bytes ⟨#[50]⟩=[50] from rfl,r2]
 rw[show bytes ⟨#[53]⟩=[53] from rfl,r5]
theorem kF_g (A:qA)(cap:Nat):FmG ⟨2,2,A,cap,kF⟩:=by
 refine⟨by show 1≤2∧2≤32;decide,by show 1≤2∧2≤32;decide,rfl,fun f a=>?_,fun f a=>?_⟩
 all_goals (simp only[kF,qV,oE,or_false] at a;rcases a with rfl|rfl|rfl|rfl<;>decide)
theorem kG_g (A:qA)(cap:Nat):FmG ⟨2,2,A,cap,kG⟩:=by
 refine⟨by show 1≤2∧2≤32;decide,by show 1≤2∧2≤32;decide,rfl,fun f a=>?_,fun f a=>?_⟩
 all_goals (simp only[kG,qV,oE,or_false] at a;rcases a with rfl|rfl|rfl|rfl<;>decide)
theorem kG_x:∀ x∈kG,-1000≤x.2∧x.2≤1000:=fun f a=>by
 simp only[kG,qV,oE,or_false] at a
 rcases a with rfl|rfl|rfl|rfl<;>decide
theorem Zob {m0:Nat}{w w':World}{e:Ending}(c:m0≤w.heap.size)(h:∃ b,e=.returned (.tuple #[.agg #[.int .i64 ((2:Nat):Int),.int .i64 ((2:Nat):Int),.slice (some ⟨b,0,none⟩) kG.length kG.length],.int .i64 0])∧OwnD w' w.heap.size 9 1 (some ⟨b,0,none⟩) kG.length kG.length ((kG.map exV).flatMap stC)∧Ext w w') :
 lQ (fun b:{b:Nat // m0≤b}=>.tuple #[.agg #[.int .i64 2,.int .i64 2,.slice (some ⟨b.1,0,none⟩) 4 4],.int .i64 0]) (fun b w=>OwnD w m0 9 1 (some ⟨b.1,0,none⟩) 4 4 [.string ⟨#[50]⟩,.string ⟨#[48]⟩,.string ⟨#[49]⟩,.string ⟨#[50]⟩]) w e w':=by
 obtain⟨b,rfl,a,Q⟩:=h
 rw[ZmS] at a
 exact⟨⟨b,uC c (a.blk rfl).1⟩,rfl,Q,a.boxN c⟩
theorem ZhW (w:World)(o:Glob w) :
 yA 9 #[] w (RetV w (.bool true)):=by
 obtain⟨m0,j⟩:∃ m,m=w.heap.size:=⟨_,rfl⟩
 refine zQ (Φ:=fun w=>True) func9 rfl qK (fun w' C=>trivial) ?_
 refine yY (xq 1 [yB 0 false] [] ?_)
 refine yZ (zC (zB ?_))
 refine yD (d:=8) (fun q:{b:Nat // m0≤b}=>.slice (yL q.1) 4 4) (fun q B=>Blk 9 B q.1 #[.string ⟨#[52]⟩,.string ⟨#[50]⟩,.string ⟨#[50]⟩,.string ⟨#[53]⟩]) (fun w R Q=>fO (m0:=m0) (j ▸ R.size) (t:=22) (e:=9) (n:=4) (sz:=1) (z:=.string ⟨#[]⟩) (parts:=#[(0,Operand.const (Value.string { data:=#[52] })),(1,Operand.const (Value.string { data:=#[50] })),(2,Operand.const (Value.string { data:=#[50] })),(3,Operand.const (Value.string { data:=#[53] }))]) qK qK qK qK qK qK) fun⟨l,s⟩=>?_
 refine xr 1 [yB 0 false,(9,.v (.agg #[yI 2, yI 2,.slice (yL l) 4 4]))] [] ?_
 refine xqc 10 [.agg #[yI 2, yI 2,.slice (yL l) 4 4], yI 8] 10 (fun b:{b:Nat // m0≤b}=>.tuple #[.agg #[yI 2, yI 2,.slice (yL b.1) 4 4], yI 0]) _ (fun w R Q=>((show Calls _ _ _ _ (Zm6 2 2 kF _) by rw[←ZmR];exact Zlh 2 2 (yL l) 4 kS 8 _ (o.ext R) (ZoT Q.2) qD ZmT qD qD qD qD qD ZoU)).mono (fun _ _ h=>kH (sh:=fun v=>.tuple #[v, yI 0]) (m0:=m0) (r:=2) (c:=2) (j ▸ R.size) h)) fun⟨k,u⟩=>?_
 refine xq 6 [(1,.p 1 0),yJ 2 0] [(1,29,[.v (yI 2),.v (yI 2),.v (.slice (yL k) 4 4)])] ?_
 refine yZ (yY (xq 1 [(14,.v (.agg #[yI 2, yI 2,.slice (yL k) 4 4]))] [] ?_))
 refine xqc 34 [.agg #[yI 2, yI 2,.slice (yL k) 4 4], yI 8] 15 (fun b:{b:Nat // m0≤b}=>.tuple #[.agg #[yI 2, yI 2,.slice (yL b.1) 4 4], yI 0]) _ (fun w R Q=>((show Calls _ _ _ _ (kV (fun v=>.tuple #[v, yI 0]) 2 2 kG _) by rw[←ZlD];exact Zhk m0 2 (yL k) 4 kF 8 kL _ (o.ext R) Q.2 (kF_g _ _) qD qD (by rw[Zn9];exact Zoa))).mono (fun _ _ h=>kH (sh:=fun v=>.tuple #[v, yI 0]) (m0:=m0) (r:=2) (c:=2) (j ▸ R.size) h)) fun⟨f,y⟩=>?_
 refine xq 6 [(3,.p 3 0),yJ 4 0] [(3,29,[.v (yI 2),.v (yI 2),.v (.slice (yL f) 4 4)])] ?_
 refine yZ (yY (xq 1 [(19,.v (.agg #[yI 2, yI 2,.slice (yL f) 4 4]))] [] ?_))
 refine xqc 36 [.agg #[yI 2, yI 2,.slice (yL f) 4 4]] 20 (fun b:{b:Nat // m0≤b}=>.tuple #[.agg #[yI 2, yI 2,.slice (yL b.1) 4 4], yI 0]) _ (fun w R Q=>(ZjO m0 2 2 (yL f) 4 kG _ Q.2 (o.ext R) (kG_g (yL f) 4).hr (kG_g (yL f) 4).hc rfl (kG_g (yL f) 4).hv (kG_g (yL f) 4).hs kG_x).mono (fun _ _ h=>Zob (m0:=m0) (j ▸ R.size) h)) fun⟨a,A⟩=>?_
 refine xq 6 [(5,.p 5 0),yJ 6 0] [(5,24,[.v (yI 2),.v (yI 2),.v (.slice (yL a) 4 4)])] ?_
 refine yZ (yY (xq 15 [yB 33 true,yB 37 ((((4:Nat):Int):Int) == 4)] [] ?_))
 rw[(show ((((4:Nat):Int):Int) == 4)=true from rfl)]
 refine xq 4 [yB 39 true,eS1 41 (yL a) 4 4] [] ?_
 refine xqk 42 (.pointer (some ⟨a,0+0*1,none⟩)) (fun w R Q=>iA (t:=22) (e:=9) (sz:=1) (x:=.tmp 41) (ix:=(Operand.const (Value.int IntKind.i64 0))) (len:=4) (cap:=4) (i:=0) qD) ?_
 refine xqk 43 (.string ⟨#[50]⟩) (fun w R Q=>xG (t:=9) (x:=.tmp 42) (g:=a) (off:=0) (OwnD.news Q.2 0 _ rfl)) ?_
 refine xq 1 [yB 44 ((⟨#[50]⟩:ByteArray).toList == (⟨#[50]⟩:ByteArray).toList)] [] ?_
 rw[Zbu]
 refine xq 4 [yB 46 true,eS1 48 (yL a) 4 4] [] ?_
 refine xqk 49 (.pointer (some ⟨a,0+1*1,none⟩)) (fun w R Q=>iA (t:=22) (e:=9) (sz:=1) (x:=.tmp 48) (ix:=(Operand.const (Value.int IntKind.i64 1))) (len:=4) (cap:=4) (i:=1) qD) ?_
 refine xqk 50 (.string ⟨#[48]⟩) (fun w R Q=>xG (t:=9) (x:=.tmp 49) (g:=a) (off:=1) (OwnD.news Q.2 1 _ rfl)) ?_
 refine xq 1 [yB 51 ((⟨#[48]⟩:ByteArray).toList == (⟨#[48]⟩:ByteArray).toList)] [] ?_
 rw[Zbu]
 refine xq 4 [yB 53 true,eS1 55 (yL a) 4 4] [] ?_
 refine xqk 56 (.pointer (some ⟨a,0+2*1,none⟩)) (fun w R Q=>iA (t:=22) (e:=9) (sz:=1) (x:=.tmp 55) (ix:=(Operand.const (Value.int IntKind.i64 2))) (len:=4) (cap:=4) (i:=2) qD) ?_
 refine xqk 57 (.string ⟨#[49]⟩) (fun w R Q=>xG (t:=9) (x:=.tmp 56) (g:=a) (off:=2) (OwnD.news Q.2 2 _ rfl)) ?_
 refine xq 1 [yB 58 ((⟨#[49]⟩:ByteArray).toList == (⟨#[49]⟩:ByteArray).toList)] [] ?_
 rw[Zbu]
 refine xr 4 [yB 0 false,yB 60 true,eS1 62 (yL a) 4 4] [] ?_
 refine xqk 63 (.pointer (some ⟨a,0+3*1,none⟩)) (fun w R Q=>iA (t:=22) (e:=9) (sz:=1) (x:=.tmp 62) (ix:=(Operand.const (Value.int IntKind.i64 3))) (len:=4) (cap:=4) (i:=3) qD) ?_
 refine xqk 64 (.string ⟨#[50]⟩) (fun w R Q=>xG (t:=9) (x:=.tmp 63) (g:=a) (off:=3) (OwnD.news Q.2 3 _ rfl)) ?_
 refine xq 1 [yB 65 ((⟨#[50]⟩:ByteArray).toList == (⟨#[50]⟩:ByteArray).toList)] [] ?_
 rw[Zbu]
 refine xq 2 [yB 0 true] [] ?_
 refine yZ (zG ?_)
 refine yR (.bool true) fun w' R Q=>?_
 exact⟨rfl,R⟩
instance {p q m0:Nat}:Nonempty {x:Nat × List Qr // x.2.map (fun r=>r.xs.map (·.q))=List.replicate p (List.replicate q 0)∧m0≤x.1}:=⟨⟨(m0,List.replicate p ⟨none,0,List.replicate q qv0⟩),by
 refine⟨?_,uG _⟩
 rw[List.map_replicate,List.map_replicate];rfl⟩⟩
theorem rd0:wJ [48]=some ((0:Int):Rat):=ZbG.2 (eS (n:=0) qD qD qD)
theorem r0:kM [48] 8=⟨false,0,0,0⟩:=by
 unfold kM
 rw[uS (by rw[rd0];rfl),uS qO,bN rd0]
 rfl
structure Ef where
 s:Bool
 A:Option Addr
 l:Nat
 c:Nat
 e:Int
 z:Int
def ef0:Ef:=⟨false,none,0,0,0,0⟩
instance:Inhabited Ef:=⟨ef0⟩
instance {β:Type} {m:Nat} {ys:List (Mr β)}:Nonempty {b:Nat // m≤b∧∀ y∈ys,y.A≠some ⟨b,0,none⟩}:=by
 refine⟨⟨m+(ys.map (fun y=>match y.A with | some a=>a.block+1 | none=>0)).sum,Nat.le_add_right _ _,fun y hy h=>?_⟩⟩
 have h1:∀ (l:List (Mr β)),y∈l→(match y.A with | some a=>a.block+1 | none=>0)≤(l.map (fun y=>match y.A with | some a=>a.block+1 | none=>0)).sum:=fun l hl=>by
  induction l with
  | nil=>cases hl
  | cons x l ih =>
   rw[pL,List.sum_cons]
   rcases qV.1 hl with e|e
   ·subst e;exact Nat.le_add_right _ _
   have:=ih e;omega
 have h2:=h1 ys hy
 rw[h] at h2
 dsimp only at h2
 omega
section
variable {P:Program} {o:Oper} {ρ:Operand→Value} {w:World} {t e:TypeId} {x:Operand}
end
instance {m:Nat} {ts:List ByteArray}:Nonempty {x:Nat × List Qv // x.2.map (·.q)=ts.map (fun t=>valF (bytes t))∧m≤x.1}:=⟨⟨(m,ts.map (fun t=>⟨qv0.c,valF (bytes t)⟩)),by rw[qL];rfl,uG _⟩⟩
theorem eqFl (a b:ByteArray)(d c:Int)(w:World):(Op.equalIn 10000 76 (yS a d) (yS b c)).run prog w =
 .ok ((a.toList == b.toList) && (d == c)) w:=by
 have e:prog.underlying 76=some (.struct (prog.fieldsOf 76)):=qK
 have f:prog.stoodInHeld 76=false:=qK
 have g:=underlying3
 have h:=isAgg3
 have i:=underlying9
 have j:=isAgg9
 rw[show (10000:Nat)=9999+1 from rfl,run_equalIn_agg w 9999 _ _ _ e f]
 simp only[Program.fieldsOf,underlying76]
 go_simp
 cases h1:(a.toList == b.toList)<;>cases h3:(d == c)<;>simp_all
theorem Zoc {o:Oper}{ρ:Operand→Value}{w:World}{x y:Operand}{k:TypeId}{a:ByteArray}{d:Int}(b:o.op=Op.binOp .neq 76 x y k:=by kernel_rfl)(c:ρ x=.agg #[.string a,.int .i64 d]:=by kernel_rfl)(e:ρ y=.agg #[.string a,.int .i64 d]:=by kernel_rfl) :
 (execOp ρ o).run prog w=.ok (.value (.bool false)) w:=by
 have f:prog.eqGuardType prog.depth 76=false:=qK
 have g:(!((a.toList == a.toList) && (d == d)))=false:=qS
 simp only[execOp,b,c,e,Sem.run_bind,run_eqGuard_agg w _ _ _ _ _ _ f,Result.andThen_ok,run_neq_struct,eqFl,Sem.run_pure,g]
theorem ZbX (r c q s n:Nat)(A B:qA)(g h:Nat)(l:List (ByteArray×Int))(w:World)(F:OwnD w q 76 2 A g n (l.flatMap flC))(G:OwnD w s 76 2 B h n (l.flatMap flC))(u:l.length=n)(I:n≤4096) :
 yA 12 #[.agg #[.int .i64 ((r:Nat):Int),.int .i64 ((c:Nat):Int),.slice A n g],.agg #[.int .i64 ((r:Nat):Int),.int .i64 ((c:Nat):Int),.slice B n h]] w (RetV w (.bool true)):=by
 refine zQ (Φ:=fun w=>(OwnD w q 76 2 A g n (l.flatMap flC)∧OwnD w s 76 2 B h n (l.flatMap flC))) func12 rfl qK (fun w' z=>⟨F.ext z,G.ext z⟩) ?_
 refine yY (xq 3 [(2,.p 2 0),(3,.p 3 0),yB 4 false] [(3,29,[.v (yI (r:Int)),.v (yI (c:Int)),.v (.slice B n h)]),(2,29,[.v (yI (r:Int)),.v (yI (c:Int)),.v (.slice A n g)])] ?_)
 refine yZ (zC (yY (xq 5 [yB 10 (((r:Int):Int) != (r:Int))] [] ?_)))
 rw[(show (((r:Int):Int) != (r:Int))=false from eU rfl)]
 refine xq 6 [yB 11 false,yB 16 (((c:Int):Int) != (c:Int))] [] ?_
 rw[(show (((c:Int):Int) != (c:Int))=false from eU rfl)]
 refine xq 9 [yB 18 false,yB 25 (((n:Int):Int) != (n:Int))] [] ?_
 rw[(show (((n:Int):Int) != (n:Int))=false from eU rfl)]
 refine xq 1 [yB 26 false] [] ?_
 refine yZ (xb (zJ (zA (zC (yY (xq 4 [yJ 29 (n:Int),yJ 30 0] [] ?_))))))
 refine yZ (zO ?_)
 refine yC [(2,.p 2 0),(3,.p 3 0),yB 4 false,yJ 29 (n:Int),yJ 30 ((0:Nat):Int)] [(3,29,[.v (yI (r:Int)),.v (yI (c:Int)),.v (.slice B n h)]),(2,29,[.v (yI (r:Int)),.v (yI (c:Int)),.v (.slice A n g)])] (fun w=>(OwnD w q 76 2 A g n (l.flatMap flC)∧OwnD w s 76 2 B h n (l.flatMap flC))) (fun w Q=>⟨Q.1,Q.2⟩) ?_
 refine xQ (fun C D E=>∃ (k:Nat),D=ofL [(2,.p 2 0),(3,.p 3 0),yB 4 false,yJ 29 (n:Int),yJ 30 (k:Int)] [(3,29,[.v (yI (r:Int)),.v (yI (c:Int)),.v (.slice B n h)]),(2,29,[.v (yI (r:Int)),.v (yI (c:Int)),.v (.slice A n g)])]∧E=(fun w=>(OwnD w q 76 2 A g n (l.flatMap flC)∧OwnD w s 76 2 B h n (l.flatMap flC)))∧(k≤n)∧C=(1+(n-k))) ((1+(n-0))) ⟨0,rfl,rfl,(vK _),rfl⟩ ?_
 rintro C D E ⟨k,rfl,rfl,J,rfl⟩
 refine yY (xq 1 [yB 31 (decide ((k:Int)<(n:Int)))] [] ?_)
 refine yZ (zC ?_)
 refine yQ ((decide ((k:Int)<(n:Int)))) (fun m=>?_) fun m=>?_
 ·have b:k<n:=by have:=uA m;omega
  refine zJ (zA (zC (zO (yY (xq 2 [yJ 5 (k:Int)] [] ?_)))))
  refine yZ (zC ?_)
  refine yO 11 zN ?_
  refine xqg 3 [eS1 34 A n g,yJ 35 (k:Int)] ?_
  refine xqj 36 (atA A (k*2)) (fun w Q=>lV (t:=27) (e:=76) (sz:=2) (x:=.tmp 34) (ix:=.tmp 35) (len:=n) (cap:=g) (i:=k) (Q.1.ne b) b) ?_
  obtain⟨f,o⟩:∃ x,l[k]! = x:=⟨_,rfl⟩
  refine xqj 37 (yS f.1 f.2) (fun w Q=>by rw[←o];exact jU (t:=76) (x:=.tmp 36) (j:=k) Q.1 iL (u.symm ▸ b)) ?_
  refine xqg 3 [eS1 39 B n h,yJ 40 (k:Int)] ?_
  refine xqj 41 (atA B (k*2)) (fun w Q=>lV (t:=27) (e:=76) (sz:=2) (x:=.tmp 39) (ix:=.tmp 40) (len:=n) (cap:=h) (i:=k) (Q.2.ne b) b) ?_
  refine xqj 42 (yS f.1 f.2) (fun w Q=>by rw[←o];exact jU (t:=76) (x:=.tmp 41) (j:=k) Q.2 iL (u.symm ▸ b)) ?_
  refine xqj 43 (.bool false) (fun w Q=>Zoc (x:=.tmp 37) (y:=.tmp 42) (k:=76) (a:=f.1) (d:=f.2)) ?_
  refine xz (yZ (xb (zJ (xN (zA (zB (xq 1 [yJ 44 (IntKind.i64.wrap ((k:Int)+1))] [] ?_)))))))
  rw[yW ((k:Int)+1) (((k+1:Nat):Int)) qO]
  refine xq 1 [yJ 30 ((k+1:Nat):Int)] [] ?_
  refine xe ?_
  refine yP [(2,.p 2 0),(3,.p 3 0),yB 4 false,yJ 29 (n:Int),yJ 30 (((k+1):Nat):Int)] [(3,29,[.v (yI (r:Int)),.v (yI (c:Int)),.v (.slice B n h)]),(2,29,[.v (yI (r:Int)),.v (yI (c:Int)),.v (.slice A n g)])] (fun w=>(OwnD w q 76 2 A g n (l.flatMap flC)∧OwnD w s 76 2 B h n (l.flatMap flC))) (fun w Q=>⟨Q.1,Q.2⟩) ?_
  exact xE ((1+(n-(k+1)))) qO ⟨(k+1),rfl,rfl,b,rfl⟩
 have H:k=n:=by have:=uB m;omega
 refine xL (zH (zH (xT (zA (yY (xq 1 [yB 4 true] [] ?_))))))
 refine yZ (zG ?_)
 refine yR (.bool true) fun w' R Q=>?_
 exact⟨rfl,R⟩
theorem ZoV (n:Int):∃ p:Nat,IntKind.i64.wrap (8+((IntKind.i64.wrap (((n).tmod 57)+57)).tmod 57))=((p:Nat):Int)∧8≤p∧p≤64:=by
 have a : -57<n.tmod 57:=Int.lt_tmod_of_pos n qD
 have b:n.tmod 57<57:=Int.tmod_lt_of_pos n qD
 rw[yW ((n.tmod 57)+57) (n.tmod 57+57) qO]
 have c:0≤(n.tmod 57+57).tmod 57:=Int.tmod_nonneg 57 qO
 have d:(n.tmod 57+57).tmod 57<57:=Int.tmod_lt_of_pos _ qD
 refine⟨(8+(n.tmod 57+57).tmod 57).toNat,?_,qO,qO⟩
 rw[IntKind.wrap_i64];omega
theorem SXi.size {N:Nat}{S0:Nat→Prop}{c:World}{s:St}{Φ:World→Prop}{P:Program}{b:Array Oper}{Q:Exit→Act→World→Prop}{i:Nat}(p:Nat→Prop)(e:∀ w,Fr S0 c w→Φ w→p w.heap.size)(K:∀ m1,p m1→SXi P N S0 c b Q i s (fun w=>Φ w∧m1≤w.heap.size)):SXi P N S0 c b Q i s Φ:=fun L a w hi =>
 K w.heap.size (e w hi.mem.ext hi.box.self) L a w ⟨hi.size,hi.df,hi.sl,hi.mem,fun f d=>⟨hi.box f d,d.size⟩⟩
theorem TOld.new {wl:World}{τ:Tap}(h:TOld wl τ):wl.heap.size≤τ.g:=by obtain⟨_,_,_,_,h⟩:=h;exact h
theorem Zod (A:qA)(l c:Nat)(zs:List Int)(a w:World)(b:Nat)(f:lU a A zs)(q:zs.length=l)(i:l≤c)(j:Ext a w)(k:b≤w.heap.size) :
 yA 19 #[.slice A l c] w (lQ (fun x:{τ:Tap // TOld a τ∧b≤τ.g}=>.pointer (some ⟨x.1.g,0,none⟩)) (fun x w=>TOk x.1 w) w):=by
 refine (Zn6 A l c w i).mono ?_
 rintro e w' ⟨g,rfl,d,Q,m⟩
 refine⟨⟨⟨g,A,min l 400,c⟩,⟨zs.take 400,f.take 400,by rw[uM];show min 400 zs.length=min l 400;omega,by show min l 400≤1000000;omega,uC j.size d⟩,uC k d⟩,rfl,Q,fun S n o p=>?_⟩
 exact TOk.fr (τ:=⟨g,A,min l 400,c⟩) ⟨0,vK _,m⟩ p (fun h=>by have r:g<w.heap.size:=(n _ h).1;omega)
theorem OwnD.boxT {w w':World}{m n c k b:Nat}{e:TypeId}{A:qA}{xs:List Value}(h:OwnD w' w.heap.size e k A c n xs)(_:Fr (fun i=>i=b) w w')(a:m≤w.heap.size):BoxT b w w' (fun v=>OwnD v m e k A c n xs):=fun S d f g=>OwnD.mono (h.fr g (fun i hi j=>by
 have l:=(h.blk hi).1
 have o:=(f i j).1
 omega)) a
theorem Ze2 (A:qA)(l c:Nat)(zs:List Int)(b:Int)(F:World)(hg:Glob F)(hz:zs.length=l)(hI:lU F A zs)(p0:l≤c) :
 yA 6 #[.slice A l c,.int .i64 b] F (RetV F (.bool true)):=by
 obtain⟨q,q0,t,Z⟩:=ZoV b
 refine zQ (Φ:=fun w=>True) func6 rfl qK (fun w' hf=>trivial) ?_
 refine yY (xq 1 [yB 4 false] [] ?_)
 refine yZ (yY (xq 1 [eS1 28 A l c] [] ?_))
 refine xqc 19 [.slice A l c] 29 (fun x:{τ:Tap // TOld F τ∧0≤τ.g}=>.pointer (some ⟨x.1.g,0,none⟩)) _ (fun w R Q=>(Zod A l c zs F _ 0 hI hz p0 R (vK _)).mono (fun _ _ h=>h)) fun⟨τ,G,_⟩=>?_
 refine SXi.size (fun a=>τ.g<a) (fun w R Q=>TOk.lt Q.2) fun a H=>?_
 refine xr 1 [yJ 1 b,yB 4 false,(5,.v (.pointer (some ⟨τ.g,0,none⟩)))] [] ?_
 refine yZ (yY (xq 5 [(34,.v (yI (IntKind.i64.wrap (8+(((IntKind.i64.wrap (((b).tmod 57)+57))).tmod 57)))))] [] ?_))
 rw[(show IntKind.i64.wrap (8+((IntKind.i64.wrap (((b).tmod 57)+57)).tmod 57))=(q:Int) from q0)]
 refine xq 1 [yJ 1 (q:Int)] [] ?_
 refine yZ (yY (xq 1 [(35,.v (.pointer (some ⟨τ.g,0,none⟩)))] [] ?_))
 refine iX (b:=τ.g) (d:=36) (j:=0) (c:=.slice τ.A τ.l τ.c) 20 [.pointer (some ⟨τ.g,0,none⟩), yI 3] (fun x:{x:Nat // (fun v=>(v:Int)<3) x}=>(fun v=>yI (v:Int)) x.1) (fun w=>a≤w.heap.size) (fun x w=>TOk τ w∧(fun _ _=>True) x.1 w) (fun w Q=>TOk.cell Q.1.2) (Or.inl (TOld.new G)) (fun w R Q=>(ZcH τ F 3 _ G R Q.1.2 qD qD).mono (fun _ _ h=>Zad h (fun x k h=>fun _ _ _ _=>trivial))) (fun w w2 R Q k=>uC Q.2 k.size) fun⟨K,B0⟩=>?_
 obtain⟨n,E0,s,b0⟩:∃ n:Nat,n=1+K∧1≤n∧n≤3:=⟨1+K,rfl,qO,qO⟩
 refine xr 1 [yJ 1 (q:Int),yB 4 false,(5,.v (.pointer (some ⟨τ.g,0,none⟩))),yJ 37 (IntKind.i64.wrap (1+(K:Int)))] [] ?_
 rw[(show IntKind.i64.wrap (1+(K:Int))=(n:Int) by rw[IntKind.wrap_i64];omega)]
 refine xq 1 [(38,.v (.pointer (some ⟨τ.g,0,none⟩)))] [] ?_
 refine iX (b:=τ.g) (d:=39) (j:=0) (c:=.slice τ.A τ.l τ.c) 20 [.pointer (some ⟨τ.g,0,none⟩), yI 3] (fun x:{x:Nat // (fun v=>(v:Int)<3) x}=>(fun v=>yI (v:Int)) x.1) (fun w=>a≤w.heap.size) (fun x w=>TOk τ w∧(fun _ _=>True) x.1 w) (fun w Q=>TOk.cell Q.2.1) (Or.inl (TOld.new G)) (fun w R Q=>(ZcH τ F 3 _ G R Q.2.1 qD qD).mono (fun _ _ h=>Zad h (fun x k h=>fun _ _ _ _=>trivial))) (fun w w2 R Q k=>uC Q.1 k.size) fun⟨L,C0⟩=>?_
 obtain⟨m,F0,u,c0⟩:∃ n:Nat,n=1+L∧1≤n∧n≤3:=⟨1+L,rfl,qO,qO⟩
 refine xr 1 [yJ 1 (q:Int),yB 4 false,(5,.v (.pointer (some ⟨τ.g,0,none⟩))),yJ 37 (n:Int),yJ 40 (IntKind.i64.wrap (1+(L:Int)))] [] ?_
 rw[(show IntKind.i64.wrap (1+(L:Int))=(m:Int) by rw[IntKind.wrap_i64];omega)]
 refine xq 1 [(41,.v (.pointer (some ⟨τ.g,0,none⟩)))] [] ?_
 refine iX (b:=τ.g) (d:=42) (j:=0) (c:=.slice τ.A τ.l τ.c) 20 [.pointer (some ⟨τ.g,0,none⟩), yI 3] (fun x:{x:Nat // (fun v=>(v:Int)<3) x}=>(fun v=>yI (v:Int)) x.1) (fun w=>a≤w.heap.size) (fun x w=>TOk τ w∧(fun _ _=>True) x.1 w) (fun w Q=>TOk.cell Q.2.1) (Or.inl (TOld.new G)) (fun w R Q=>(ZcH τ F 3 _ G R Q.2.1 qD qD).mono (fun _ _ h=>Zad h (fun x k h=>fun _ _ _ _=>trivial))) (fun w w2 R Q k=>uC Q.1 k.size) fun⟨M,D0⟩=>?_
 obtain⟨d,G0,N,r0⟩:∃ n:Nat,n=1+M∧1≤n∧n≤3:=⟨1+M,rfl,qO,qO⟩
 refine xr 1 [yJ 1 (q:Int),yB 4 false,(5,.v (.pointer (some ⟨τ.g,0,none⟩))),yJ 37 (n:Int),yJ 40 (m:Int),yJ 43 (IntKind.i64.wrap (1+(M:Int)))] [] ?_
 rw[(show IntKind.i64.wrap (1+(M:Int))=(d:Int) by rw[IntKind.wrap_i64];omega)]
 refine xq 3 [yJ 6 (n:Int),yJ 7 (m:Int),yJ 8 (d:Int)] [] ?_
 refine yZ (yY (xq 3 [(44,.v (.pointer (some ⟨τ.g,0,none⟩))),yJ 45 (n:Int),yJ 46 (m:Int)] [] ?_))
 refine iX (b:=τ.g) (d:=47) (j:=0) (c:=.slice τ.A τ.l τ.c) 27 [.pointer (some ⟨τ.g,0,none⟩), yI (n:Int), yI (m:Int)] (fun x:{x:Option Addr×Nat × List (ByteArray×Int) // (fun x=>x.2.2.length=n*m∧∀ f∈x.2.2,TFf f) x}=>(fun x=>.agg #[yI (n:Int), yI (m:Int),.slice x.1 x.2.2.length x.2.1]) x.1) (fun w=>a≤w.heap.size) (fun x w=>TOk τ w∧(fun x w=>OwnD w a 76 2 x.1 x.2.1 x.2.2.length (x.2.2.flatMap flC)) x.1 w) (fun w Q=>TOk.cell Q.2.1) (Or.inl (TOld.new G)) (fun w R Q=>(ZaR τ F _ G R Q.2.1 n m b0 c0).mono (fun _ _ h=>Zad h (fun x k h=>OwnD.boxT h k Q.1))) (fun w w2 R Q k=>uC Q.1 k.size) fun O=>?_
 obtain⟨⟨y,z,fa⟩,B,d0⟩:=O
 dsimp only at B d0
 have e0:∀ f∈fa,Gd f:=fun f hf=>ZjY (d0 f hf)
 refine xr 3 [yJ 1 (q:Int),yB 4 false,(5,.v (.pointer (some ⟨τ.g,0,none⟩))),yJ 6 (n:Int),(47,.v (.agg #[yI (n:Int), yI (m:Int),.slice y fa.length z])),(48,.v (.pointer (some ⟨τ.g,0,none⟩))),yJ 49 (m:Int),yJ 50 (d:Int)] [] ?_
 refine iX (b:=τ.g) (d:=51) (j:=0) (c:=.slice τ.A τ.l τ.c) 27 [.pointer (some ⟨τ.g,0,none⟩), yI (m:Int), yI (d:Int)] (fun x:{x:Option Addr×Nat × List (ByteArray×Int) // (fun x=>x.2.2.length=m*d∧∀ f∈x.2.2,TFf f) x}=>(fun x=>.agg #[yI (m:Int), yI (d:Int),.slice x.1 x.2.2.length x.2.1]) x.1) (fun w=>(a≤w.heap.size∧OwnD w a 76 2 y z fa.length (fa.flatMap flC))) (fun x w=>TOk τ w∧(fun x w=>OwnD w a 76 2 x.1 x.2.1 x.2.2.length (x.2.2.flatMap flC)) x.1 w) (fun w Q=>TOk.cell Q.2.1) (Or.inl (TOld.new G)) (fun w R Q=>(ZaR τ F _ G R Q.2.1 m d c0 r0).mono (fun _ _ h=>Zad h (fun x k h=>OwnD.boxT h k Q.1))) (fun w w2 R Q k=>⟨uC Q.1 k.size,OwnD.tape Q.2.2 k H⟩) fun O=>?_
 obtain⟨⟨P,S,fb⟩,I,f0⟩:=O
 dsimp only at I f0
 have g0:∀ f∈fb,Gd f:=fun f hf=>ZjY (f0 f hf)
 refine xr 3 [yJ 1 (q:Int),yB 4 false,(47,.v (.agg #[yI (n:Int), yI (m:Int),.slice y fa.length z])),(51,.v (.agg #[yI (m:Int), yI (d:Int),.slice P fb.length S])),(52,.v (.pointer (some ⟨τ.g,0,none⟩))),yJ 53 (n:Int),yJ 54 (n:Int)] [] ?_
 refine iX (b:=τ.g) (d:=55) (j:=0) (c:=.slice τ.A τ.l τ.c) 27 [.pointer (some ⟨τ.g,0,none⟩), yI (n:Int), yI (n:Int)] (fun x:{x:Option Addr×Nat × List (ByteArray×Int) // (fun x=>x.2.2.length=n*n∧∀ f∈x.2.2,TFf f) x}=>(fun x=>.agg #[yI (n:Int), yI (n:Int),.slice x.1 x.2.2.length x.2.1]) x.1) (fun w=>((a≤w.heap.size∧OwnD w a 76 2 y z fa.length (fa.flatMap flC))∧OwnD w a 76 2 P S fb.length (fb.flatMap flC))) (fun x w=>TOk τ w∧(fun x w=>OwnD w a 76 2 x.1 x.2.1 x.2.2.length (x.2.2.flatMap flC)) x.1 w) (fun w Q=>TOk.cell Q.2.1) (Or.inl (TOld.new G)) (fun w R Q=>(ZaR τ F _ G R Q.2.1 n n b0 b0).mono (fun _ _ h=>Zad h (fun x k h=>OwnD.boxT h k Q.1.1))) (fun w w2 R Q k=>⟨⟨uC Q.1.1 k.size,OwnD.tape Q.1.2 k H⟩,OwnD.tape Q.2.2 k H⟩) fun O=>?_
 obtain⟨⟨As,cs,fs⟩,h0,i0⟩:=O
 dsimp only at h0 i0
 have s0:∀ f∈fs,Gd f:=fun f hf=>ZjY (i0 f hf)
 refine xr 6 [yJ 1 (q:Int),yB 4 false,(9,.p 9 0),(10,.p 10 0),(11,.p 11 0)] [(11,29,[.v (yI (n:Int)),.v (yI (n:Int)),.v (.slice As fs.length cs)]),(10,29,[.v (yI (m:Int)),.v (yI (d:Int)),.v (.slice P fb.length S)]),(9,29,[.v (yI (n:Int)),.v (yI (m:Int)),.v (.slice y fa.length z)])] ?_
 refine yZ (yY (xq 3 [(57,.v (.agg #[yI (n:Int), yI (m:Int),.slice y fa.length z])),(58,.v (.agg #[yI (m:Int), yI (d:Int),.slice P fb.length S])),yJ 59 (q:Int)] [] ?_))
 obtain⟨V1,j0,C⟩:=ZoP (r:=n) (c:=m) (d:=d) (b:=q) c0 t Z B I d0 f0
 obtain⟨D,T⟩:∃ l,l=(zZ n d V1).map ftW:=⟨_,rfl⟩
 have t0:D.length=n*d:=by rw[T];exact ZdF
 have u0:∀ f∈D,Gd f:=by rw[T];exact Ze1 C
 refine xqc 28 [.agg #[yI (n:Int), yI (m:Int),.slice y fa.length z],.agg #[yI (m:Int), yI (d:Int),.slice P fb.length S], yI (q:Int)] 60 (fun b:{b:Nat // a≤b}=>.tuple #[.agg #[yI (n:Int), yI (d:Int),.slice (yL b.1) D.length D.length], yI 0]) _ (fun w R Q=>((show Calls _ _ _ _ (kV (fun v=>.tuple #[v, yI 0]) n d D _) by rw[T];exact ZiQ a a n m d y P z S fa fb q V1 _ (hg.ext R) Q.1.1.2 Q.1.2 (eJ (r:=n) (c:=m) ⟨s,qO⟩ ⟨u,qO⟩ B e0) (eJ (r:=m) (c:=d) ⟨u,qO⟩ ⟨N,qO⟩ I g0) t qO j0 (fun i j hi U=>(C i j hi U).1))).mono (fun _ _ h=>kH (sh:=fun v=>.tuple #[v, yI 0]) (m0:=a) Q.1.1.1 h)) fun⟨op,H0⟩=>?_
 refine xq 6 [(12,.p 12 0),yJ 13 0] [(12,29,[.v (yI (n:Int)),.v (yI (d:Int)),.v (.slice (yL op) D.length D.length)])] ?_
 refine yZ (yY (xq 1 [(64,.v (.agg #[yI (n:Int), yI (m:Int),.slice y fa.length z]))] [] ?_))
 obtain⟨o,J⟩:∃ l,l=zZ m n (fun j i=>fa[i*m+j]!):=⟨_,rfl⟩
 have k0:o.length=m*n:=by rw[J];exact jS _ _ _
 have l0:∀ f∈o,Gd f:=by rw[J];exact Zm9 B e0
 refine xqc 29 [.agg #[yI (n:Int), yI (m:Int),.slice y fa.length z]] 65 (fun b:{b:Nat // a≤b}=>.tuple #[.agg #[yI (m:Int), yI (n:Int),.slice (yL b.1) o.length o.length], yI 0]) _ (fun w R Q=>((show Calls _ _ _ _ (kV (fun v=>.tuple #[v, yI 0]) m n o _) by rw[J];exact bO a n m y z fa _ Q.1.1.1.2 (eJ (r:=n) (c:=m) ⟨s,qO⟩ ⟨u,qO⟩ B e0))).mono (fun _ _ h=>kH (sh:=fun v=>.tuple #[v, yI 0]) (m0:=a) Q.1.1.1.1 h)) fun⟨ox,I0⟩=>?_
 refine xq 6 [(14,.p 14 0)] [(14,29,[.v (yI (m:Int)),.v (yI (n:Int)),.v (.slice (yL ox) o.length o.length)])] ?_
 refine yZ (yY (xq 1 [(69,.v (.agg #[yI (m:Int), yI (d:Int),.slice P fb.length S]))] [] ?_))
 obtain⟨E,W⟩:∃ l,l=zZ d m (fun j i=>fb[i*d+j]!):=⟨_,rfl⟩
 have v0:E.length=d*m:=by rw[W];exact jS _ _ _
 have x0:∀ f∈E,Gd f:=by rw[W];exact Zm9 I g0
 refine xqc 29 [.agg #[yI (m:Int), yI (d:Int),.slice P fb.length S]] 70 (fun b:{b:Nat // a≤b}=>.tuple #[.agg #[yI (d:Int), yI (m:Int),.slice (yL b.1) E.length E.length], yI 0]) _ (fun w R Q=>((show Calls _ _ _ _ (kV (fun v=>.tuple #[v, yI 0]) d m E _) by rw[W];exact bO a m d P S fb _ Q.1.1.1.2 (eJ (r:=m) (c:=d) ⟨u,qO⟩ ⟨N,qO⟩ I g0))).mono (fun _ _ h=>kH (sh:=fun v=>.tuple #[v, yI 0]) (m0:=a) Q.1.1.1.1.1 h)) fun⟨oy,J0⟩=>?_
 refine xq 6 [(16,.p 16 0)] [(16,29,[.v (yI (d:Int)),.v (yI (m:Int)),.v (.slice (yL oy) E.length E.length)])] ?_
 refine yZ (yY (xq 3 [(74,.v (.agg #[yI (d:Int), yI (m:Int),.slice (yL oy) E.length E.length])),(75,.v (.agg #[yI (m:Int), yI (n:Int),.slice (yL ox) o.length o.length])),yJ 76 (q:Int)] [] ?_))
 obtain⟨fq,X⟩:∃ l,l=(zZ d n (fun j i=>V1 i j)).map ftW:=⟨_,rfl⟩
 have y0:fq.length=d*n:=by rw[X];exact ZdF
 have K0:∀ f∈fq,Gd f:=by rw[X];exact Ze1 (V:=fun j i=>V1 i j) (fun j i U hi=>C i j hi U)
 refine xqc 28 [.agg #[yI (d:Int), yI (m:Int),.slice (yL oy) E.length E.length],.agg #[yI (m:Int), yI (n:Int),.slice (yL ox) o.length o.length], yI (q:Int)] 77 (fun b:{b:Nat // a≤b}=>.tuple #[.agg #[yI (d:Int), yI (n:Int),.slice (yL b.1) fq.length fq.length], yI 0]) _ (fun w R Q=>((show Calls _ _ _ _ (kV (fun v=>.tuple #[v, yI 0]) d n fq _) by rw[X];exact ZiQ a a d m n (yL oy) (yL ox) E.length o.length E o q (fun j i=>V1 i j) _ (hg.ext R) Q.2 Q.1.2 (eJ (r:=d) (c:=m) ⟨N,qO⟩ ⟨u,qO⟩ v0 x0) (eJ (r:=m) (c:=n) ⟨u,qO⟩ ⟨s,qO⟩ k0 l0) t qO (fun j i U hi=>by rw[W,J];exact ZmQ j0 j i U hi) (fun j i U hi=>(C i j hi U).1))).mono (fun _ _ h=>kH (sh:=fun v=>.tuple #[v, yI 0]) (m0:=a) Q.1.1.1.1.1.1 h)) fun⟨oq,L0⟩=>?_
 refine xq 6 [(18,.p 18 0),yJ 19 0] [(18,29,[.v (yI (d:Int)),.v (yI (n:Int)),.v (.slice (yL oq) fq.length fq.length)])] ?_
 refine yZ (yY (xq 1 [(81,.v (.agg #[yI (n:Int), yI (d:Int),.slice (yL op) D.length D.length]))] [] ?_))
 refine xqc 29 [.agg #[yI (n:Int), yI (d:Int),.slice (yL op) D.length D.length]] 82 (fun b:{b:Nat // a≤b}=>.tuple #[.agg #[yI (d:Int), yI (n:Int),.slice (yL b.1) fq.length fq.length], yI 0]) _ (fun w R Q=>((show Calls _ _ _ _ (kV (fun v=>.tuple #[v, yI 0]) d n fq _) by rw[X,← ZfD T];exact bO a n d (yL op) D.length D _ Q.1.1.1.2 (eJ (r:=n) (c:=d) ⟨s,qO⟩ ⟨N,qO⟩ t0 u0))).mono (fun _ _ h=>kH (sh:=fun v=>.tuple #[v, yI 0]) (m0:=a) Q.1.1.1.1.1.1.1 h)) fun⟨ou,M0⟩=>?_
 refine xq 6 [(20,.p 20 0),yJ 21 0] [(20,29,[.v (yI (d:Int)),.v (yI (n:Int)),.v (.slice (yL ou) fq.length fq.length)])] ?_
 refine yZ (yY (xq 1 [(86,.v (.agg #[yI (m:Int), yI (n:Int),.slice (yL ox) o.length o.length]))] [] ?_))
 refine xqc 29 [.agg #[yI (m:Int), yI (n:Int),.slice (yL ox) o.length o.length]] 87 (fun b:{b:Nat // a≤b}=>.tuple #[.agg #[yI (n:Int), yI (m:Int),.slice (yL b.1) fa.length fa.length], yI 0]) _ (fun w R Q=>((show Calls _ _ _ _ (kV (fun v=>.tuple #[v, yI 0]) n m fa _) by have h:=bO a m n (yL ox) o.length o _ Q.1.1.1.2 (eJ (r:=m) (c:=n) ⟨u,qO⟩ ⟨s,qO⟩ k0 l0);rw[show zZ n m (fun j i=>o[i*n+j]!)=fa by rw[J];exact ZlB B] at h;exact h)).mono (fun _ _ h=>kH (sh:=fun v=>.tuple #[v, yI 0]) (m0:=a) Q.1.1.1.1.1.1.1.1 h)) fun⟨ov,N0⟩=>?_
 refine xq 6 [(22,.p 22 0),yJ 23 0] [(22,29,[.v (yI (n:Int)),.v (yI (m:Int)),.v (.slice (yL ov) fa.length fa.length)])] ?_
 refine yZ (yY (xr 2 [yB 4 false,(9,.p 9 0),yJ 13 0,(18,.p 18 0),yJ 19 0,(20,.p 20 0),yJ 21 0,(22,.p 22 0),yJ 23 0,(91,.v (.agg #[yI (n:Int), yI (n:Int),.slice As fs.length cs])),yJ 92 (q:Int)] [(22,29,[.v (yI (n:Int)),.v (yI (m:Int)),.v (.slice (yL ov) fa.length fa.length)]),(20,29,[.v (yI (d:Int)),.v (yI (n:Int)),.v (.slice (yL ou) fq.length fq.length)]),(18,29,[.v (yI (d:Int)),.v (yI (n:Int)),.v (.slice (yL oq) fq.length fq.length)]),(9,29,[.v (yI (n:Int)),.v (yI (m:Int)),.v (.slice y fa.length z)])] ?_))
 obtain⟨V3,z0,a0,n0⟩:=Zn8 (n:=n) (b:=q) t Z h0 i0
 obtain⟨e,Y⟩:∃ l,l=(zZ n n V3).map ftW:=⟨_,rfl⟩
 have o0:e.length=n*n:=by rw[Y];exact ZdF
 have A0:∀ f∈e,Gd f:=by rw[Y];exact Ze1 a0
 refine xqc 30 [.agg #[yI (n:Int), yI (n:Int),.slice As fs.length cs], yI (q:Int)] 93 (fun b:{b:Nat // a≤b}=>.tuple #[.agg #[yI (n:Int), yI (n:Int),.slice (yL b.1) e.length e.length], yI 0]) _ (fun w R Q=>((show Calls _ _ _ _ (kV (fun v=>.tuple #[v, yI 0]) n n e _) by rw[Y];exact ZmK a n As cs fs q V3 _ (hg.ext R) Q.1.1.1.1.1.1.2.2 (eJ (r:=n) (c:=n) ⟨s,qO⟩ ⟨s,qO⟩ h0 s0) t qO z0 (fun i j hi U=>(a0 i j hi U).1))).mono (fun _ _ h=>kH (sh:=fun v=>.tuple #[v, yI 0]) (m0:=a) Q.1.1.1.1.1.1.1.1.1 h)) fun⟨ow,O0⟩=>?_
 refine xq 6 [(24,.p 24 0),yJ 25 0] [(24,29,[.v (yI (n:Int)),.v (yI (n:Int)),.v (.slice (yL ow) e.length e.length)])] ?_
 refine yZ (yY (xq 1 [(97,.v (.agg #[yI (n:Int), yI (n:Int),.slice (yL ow) e.length e.length]))] [] ?_))
 refine xqc 29 [.agg #[yI (n:Int), yI (n:Int),.slice (yL ow) e.length e.length]] 98 (fun b:{b:Nat // a≤b}=>.tuple #[.agg #[yI (n:Int), yI (n:Int),.slice (yL b.1) e.length e.length], yI 0]) _ (fun w R Q=>((show Calls _ _ _ _ (kV (fun v=>.tuple #[v, yI 0]) n n e _) by have h:=bO a n n (yL ow) e.length e _ Q.2 (eJ (r:=n) (c:=n) ⟨s,qO⟩ ⟨s,qO⟩ o0 A0);rw[ZlC Y n0] at h;exact h)).mono (fun _ _ h=>kH (sh:=fun v=>.tuple #[v, yI 0]) (m0:=a) Q.1.1.1.1.1.1.1.1.1.1 h)) fun⟨oz,P0⟩=>?_
 refine xq 6 [(26,.p 26 0),yJ 27 0] [(26,29,[.v (yI (n:Int)),.v (yI (n:Int)),.v (.slice (yL oz) e.length e.length)])] ?_
 refine yZ (zC (zB ?_))
 refine xqc 9 [] 101 (fun _:Unit=>.bool true) _ (fun w R Q=>yN (ZhW _ (hg.ext R))) fun O=>?_
 refine xq 27 [yB 126 true,(127,.v (.agg #[yI (d:Int), yI (n:Int),.slice (yL ou) fq.length fq.length])),(128,.v (.agg #[yI (d:Int), yI (n:Int),.slice (yL oq) fq.length fq.length]))] [] ?_
 refine xqc 12 [.agg #[yI (d:Int), yI (n:Int),.slice (yL ou) fq.length fq.length],.agg #[yI (d:Int), yI (n:Int),.slice (yL oq) fq.length fq.length]] 129 (fun _:Unit=>.bool true) _ (fun w R Q=>yN (ZbX d n a a fq.length (yL ou) (yL oq) fq.length fq.length fq _ Q.1.1.1.1.2 Q.1.1.1.1.1.2 rfl (by rw[y0];exact uC (uZ (show d≤3 by omega) (show n≤3 by omega)) qD))) fun O=>?_
 refine xq 4 [yB 131 true,(132,.v (.agg #[yI (n:Int), yI (m:Int),.slice (yL ov) fa.length fa.length])),(133,.v (.agg #[yI (n:Int), yI (m:Int),.slice y fa.length z]))] [] ?_
 refine xqc 12 [.agg #[yI (n:Int), yI (m:Int),.slice (yL ov) fa.length fa.length],.agg #[yI (n:Int), yI (m:Int),.slice y fa.length z]] 134 (fun _:Unit=>.bool true) _ (fun w R Q=>yN (ZbX n m a a fa.length (yL ov) y fa.length z fa _ Q.1.1.1.1.2 Q.1.1.1.1.1.1.1.1.1.1.1.1.2 rfl (by rw[B];exact uC (uZ (show n≤3 by omega) (show m≤3 by omega)) qD))) fun O=>?_
 refine xq 4 [yB 136 true,(137,.v (.agg #[yI (n:Int), yI (n:Int),.slice (yL ow) e.length e.length])),(138,.v (.agg #[yI (n:Int), yI (n:Int),.slice (yL oz) e.length e.length]))] [] ?_
 refine xqc 12 [.agg #[yI (n:Int), yI (n:Int),.slice (yL ow) e.length e.length],.agg #[yI (n:Int), yI (n:Int),.slice (yL oz) e.length e.length]] 139 (fun _:Unit=>.bool true) _ (fun w R Q=>yN (ZbX n n a a e.length (yL ow) (yL oz) e.length e.length e _ Q.1.1.1.1.2 Q.1.1.1.2 rfl (by rw[o0];exact uC (uZ (show n≤3 by omega) (show n≤3 by omega)) qD))) fun O=>?_
 refine xq 2 [yB 4 true] [] ?_
 refine yZ (zG ?_)
 refine yR (.bool true) fun w' R Q=>?_
 exact⟨rfl,R⟩
end Go.Proofs.YtenchljfmfgeoaaGreatDoor
