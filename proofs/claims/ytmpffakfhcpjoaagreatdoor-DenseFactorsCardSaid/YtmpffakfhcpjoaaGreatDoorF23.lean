/-
 My texts.
-/
import Derived.Test.YtmpffakfhcpjoaaGreatDoorF22
import Derived.Deep.Onto
set_option maxRecDepth 100000
set_option maxHeartbeats 8000000
namespace Go.Proofs.YtmpffakfhcpjoaaGreatDoor
open Go.RowKit Tryz
theorem ZnS (p q:Nat)(w:World) :
 CallsD prog 87 #[.pointer (some ⟨p,0,none⟩),.pointer (some ⟨q,0,none⟩)] .returning w fun e c w'=>e=.returned (.tuple #[])∧c=.returning∧Ext w w':=by
 refine callsD_of_wpS func87 rfl fun d f b=>?_
 apply wpS_seq
 apply wpS_region
 simp[wpOpsS,go_sem,recoverD,b,ntmps87,Exit.thenS]
 refine wpS_of_wp ?_
 rw[show (#[Value.pointer (yL p),.pointer (yL q)] ++ ((Array.replicate 15 undef).setIfInBounds 4 .nilIface).setIfInBounds 0 .nilIface)=#[.pointer (yL p),.pointer (yL q),.nilIface,undef,undef,undef,.nilIface,undef,undef,undef,undef,undef,undef,undef,undef,undef,undef] from rfl]
 refine Zuq (N:=17) (S0:=fun _=>False) (sl:=[(0,.v (.pointer (yL p))),(1,.v (.pointer (yL q))),(2,.v .nilIface)]) (Φ:=fun w=>True) rfl rfl (fun w' g=>trivial) ?_
 refine yY (xr 2 [(0,.v (.pointer (yL p))),(1,.v (.pointer (yL q))),(2,.v .nilIface),yB 8 false] [] ?_)
 refine yZ (xb (zJ (fun L a w' hi=>?_)))
 exact⟨hi.df,_,rfl,.tuple #[],by simp[results,Tryz.results87],rfl,b,hi.mem.ext⟩
theorem Zu6 {fn:Func}{a:Array Value}{w:World}{p q:Nat}{T:TypeId}{zs:List Value}{e:Int}(k:fn.results=#[ResultVar.cell 2 T,ResultVar.cell 3 39])(l:a[2]? = some (.pointer (some ⟨p,0,none⟩)))(m:a[3]? = some (.pointer (some ⟨q,0,none⟩)))(n:Blk T w p zs.toArray)(o:Blk 39 w q #[.int .i64 e])(r:(teOf prog T).map (fun e=>(e.agg,e.size))=some (true,zs.length)):(results fn a).run prog w=.ok (.tuple #[.agg zs.toArray,.int .i64 e]) w:=by
 obtain⟨u,b,s⟩:=vM.1 r
 injection s with ha hn
 have Q:(teOf prog 39).map (fun e=>e.agg)=some false:=qK
 obtain⟨v,d,f⟩:=vM.1 Q
 have h:=Zaa (P:=prog) (w:=w) b (g:=p) (off:=0) (cs:=zs) hn.symm (fun j t=>by rw[vZ,n.cell];simp[t]) ha
 have i:=Zcx (P:=prog) (w:=w) d (g:=q) (off:=0) (c:=.int .i64 e) (by rw[o.cell];rfl) f
 simp only[Instr.loadAt,Instr.sureAddr,Sem.run_bind,Sem.run_pure,Result.andThen_ok] at h i
 rw[Zgw,k,Array.mapM_eq_mapM_toList]
 simp[ZcP,l,m,asAddr,h,i,Result.andThen_ok]
theorem Ztf (f:FuncId)(cap:Array Value)(r c:Nat)(E:List Fv3)(w:World)(R:∀ w,(callFunc f cap).run prog w=.ok (.enter f cap) w)(U:∀ w1,Ext w w1→Ζ f cap w1 (Zct (fun v=>v) r c E w1)) :
 Ζ 58 #[.func (.func f) #[] cap] w (Zct (fun v=>.tuple #[v,.int .i64 0]) r c E w):=by
 have V:∀ (F:Fn) (g cap:Array Value) (w:World),(Instr.makeFunc F g cap).run prog w=.ok (.func F g cap) w:=fun _ _ _ _=>rfl
 go_enter_defers func58,ntmps58
 go_wp2_with fail
 generalize o:World.alloc (World.alloc w _) _=wb
 obtain⟨G,H,Q⟩:=ZcR o
 have I:=zh G
 have J:=zh H
 have K:=zh Q
 clear G H Q o
 refine (U _ K.out).mono ?_
 rintro e k ⟨b,d,rfl,L,M,N,m⟩
 have a:=zh (Blk.ext I.out m)
 have n:=zh (Blk.ext J.out m)
 have O:=zh M
 have W:=zh N
 have X:=zh L
 have s:=zh m
 have Y:k.cell? ⟨w.heap.size,0,none⟩=some (.int .i64 0):=by rw[Blk.cell a.out];rfl
 have Z:k.cell? ⟨w.heap.size,1,none⟩=some (.int .i64 0):=by rw[Blk.cell a.out];rfl
 have a0:k.cell? ⟨w.heap.size,2,none⟩=some Ξ:=by rw[Blk.cell a.out];rfl
 have b0:=Blk.frozen a.out 0
 have c0:=Blk.frozen a.out 1
 have d0:=Blk.frozen a.out 2
 have e0:k.cell? ⟨w.heap.size+1,0,none⟩=some (.int .i64 0):=by rw[Blk.cell n.out];rfl
 have f0:=Blk.frozen n.out 0
 clear L M N m
 go_wp2_with fail
 have hp:w.heap.size<wb.heap.size:=Blk.lt I.out
 have hq:w.heap.size+1<wb.heap.size:=Blk.lt J.out
 have x:Hid (Blk 75 (((k.setCell ⟨w.heap.size,0,none⟩ (.int .i64 (r:Int))).setCell ⟨w.heap.size,1,none⟩ (.int .i64 (c:Int))).setCell ⟨w.heap.size,2,none⟩ (.slice (some ⟨b,0,none⟩) d.length d.length)) w.heap.size #[.int .i64 (r:Int),.int .i64 (c:Int),.slice (some ⟨b,0,none⟩) d.length d.length]):=zh (Blk.set_ (Blk.set_ (Blk.set_ a.out 0 (.int .i64 (r:Int))) 1 (.int .i64 (c:Int))) 2 (.slice (some ⟨b,0,none⟩) d.length d.length))
 have t:Hid (Fr (fun i=>i=w.heap.size) k (((k.setCell ⟨w.heap.size,0,none⟩ (.int .i64 (r:Int))).setCell ⟨w.heap.size,1,none⟩ (.int .i64 (c:Int))).setCell ⟨w.heap.size,2,none⟩ (.slice (some ⟨b,0,none⟩) d.length d.length))):=zh (Fr.setCell (S:=fun i=>i=w.heap.size) (p:=⟨w.heap.size,2,none⟩) (Fr.setCell (S:=fun i=>i=w.heap.size) (p:=⟨w.heap.size,1,none⟩) (Fr.setCell (S:=fun i=>i=w.heap.size) (p:=⟨w.heap.size,0,none⟩) (Fr.refl _ _) (Or.inl rfl) _) (Or.inl rfl) _) (Or.inl rfl) _)
 generalize ((k.setCell ⟨w.heap.size,0,none⟩ (.int .i64 (r:Int))).setCell ⟨w.heap.size,1,none⟩ (.int .i64 (c:Int))).setCell ⟨w.heap.size,2,none⟩ (.slice (some ⟨b,0,none⟩) d.length d.length)=w3 at *
 have y:=zh (Blk.fr n.out t.out (fun h=>by have h:w.heap.size+1=w.heap.size:=h;omega))
 have z:Hid (Blk 39 (w3.setCell ⟨w.heap.size+1,0,none⟩ (.int .i64 0)) (w.heap.size+1) #[.int .i64 0]):=zh (Blk.set_ y.out 0 (.int .i64 0))
 have u:Hid (Fr (fun i=>i=w.heap.size+1) w3 (w3.setCell ⟨w.heap.size+1,0,none⟩ (.int .i64 0))):=zh (Fr.setCell (S:=fun i=>i=w.heap.size+1) (p:=⟨w.heap.size+1,0,none⟩) (Fr.refl _ _) (Or.inl rfl) _)
 generalize w3.setCell ⟨w.heap.size+1,0,none⟩ (.int .i64 0)=w4 at *
 have A:=zh (Blk.fr x.out u.out (fun h=>by have h:w.heap.size=w.heap.size+1:=h;omega))
 have B:Hid (Fr (fun i=>i=w.heap.size∨i=w.heap.size+1) k w4):=zh ((t.out.mono (fun _ _ h=>Or.inl h)).trans (u.out.mono (fun _ _ h=>Or.inr h)))
 refine leaves_cons (f:=87) (args:=#[.pointer (some ⟨w.heap.size,0,none⟩),.pointer (some ⟨w.heap.size+1,0,none⟩)]) qS (by simp[go_sem]) ?_
 refine (ZnS _ _ _).mono ?_
 rintro e u' w7 ⟨rfl,rfl,j⟩
 have P:wb.heap.size≤k.heap.size:=s.out.size
 have hW:Ext w w7:=((K.out.trans s.out).next B.out (fun i hi h=>by rcases h with h|h<;>omega)).trans j
 have C:=OwnD.ext (O.out.fr B.out (fun i hi h=>by have:=(O.out.blk hi).1;rcases h with h|h<;>omega)) j
 have D:=(W.out.nrb (fun i h=>by
  rcases h with h|h
  ·rw[h];exact⟨_,_,a.out,iX.list (l:=[.int .i64 0,.int .i64 0,Ξ]) qS⟩
  rw[h];exact⟨_,_,n.out,iX.list (l:=[.int .i64 0]) qS⟩) B.out).ext j
 exact⟨_,Zu6 (p:=w.heap.size) (q:=w.heap.size+1) (T:=75) (zs:=[.int .i64 (r:Int),.int .i64 (c:Int),.slice (some ⟨b,0,none⟩) d.length d.length]) Tryz.results58 rfl rfl (A.out.ext j) (z.out.ext j) qK,b,d,rfl,X.out,OwnD.mono C qO,D,hW⟩
theorem Zh3 {sh:Value→Value}{r c m0:Nat}{a:List Fv3}{w w':World}{e:Ending}(d:m0≤w.heap.size)(h:Zct sh r c a w e w') :
 lD (fun x:{x:Nat × List Nb // x.2.map nbV=a∧m0≤x.1}=>sh (.agg #[.int .i64 ((r:Nat):Int),.int .i64 ((c:Nat):Int),.slice (some ⟨x.1.1,0,none⟩) x.1.2.length x.1.2.length])) (fun x w=>OwnD w m0 99 3 (some ⟨x.1.1,0,none⟩) x.1.2.length x.1.2.length (x.1.2.flatMap nbC)∧wR w x.1.2) w e w':=by
 obtain⟨b,g,rfl,i,f,j,Q⟩:=h
 exact⟨⟨(b,g),i,uA d (f.blk rfl).1⟩,rfl,Q,(f.boxN d).and (boxn Q (fun S k l m=>j.nrb l m))⟩
theorem ZaB {sh:Value→Value}{r c m0:Nat}{a:List (ByteArray×Int)}{w w':World}{e:Ending}(d:m0≤w.heap.size)(h:ZaU sh r c a w e w') :
 lD (fun b:{b:Nat // m0≤b}=>sh (.agg #[.int .i64 ((r:Nat):Int),.int .i64 ((c:Nat):Int),.slice (some ⟨b.1,0,none⟩) a.length a.length])) (fun b w=>OwnD w m0 67 2 (some ⟨b.1,0,none⟩) a.length a.length (a.flatMap flC)) w e w':=by
 obtain⟨b,rfl,f,Q⟩:=h
 exact⟨⟨b,uA d (f.blk rfl).1⟩,rfl,Q,f.boxN d⟩
theorem Zrn (m n:Nat)(A:qA)(cap:Nat)(xs:List Nb)(b:Nat)(i:List Fv3)(w:World)(r:Glob w)(s:OwnD w m 99 3 A cap (n*n) (xs.flatMap nbC))(t:wR w xs)(u:xs.length=n*n)(y:n≤32)(k:8≤b)(l:b≤1024)(o:∀ x∈xs,FvOk (nbV x))(z:ZaT b (xs.map nbV) n=some i) :
 Ζ 33 #[.agg #[.int .i64 ((n:Nat):Int),.int .i64 ((n:Nat):Int),.slice A (n*n) cap],.int .i64 ((b:Nat):Int)] w (Zct (fun v=>.tuple #[v,.int .i64 0]) n n i w):=by
 obtain⟨m0,j⟩:∃ m,m=w.heap.size:=⟨_,rfl⟩
 refine zU (Φ:=fun w=>True) func33 rfl qK (fun w' E=>trivial) ?_
 refine yY (xq 4 [Δ 2,Δ 3,Δ 4,yJ 5 0] [(4,75,[Γ 0,Γ 0,Ω]),(3,3,[Γ b]),(2,75,[Γ n,Γ n,Λ A (n*n) cap])] ?_)
 refine yZ (zC (yY (xq 5 [yB 10 (((n:Int):Int) != (n:Int))] [] ?_)))
 rw[(show (((n:Int):Int) != (n:Int))=false from Zf1 rfl)]
 refine yZ (xb (zJ (zA (zC ?_))))
 refine SXc.freezeN 2 75 [yI n, yI n,.slice A (n*n) cap] (fun d=>[(2,.v (.pointer (yL d))),Δ 3,Δ 4,yJ 5 0]) [(4,75,[Γ 0,Γ 0,Ω]),(3,3,[Γ b])] qK (fun _=>qK) qK qK (fun _=>qK) fun d B=>?_
 refine SXc.freezeN 3 3 [yI b] (fun g=>[(2,.v (.pointer (yL d))),(3,.v (.pointer (yL g))),Δ 4,yJ 5 0]) [(4,75,[Γ 0,Γ 0,Ω])] qK (fun _=>qK) qK qK (fun _=>qK) fun g C=>?_
 refine zB (xq 1 [(12,.v (.func (.func 59) #[] #[.pointer (yL d),.pointer (yL g)]))] [] ?_)
 refine xqc 58 [.func (.func 59) #[] #[.pointer (yL d),.pointer (yL g)]] 13 (fun x:{x:Nat × List Nb // x.2.map nbV=i∧m0≤x.1}=>.tuple #[.agg #[yI n, yI n,Υ x.1.1 x.1.2.length], yI 0]) _ (fun w R Q=>(Ztf 59 #[.pointer (yL d),.pointer (yL g)] n n i _ (fun _=>rfl) (fun F c=>ZpO m n A cap xs b d g i _ (r.ext (R.trans c)) (Q.1.2.ext c) (Q.2.ext c) (OwnD.ext s (R.trans c)) (wR.ext t (R.trans c)) u y k l o z)).mono (fun _ _ h=>Zh3 (sh:=fun v=>.tuple #[v, yI 0]) (m0:=m0) (j ▸ R.size) h)) fun D=>?_
 obtain⟨⟨e,a⟩,f,q⟩:=D
 refine xq 4 [yJ 5 0] [(4,75,[Γ n,Γ n,Λ (yL e) a.length a.length])] ?_
 refine yZ (zH ?_)
 refine yR (.tuple #[.agg #[yI n, yI n,Υ e a.length], yI 0]) fun w' R Q=>?_
 exact⟨e,a,rfl,f,j ▸ Q.2.1,Q.2.2,R⟩
theorem ZnT (m r c:Nat)(A:qA)(cap n:Nat)(xs:List Nb)(w:World)(f:OwnD w m 99 3 A cap n (xs.flatMap nbC))(g:wR w xs)(i:xs.length=n)(j:Glob w)(k:n≤4096)(l:∀ x∈xs,wl x.m≤1000000∧(x.s=true→0<x.m)) :
 Ζ 57 #[.agg #[.int .i64 ((r:Nat):Int),.int .i64 ((c:Nat):Int),.slice A n cap],.int .i64 0] w (ZaU (fun v=>.tuple #[v,.int .i64 0]) r c (xs.map ftV) w):=by
 obtain⟨m0,d⟩:∃ m,m=w.heap.size:=⟨_,rfl⟩
 refine zU (Φ:=fun w=>True) func57 rfl qK (fun w' o=>trivial) ?_
 refine yY (xq 3 [Δ 2,Δ 4,yJ 5 0] [(4,38,[Γ 0,Γ 0,Ω]),(2,75,[Γ r,Γ c,Λ A n cap])] ?_)
 refine yZ (zC (yY (xq 2 [yB 7 false] [] ?_)))
 refine yZ (xb (zJ (zA (yY (xq 1 [(10,.v (.agg #[yI r, yI c,.slice A n cap]))] [] ?_)))))
 refine xqc 86 [.agg #[yI r, yI c,.slice A n cap]] 11 (fun b:{b:Nat // m0≤b}=>.agg #[yI r, yI c,.slice (yL b.1) (xs.map ftV).length (xs.map ftV).length]) _ (fun w R Q=>(ZlA m r c A cap n xs _ (OwnD.ext f R) (wR.ext g R) i (j.ext R) k l).mono (fun _ _ h=>ZaB (sh:=fun v=>v) (m0:=m0) (d ▸ R.size) h)) fun⟨a,e⟩=>?_
 refine xq 2 [yJ 5 0] [(4,38,[Γ r,Γ c,.v (.slice (yL a) (xs.map ftV).length (xs.map ftV).length)])] ?_
 refine yZ (zH ?_)
 refine yR (.tuple #[.agg #[yI r, yI c,.slice (yL a) (xs.map ftV).length (xs.map ftV).length], yI 0]) fun w' R Q=>?_
 exact⟨a,rfl,d ▸ Q.2,R⟩
structure Fm where
 r:Nat
 c:Nat
 A:Option Addr
 cap:Nat
 fs:List (ByteArray×Int)
instance:Inhabited Fm:=⟨⟨0,0,none,0,[]⟩⟩
def fmC (x:Fm):List Value:=[.int .i64 ((x.r:Nat):Int),.int .i64 ((x.c:Nat):Int),.slice x.A x.fs.length x.cap]
theorem Ztg (x:Fm):(fmC x).length=3:=rfl
theorem Zuv (x:Fm):∀ (k:IntKind) (z:Int),Value.int k z∈fmC x→k=.i64:=fun k z h=>by
 simp[fmC] at h;rcases h with h|h<;>exact h.1
structure Mx where
 r:Nat
 c:Nat
 A:Option Addr
 cap:Nat
 xs:List Nb
def mx0:Mx:=⟨0,0,none,0,[]⟩
instance:Inhabited Mx:=⟨mx0⟩
def mxC (x:Mx):List Value:=[.int .i64 ((x.r:Nat):Int),.int .i64 ((x.c:Nat):Int),.slice x.A x.xs.length x.cap]
theorem Zh4 (x:Mx):(mxC x).length=3:=rfl
theorem ZpP (x:Mx):∀ (k:IntKind) (z:Int),Value.int k z∈mxC x→k=.i64:=fun k z h=>by
 simp[mxC] at h;rcases h with h|h<;>exact h.1
def fmV (x:Fm):Nat × Nat × List Fv3:=(x.r,x.c,x.fs.map ldV)
def mxV (x:Mx):Nat × Nat × List Fv3:=(x.r,x.c,x.xs.map nbV)
structure FmG (x:Fm):Prop where
 hr:1≤x.r∧x.r≤32
 hc:1≤x.c∧x.c≤32
 hn:x.fs.length=x.r*x.c
 hv:∀ f∈x.fs,fvB (bytes f.1) f.2=true
 hs:∀ f∈x.fs,(bytes f.1).length≤1000
def MsOk (m:Nat) (w:World) (ys:List Mx):Prop:=∀ y∈ys,OwnD w m 99 3 y.A y.cap y.xs.length (y.xs.flatMap nbC)∧wR w y.xs
theorem Blk.same {T c:TypeId}{w:World}{i:Nat}{cs a:Array Value}(h:Blk T w i cs)(d:Blk c w i a):T=c:=by
 have f:w.heap[i]? = some (.cells cs T (0,0)):=h
 have b:w.heap[i]? = some (.cells a c (0,0)):=d
 rw[f] at b
 injection b with b
 injection b with _ e _
theorem OwnD.apart {w w':World}{m g n j c l k o:Nat}{e d:TypeId}{A f:qA}{xs a:List Value}(h:OwnD w m e k A c n xs)(p:OwnD w g d o f l j a)(b:e≠d)(q:Fr (fun i=>f=some ⟨i,0,none⟩) w w'):OwnD w' m e k A c n xs :=
 h.fr q (fun i hi r=>by
  obtain⟨_,_,s,_⟩:=h.blk hi
  obtain⟨_,_,t,_⟩:=p.blk r
  exact b (Blk.same s t))
theorem MsOk.row {m e k c n:Nat}{w w':World}{ys:List Mx}{A:qA}{l:List Value}(h:MsOk m w ys)(a:OwnD w e 75 k A c n l)(b:Fr (fun i=>A=some ⟨i,0,none⟩) w w'):MsOk m w' ys:=fun y d =>
 ⟨(h y d).1.apart a qD b,(h y d).2.row a b⟩
theorem MsOk.snoc {m:Nat}{w:World}{ys:List Mx}{x:Mx}(h:MsOk m w ys)(b:OwnD w m 99 3 x.A x.cap x.xs.length (x.xs.flatMap nbC)∧wR w x.xs):MsOk m w (ys ++ [x]):=fun y a=>by
 rcases rD.1 a with a|a
 ·exact h y a
 rw[rJ.1 a];exact b
def Zr1 (ls:List Fm) (nl:Nat) (w:World) (e:Ending) (w':World):Prop:=∃ b ms,e=.returned (.tuple #[.slice (some ⟨b,0,none⟩) nl nl,.int .i64 0])∧ms.map mxV=ls.map fmV∧OwnD w' w.heap.size 75 3 (some ⟨b,0,none⟩) nl nl (ms.flatMap mxC)∧MsOk w.heap.size w' ms∧Ext w w'
theorem Zro (ml C nl:Nat)(D:List Fm)(b:Nat)(w:World)(L:OwnD w ml 38 3 (some ⟨C,0,none⟩) nl nl (D.flatMap fmC))(G:D.length=nl)(Y:nl≤2)(H:∀ x∈D,OwnD w ml 67 2 x.A x.cap x.fs.length (x.fs.flatMap flC))(U:∀ x∈D,FmG x)(V:8≤b)(W:b≤1024) :
 Ζ 56 #[.int .i64 ((b:Nat):Int),.slice (some ⟨C,0,none⟩) nl nl] w (Zr1 D nl w):=by
 obtain⟨m0,s⟩:∃ m,m=w.heap.size:=⟨_,rfl⟩
 refine zU (Φ:=fun w=>True) func56 rfl qK (fun w' Z=>trivial) ?_
 refine yY (xq 2 [eS1 4 none 0 0,yJ 5 0] [] ?_)
 refine yZ (yY (xq 2 [yJ 12 nl] [] ?_))
 refine yD (d:=13) (fun K:{b:Nat // m0≤b}=>Υ K.1 nl) (fun K w=>OwnD w m0 75 3 (yL K.1) nl nl ((List.replicate nl mx0).flatMap mxC)) (fun w R Q=>iO (t:=103) (e:=75) (kl:=.i64) (kc:=.i64) (l:=.tmp 12) (c:=.tmp 12) (bytes:=40) (z:=.agg #[yI 0, yI 0,Ξ]) mx0 Zh4 qD rfl ZpP (s ▸ R.size) (by simp only[maxLen];omega) qO) fun⟨n,M⟩=>?_
 refine xr 1 [yJ 0 b,eS1 1 (yL C) nl nl,eS1 4 none 0 0,yJ 5 0,eS1 6 (yL n) nl nl] [] ?_
 refine yZ (zC (yY (xq 3 [eS1 14 (yL C) nl nl,yJ 15 nl,yJ 16 0] [] ?_)))
 refine yZ (zQ ?_)
 refine xO (fun N O P=>∃ (k:Nat) (B:List Mx),O=ofL [yJ 0 b,eS1 4 none 0 0,yJ 5 0,eS1 6 (yL n) nl nl,eS1 14 (yL C) nl nl,yJ 15 nl,yJ 16 k] []∧P=(fun w=>(MsOk m0 w B∧OwnD w m0 75 3 (yL n) nl nl ((fill nl mx0 B).flatMap mxC)))∧(k≤nl)∧(B.map mxV=(D.take k).map fmV)∧N=(1+(nl-k))) ((1+(nl-0))) ⟨0,([]:List Mx),rfl,rfl,(vS _),rfl,rfl⟩ (fun w Q=>⟨(fun _ h=>nomatch h),(by rw[Zaz];exact Q.2)⟩) ?_
 rintro N O P ⟨k,B,rfl,rfl,hk,J,rfl⟩
 refine yY (xq 1 [yB 17 (decide ((k:Int)<(nl:Int)))] [] ?_)
 refine yZ (zC ?_)
 refine yQ ((decide ((k:Int)<(nl:Int)))) (fun u=>?_) fun u=>?_
 ·have f:k<nl:=by have:=uC u;omega
  have E:B.length=k:=by have:=vP List.length J;rw[vG,vG,uN] at this;omega
  refine zJ (zA (zC (zQ (yY (xq 1 [yJ 18 k] [] ?_)))))
  refine xqk 19 (atA (yL C) (k*3)) (fun w R Q=>xE (t:=148) (e:=38) (sz:=3) (x:=.tmp 14) (ix:=.tmp 16) (len:=nl) (cap:=nl) (i:=k) ((OwnD.ext L R).ne f) f) ?_
  obtain⟨x12,q⟩:∃ x,D[k]! = x:=⟨_,rfl⟩
  refine xqk 20 (.agg #[yI x12.r, yI x12.c,.slice x12.A x12.fs.length x12.cap]) (fun w R Q=>by rw[←q];exact aQ (t:=38) (x:=.tmp 19) (j:=k) (OwnD.ext L R) Ztg (G.symm ▸ f)) ?_
  refine xq 3 [yJ 7 k,Δ 8] [(8,38,[Γ x12.r,Γ x12.c,Λ x12.A x12.fs.length x12.cap])] ?_
  refine yZ (yY (xq 1 [(22,.v (.agg #[yI x12.r, yI x12.c,.slice x12.A x12.fs.length x12.cap]))] [] ?_))
  have g:FmG x12:=by rw[←q];exact U _ (wP (G.symm ▸ f))
  refine xqc 85 [.agg #[yI x12.r, yI x12.c,.slice x12.A x12.fs.length x12.cap]] 23 (fun x:{x:Nat × List Nb // x.2.map nbV=x12.fs.map ldV∧m0≤x.1}=>.tuple #[.agg #[yI x12.r, yI x12.c,Υ x.1.1 x.1.2.length],.bool true]) _ (fun w R Q=>((show Calls _ _ _ _ (Zct (fun v=>.tuple #[v,.bool true]) x12.r x12.c (x12.fs.map ldV) _) from ZpJ ml x12.r x12.c x12.A x12.cap x12.fs _ (by rw[←q];exact OwnD.ext (H _ (wP (G.symm ▸ f))) R) g.hr g.hc g.hn g.hv g.hs)).mono (fun _ _ h=>Zh3 (sh:=fun v=>.tuple #[v,.bool true]) (m0:=m0) (s ▸ R.size) h)) fun X=>?_
  obtain⟨⟨o,a⟩,F,S⟩:=X
  refine xq 6 [Δ 9,yB 10 true] [(9,75,[Γ x12.r,Γ x12.c,Λ (yL o) a.length a.length])] ?_
  refine yZ (zC (yY (xq 2 [yB 27 false] [] ?_)))
  refine yZ (xb (zJ (zA (zB (xq 3 [eS1 28 (yL n) nl nl,yJ 29 k,(30,.v (.agg #[yI x12.r, yI x12.c,Υ o a.length]))] [] ?_)))))
  refine xqk 31 (.pointer (some ⟨n,0+k*3,none⟩)) (fun w R Q=>jV (t:=103) (e:=75) (sz:=3) (x:=.tmp 28) (ix:=.tmp 29) (len:=nl) (cap:=nl) (i:=k) f) ?_
  refine dC (t:=75) (x:=.tmp 31) (y:=.tmp 30) (j:=k) (new:=mxC ((⟨x12.r,x12.c,yL o,a.length,a⟩:Mx))) m0 n (.agg #[yI x12.r, yI x12.c,Υ o a.length]) (fun w=>((MsOk m0 w B∧OwnD w m0 99 3 (yL o) a.length a.length (a.flatMap nbC))∧wR w a)) (fun w Q=>Q.1.2) f rfl qD (fun h=>Or.inl (uA (s ▸ uF _) h)) (by simp[mxC,Value.oneCell']) (ZpP _) rfl (fun w w' Q H=>⟨⟨MsOk.row Q.1.1 Q.1.2 H,OwnD.apart Q.2.1 Q.1.2 qD H⟩,wR.row Q.2.2 Q.1.2 H⟩) ?_
  rw[←jU Zh4 ((fill nl mx0 B)) k ((⟨x12.r,x12.c,yL o,a.length,a⟩:Mx)) (by rw[Zax qO];exact f),Za4 E f]
  refine xr 0 [yJ 0 b,eS1 4 none 0 0,yJ 5 0,eS1 6 (yL n) nl nl,eS1 14 (yL C) nl nl,yJ 15 nl,yJ 16 k] [] ?_
  refine xe (xR (zA (zB (xq 1 [yJ 32 (IntKind.i64.wrap ((k:Int)+1))] [] ?_))))
  rw[yW ((k:Int)+1) (((k+1:Nat):Int)) qO]
  refine xq 1 [yJ 16 (k+1:Nat)] [] ?_
  refine xe ?_
  exact xK ((1+(nl-(k+1)))) qO ⟨(k+1),(B ++ [(⟨x12.r,x12.c,yL o,a.length,a⟩:Mx)]),rfl,rfl,f,(Zf3 J (G.symm ▸ f) (by rw[q];show (_,_,_)=(_,_,_);rw[F])),rfl⟩ (fun w Q=>⟨(MsOk.snoc Q.1.1.1 ⟨Q.1.1.2,Q.1.2⟩),Q.2⟩)
 have I:k=nl:=by have:=uD u;omega
 have E:B.length=k:=by have:=vP List.length J;rw[vG,vG,uN] at this;omega
 refine xM (zE (zE (xW (zA (zC (yY (xq 2 [yB 34 (decide ((b:Int)<8))] [] ?_)))))))
 rw[(show decide ((b:Int)<8)=false from uV qO)]
 refine xq 3 [yB 35 false,yB 37 (decide ((b:Int)>1024))] [] ?_
 rw[(show decide ((b:Int)>1024)=false from uV qO)]
 refine xq 1 [yB 38 false] [] ?_
 refine yZ (xb (zJ (zA (yY (xq 3 [eS1 4 (yL n) nl nl,yJ 5 0] [] ?_)))))
 refine yZ (zH ?_)
 refine yR (.tuple #[Υ n nl, yI 0]) fun w' R Q=>?_
 exact⟨n,B,rfl,by rw[J,I,← G,pK],by have h:=Q.2;have T:=E;rw[I] at T;subst T;rw[Zay] at h;exact s ▸ h,s ▸ Q.1,R⟩
structure Tap where
 g:Nat
 A:Option Addr
 l:Nat
 c:Nat
def TOld (wl:World) (τ:Tap):Prop:=∃ zs,jN wl τ.A zs∧zs.length=τ.l∧τ.l≤1000000∧wl.heap.size≤τ.g
def TOk (τ:Tap) (w:World):Prop:=∃ p,p≤τ.l∧TB w τ.g τ.A τ.l τ.c p
theorem TOk.fr {τ:Tap}{w w':World}{S:Nat→Prop}(h:TOk τ w)(a:Fr S w w')(b:¬ S τ.g):TOk τ w':=by
 obtain⟨p,c,d⟩:=h
 exact⟨p,c,Blk.fr d a b⟩
theorem TOk.ext {τ:Tap}{w w':World}(h:TOk τ w)(a:Ext w w'):TOk τ w':=h.fr a (fun f=>f)
theorem TOk.lt {τ:Tap}{w:World}(h:TOk τ w):τ.g<w.heap.size:=by
 obtain⟨p,b,a⟩:=h
 exact Blk.lt a
theorem TOk.nrb {τ:Tap}{w:World}(h:TOk τ w):NRB w τ.g:=by
 obtain⟨p,b,a⟩:=h
 exact⟨_,_,a,Zul _ _ _ _⟩
theorem TOk.cell {τ:Tap}{w:World}(h:TOk τ w):w.cell? ⟨τ.g,0,none⟩=some (.slice τ.A τ.l τ.c):=by
 obtain⟨p,b,a⟩:=h
 rw[Blk.cell a];rfl
theorem TOk.boxT {τ:Tap}{w w':World}(h:TOk τ w'):BoxT τ.g w w' (TOk τ):=fun _ _ a b=>h.fr b (fun c=>(a _ c).2.1 rfl)
theorem TOld.old {wl a w:World}{τ:Tap}(h:TOld wl τ)(b:Ext wl a)(Q:Fr (fun i=>i=τ.g) a w):Ext wl w:=by
 obtain⟨_,_,_,_,c⟩:=h
 exact b.next Q (fun i hi e=>by have e:i=τ.g:=e;omega)
def RetT {α:Type} (τ:Tap) (sh:α→Value) (good:α→Prop) (φ:α→World→Prop) (w:World) (e:Ending) (w':World):Prop:=∃ x,good x∧e=.returned (sh x)∧Fr (fun i=>i=τ.g) w w'∧TOk τ w'∧φ x w'
theorem Zhe {α:Type}{τ:Tap}{sh:α→Value}{a:α→Prop}{φ ψ:α→World→Prop}{w:World}{e:Ending}{w':World}(h:RetT τ sh a φ w e w')(c:∀ x,Fr (fun i=>i=τ.g) w w'→φ x w'→BoxT τ.g w w' (ψ x)) :
 ∃ x:{x:α // a x},e=.returned (sh x.1)∧Fr (fun i=>i=τ.g) w w'∧BoxT τ.g w w' (fun w=>TOk τ w∧ψ x.1 w):=by
 obtain⟨x,d,rfl,b,f,h⟩:=h
 exact⟨⟨x,d⟩,rfl,b,f.boxT.and (c x b h)⟩
theorem ZiM (τ:Tap)(wl:World)(n:Int)(w:World)(j:TOld wl τ)(k:Ext wl w)(m:TOk τ w)(a:0<n)(o:n≤1048576) :
 Ζ 5 #[.pointer (some ⟨τ.g,0,none⟩),.int .i64 n] w (RetT τ (fun v:Nat=>.int .i64 ((v:Nat):Int)) (fun v=>(v:Int)<n) (fun _ _=>True) w):=by
 obtain⟨q,d,r,s,t⟩:=j
 obtain⟨p,u,x⟩:=m
 refine (Zq7 τ.g τ.A τ.l τ.c p q n w x u (jN.next d (k.mono (fun _ _ f=>f.elim):Fr (fun i=>i=τ.g) wl w) (d.apart t)) r s a o).mono ?_
 rintro e w' ⟨v,y,rfl,h,z,b⟩
 exact⟨v,h.1,rfl,z,⟨y,h.2,b⟩,trivial⟩
theorem OwnD.tape {w w':World}{m n c k g:Nat}{e:TypeId}{A:qA}{xs:List Value}(h:OwnD w m e k A c n xs)(a:Fr (fun i=>i=g) w w')(b:g<m):OwnD w' m e k A c n xs :=
 h.fr a (fun i hi e=>by have:=(h.blk hi).1;have e:i=g:=e;omega)
theorem TOk.row {w w':World}{τ:Tap}{m n c k:Nat}{e:TypeId}{A:qA}{xs:List Value}(h:TOk τ w)(a:OwnD w m e k A c n xs)(f:τ.g<m)(b:Fr (fun i=>A=some ⟨i,0,none⟩) w w'):TOk τ w' :=
 h.fr b (fun d=>by have:=(a.blk d).1;omega)
theorem TOk.nrb' {w:World}{τ:Tap}(h:TOk τ w):∀ i,i=τ.g→NRB w i:=fun i hi=>by rw[hi];exact h.nrb
theorem SXi.size {N:Nat}{S0:Nat→Prop}{c:World}{s:St}{Φ:World→Prop}{P:Program}{b:Array Oper}{Q:Exit→Act→World→Prop}{i:Nat}(p:Nat→Prop)(e:∀ w,Fr S0 c w→Φ w→p w.heap.size)(K:∀ m1,p m1→SXi P N S0 c b Q i s (fun w=>Φ w∧m1≤w.heap.size)):SXi P N S0 c b Q i s Φ:=fun L a w hi =>
 K w.heap.size (e w hi.mem.ext hi.box.self) L a w ⟨hi.size,hi.df,hi.sl,hi.mem,fun f d=>⟨hi.box f d,d.size⟩⟩
theorem TOld.new {wl:World}{τ:Tap}(h:TOld wl τ):wl.heap.size≤τ.g:=by obtain⟨_,_,_,_,h⟩:=h;exact h
theorem Zth (A:qA)(l c:Nat)(zs:List Int)(a w:World)(b:Nat)(f:jN a A zs)(q:zs.length=l)(i:l≤c)(j:Ext a w)(k:b≤w.heap.size) :
 Ζ 4 #[.slice A l c] w (lD (fun x:{τ:Tap // TOld a τ∧b≤τ.g}=>.pointer (some ⟨x.1.g,0,none⟩)) (fun x w=>TOk x.1 w) w):=by
 refine (Zs0 A l c w i).mono ?_
 rintro e w' ⟨g,rfl,d,Q,m⟩
 refine⟨⟨⟨g,A,min l 400,c⟩,⟨zs.take 400,f.take 400,by rw[uN];show min 400 zs.length=min l 400;omega,by show min l 400≤1000000;omega,uA j.size d⟩,uA k d⟩,rfl,Q,fun S n o p=>?_⟩
 exact TOk.fr (τ:=⟨g,A,min l 400,c⟩) ⟨0,vS _,m⟩ p (fun h=>by have r:g<w.heap.size:=(n _ h).1;omega)
theorem OwnD.boxT {w w':World}{m n c k b:Nat}{e:TypeId}{A:qA}{xs:List Value}(h:OwnD w' w.heap.size e k A c n xs)(_:Fr (fun i=>i=b) w w')(a:m≤w.heap.size):BoxT b w w' (fun v=>OwnD v m e k A c n xs):=fun S d f g=>OwnD.mono (h.fr g (fun i hi j=>by
 have l:=(h.blk hi).1
 have o:=(f i j).1
 omega)) a
structure Mr (α:Type) where
 A:Option Addr
 cap:Nat
 xs:List α
instance {α:Type}:Inhabited (Mr α):=⟨⟨none,0,[]⟩⟩
def mr0 {α:Type}:Mr α:=⟨none,0,[]⟩
def mrC {α:Type} (x:Mr α):List Value:=[.slice x.A x.xs.length x.cap]
theorem ZaC {α:Type}(x:Mr α):(mrC x).length=1:=rfl
theorem Zhf {α:Type}(x:Mr α):∀ (k:IntKind) (z:Int),Value.int k z∈mrC x→k=.i64:=fun k z h=>by simp[mrC] at h
structure MrOk {α:Type} (e:TypeId) (k:Nat) (enc:α→List Value) (m:Nat) (w:World) (ys:List (Mr α)):Prop where
 own:∀ y∈ys,OwnD w m e k y.A y.cap y.xs.length (y.xs.flatMap enc)
 dif:ys.Pairwise (fun a b=>a.A≠b.A)
section
variable {α:Type} {e e':TypeId} {k k' m m' c n:Nat} {enc:α→List Value} {w w':World} {ys:List (Mr α)} {A:Option Addr} {l:List Value}
theorem MrOk.nil:MrOk e k enc m w []:=⟨fun _ h=>(by cases h),List.Pairwise.nil⟩
theorem MrOk.fr {S:Nat→Prop}(h:MrOk e k enc m w ys)(b:Fr S w w')(d:∀ y∈ys,∀ i,y.A=some ⟨i,0,none⟩→¬ S i):MrOk e k enc m w' ys:=⟨fun y a=>(h.own y a).fr b (d y a),h.dif⟩
theorem MrOk.apart (h:MrOk e k enc m w ys)(b:OwnD w m' e' k' A c n l)(a:e≠e')(d:Fr (fun i=>A=some ⟨i,0,none⟩) w w'):MrOk e k enc m w' ys:=⟨fun y f=>(h.own y f).apart b a d,h.dif⟩
theorem MrOk.snoc {x:Mr α}(h:MrOk e k enc m w ys)(f:OwnD w m e k x.A x.cap x.xs.length (x.xs.flatMap enc))(g:∀ y∈ys,y.A≠x.A):MrOk e k enc m w (ys ++ [x]):=by
 refine⟨fun y d=>?_,List.pairwise_append.2 ⟨h.dif,List.pairwise_singleton _ _,fun a i b j=>by rw[rJ.1 j];exact g a i⟩⟩
 rcases rD.1 d with d|d
 ·exact h.own y d
 rw[rJ.1 d];exact f
theorem MrOk.boxN (h:MrOk e k enc w.heap.size w' ys)(b:m≤w.heap.size):BoxN w w' (fun v=>MrOk e k enc m v ys):=fun S d a f=>⟨fun y g=>(h.own y g).boxN b S d a f,h.dif⟩
theorem MrOk.at (h:MrOk e k enc m w ys){a:Nat}(ha:a<ys.length):OwnD w m e k ys[a]!.A ys[a]!.cap ys[a]!.xs.length (ys[a]!.xs.flatMap enc):=h.own _ (wP ha)
theorem Zti {a b:Nat}(h:ys.Pairwise (fun a b=>a.A≠b.A))(ha:a<ys.length)(d:b<ys.length)(f:a≠b):ys[a]!.A≠ys[b]!.A:=by
 rw[vT ys a ha,vT ys b d]
 have i:=nC.1 h
 rcases pL f with g|g
 ·exact i a b ha d g
 exact (i b a d ha g).symm
theorem MrOk.set {a:Nat}{xs:List α}(h:MrOk e k enc m w ys)(ha:a<ys.length)(z:Fr (fun i=>ys[a]!.A=some ⟨i,0,none⟩) w w')(B:xs.length=ys[a]!.xs.length)(C:OwnD w' m e k ys[a]!.A ys[a]!.cap ys[a]!.xs.length (xs.flatMap enc)):MrOk e k enc m w' (ys.set a ⟨ys[a]!.A,ys[a]!.cap,xs⟩):=by
 refine⟨fun y f=>?_,?_⟩
 ·obtain⟨b,g,f⟩:=pJ f
  rw[tM] at g
  rw[List.getElem_set] at f
  by_cases d:a=b
  ·rw[uM d] at f
   subst f
   show OwnD w' m e k ys[a]!.A ys[a]!.cap xs.length _
   rw[B];exact C
  rw[uI d] at f
  subst f
  have j:=Zti h.dif ha g d
  rw[vT ys b g] at j
  exact (h.own _ (sF g)).fr z (fun i D E=>j (by rw[D];exact E))
 rw[nC]
 intro b c g u p
 rw[tM] at g u
 have v:∀ (q:Nat) (r:q<(ys.set a ⟨ys[a]!.A,ys[a]!.cap,xs⟩).length),((ys.set a ⟨ys[a]!.A,ys[a]!.cap,xs⟩)[q]).A=(ys[q]'(by rw[tM] at r;exact r)).A:=fun q r=>by
  rw[List.getElem_set]
  by_cases d:a=q
  ·subst d;rw[uM rfl];exact show ys[a]!.A=_ from vP Mr.A (vT ys a ha)
  rw[uI d]
 rw[v,v]
 exact nC.1 h.dif b c g u p
theorem Zag {a:Nat}{r:Mr α}{xs:List α}(ha:a<ys.length)(d:ys[a]! = r)(f:xs.length=r.xs.length):(ys.set a ⟨r.A,r.cap,xs⟩).flatMap mrC=ys.flatMap mrC:=by
 subst d
 rw[jU ZaC _ _ _ ha]
 have b:=jU ZaC ys a ys[a]! ha
 rw[show ys.set a ys[a]! = ys by rw[vT ys a ha];exact List.set_getElem_self ha] at b
 rw[show mrC (⟨ys[a]!.A,ys[a]!.cap,xs⟩:Mr α)=mrC ys[a]! by unfold mrC;rw[f]]
 exact b.symm
end
def RdD {α:Type} [Inhabited α] (e:TypeId) (k:Nat) (enc:α→List Value) (w:World) (A:Option Addr) (xs:List α):Prop:=∀ j i v,j<xs.length→(enc xs[j]!)[i]? = some v→∃ b off cur,A=some ⟨b,off,none⟩∧Blk e w b cur∧cur[off+(j*k+i)]? = some v
section
variable {α:Type} [Inhabited α] {e e':TypeId} {k k' m m' c n:Nat} {enc:α→List Value} {w w':World} {A A':Option Addr} {xs:List α} {l:List Value}
theorem RdD.fr {S:Nat→Prop}(h:RdD e k enc w A xs)(f:Fr S w w')(g:∀ b off cur,A=some ⟨b,off,none⟩→Blk e w b cur→¬ S b):RdD e k enc w' A xs:=fun j i v p q=>by
 obtain⟨b,off,cur,a,d,r⟩:=h j i v p q
 exact⟨b,off,cur,a,d.fr f (g b off cur a d),r⟩
theorem RdD.ext (h:RdD e k enc w A xs)(a:Ext w w'):RdD e k enc w' A xs:=h.fr a (fun _ _ _ _ _ f=>f)
theorem OwnD.rd (h:OwnD w m e k A c n (xs.flatMap enc))(b:∀ x,(enc x).length=k):RdD e k enc w A xs:=fun j i v f hv=>by
 have hi:i<k:=by
  rcases vO i (enc xs[j]!).length with h|h
  ·rwa [b] at h
  rw[vU h] at hv;cases hv
 have h4:=(bN b xs j i f hi).trans hv
 rcases h.2 with ⟨_,_,d⟩|⟨g,a,rfl,d,p,_,_,_,_,q⟩
 ·have:=h.1
  rw[d,sD] at this
  rw[tI.1 this] at h4
  simp at h4
 refine⟨g,0,a,rfl,p,?_⟩
 rw[←q,nP] at h4
 split at h4
 ·rw[vZ];simpa using h4
 cases h4
theorem RdD.sub {b off s t:Nat}(h:RdD e k enc w (some ⟨b,off,none⟩) xs)(y:s+t≤xs.length):RdD e k enc w (some ⟨b,off+s*k,none⟩) ((xs.drop s).take t):=fun j i v f g=>by
 rw[uN,tB] at f
 have q:((xs.drop s).take t)[j]! = xs[s+j]! := by
  rw[vT _ j (by rw[uN,tB];exact f),List.getElem_take,List.getElem_drop,vT xs (s+j) qO]
 rw[q] at g
 obtain⟨z,p,a,d,r,u⟩:=h (s+j) i v qO g
 injection d with d
 injection d with e1 e2
 subst e1;subst e2
 refine⟨b,off+s*k,a,rfl,r,?_⟩
 rw[show off+s*k+(j*k+i)=off+((s+j)*k+i) by rw[uW];omega]
 exact u
theorem RdD.ne (h:RdD e k enc w A xs)(a:∀ x,(enc x).length=k)(d:0<k){j:Nat}(f:j<xs.length):A≠none:=by
 obtain⟨b,g,_,i,_⟩:=h j 0 _ f (uR (by rw[a];exact d))
 rw[i];exact Option.some_ne_none _
end
section
variable {P:Program} {o:Oper} {ρ:Operand→Value} {w:World} {t e:TypeId} {x:Operand}
theorem iA {α:Type}[Inhabited α]{enc:α→List Value}{A:qA}{k j:Nat}{ys:List α}{e':TypeId}(h:RdD e' k enc w A ys)(f:∀ x,(enc x).length=k)(p:j<ys.length)(r:0<k:=by decide)(u:o.op=Op.load t x:=by kernel_rfl)(v:ρ x=atA A (j*k):=by kernel_rfl)(ha:(teOf P t).map (fun e=>(e.agg,e.size))=some (true,k):=by kernel_rfl) :
 (execOp ρ o).run P w=.ok (.value (.agg (enc ys[j]!).toArray)) w:=by
 obtain⟨D,d,y⟩:=vM.1 ha
 injection y with ha hn
 obtain⟨g,off,_,rfl,_⟩:=h j 0 _ p (uR (by rw[f];exact r))
 have:=Zaa (P:=P) (w:=w) d (g:=g) (off:=off+j*k) (cs:=enc ys[j]!) (by rw[f];exact hn.symm) (fun i hi=>by
  obtain⟨b,q,z,a,B,C⟩:=h j i _ p (uR hi)
  injection a with a
  injection a with a e2
  subst a;subst e2
  rw[sG,B.cell,C,uR hi]
  rfl) ha
 simp only[execOp,u,v,atA,rE,jL,Sem.run_bind,this,Result.andThen_ok,Sem.run_pure]
theorem ZmB {α:Type}{A:qA}{m c n j:Nat}{ys:List (Mr α)}(h:OwnD w m e 1 A c n (ys.flatMap mrC))(a:j<ys.length)(d:o.op=Op.load t x:=by kernel_rfl)(f:ρ x=atA A (j*1):=by kernel_rfl)(ha:(teOf P t).map (fun e=>e.agg)=some false:=by kernel_rfl) :
 (execOp ρ o).run P w=.ok (.value (.slice ys[j]!.A ys[j]!.xs.length ys[j]!.cap)) w:=by
 have g:=bN ZaC ys j 0 a qD
 obtain⟨b,rfl,_,i⟩:=h.at (v:=.slice ys[j]!.A ys[j]!.xs.length ys[j]!.cap) g
 exact wN i d (by rw[f,atA,rE,jL];rfl) ha
end
theorem ZnU {α β:Type}[Inhabited α]{enc:α→List Value}{d:β→List Value}{P:Program}{o:Oper}{ρ:Operand→Value}{w:World}{m0 k k' n bytes:Nat}{t e e':TypeId}{kl kc:IntKind}{l c:Operand}{z:Value}{ys:List (Mr β)}(g:α)(F:∀ x,(enc x).length=k)(G:0<k)(H:z.cells.toList=enc g)(r:∀ x,∀ (k:IntKind) (z:Int),Value.int k z∈enc x→k=.i64)(I:MrOk e' k' d m0 w ys)(E:m0≤w.heap.size)(J:n≤maxLen)(u:bytes*n≤281474976710656)(K:o.op=Op.makeSlice t l c:=by kernel_rfl)(L:P.underlying t=some (.slice e):=by kernel_rfl)(a:(P.info? e).map (fun i=>(i.zero,i.size,i.bytes))=some (some z,k,bytes):=by kernel_rfl)(M:ρ l=.int kl (n:Int):=by kernel_rfl)(O:ρ c=.int kc (n:Int):=by kernel_rfl) :
 Does P o ρ w (DoR (fun b:{b:Nat // m0≤b∧∀ y∈ys,y.A≠some ⟨b,0,none⟩}=>.slice (some ⟨b.1,0,none⟩) n n) (fun b w=>OwnD w m0 e k (some ⟨b.1,0,none⟩) n n ((List.replicate n g).flatMap enc)) w):=by
 have j:∀ y w',DoR (fun b:{b:Nat // w.heap.size≤b}=>.slice (some ⟨b.1,0,none⟩) n n) (fun b v=>OwnD v w.heap.size e k (some ⟨b.1,0,none⟩) n n ((List.replicate n g).flatMap enc)) w y w' →
  DoR (fun b:{b:Nat // m0≤b∧∀ y∈ys,y.A≠some ⟨b,0,none⟩}=>.slice (some ⟨b.1,0,none⟩) n n) (fun b w=>OwnD w m0 e k (some ⟨b.1,0,none⟩) n n ((List.replicate n g).flatMap enc)) w y w':=fun y w' h=>by
  obtain⟨b,p,q,B⟩:=h
  refine⟨⟨b.1,uA E b.2,fun y R C=>?_⟩,p,q,fun S T D U=>(B S T D U).mono E⟩
  obtain⟨_,V,W,_⟩:=(I.own y R).blk C
  exact rF _ (uT W.lt b.2)
 rcases iO (P:=P) (w:=w) (m0:=w.heap.size) g F G H r (uF _) J u K L a M O with ⟨y,w',p,q⟩|⟨f,X,Y,p,q⟩
 ·exact Or.inl ⟨y,w',p,j _ _ q⟩
 refine Or.inr ⟨f,X,Y,p,q.mono (fun e w' h=>?_)⟩
 obtain⟨y,B,C⟩:=h
 exact⟨y,B,j _ _ C⟩
section
variable {N:Nat} {S0:Nat→Prop} {w0:World} {s:St} {Φ Φ2:World→Prop} {P:Program} {ops:Array Oper} {Q:Exit→Act→World→Prop}
theorem Ztj {i k n c j:Nat}{t e:TypeId}{x y:Operand}{xs new:List Value}(base:Nat)(A:qA)(v:Value)(f:∀ w,Φ w→OwnD w base e k A c n xs)(u:j<n)(B:new.length=k)(C:0<k)(d:∀ b,base≤b→w0.heap.size≤b∨S0 b)(D:∀ c,c∈new→c.oneCell'=true)(g:∀ (k:IntKind) (z:Int),Value.int k z∈new→k=.i64)(E:v.cells.toList=new)(F:∀ w w',Φ w→Fr (fun i=>A=some ⟨i,0,none⟩) w w'→OwnD w' base e k A c n (lM xs (j*k) new)→Φ2 w')(K:SXi P N S0 w0 ops Q (i+1) s Φ2)(p:Nat.blt i ops.size=true:=by kernel_rfl)(G:s.wantB ops (opAt ops i)=some true:=by kernel_rfl)(H:(opAt ops i).op=.store t x y:=by kernel_rfl)(I:(opAt ops i).dst=none:=by kernel_rfl)(J:(teOf P t).map (fun e=>e.size)=some k:=by kernel_rfl)(M:s.eval x=some (.v (atA A (j*k))):=by kernel_rfl)(O:s.eval y=some (.v v):=by kernel_rfl):SXi P N S0 w0 ops Q i s Φ:=by
 intro L a w hi
 obtain⟨b,rfl,_⟩:=OwnD.blkSome (f w hi.box.self) qO
 have q:s.eval x=some (.v (.pointer (some ⟨b,0+j*k,none⟩))):=by rw[M,atA,rE,jL]
 exact dC base b v (fun w'=>∃ w,Φ w∧Fr (fun i=>(some ⟨b,0,none⟩:Option Addr)=some ⟨i,0,none⟩) w w') f u B C (d b) D g E (fun w w' h r=>⟨w,h,r⟩) (K.facts (fun w' h=>by
  obtain⟨⟨w,h,r⟩,f⟩:=h
  exact F w w' h r f)) p G H I J q O L a w hi
theorem Zfb {α:Type}[Inhabited α]{enc:α→List Value}{i k a j:Nat}{t e:TypeId}{x y:Operand}{ys:List (Mr α)}{r:Mr α}(base:Nat)(new:α)(v:Value)(Ψ:World→Prop)(q:∀ x,(enc x).length=k)(D:0<k)(u:∀ w,Φ w→MrOk e k enc base w ys)(ha:a<ys.length)(E:ys[a]! = r)(B:j<r.xs.length)(d:∀ b,base≤b→w0.heap.size≤b∨S0 b)(F:∀ c,c∈enc new→c.oneCell'=true)(g:∀ (k:IntKind) (z:Int),Value.int k z∈enc new→k=.i64)(G:v.cells.toList=enc new)(H:∀ w w',Φ w→Fr (fun i=>r.A=some ⟨i,0,none⟩) w w'→Ψ w')(K:SXi P N S0 w0 ops Q (i+1) s (fun w=>Ψ w∧MrOk e k enc base w (ys.set a ⟨r.A,r.cap,r.xs.set j new⟩)))(p:Nat.blt i ops.size=true:=by kernel_rfl)(I:s.wantB ops (opAt ops i)=some true:=by kernel_rfl)(J:(opAt ops i).op=.store t x y:=by kernel_rfl)(L:(opAt ops i).dst=none:=by kernel_rfl)(M:(teOf P t).map (fun e=>e.size)=some k:=by kernel_rfl)(O:s.eval x=some (.v (atA r.A (j*k))):=by kernel_rfl)(R:s.eval y=some (.v v):=by kernel_rfl):SXi P N S0 w0 ops Q i s Φ:=by
 subst E
 exact Ztj base ys[a]!.A v (fun w h=>(u w h).at ha) B (q new) D d F g G (fun w w' h C f=>⟨H w w' h C,by
  rw[←jU q _ _ _ B] at f
  exact (u w h).set ha C (tM ..) f⟩) K p I J L M O R
end
structure Qv where
 c:ShQ
 q:Rat
def qv0:Qv:=⟨(false,none,0,0,false,none,0,0),0⟩
instance:Inhabited Qv:=⟨qv0⟩
def qvC (x:Qv):List Value:=[.bool x.c.1,.slice x.c.2.1 x.c.2.2.1 x.c.2.2.2.1,.bool x.c.2.2.2.2.1,.slice x.c.2.2.2.2.2.1 x.c.2.2.2.2.2.2.1 x.c.2.2.2.2.2.2.2]
theorem wH (x:Qv):(qvC x).length=4:=rfl
theorem ZbV (x:Qv):∀ (k:IntKind) (z:Int),Value.int k z∈qvC x→k=.i64:=fun k z h=>by simp[qvC] at h
def QsOk (w:World) (xs:List Qv):Prop:=∀ x∈xs,zP w (lB x.c) x.q
theorem QsOk.nrb {S:Nat→Prop}{w w':World}{xs:List Qv}(h:QsOk w xs)(a:∀ i,S i→NRB w i)(b:Fr S w w'):QsOk w' xs:=fun x c=>(h x c).nrb a b
theorem QsOk.ext {w w':World}{xs:List Qv}(h:QsOk w xs)(a:Ext w w'):QsOk w' xs:=fun x b=>(h x b).ext a
theorem QsOk.zero (w:World)(n:Nat):QsOk w (List.replicate n qv0):=fun x a=>by rw[(qV.1 a).2];exact zP.nil w
structure Qr where
 A:Option Addr
 cap:Nat
 xs:List Qv
def qr0:Qr:=⟨none,0,[]⟩
instance:Inhabited Qr:=⟨qr0⟩
def qrC (x:Qr):List Value:=[.slice x.A x.xs.length x.cap]
theorem Ztk (x:Qr):(qrC x).length=1:=rfl
def RsOk (m:Nat) (w:World) (ys:List Qr):Prop:=∀ y∈ys,OwnD w m 32 4 y.A y.cap y.xs.length (y.xs.flatMap qvC)∧QsOk w y.xs
def qT (x:Qv):ByteArray:=⟨(xC x.q).toArray⟩
theorem ZpQ (m:Nat)(A:qA)(cap:Nat)(xs:List Qv)(w:World)(v:OwnD w m 32 4 A cap xs.length (xs.flatMap qvC))(G:QsOk w xs)(H:xs.length≤1000)(B:∀ x∈xs,ml x.q.num.natAbs≤65536∧ml x.q.den≤65536) :
 Ζ 55 #[.slice A xs.length cap] w (fun e w'=>∃ b,e=.returned (.slice (some ⟨b,0,none⟩) xs.length xs.length)∧OwnD w' w.heap.size 9 1 (some ⟨b,0,none⟩) xs.length xs.length ((xs.map qT).flatMap stC)∧Ext w w'):=by
 obtain⟨r,p⟩:∃ m,m=w.heap.size:=⟨_,rfl⟩
 refine zU (Φ:=fun w=>True) func55 rfl qK (fun w' I=>trivial) ?_
 refine yY (xq 1 [eS1 2 none 0 0] [] ?_)
 refine yZ (yY (xq 2 [yJ 6 xs.length] [] ?_))
 refine yD (d:=7) (fun s:{b:Nat // r≤b}=>Υ s.1 xs.length) (fun s w=>OwnD w r 9 1 (yL s.1) xs.length xs.length ((List.replicate xs.length (⟨#[]⟩:ByteArray)).flatMap stC)) (fun w R Q=>iO (t:=42) (e:=9) (kl:=.i64) (kc:=.i64) (l:=.tmp 6) (c:=.tmp 6) (bytes:=16) (z:=.string ⟨#[]⟩) (⟨#[]⟩:ByteArray) Zby qD rfl ZeN (p ▸ R.size) (by simp only[maxLen];omega) qO) fun⟨g,C⟩=>?_
 refine xr 1 [eS1 0 A xs.length cap,eS1 2 none 0 0,eS1 3 (yL g) xs.length xs.length] [] ?_
 refine yZ (zC (yY (xq 1 [yJ 4 0] [] ?_)))
 refine yZ (zQ ?_)
 refine xO (fun D E F=>∃ (k:Nat),E=ofL [eS1 0 A xs.length cap,eS1 2 none 0 0,eS1 3 (yL g) xs.length xs.length,yJ 4 k] []∧F=(fun w=>OwnD w r 9 1 (yL g) xs.length xs.length ((fY qT ⟨#[]⟩ xs k).flatMap stC))∧(k≤xs.length)∧D=(1+(xs.length-k))) ((1+(xs.length-0))) ⟨0,rfl,rfl,(vS _),rfl⟩ (fun w Q=>(by rw[Zbn];exact Q.2)) ?_
 rintro D E F ⟨k,rfl,rfl,J,rfl⟩
 refine zC (yY (xq 4 [yB 11 (decide ((k:Int)<((xs.length:Nat):Int)))] [] ?_))
 refine xe (zA ?_)
 refine yQ ((decide ((k:Int)<((xs.length:Nat):Int)))) (fun o=>?_) fun o=>?_
 ·have f:k<xs.length:=by have:=uC o;omega
  refine zJ (zA (zC (zQ (zB (xq 4 [eS1 14 (yL g) xs.length xs.length,yJ 15 k,eS1 16 A xs.length cap,yJ 17 k] [] ?_)))))
  refine xqk 18 (atA A (k*4)) (fun w R Q=>xE (t:=34) (e:=32) (sz:=4) (x:=.tmp 16) (ix:=.tmp 17) (len:=xs.length) (cap:=cap) (i:=k) ((OwnD.ext v R).ne f) f) ?_
  obtain⟨a,n⟩:∃ x,xs[k]! = x:=⟨_,rfl⟩
  refine xqk 19 (vR4 a.c.1 a.c.2.1 a.c.2.2.1 a.c.2.2.2.1 a.c.2.2.2.2.1 a.c.2.2.2.2.2.1 a.c.2.2.2.2.2.2.1 a.c.2.2.2.2.2.2.2) (fun w R Q=>by rw[←n];exact aQ (t:=32) (x:=.tmp 18) (j:=k) (OwnD.ext v R) wH f) ?_
  refine xqc 84 [vR4 a.c.1 a.c.2.1 a.c.2.2.1 a.c.2.2.2.1 a.c.2.2.2.2.1 a.c.2.2.2.2.2.1 a.c.2.2.2.2.2.2.1 a.c.2.2.2.2.2.2.2] 20 (fun _:Unit=>.string ⟨(xC a.q).toArray⟩) _ (fun w R Q=>yN (Zpe _ a.q _ (show zP _ (lB a.c) a.q by rw[←n];exact (QsOk.ext G R) _ (wP f)) (by rw[←n];exact (B _ (wP f)).1) (by rw[←n];exact (B _ (wP f)).2))) fun K=>?_
  refine xqk 21 (.pointer (some ⟨g,0+k*1,none⟩)) (fun w R Q=>jV (t:=42) (e:=9) (sz:=1) (x:=.tmp 14) (ix:=.tmp 15) (len:=xs.length) (cap:=xs.length) (i:=k) f) ?_
  refine dC (t:=9) (x:=.tmp 21) (y:=.tmp 20) (j:=k) (new:=stC ((⟨(xC a.q).toArray⟩:ByteArray))) r g (.string ⟨(xC a.q).toArray⟩) (fun w=>True) (fun w Q=>Q.1) f rfl qD (fun h=>Or.inl (uA (p ▸ uF _) h)) (by simp[stC,Value.oneCell']) (ZeN _) rfl (fun w w' Q L=>trivial) ?_
  rw[←jU Zby ((fY qT ⟨#[]⟩ xs k)) k ((⟨(xC a.q).toArray⟩:ByteArray)) (by rw[Zcq];exact f),Zcs f (by rw[n];rfl)]
  refine xr 0 [eS1 0 A xs.length cap,eS1 2 none 0 0,eS1 3 (yL g) xs.length xs.length,yJ 4 k] [] ?_
  refine xe (xR (zA (zB (xq 2 [yJ 13 (IntKind.i64.wrap ((k:Int)+1))] [] ?_))))
  rw[yW ((k:Int)+1) (((k+1:Nat):Int)) qO]
  refine xq 1 [yJ 4 (k+1:Nat)] [] ?_
  refine xe ?_
  exact xK ((1+(xs.length-(k+1)))) qO ⟨(k+1),rfl,rfl,f,rfl⟩ (fun w Q=>Q.2)
 have u:k=xs.length:=by have:=uD o;omega
 refine xM (zE (zE (xW (zA (yY (xq 2 [eS1 2 (yL g) xs.length xs.length] [] ?_))))))
 refine yZ (zH ?_)
 refine yR (Υ g xs.length) fun w' R Q=>?_
 exact⟨g,rfl,by have h:=Q;rw[u,Zcr] at h;exact p ▸ h,R⟩
section
variable {P:Program} {o:Oper} {ρ:Operand→Value} {w:World} {t e:TypeId} {x:Operand}
theorem ZmC {A:qA}{m c n j:Nat}{ys:List Qr}(h:OwnD w m e 1 A c n (ys.flatMap qrC))(a:j<ys.length)(d:o.op=Op.load t x:=by kernel_rfl)(f:ρ x=atA A (j*1):=by kernel_rfl)(ha:(teOf P t).map (fun e=>e.agg)=some false:=by kernel_rfl) :
 (execOp ρ o).run P w=.ok (.value (.slice ys[j]!.A ys[j]!.xs.length ys[j]!.cap)) w:=by
 have g:=bN Ztk ys j 0 a qD
 obtain⟨b,rfl,_,i⟩:=h.at (v:=.slice ys[j]!.A ys[j]!.xs.length ys[j]!.cap) g
 exact wN i d (by rw[f,atA,rE,jL];rfl) ha
end
theorem Zrq {α:Type}{enc:α→List Value}{k:Nat}(a:∀ x,(enc x).length=k)(xs:List α):(xs.flatMap enc).length=xs.length*k:=by
 induction xs with
 | nil=>simp
 | cons x xs ih=>rw[rI,vE,ih,a,sS,rA,vW]
theorem Ztl (l:List ByteArray):∀ u∈l.flatMap stC,u.oneCell'=true:=fun u a=>by
 obtain⟨s,_,b⟩:=List.mem_flatMap.1 a
 rw[rJ.1 b];rfl
theorem ZpR {α β:Type}[Inhabited α]{l:List α}{k:Nat}{f:α→List β}(a:k<l.length):(l.take (k+1)).flatMap f=(l.take k).flatMap f ++ f l[k]! := by
 rw[tO a,nG,vT l k a,mA]
theorem Ztm {m0 c:Nat}{xs:List Qv}{w w':World}{e:Ending}(a:m0≤w.heap.size)(f:xs.length=c)(h:∃ b,e=.returned (.slice (some ⟨b,0,none⟩) xs.length xs.length)∧OwnD w' w.heap.size 9 1 (some ⟨b,0,none⟩) xs.length xs.length ((xs.map qT).flatMap stC)∧Ext w w') :
 lD (fun b:{b:Nat // m0≤b}=>.slice (some ⟨b.1,0,none⟩) c c) (fun b w=>OwnD w m0 9 1 (some ⟨b.1,0,none⟩) c c ((xs.map qT).flatMap stC)) w e w':=by
 subst f
 obtain⟨b,rfl,d,Q⟩:=h
 exact⟨⟨b,uA a (d.blk rfl).1⟩,rfl,Q,d.boxN a⟩
def Zjc (n c:Nat) (ys:List Qr) (w:World) (e:Ending) (w':World):Prop:=∃ A cap,e=.returned (.agg #[.int .i64 ((n:Nat):Int),.int .i64 ((c:Nat):Int),.slice A (n*c) cap])∧OwnD w' w.heap.size 9 1 A cap (n*c) ((ys.flatMap (fun r=>r.xs.map qT)).flatMap stC)∧Ext w w'
theorem Zrr (J s n c:Nat)(ys:List Qr)(w:World)(hO:OwnD w J 34 1 (some ⟨s,0,none⟩) n n (ys.flatMap qrC))(V:RsOk J w ys)(C:ys.length=n)(G:0<n)(hn:n≤64)(N:0<c)(c0:c≤64)(W:∀ y∈ys,y.xs.length=c)(hq:∀ y∈ys,∀ x∈y.xs,ml x.q.num.natAbs≤65536∧ml x.q.den≤65536) :
 Ζ 31 #[.slice (some ⟨s,0,none⟩) n n] w (Zjc n c ys w):=by
 obtain⟨m0,D⟩:∃ m,m=w.heap.size:=⟨_,rfl⟩
 refine zU (Φ:=fun w=>OwnD w J 34 1 (yL s) n n (ys.flatMap qrC)) func31 rfl qK (fun w' hf=>OwnD.ext hO hf) ?_
 refine yY (xq 1 [Δ 2] [(2,44,[Γ 0,Γ 0,Ω])] ?_)
 refine yZ (zC (yY (xq 3 [yB 7 (((n:Int):Int) == 0)] [] ?_)))
 rw[(show (((n:Int):Int) == 0)=false by simp;omega)]
 refine yZ (xb (zJ (zA (yY (xq 3 [yJ 10 n,eS1 11 (yL s) n n] [] ?_)))))
 refine xqk 12 (atA (yL s) (0*1)) (fun w R Q=>xE (t:=26) (e:=34) (sz:=1) (x:=.tmp 11) (ix:=(Operand.const (Value.int IntKind.i64 0))) (len:=n) (cap:=n) (i:=0) qS G) ?_
 obtain⟨E,F⟩:∃ x,ys[0]! = x:=⟨_,rfl⟩
 refine xqk 13 (.slice E.A E.xs.length E.cap) (fun w R Q=>by rw[←F];exact ZmC (t:=34) (x:=.tmp 12) (j:=0) Q (C.symm ▸ G)) ?_
 have H:E.xs.length=c:=by rw[←F];exact W _ (wP (C.symm ▸ G))
 rw[H]
 refine xq 4 [Δ 3] [(3,44,[Γ n,Γ c,Ω])] ?_
 refine yZ (zC (yY (xq 1 [yJ 4 0] [] ?_)))
 refine yZ (zQ ?_)
 refine xO (fun X Y Z=>∃ (k p:Nat) (A:Option Addr) (cap:Nat) (l:List ByteArray),Y=ofL [eS1 0 (yL s) n n,Δ 2,Δ 3,yJ 4 k] [(3,44,[Γ n,Γ c,Λ A p cap]),(2,44,[Γ 0,Γ 0,Ω])]∧Z=(fun w=>(OwnD w J 34 1 (yL s) n n (ys.flatMap qrC)∧OwnD w m0 9 1 A cap p (l.flatMap stC)))∧(k≤n)∧(p=k*c)∧(l=(ys.take k).flatMap (fun r=>r.xs.map qT))∧(p=0→A=none)∧X=(1+(n-k))) ((1+(n-0))) ⟨0,0,none,0,([]:List ByteArray),rfl,rfl,(vS _),(by rw[sD]),rfl,(fun _=>rfl),rfl⟩ (fun w Q=>⟨Q,(OwnD.nil _ _ _ _)⟩) ?_
 rintro X Y Z ⟨k,p,A,cap,l,rfl,rfl,hk,O,K,S,rfl⟩
 refine zC (yY (xq 4 [yB 19 (decide ((k:Int)<(n:Int)))] [] ?_))
 refine xe (zA ?_)
 refine yQ ((decide ((k:Int)<(n:Int)))) (fun u=>?_) fun u=>?_
 ·have g:k<n:=by have:=uC u;omega
  have T:k*c≤64*64:=vK qO qO
  refine zJ (zA (zC (zQ ?_)))
  refine yO 7 zM ?_
  refine xqg 4 [eS1 23 A p cap,eS1 24 (yL s) n n,yJ 25 k] ?_
  refine xqj 26 (atA (yL s) (k*1)) (fun w Q=>xE (t:=26) (e:=34) (sz:=1) (x:=.tmp 24) (ix:=.tmp 25) (len:=n) (cap:=n) (i:=k) qS g) ?_
  obtain⟨a,f⟩:∃ x,ys[k]! = x:=⟨_,rfl⟩
  refine xqj 27 (.slice a.A a.xs.length a.cap) (fun w Q=>by rw[←f];exact ZmC (t:=34) (x:=.tmp 26) (j:=k) Q.1 (C.symm ▸ g)) ?_
  have B:a.xs.length=c:=by rw[←f];exact W _ (wP (C.symm ▸ g))
  refine xqd 55 [.slice a.A a.xs.length a.cap] 28 (fun b:{b:Nat // m0≤b}=>Υ b.1 c) _ (fun w R Q=>(ZpQ J a.A a.cap a.xs _ (by have h:=((V _ (wP (C.symm ▸ g))).1);rw[f] at h;exact OwnD.ext h R) (by have h:=((V _ (wP (C.symm ▸ g))).2);rw[f] at h;exact QsOk.ext h R) qO (by have h:=hq _ (wP (C.symm ▸ g));rw[f] at h;exact h)).mono (fun _ _ h=>Ztm (m0:=m0) (D ▸ R.size) B h)) fun⟨U,a0⟩=>?_
  refine xz ?_
  refine Zs4 (d:=29) (k:=1) (n:=p) (m:=c) (cap:=cap) (bytes:=16) (t:=42) (e:=9) (s0:=.tmp 23) (x:=.tmp 28) (xs:=l.flatMap stC) (news:=((a.xs.map qT).flatMap stC)) (z:=.string ⟨#[]⟩) m0 A (fun j hj h=>Or.inl (D ▸ h)) U c (fun w=>OwnD w J 34 1 (yL s) n n (ys.flatMap qrC)) (fun w R Q=>D ▸ R.size) (fun w Q=>Q.1.2) (fun w Q=>OwnD.news Q.2) (by rw[Zrq Zby,vG,B]) qD rfl (iX.list qS) N (Ztl _) (Zg7 ZeN _) (by simp only[maxLen];omega) qO S (fun w w' R Q hF=>OwnD.apart Q.1.1 Q.1.2 qD hF) fun L M b0=>?_
  refine xr 2 [eS1 0 (yL s) n n,Δ 2,Δ 3,yJ 4 k] [(3,44,[Γ n,Γ c,Λ L (p+c) M]),(2,44,[Γ 0,Γ 0,Ω])] ?_
  refine xe (xR (zA (zB (xq 2 [yJ 21 (IntKind.i64.wrap ((k:Int)+1))] [] ?_))))
  rw[yW ((k:Int)+1) (((k+1:Nat):Int)) qO]
  refine xq 1 [yJ 4 (k+1:Nat)] [] ?_
  refine xe ?_
  exact xK ((1+(n-(k+1)))) qO ⟨(k+1),(p+c),L,M,(l ++ a.xs.map qT),rfl,rfl,g,(by rw[O,rA]),(by rw[K,ZpR (C.symm ▸ g),f]),(fun h=>qO),rfl⟩ (fun w Q=>⟨Q.1,(by rw[nG];exact Q.2)⟩)
 have I:k=n:=by have:=uD u;omega
 have T:k*c≤64*64:=vK qO qO
 refine xM (zE (zE (xW (zA (yY (xq 2 [] [(2,44,[Γ n,Γ c,Λ A p cap])] ?_))))))
 refine yZ (zH ?_)
 refine yR (.agg #[yI n, yI c,.slice A p cap]) fun w' R Q=>?_
 exact⟨A,cap,by rw[O,I],by have h:=Q.2;rw[K,I,← C,pK] at h;rw[O,I] at h;exact D ▸ h,R⟩
theorem Ztn {i:List Fm}{c m0:Nat}{w w':World}{e:Ending}(g:m0≤w.heap.size)(h:Zr1 i c w e w') :
 lD (fun x:{x:Nat × List Mx // x.2.map mxV=i.map fmV∧m0≤x.1}=>.tuple #[.slice (some ⟨x.1.1,0,none⟩) c c,.int .i64 0]) (fun x w=>OwnD w m0 75 3 (some ⟨x.1.1,0,none⟩) c c (x.1.2.flatMap mxC)∧MsOk m0 w x.1.2) w e w':=by
 obtain⟨b,m,rfl,n,j,k,Q⟩:=h
 exact⟨⟨(b,m),n,uA g (j.blk rfl).1⟩,rfl,Q,(j.boxN g).and (fun S d a f y l=>⟨(k y l).1.boxN g S d a f,boxn Q (fun S a d f=>(k y l).2.nrb d f) S d a f⟩)⟩
theorem Zuw {a:List Mx}{b:Fm}{x:Mx}(h:a.map mxV=[b].map fmV)(d:a.length=1)(f:a[0]! = x):x.r=b.r∧x.c=b.c∧x.xs.map nbV=b.fs.map ldV:=by
 match a,d with
 | [y],_ =>
  have e:y=x:=f
  subst e
  injection h with h _
  injection h with h1 h
  injection h with h2 h3
  exact⟨h1,h2,h3⟩
theorem Zux {f:ByteArray×Int}(a:fvB (bytes f.1) f.2=true)(c:(bytes f.1).length≤1000):FvOk (ldV f):=by
 have h:=ZdB a
 have b:ldR (bytes f.1) f.2=⟨(zZ (bytes f.1)).1,zG (zZ (bytes f.1)).2,f.2,0⟩:=uM a
 refine⟨ZrW qO,?_,Zum,?_⟩
 ·unfold ldV;rw[b];exact⟨h.1,h.2.1⟩
 unfold ldV;rw[b];exact h.2.2.2
theorem ZmD {x:Fm}(h:FmG x):∀ v∈x.fs.map ldV,FvOk v:=fun v b=>by
 obtain⟨f,a,rfl⟩:=qF.1 b
 exact Zux (h.hv f a) (h.hs f a)
theorem Zuy {x:Fm}{xs:List Nb}(h:FmG x)(a:xs.map nbV=x.fs.map ldV):∀ y∈xs,FvOk (nbV y):=fun y b=>ZmD h _ (by rw[←a];exact nH b)
def ftW (v:Fv3):ByteArray×Int:=(⟨(Lib.itoa (sg v.1 v.2.1)).toArray⟩,v.2.2)
theorem Zuz {A:List Fv3}(h:∀ v∈A,FvOk v)(i:Nat):FvOk (at3 A i):=by
 unfold at3
 rw[tC]
 cases e:A[i]? with
 | none=>exact Zha
 | some v=>exact h v (oX e)
theorem ZpS {b i j n:Nat}{L:List Fv3}(c:0<b)(a:b≤4096):∀ (f k:Nat) (t t1:Fv3),FvOk t→chK b L i j n f k t=some t1→FvOk t1
 | 0,_,t,t1,ht,h=>by injection h with h;exact h ▸ ht
 | f+1,k,t,t1,ht,h=>by
  obtain⟨v,d,e⟩:=tJ.1 h
  exact ZpS c a f (k+1) v t1 (Zky c a d) e
theorem ZuA {b i j n:Nat}{L:List Fv3}{t v:Fv3}(c:0<b)(a:b≤4096)(e:FvOk t)(h:chE b L i j n t=some v):FvOk v:=by
 by_cases d:j<i
 ·exact ZhY (Zmx c a) (Zh2 d h rfl)
 exact ZhY (Zku e c a) (ZdH d h).2
theorem ZpT {b n j:Nat}{A:List Fv3}(g:∀ v∈A,FvOk v)(e:0<b)(a:b≤4096):∀ (f i:Nat) (L c:List Fv3),(∀ v∈L,FvOk v)→chI b A n j f i L=some c→(∀ v∈c,FvOk v)∧c.length=L.length
 | 0,_,L,c,hL,h=>by injection h with h;exact h ▸ ⟨hL,rfl⟩
 | f+1,i,L,c,hL,h=>by
  obtain⟨t,k,l⟩:=tJ.1 h
  obtain⟨v,m,o⟩:=tJ.1 l
  have p:=ZuA e a (ZpS e a _ _ _ _ (Zuz g _) k) m
  have:=ZpT g e a f (i+1) _ c (fun u d=>by
   rcases rN d with d|d
   ·exact hL u d
   rw[d];exact p) o
  rwa [tM] at this
theorem ZpU {b n:Nat}{A:List Fv3}(d:∀ v∈A,FvOk v)(e:0<b)(c:b≤4096):∀ (f j:Nat) (L a:List Fv3),(∀ v∈L,FvOk v)→chJ b A n f j L=some a→(∀ v∈a,FvOk v)∧a.length=L.length
 | 0,_,L,a,hL,h=>by injection h with h;exact h ▸ ⟨hL,rfl⟩
 | f+1,j,L,a,hL,h=>by
  obtain⟨k,l,m⟩:=tJ.1 h
  have g:=ZpT d e c _ _ _ _ hL l
  have i:=ZpU d e c f (j+1) k a g.1 m
  exact⟨i.1,i.2.trans g.2⟩
theorem Zrs (k:Nat):∀ v∈List.replicate k ((false,0,0):Fv3),FvOk v:=fun v a=>by rw[(qV.1 a).2];exact Zha
theorem ZmE {b n:Nat}{A c:List Fv3}(d:∀ v∈A,FvOk v)(e:0<b)(a:b≤4096)(h:ZaT b A n=some c):∀ v∈c,FvOk v:=(ZpU d e a _ _ _ _ (Zrs _) h).1
theorem ZmF {b n j:Nat}{A:List Fv3}:∀ (f i:Nat) (L a:List Fv3),chI b A n j f i L=some a→a.length=L.length
 | 0,_,L,a,h=>by injection h with h;rw[h]
 | f+1,i,L,a,h=>by
  obtain⟨t,e,c⟩:=tJ.1 h
  obtain⟨v,g,d⟩:=tJ.1 c
  rw[ZmF f (i+1) _ a d,tM]
theorem ZmG {b n:Nat}{A:List Fv3}:∀ (f j:Nat) (L a:List Fv3),chJ b A n f j L=some a→a.length=L.length
 | 0,_,L,a,h=>by injection h with h;rw[h]
 | f+1,j,L,a,h=>by
  obtain⟨c,d,e⟩:=tJ.1 h
  rw[ZmG f (j+1) c a e,ZmF _ _ _ _ d]
theorem Zrt {b n:Nat}{A a:List Fv3}(h:ZaT b A n=some a):a.length=n*n:=by rw[ZmG _ _ _ _ h,tZ]
theorem ZnV (ml n:Nat)(A:qA)(cap:Nat)(o:List (ByteArray×Int))(b:Nat)(l:List Fv3)(w:World)(P:Glob w)(X:OwnD w ml 67 2 A cap o.length (o.flatMap flC))(u:FmG ⟨n,n,A,cap,o⟩)(E:8≤b)(F:b≤1024)(J:ZaT b (o.map ldV) n=some l) :
 Ζ 32 #[.agg #[.int .i64 ((n:Nat):Int),.int .i64 ((n:Nat):Int),.slice A o.length cap],.int .i64 ((b:Nat):Int),.func (.func 33) #[] #[]] w (ZaU (fun v=>.tuple #[v,.int .i64 0]) n n (l.map ftW) w):=by
 obtain⟨m0,q⟩:∃ m,m=w.heap.size:=⟨_,rfl⟩
 refine zU (Φ:=fun w=>True) func32 rfl qK (fun w' hf=>trivial) ?_
 refine yY (xq 3 [Δ 3,Δ 6,yJ 7 0] [(6,38,[Γ 0,Γ 0,Ω]),(3,38,[Γ n,Γ n,Λ A o.length cap])] ?_)
 refine yZ (yY (xq 2 [yJ 11 b,(12,.v (.agg #[yI n, yI n,.slice A o.length cap]))] [] ?_))
 refine yD (d:=13) (fun K:{b:Nat // m0≤b}=>Υ K.1 1) (fun K Y=>Blk 38 Y K.1 #[yI n, yI n,.slice A o.length cap]) (fun w R Q=>ZeK (m0:=m0) (q ▸ R.size) (t:=148) (e:=38) (n:=1) (sz:=3) (z:=.agg #[yI 0, yI 0,Ξ]) (parts:=#[(0,Operand.tmp 12)]) qK qK qK qK qK qK) fun⟨y,S⟩=>?_
 refine xr 0 [yJ 1 b,(2,.v (.func (.func 33) #[] #[])),Δ 6,yJ 7 0,yJ 11 b,eS1 13 (yL y) 1 1] [(6,38,[Γ 0,Γ 0,Ω])] ?_
 refine xqc 56 [yI b,Υ y 1] 14 (fun x:{x:Nat × List Mx // x.2.map mxV=[(⟨n,n,A,cap,o⟩:Fm)].map fmV∧m0≤x.1}=>.tuple #[Υ x.1.1 1, yI 0]) _ (fun w R Q=>(Zro 0 y 1 [⟨n,n,A,cap,o⟩] b _ (show OwnD _ 0 38 3 _ 1 1 ([(⟨n,n,A,cap,o⟩:Fm)].flatMap fmC) from OwnD.ofBlk (xs:=fmC ⟨n,n,A,cap,o⟩) Q.2 (vS _) rfl qD (Zuv _)) rfl qD (fun x G=>by rw[rJ.1 G];exact OwnD.mono (OwnD.ext X R) (vS _)) (fun x G=>by rw[rJ.1 G];exact u) E F).mono (fun _ _ h=>Ztn (m0:=m0) (q ▸ R.size) h)) fun L=>?_
 obtain⟨⟨B,I⟩,H,T⟩:=L
 have s:I.length=1:=by have:=vP List.length H;rw[vG,vG] at this;exact this
 refine xq 5 [eS1 8 (yL B) 1 1,yJ 9 0] [] ?_
 refine yZ (zC (yY (xq 2 [yB 18 false] [] ?_)))
 refine yZ (xb (zJ (zA (yY (xq 2 [(21,.v (.func (.func 33) #[] #[])),eS1 22 (yL B) 1 1] [] ?_)))))
 refine xqk 23 (atA (yL B) (0*3)) (fun w R Q=>xE (t:=103) (e:=75) (sz:=3) (x:=.tmp 22) (ix:=.const (yI 0)) (len:=1) (cap:=1) (i:=0) qS qD) ?_
 obtain⟨a,k⟩:∃ x,I[0]! = x:=⟨_,rfl⟩
 refine xqk 24 (.agg #[yI a.r, yI a.c,.slice a.A a.xs.length a.cap]) (fun w R Q=>by rw[←k];exact aQ (t:=75) (x:=.tmp 23) (j:=0) Q.2.1 Zh4 (by rw[s];decide)) ?_
 obtain⟨Z,e2,M⟩:=Zuw H s k
 have e4:a.xs.length=n*n:=by have:=vP List.length M;rw[vG,vG] at this;rw[this];exact u.hn
 refine xq 1 [yJ 25 b] [] ?_
 refine xqc 33 [.agg #[yI a.r, yI a.c,.slice a.A a.xs.length a.cap], yI b] 26 (fun x:{x:Nat × List Nb // x.2.map nbV=l∧m0≤x.1}=>.tuple #[.agg #[yI n, yI n,Υ x.1.1 x.1.2.length], yI 0]) _ (fun w R Q=>((show Calls _ _ _ _ (Zct (fun v=>.tuple #[v, yI 0]) n n l _) by rw[Z,e2,e4];exact Zrn m0 n a.A a.cap a.xs b l _ (P.ext R) (by have h:=(Q.2.2 _ (wP (by rw[s];decide:0<I.length))).1;rw[k,e4] at h;exact h) (by have h:=(Q.2.2 _ (wP (by rw[s];decide:0<I.length))).2;rw[k] at h;exact h) e4 u.hr.2 E F (Zuy u M) (by rw[M];exact J))).mono (fun _ _ h=>Zh3 (sh:=fun v=>.tuple #[v, yI 0]) (m0:=m0) (q ▸ R.size) h)) fun L=>?_
 obtain⟨⟨C,f⟩,g,U⟩:=L
 refine xq 2 [(27,.v (.agg #[yI n, yI n,Υ C f.length])),yJ 28 0] [] ?_
 have N:(f.map ftV)=l.map ftW:=by rw[←g,pV];rfl
 have O:f.length≤4096:=by have V:=Zrt J;rw[←g,vG] at V;have:=vK u.hr.2 u.hr.2;rw[V];exact uA this qD
 refine xqc 57 [.agg #[yI n, yI n,Υ C f.length], yI 0] 29 (fun b:{b:Nat // m0≤b}=>.tuple #[.agg #[yI n, yI n,.slice (yL b.1) (l.map ftW).length (l.map ftW).length], yI 0]) _ (fun w R Q=>((show Calls _ _ _ _ (ZaU (fun v=>.tuple #[v, yI 0]) n n (l.map ftW) _) by rw[←N];exact ZnT m0 n n (yL C) f.length f.length f _ Q.2.1 Q.2.2 rfl (P.ext R) O (fun x G=>(fun h=>⟨uA h.1 qD,h.2.2.2⟩:FvOk (nbV x)→_) (ZmE (ZmD u) qO qO J _ (by rw[←g];exact nH G))))).mono (fun _ _ h=>ZaB (sh:=fun v=>.tuple #[v, yI 0]) (m0:=m0) (q ▸ R.size) h)) fun⟨D,W⟩=>?_
 refine xq 4 [yJ 7 0] [(6,38,[Γ n,Γ n,.v (.slice (yL D) (l.map ftW).length (l.map ftW).length)])] ?_
 refine yZ (zH ?_)
 refine yR (.tuple #[.agg #[yI n, yI n,.slice (yL D) (l.map ftW).length (l.map ftW).length], yI 0]) fun w' R Q=>?_
 exact⟨D,rfl,q ▸ Q.2,R⟩
theorem ZeP (ml n:Nat)(A:qA)(cap:Nat)(a:List (ByteArray×Int))(b:Nat)(c:List Fv3)(w:World)(j:Glob w)(k:OwnD w ml 67 2 A cap a.length (a.flatMap flC))(l:FmG ⟨n,n,A,cap,a⟩)(f:8≤b)(g:b≤1024)(o:ZaT b (a.map ldV) n=some c) :
 Ζ 11 #[.agg #[.int .i64 ((n:Nat):Int),.int .i64 ((n:Nat):Int),.slice A a.length cap],.int .i64 ((b:Nat):Int)] w (ZaU (fun v=>.tuple #[v,.int .i64 0]) n n (c.map ftW) w):=by
 obtain⟨m0,e⟩:∃ m,m=w.heap.size:=⟨_,rfl⟩
 refine zU (Φ:=fun w=>True) func11 rfl qK (fun w' q=>trivial) ?_
 refine yY (xq 3 [Δ 2,Δ 4,yJ 5 0] [(4,38,[Γ 0,Γ 0,Ω]),(2,38,[Γ n,Γ n,Λ A a.length cap])] ?_)
 refine yZ (yY (xq 2 [(6,.v (.agg #[yI n, yI n,.slice A a.length cap])),yJ 7 b] [] ?_))
 refine xqc 32 [.agg #[yI n, yI n,.slice A a.length cap], yI b,.func (.func 33) #[] #[]] 8 (fun b:{b:Nat // m0≤b}=>.tuple #[.agg #[yI n, yI n,.slice (yL b.1) (c.map ftW).length (c.map ftW).length], yI 0]) _ (fun w R Q=>(ZnV ml n A cap a b c _ (j.ext R) (OwnD.ext k R) l f g o).mono (fun _ _ h=>ZaB (sh:=fun v=>.tuple #[v, yI 0]) (m0:=m0) (e ▸ R.size) h)) fun⟨d,i⟩=>?_
 refine xq 4 [yJ 5 0] [(4,38,[Γ n,Γ n,.v (.slice (yL d) (c.map ftW).length (c.map ftW).length)])] ?_
 refine yZ (zH ?_)
 refine yR (.tuple #[.agg #[yI n, yI n,.slice (yL d) (c.map ftW).length (c.map ftW).length], yI 0]) fun w' R Q=>?_
 exact⟨d,rfl,e ▸ Q.2,R⟩
end Go.Proofs.YtmpffakfhcpjoaaGreatDoor
namespace Go.Proofs.YtmpffakfhcpjoaaGreatDoor
theorem few (s:Bool){n o j b:Nat}(e:Int)(d:0<b)(a:n=o*2^j)(c:o%2=1)(f:n<2^b)(g:okE (e+(j:Int))):wX s n 1 e b=⟨s,o,e+(j:Int),0⟩:=by
 have h:0<n:=by rw[a];exact sK qO (p2 j)
 rw[←jF s n e d]
 unfold lJ
 rw[uM (xH.2 f)]
 unfold xU
 rw[uI qO,a,ZbM c,ZcW c,uM g]
theorem Zcu {e:Int}(a : -1000≤e)(b:e≤1000):okE e:=by unfold okE;omega
theorem rd4:wA [52]=some ((4:Int):Rat):=ZbR.2 (aF (n:=4) qD qD qD)
theorem rd2:wA [50]=some ((2:Int):Rat):=ZbR.2 (aF (n:=2) qD qD qD)
theorem rd5:wA [53]=some ((5:Int):Rat):=ZbR.2 (aF (n:=5) qD qD qD)
theorem ZnW {l:List UInt8}{n o j:Nat}(h:wA l=some ((n:Int):Rat))(a:n=o*2^j)(b:o%2=1)(c:n<256)(d:j≤1000):kW l 8=⟨false,o,(j:Int),0⟩:=by
 unfold kW
 rw[uM (by rw[h];rfl),uM qO,dF h]
 unfold rndF
 rw[nK,nL]
 show wX (decide ((n:Int)<0)) n 1 0 8=_
 rw[show decide ((n:Int)<0)=false from uV qO,few false 0 qD a b c (Zcu qO qO),Int.zero_add]
theorem r4:kW [52] 8=⟨false,1,2,0⟩:=ZnW (n:=4) (o:=1) (j:=2) rd4 qD qD qD qD
theorem r2:kW [50] 8=⟨false,1,1,0⟩:=ZnW (n:=2) (o:=1) (j:=1) rd2 qD qD qD qD
theorem r5:kW [53] 8=⟨false,5,0,0⟩:=ZnW (n:=5) (o:=5) (j:=0) rd5 qD qD qD qD
theorem ZkA {n:Nat}{c:UInt8}(a:Lib.decDigits n=[c]):Lib.itoa ((n:Nat):Int)=[c]:=by rw[gL,a]
theorem it1:Lib.itoa 1=[49]:=ZkA (n:=1) (by rw[dB qO];rfl)
theorem it5:Lib.itoa 5=[53]:=ZkA (n:=5) (by rw[dB qO];rfl)
theorem it2:Lib.itoa 2=[50]:=ZkA (n:=2) (by rw[dB qO];rfl)
theorem ZkB {c d:UInt8}{o:Nat}{e:Int}(h:kW [c] 8=⟨false,o,e,0⟩)(a:Lib.itoa (sg false o)=[d]):rdF 8 ⟨#[c]⟩=(⟨#[d]⟩,e):=by
 unfold rdF
 rw[show bytes ⟨#[c]⟩=[c] from rfl,h]
 show ((⟨(Lib.itoa (sg false o)).toArray⟩:ByteArray),e)=_
 rw[a]
def kF:List (ByteArray×Int):=[(⟨#[49]⟩,2),(⟨#[49]⟩,1),(⟨#[49]⟩,1),(⟨#[53]⟩,0)]
theorem Zru:[(⟨#[52]⟩:ByteArray),⟨#[50]⟩,⟨#[50]⟩,⟨#[53]⟩].map (rdF 8)=kF:=by
 simp only[oO,nB]
 rw[ZkB r4 it1,ZkB r2 it1,ZkB r5 it5]
 rfl
def kA:List Fv3:=[(false,1,2),(false,1,1),(false,1,1),(false,5,0)]
theorem Zto:kF.map ldV=kA:=by
 unfold kF kA
 simp only[oO,nB]
 refine congr (vP _ ?_) (congr (vP _ ?_) (congr (vP _ ?_) (congr (vP _ ?_) rfl)))
 all_goals (unfold ldV ldR;rw[uM qD];rfl)
theorem Zfc {r:FR}{s:Bool}{m:Nat}{e:Int}(h:r=⟨s,m,e,0⟩):musT r=some (s,m,e):=by subst h;rfl
theorem ZuB:blen 1=1:=Ze4 (k:=0) qD qD
theorem ZmH:musT (iP (false,1,2) 8)=some (false,1,1):=by
 refine Zfc ?_
 show fX false 1 2 8=_
 unfold fX
 rw[uI qD,uI qD]
 have a:sqK 1 2 8 = -6:=by unfold sqK;rw[ZuB];decide
 have b:fq 1 1 (-16)=65536:=by have:=Zar 1 16;rw[show (-((16:Nat):Int)) = -16 from rfl] at this;rw[this]
 have hi:isq 65536=256:=ZgL qD qD
 have c:sqM 1 2 8=128:=by
  unfold sqM jT
  rw[a,show (2:Int)-2*(-6)+2=16 from rfl,b,hi]
  decide
 unfold Zbf xU
 rw[a,c,uI qD,show (128:Nat)=1*2^7 from rfl,ZbM qD,ZcW qD,uM (Zcu qD qD)]
 rfl
theorem ZuC:musT (divV (false,1,1) (false,1,1) 8)=some (false,1,0):=by
 refine Zfc ?_
 show Zch false 1 1 0 8=_
 unfold Zch
 rw[uI qD]
 exact few (n:=1) (o:=1) (j:=0) (b:=8) false 0 qD qD qD qD (Zcu qD qD)
theorem ZuD:Zbm (false,5,0) (false,1,0) (false,1,0) 8=some (false,1,2):=by
 unfold Zbm
 rw[show musT (mulV (false,1,0) (false,1,0) 8)=some (false,1,0) from Zfc (few (n:=1) (o:=1) (j:=0) false 0 qD qD qD qD (Zcu qD qD))]
 show musT (subV (false,5,0) (false,1,0) 8)=_
 refine Zfc ?_
 show sumR false 5 0 true 1 0 8=_
 unfold sumR addR
 rw[uI qD,uI qD]
 exact few (n:=4) (o:=1) (j:=2) (b:=8) false 0 qD qD qD qD (Zcu qD qD)
theorem Zf4 {b n i j f:Nat}{A L:List Fv3}{t v:Fv3}(a:chK b L i j n j 0 (at3 A (i*n+j))=some t)(Q:chE b L i j n t=some v):chI b A n j (f+1) i L=chI b A n j f (i+1) (L.set (i*n+j) v):=by
 show (chK b L i j n j 0 (at3 A (i*n+j))).bind _=_
 rw[a]
 show (chE b L i j n t).bind _=_
 rw[Q]
 rfl
def kL:List Fv3:=[(false,1,1),(false,0,0),(false,1,0),(false,1,1)]
theorem Ztp:ZaT 8 kA 2=some kL:=by
 have a:chI 8 kA 2 0 2 0 [(false,0,0),(false,0,0),(false,0,0),(false,0,0)]=some [(false,1,1),(false,0,0),(false,1,0),(false,0,0)]:=by
  rw[Zf4 (t:=(false,1,2)) (v:=(false,1,1)) rfl (by unfold chE;rw[uI qD,uI qD];exact ZmH)]
  rw[Zf4 (t:=(false,1,1)) (v:=(false,1,0)) rfl (by unfold chE;rw[uM qD];exact ZuC)]
  rfl
 have b:chI 8 kA 2 1 1 1 [(false,1,1),(false,0,0),(false,1,0),(false,0,0)]=some kL:=by
  rw[Zf4 (t:=(false,1,2)) (v:=(false,1,1)) (by show (Zbm (false,5,0) (false,1,0) (false,1,0) 8).bind _=_;rw[ZuD];rfl) (by unfold chE;rw[uI qD,uI qD];exact ZmH)]
  rfl
 show (chI 8 kA 2 0 2 0 [(false,0,0),(false,0,0),(false,0,0),(false,0,0)]).bind _=_
 rw[a]
 show (chI 8 kA 2 1 1 1 [(false,1,1),(false,0,0),(false,1,0),(false,0,0)]).bind _=_
 rw[b]
 rfl
def kG:List (ByteArray×Int):=[(⟨#[49]⟩,1),(⟨#[48]⟩,0),(⟨#[49]⟩,0),(⟨#[49]⟩,1)]
theorem ZpV:kL.map ftW=kG:=by
 unfold kL kG
 simp only[oO,nB]
 unfold ftW
 show [((⟨(Lib.itoa 1).toArray⟩:ByteArray),(1:Int)),(⟨(Lib.itoa 0).toArray⟩,0),(⟨(Lib.itoa 1).toArray⟩,0),(⟨(Lib.itoa 1).toArray⟩,1)]=_
 rw[it1,Zck]
theorem Zrv:kG.map exV=[⟨#[50]⟩,⟨#[48]⟩,⟨#[49]⟩,⟨#[50]⟩]:=by
 have a:flM [49]=1:=qD
 have b:exT [49] 1=[50]:=by
  unfold exT;rw[uM (fv_1 qD qD),a,uI qD,uI qD];exact it2
 have c:exT [49] 0=[49]:=by
  unfold exT;rw[uM (fv_1 qD qD),a,uI qD,uI qD];exact it1
 have d:exT [48] 0=[48]:=ZfW qD qD
 unfold kG
 simp only[oO,nB]
 unfold exV
 show [(⟨(exT [49] 1).toArray⟩:ByteArray),⟨(exT [48] 0).toArray⟩,⟨(exT [49] 0).toArray⟩,⟨(exT [49] 1).toArray⟩]=_
 rw[b,c,d]
end Go.Proofs.YtmpffakfhcpjoaaGreatDoor
namespace Go.Proofs.YtmpffakfhcpjoaaGreatDoor
open Go.RowKit Tryz
def kS:List ByteArray:=[⟨#[52]⟩,⟨#[50]⟩,⟨#[50]⟩,⟨#[53]⟩]
theorem ZuE {w:World}{b:Nat}(h:Blk 9 w b #[.string ⟨#[52]⟩,.string ⟨#[50]⟩,.string ⟨#[50]⟩,.string ⟨#[53]⟩]):SRd w (some ⟨b,0,none⟩) kS:=fun i hi=>by
 refine⟨b,0,rfl,h.lt,?_⟩
 rw[h.cell,vZ]
 match i,hi with
 | 0,_=>rfl
 | 1,_=>rfl
 | 2,_=>rfl
 | 3,_=>rfl
theorem Zrw:mtB (2:Nat) (2:Nat) kS=true:=by
 unfold mtB
 rw[vQ qD,mI]
 show ([(⟨#[52]⟩:ByteArray),⟨#[50]⟩,⟨#[50]⟩,⟨#[53]⟩]:List ByteArray).all (fun s=>(wA (bytes s)).isSome)=true
 simp only[rW,List.all_nil]
 rw[show bytes ⟨#[52]⟩=[52] from rfl,show bytes ⟨#[50]⟩=[50] from rfl,show bytes ⟨#[53]⟩=[53] from rfl,rd4,rd2,rd5]
 rfl
theorem ZuF:∀ s∈kS,(kW (bytes s) 8).err=0:=fun s a=>by
 simp only[kS,oN,mH,or_false] at a
 rcases a with rfl|rfl|rfl|rfl
 ·rw[show bytes ⟨#[52]⟩=[52] from rfl,r4]
 ·rw[show bytes ⟨#[50]⟩=[50] from rfl,r2]
 ·rw[show bytes ⟨#[50]⟩=[50] from rfl,r2]
 rw[show bytes ⟨#[53]⟩=[53] from rfl,r5]
theorem kF_g (A:qA)(cap:Nat):FmG ⟨2,2,A,cap,kF⟩:=by
 refine⟨by show 1≤2∧2≤32;decide,by show 1≤2∧2≤32;decide,rfl,fun f a=>?_,fun f a=>?_⟩
 all_goals (simp only[kF,oN,mH,or_false] at a;rcases a with rfl|rfl|rfl|rfl<;>decide)
theorem kG_g (A:qA)(cap:Nat):FmG ⟨2,2,A,cap,kG⟩:=by
 refine⟨by show 1≤2∧2≤32;decide,by show 1≤2∧2≤32;decide,rfl,fun f a=>?_,fun f a=>?_⟩
 all_goals (simp only[kG,oN,mH,or_false] at a;rcases a with rfl|rfl|rfl|rfl<;>decide)
theorem kG_x:∀ x∈kG,-1000≤x.2∧x.2≤1000:=fun f a=>by
 simp only[kG,oN,mH,or_false] at a
 rcases a with rfl|rfl|rfl|rfl<;>decide
theorem Ztq {m0:Nat}{w w':World}{e:Ending}(c:m0≤w.heap.size)(h:∃ b,e=.returned (.tuple #[.agg #[.int .i64 ((2:Nat):Int),.int .i64 ((2:Nat):Int),.slice (some ⟨b,0,none⟩) kG.length kG.length],.int .i64 0])∧OwnD w' w.heap.size 9 1 (some ⟨b,0,none⟩) kG.length kG.length ((kG.map exV).flatMap stC)∧Ext w w') :
 lD (fun b:{b:Nat // m0≤b}=>.tuple #[.agg #[.int .i64 2,.int .i64 2,.slice (some ⟨b.1,0,none⟩) 4 4],.int .i64 0]) (fun b w=>OwnD w m0 9 1 (some ⟨b.1,0,none⟩) 4 4 [.string ⟨#[50]⟩,.string ⟨#[48]⟩,.string ⟨#[49]⟩,.string ⟨#[50]⟩]) w e w':=by
 obtain⟨b,rfl,a,Q⟩:=h
 rw[Zrv] at a
 exact⟨⟨b,uA c (a.blk rfl).1⟩,rfl,Q,a.boxN c⟩
theorem ZlB (w:World)(o:Glob w) :
 Ζ 23 #[] w (RetV w (.bool true)):=by
 obtain⟨m0,j⟩:∃ m,m=w.heap.size:=⟨_,rfl⟩
 refine zU (Φ:=fun w=>True) func23 rfl qK (fun w' C=>trivial) ?_
 refine yY (xq 1 [yB 0 false] [] ?_)
 refine yZ (zC (zB ?_))
 refine yD (d:=8) (fun q:{b:Nat // m0≤b}=>Υ q.1 4) (fun q B=>Blk 9 B q.1 #[.string ⟨#[52]⟩,.string ⟨#[50]⟩,.string ⟨#[50]⟩,.string ⟨#[53]⟩]) (fun w R Q=>ZeK (m0:=m0) (j ▸ R.size) (t:=42) (e:=9) (n:=4) (sz:=1) (z:=.string ⟨#[]⟩) (parts:=#[(0,Operand.const (Value.string { data:=#[52] })),(1,Operand.const (Value.string { data:=#[50] })),(2,Operand.const (Value.string { data:=#[50] })),(3,Operand.const (Value.string { data:=#[53] }))]) qK qK qK qK qK qK) fun⟨l,s⟩=>?_
 refine xr 1 [yB 0 false,(9,.v (.agg #[yI 2, yI 2,Υ l 4]))] [] ?_
 refine xqc 9 [.agg #[yI 2, yI 2,Υ l 4], yI 8] 10 (fun b:{b:Nat // m0≤b}=>.tuple #[.agg #[yI 2, yI 2,Υ b.1 4], yI 0]) _ (fun w R Q=>((show Calls _ _ _ _ (ZrY 2 2 kF _) by rw[←Zru];exact ZiI 2 2 (yL l) 4 kS 8 _ (o.ext R) (ZuE Q.2) qD Zrw qD qD qD qD qD ZuF)).mono (fun _ _ h=>ZaB (sh:=fun v=>.tuple #[v, yI 0]) (m0:=m0) (r:=2) (c:=2) (j ▸ R.size) h)) fun⟨k,u⟩=>?_
 refine xq 6 [Δ 1,yJ 2 0] [(1,38,[Γ 2,Γ 2,Λ (yL k) 4 4])] ?_
 refine yZ (yY (xq 1 [(14,.v (.agg #[yI 2, yI 2,Υ k 4]))] [] ?_))
 refine xqc 11 [.agg #[yI 2, yI 2,Υ k 4], yI 8] 15 (fun b:{b:Nat // m0≤b}=>.tuple #[.agg #[yI 2, yI 2,Υ b.1 4], yI 0]) _ (fun w R Q=>((show Calls _ _ _ _ (ZaU (fun v=>.tuple #[v, yI 0]) 2 2 kG _) by rw[←ZpV];exact ZeP m0 2 (yL k) 4 kF 8 kL _ (o.ext R) Q.2 (kF_g _ _) qD qD (by rw[Zto];exact Ztp))).mono (fun _ _ h=>ZaB (sh:=fun v=>.tuple #[v, yI 0]) (m0:=m0) (r:=2) (c:=2) (j ▸ R.size) h)) fun⟨f,y⟩=>?_
 refine xq 6 [Δ 3,yJ 4 0] [(3,38,[Γ 2,Γ 2,Λ (yL f) 4 4])] ?_
 refine yZ (yY (xq 1 [(19,.v (.agg #[yI 2, yI 2,Υ f 4]))] [] ?_))
 refine xqc 12 [.agg #[yI 2, yI 2,Υ f 4]] 20 (fun b:{b:Nat // m0≤b}=>.tuple #[.agg #[yI 2, yI 2,Υ b.1 4], yI 0]) _ (fun w R Q=>(Zhd m0 2 2 (yL f) 4 kG _ Q.2 (o.ext R) (kG_g (yL f) 4).hr (kG_g (yL f) 4).hc rfl (kG_g (yL f) 4).hv (kG_g (yL f) 4).hs kG_x).mono (fun _ _ h=>Ztq (m0:=m0) (j ▸ R.size) h)) fun⟨a,A⟩=>?_
 refine xq 6 [Δ 5,yJ 6 0] [(5,44,[Γ 2,Γ 2,Λ (yL a) 4 4])] ?_
 refine yZ (yY (xq 15 [yB 33 true,yB 37 ((((4:Nat):Int):Int) == 4)] [] ?_))
 rw[(show ((((4:Nat):Int):Int) == 4)=true from rfl)]
 refine xq 4 [yB 39 true,eS1 41 (yL a) 4 4] [] ?_
 refine xqk 42 (.pointer (some ⟨a,0+0*1,none⟩)) (fun w R Q=>jV (t:=42) (e:=9) (sz:=1) (x:=.tmp 41) (ix:=(Operand.const (Value.int IntKind.i64 0))) (len:=4) (cap:=4) (i:=0) qD) ?_
 refine xqk 43 (.string ⟨#[50]⟩) (fun w R Q=>wN (t:=9) (x:=.tmp 42) (g:=a) (off:=0) (OwnD.news Q.2 0 _ rfl)) ?_
 refine xq 1 [yB 44 ((⟨#[50]⟩:ByteArray).toList == (⟨#[50]⟩:ByteArray).toList)] [] ?_
 rw[Zdj]
 refine xq 4 [yB 46 true,eS1 48 (yL a) 4 4] [] ?_
 refine xqk 49 (.pointer (some ⟨a,0+1*1,none⟩)) (fun w R Q=>jV (t:=42) (e:=9) (sz:=1) (x:=.tmp 48) (ix:=(Operand.const (Value.int IntKind.i64 1))) (len:=4) (cap:=4) (i:=1) qD) ?_
 refine xqk 50 (.string ⟨#[48]⟩) (fun w R Q=>wN (t:=9) (x:=.tmp 49) (g:=a) (off:=1) (OwnD.news Q.2 1 _ rfl)) ?_
 refine xq 1 [yB 51 ((⟨#[48]⟩:ByteArray).toList == (⟨#[48]⟩:ByteArray).toList)] [] ?_
 rw[Zdj]
 refine xq 4 [yB 53 true,eS1 55 (yL a) 4 4] [] ?_
 refine xqk 56 (.pointer (some ⟨a,0+2*1,none⟩)) (fun w R Q=>jV (t:=42) (e:=9) (sz:=1) (x:=.tmp 55) (ix:=(Operand.const (Value.int IntKind.i64 2))) (len:=4) (cap:=4) (i:=2) qD) ?_
 refine xqk 57 (.string ⟨#[49]⟩) (fun w R Q=>wN (t:=9) (x:=.tmp 56) (g:=a) (off:=2) (OwnD.news Q.2 2 _ rfl)) ?_
 refine xq 1 [yB 58 ((⟨#[49]⟩:ByteArray).toList == (⟨#[49]⟩:ByteArray).toList)] [] ?_
 rw[Zdj]
 refine xr 4 [yB 0 false,yB 60 true,eS1 62 (yL a) 4 4] [] ?_
 refine xqk 63 (.pointer (some ⟨a,0+3*1,none⟩)) (fun w R Q=>jV (t:=42) (e:=9) (sz:=1) (x:=.tmp 62) (ix:=(Operand.const (Value.int IntKind.i64 3))) (len:=4) (cap:=4) (i:=3) qD) ?_
 refine xqk 64 (.string ⟨#[50]⟩) (fun w R Q=>wN (t:=9) (x:=.tmp 63) (g:=a) (off:=3) (OwnD.news Q.2 3 _ rfl)) ?_
 refine xq 1 [yB 65 ((⟨#[50]⟩:ByteArray).toList == (⟨#[50]⟩:ByteArray).toList)] [] ?_
 rw[Zdj]
 refine xq 2 [yB 0 true] [] ?_
 refine yZ (zH ?_)
 refine yR (.bool true) fun w' R Q=>?_
 exact⟨rfl,R⟩
theorem Ztr {m0 n c:Nat}{ys:List Qr}{w w':World}{e:Ending}(b:m0≤w.heap.size)(h:Zjc n c ys w e w') :
 lD (fun x:Option Addr×Nat=>.agg #[.int .i64 ((n:Nat):Int),.int .i64 ((c:Nat):Int),.slice x.1 (n*c) x.2]) (fun x w=>OwnD w m0 9 1 x.1 x.2 (n*c) ((ys.flatMap (fun r=>r.xs.map qT)).flatMap stC)) w e w':=by
 obtain⟨A,a,rfl,d,Q⟩:=h
 exact⟨(A,a),rfl,Q,d.boxN b⟩
theorem ZpW (e b n c:Nat)(ys:List Qr)(w:World)(l:OwnD w e 34 1 (some ⟨b,0,none⟩) n n (ys.flatMap qrC))(j:RsOk e w ys)(o:ys.length=n)(f:0<n)(r:n≤64)(g:0<c)(i:c≤64)(s:∀ y∈ys,y.xs.length=c)(t:∀ y∈ys,∀ x∈y.xs,ml x.q.num.natAbs≤65536∧ml x.q.den≤65536) :
 Ζ 10 #[.slice (some ⟨b,0,none⟩) n n] w (Zjc n c ys w):=by
 obtain⟨m0,d⟩:∃ m,m=w.heap.size:=⟨_,rfl⟩
 refine zU (Φ:=fun w=>True) func10 rfl qK (fun w' u=>trivial) ?_
 refine yY (xq 1 [Δ 2] [(2,44,[Γ 0,Γ 0,Ω])] ?_)
 refine yZ (yY (xq 1 [eS1 3 (yL b) n n] [] ?_))
 refine xqc 31 [Υ b n] 4 (fun x:Option Addr×Nat=>.agg #[yI n, yI c,.slice x.1 (n*c) x.2]) _ (fun w R Q=>(Zrr e b n c ys _ (OwnD.ext l R) (fun y k=>⟨OwnD.ext (j y k).1 R,QsOk.ext (j y k).2 R⟩) o f r g i s t).mono (fun _ _ h=>Ztr (m0:=m0) (d ▸ R.size) h)) fun⟨A,a⟩=>?_
 refine xq 1 [] [(2,44,[Γ n,Γ c,Λ A (n*c) a])] ?_
 refine yZ (zH ?_)
 refine yR (.agg #[yI n, yI c,.slice A (n*c) a]) fun w' R Q=>?_
 exact⟨A,a,rfl,d ▸ Q.2,R⟩
instance {p q m0:Nat}:Nonempty {x:Nat × List Qr // x.2.map (fun r=>r.xs.map (·.q))=List.replicate p (List.replicate q 0)∧m0≤x.1}:=⟨⟨(m0,List.replicate p ⟨none,0,List.replicate q qv0⟩),by
 refine⟨?_,uF _⟩
 rw[List.map_replicate,List.map_replicate];rfl⟩⟩
theorem ZmI {w:World}{m c n:Nat}{A:qA}{ts:List ByteArray}(h:OwnD w m 9 1 A c n (ts.flatMap stC)):SRd w A ts:=fun i hi=>by
 have d:=bN Zby ts i 0 hi qD
 obtain⟨b,e,f,a⟩:=h.at (v:=.string ts[i]!) d
 exact⟨b,0,e,f,by rw[sH,tP] at a;exact a⟩
theorem rd0:wA [48]=some ((0:Int):Rat):=ZbR.2 (aF (n:=0) qD qD qD)
theorem r0:kW [48] 8=⟨false,0,0,0⟩:=by
 unfold kW
 rw[uM (by rw[rd0];rfl),uM qO,dF rd0]
 rfl
structure Ef where
 s:Bool
 A:Option Addr
 l:Nat
 c:Nat
 e:Int
 z:Int
def ef0:Ef:=⟨false,none,0,0,0,0⟩
instance:Inhabited Ef:=⟨ef0⟩
instance {β:Type} {m:Nat} {ys:List (Mr β)}:Nonempty {b:Nat // m≤b∧∀ y∈ys,y.A≠some ⟨b,0,none⟩}:=by
 refine⟨⟨m+(ys.map (fun y=>match y.A with | some a=>a.block+1 | none=>0)).sum,Nat.le_add_right _ _,fun y hy h=>?_⟩⟩
 have h1:∀ (l:List (Mr β)),y∈l→(match y.A with | some a=>a.block+1 | none=>0)≤(l.map (fun y=>match y.A with | some a=>a.block+1 | none=>0)).sum:=fun l hl=>by
  induction l with
  | nil=>cases hl
  | cons x l ih =>
   rw[oO,List.sum_cons]
   rcases oN.1 hl with e|e
   ·subst e;exact Nat.le_add_right _ _
   have:=ih e;omega
 have h2:=h1 ys hy
 rw[h] at h2
 dsimp only at h2
 omega
theorem zP.rowD {w w':World}{v:Value}{q:Rat}{m e k c n:Nat}{A:qA}{l:List Value}(h:zP w v q)(a:OwnD w m e k A c n l)(b:Fr (fun i=>A=some ⟨i,0,none⟩) w w'):zP w' v q:=h.nrb (fun _ hi=>a.nrb hi) b
theorem QsOk.row {w w':World}{xs:List Qv}{m e k c n:Nat}{A:qA}{l:List Value}(h:QsOk w xs)(a:OwnD w m e k A c n l)(b:Fr (fun i=>A=some ⟨i,0,none⟩) w w'):QsOk w' xs:=h.nrb (fun _ hi=>a.nrb hi) b
theorem QsOk.snoc {w:World}{ys:List Qv}{x:Qv}(h:QsOk w ys)(b:zP w (lB x.c) x.q):QsOk w (ys ++ [x]):=fun y a=>by
 rcases rD.1 a with a|a
 ·exact h y a
 rw[rJ.1 a];exact b
theorem Zrx (A:qA)(cap:Nat)(ts:List ByteArray)(w:World)(S:SRd w A ts)(Y:∀ s∈ts,s.size≤100000)(hn:ts.length≤10000)(Z:∀ s∈ts,(wA (bytes s)).isSome=true) :
 Ζ 36 #[.slice A ts.length cap] w (fun e w'=>∃ b N,e=.returned (.tuple #[.slice (some ⟨b,0,none⟩) ts.length ts.length,.bool true])∧N.map (·.q)=ts.map (fun t=>valF (bytes t))∧OwnD w' w.heap.size 32 4 (some ⟨b,0,none⟩) ts.length ts.length (N.flatMap qvC)∧QsOk w' N∧Ext w w'):=by
 obtain⟨L,I⟩:∃ m,m=w.heap.size:=⟨_,rfl⟩
 refine zU (Φ:=fun w=>True) func36 rfl qK (fun w' hf=>trivial) ?_
 refine yY (xq 2 [eS1 2 none 0 0,yB 3 false] [] ?_)
 refine yZ (yY (xq 2 [yJ 9 ts.length] [] ?_))
 refine yD (d:=10) (fun O:{b:Nat // L≤b}=>Υ O.1 ts.length) (fun O w=>OwnD w L 32 4 (yL O.1) ts.length ts.length ((List.replicate ts.length qv0).flatMap qvC)) (fun w R Q=>iO (t:=34) (e:=32) (kl:=.i64) (kc:=.i64) (l:=.tmp 9) (c:=.tmp 9) (bytes:=64) (z:=.agg #[.bool false,Ξ,.bool false,Ξ]) qv0 wH qD rfl ZbV (I ▸ R.size) (by simp only[maxLen];omega) qO) fun⟨f,T⟩=>?_
 refine xr 1 [eS1 0 A ts.length cap,eS1 2 none 0 0,yB 3 false,eS1 4 (yL f) ts.length ts.length] [] ?_
 refine yZ (zC (yY (xq 1 [yJ 5 0] [] ?_)))
 refine yZ (zQ ?_)
 refine xO (fun U V W=>∃ (k:Nat) (F:List Qv),V=ofL [eS1 0 A ts.length cap,eS1 2 none 0 0,yB 3 false,eS1 4 (yL f) ts.length ts.length,yJ 5 k] []∧W=(fun w=>(QsOk w F∧OwnD w L 32 4 (yL f) ts.length ts.length ((fill ts.length qv0 F).flatMap qvC)))∧(k≤ts.length)∧(F.map (·.q)=(ts.take k).map (fun t=>valF (bytes t)))∧U=(1+(ts.length-k))) ((1+(ts.length-0))) ⟨0,([]:List Qv),rfl,rfl,(vS _),rfl,rfl⟩ (fun w Q=>⟨(fun _ h=>nomatch h),(by rw[Zaz];exact Q.2)⟩) ?_
 rintro U V W ⟨k,F,rfl,rfl,hk,M,rfl⟩
 refine zC (yY (xq 4 [yB 14 (decide ((k:Int)<((ts.length:Nat):Int)))] [] ?_))
 refine xe (zA ?_)
 refine yQ ((decide ((k:Int)<((ts.length:Nat):Int)))) (fun D=>?_) fun D=>?_
 ·have a:k<ts.length:=by have:=uC D;omega
  have J:F.length=k:=by have:=vP List.length M;rw[vG,vG,uN] at this;omega
  refine zJ (zA (zC (zQ (yY (xq 2 [eS1 18 A ts.length cap,yJ 19 k] [] ?_)))))
  refine xqk 20 (atA A (k*1)) (fun w R Q=>xE (t:=42) (e:=9) (sz:=1) (x:=.tmp 18) (ix:=.tmp 19) (len:=ts.length) (cap:=cap) (i:=k) ((S.ext R).ne a) a) ?_
  obtain⟨G,C⟩:∃ x,ts[k]! = x:=⟨_,rfl⟩
  refine xqk 21 (.string G) (fun w R Q=>by rw[←C];exact ZfZ (t:=9) (x:=.tmp 20) (j:=k) (S.ext R) a) ?_
  obtain⟨H,E⟩:=sY.1 (show (wA (bytes G)).isSome=true by rw[←C];exact Z _ (wP a))
  refine xqc 72 [.string G] 22 (fun x:ShQ=>.tuple #[lB x,.bool true]) _ (fun w R Q=>(Zph G _ (uA (Y _ (by rw[←C];exact wP a)) qD)).mono (fun _ _ h=>Zg3 h E)) fun⟨g,n,o,r,t13,u,v,B⟩=>?_
  refine xq 6 [Δ 6,yB 7 true] [bR4 6 32 g n o r t13 u v B] ?_
  refine yZ (zC (yY (xq 2 [yB 26 false] [] ?_)))
  refine yZ (xb (zJ (zA (zB (xq 3 [eS1 27 (yL f) ts.length ts.length,yJ 28 k,eR4 29 g n o r t13 u v B] [] ?_)))))
  refine xqk 30 (.pointer (some ⟨f,0+k*4,none⟩)) (fun w R Q=>jV (t:=34) (e:=32) (sz:=4) (x:=.tmp 27) (ix:=.tmp 28) (len:=ts.length) (cap:=ts.length) (i:=k) a) ?_
  refine dC (t:=32) (x:=.tmp 30) (y:=.tmp 29) (j:=k) (new:=qvC ((⟨(g,n,o,r,t13,u,v,B),H⟩:Qv))) L f (vR4 g n o r t13 u v B) (fun w=>(QsOk w F∧zP w (lB (g,n,o,r,t13,u,v,B)) H)) (fun w Q=>Q.1.2) a rfl qD (fun h=>Or.inl (uA (I ▸ uF _) h)) (by simp[qvC,Value.oneCell']) (ZbV _) rfl (fun w w' Q X=>⟨QsOk.row Q.1.1 Q.1.2 X,zP.rowD Q.2 Q.1.2 X⟩) ?_
  rw[←jU wH ((fill ts.length qv0 F)) k ((⟨(g,n,o,r,t13,u,v,B),H⟩:Qv)) (by rw[Zax qO];exact a),Za4 J a]
  refine xr 0 [eS1 0 A ts.length cap,eS1 2 none 0 0,yB 3 false,eS1 4 (yL f) ts.length ts.length,yJ 5 k] [] ?_
  refine xe (xR (zA (zB (xq 2 [yJ 16 (IntKind.i64.wrap ((k:Int)+1))] [] ?_))))
  rw[yW ((k:Int)+1) (((k+1:Nat):Int)) qO]
  refine xq 1 [yJ 5 (k+1:Nat)] [] ?_
  refine xe ?_
  exact xK ((1+(ts.length-(k+1)))) qO ⟨(k+1),(F ++ [(⟨(g,n,o,r,t13,u,v,B),H⟩:Qv)]),rfl,rfl,a,(Zf3 M a (by rw[C];exact (dF E).symm)),rfl⟩ (fun w Q=>⟨(QsOk.snoc Q.1.1 Q.1.2),Q.2⟩)
 have K:k=ts.length:=by have:=uD D;omega
 have J:F.length=k:=by have:=vP List.length M;rw[vG,vG,uN] at this;omega
 refine xM (zE (zE (xW (zA (yY (xq 3 [eS1 2 (yL f) ts.length ts.length,yB 3 true] [] ?_))))))
 refine yZ (zH ?_)
 refine yR (.tuple #[Υ f ts.length,.bool true]) fun w' R Q=>?_
 exact⟨f,F,rfl,by rw[M,K,pK],by have h:=Q.2;have P:=J;rw[K] at P;rw[←P,Zay] at h;rw[P] at h;exact I ▸ h,Q.1,R⟩
theorem ZpX {w:World}{s:Bool}{A:qA}{l c:Nat}{z:Int}(h:xB w (vI2 s A l c) z):zP w (.agg #[.bool s,.slice A l c,.bool false,Ξ]) ((z:Int):Rat):=⟨s,false,A,none,l,c,0,0,rfl,h,xB.nil w⟩
theorem zP.rowUp {w w':World}{m n c k:Nat}{e:TypeId}{A:qA}{xs:List Value}{v:Value}{z:Rat}(h:zP w v z)(a:OwnD w m e k A c n xs)(b:Fr (fun i=>A=some ⟨i,0,none⟩) w w'):zP w' v z:=h.nrb (fun _ hi=>a.nrb hi) b
section
variable {w w':World} {m m0 n c k i j:Nat} {e:TypeId} {A A':Option Addr} {l:List Value} {ms rs:List (Mr Qv)} {τ:Tap}
def QMs (w:World) (ms:List (Mr Qv)):Prop:=∀ y∈ms,QsOk w y.xs
theorem QMs.nrb {S:Nat→Prop}(h:QMs w ms)(a:∀ i,S i→NRB w i)(b:Fr S w w'):QMs w' ms:=fun y d=>(h y d).nrb a b
theorem QMs.ext (h:QMs w ms)(a:Ext w w'):QMs w' ms:=fun y b=>(h y b).ext a
theorem QMs.row (h:QMs w ms)(a:OwnD w m e k A c n l)(b:Fr (fun i=>A=some ⟨i,0,none⟩) w w'):QMs w' ms:=h.nrb (fun _ hi=>a.nrb hi) b
theorem QMs.tape (h:QMs w ms)(a:TOk τ w)(b:Fr (fun i=>i=τ.g) w w'):QMs w' ms:=h.nrb a.nrb' b
theorem QMs.zero (h:ms.map (·.xs)=List.replicate n (List.replicate c qv0)):QMs w ms:=fun y b=>by
 have a:y.xs∈ms.map (·.xs):=nH b
 rw[h] at a
 rw[(qV.1 a).2]
 exact QsOk.zero w c
theorem QMs.set {y:Mr Qv}{x:Qv}(h:QMs w ms)(hi:i<ms.length)(f:ms[i]! = y)(g:zP w (lB x.c) x.q):QMs w (ms.set i ⟨y.A,y.cap,y.xs.set j x⟩):=fun z p u d=>by
 rcases rN p with a|a
 ·exact h z a u d
 subst a
 rcases rN d with b|b
 ·exact h y (f ▸ wP hi) u b
 subst b;exact g
theorem MrOk.tape {α:Type}{enc:α→List Value}{ys:List (Mr α)}{g:Nat}(h:MrOk e k enc m w ys)(b:Fr (fun i=>i=g) w w')(f:g<m):MrOk e k enc m w' ys:=h.fr b (fun y d i hi a=>by
 have p:=((h.own y d).blk hi).1
 have a:i=g:=a
 omega)
theorem setg {α:Type}[Inhabited α]{l:List α}{i a:Nat}{x:α}(ha:a<l.length):(l.set i x)[a]! = if i=a then x else l[a]! := by
 rw[vT _ a (by rw[tM];exact ha),List.getElem_set,vT l a ha]
def QG (n c:Nat) (ms:List (Mr Qv)) (Z:Nat→Nat→Int):Prop:=ms.length=n∧(∀ a,a<n→ms[a]!.xs.length=c)∧∀ a b,a<n→b<c→ms[a]!.xs[b]!.q=((Z a b:Int):Rat)
def updZ (Z:Nat→Nat→Int) (i j:Nat) (z:Int):Nat→Nat→Int:=fun a b=>if i=a∧j=b then z else Z a b
theorem QG.zero (h:ms.map (·.xs)=List.replicate n (List.replicate c qv0)):QG n c ms (fun _ _=>0):=by
 have f:ms.length=n:=by have:=vP List.length h;rwa [vG,tZ] at this
 have g:∀ a,a<n→ms[a]!.xs=List.replicate c qv0:=fun a d=>by
  have p:ms[a]!.xs∈ms.map (·.xs):=nH (wP (f.symm ▸ d))
  rw[h] at p
  exact (qV.1 p).2
 refine⟨f,fun a d=>by rw[g a d,tZ],fun a b d q=>?_⟩
 rw[g a d,vT _ b (by rw[tZ];exact q),oJ];rfl
theorem QG.cl {Z:Nat→Nat→Int}{x:Mr Qv}(h:QG n c ms Z)(hi:i<n)(a:ms[i]! = x)(b:j<c):j<x.xs.length:=by rw[←a,h.2.1 i hi];exact b
theorem QG.mem {Z:Nat→Nat→Int}{x:Mr Qv}(h:QG n c ms Z)(hi:i<n)(a:ms[i]! = x):x∈ms:=a ▸ wP (h.1.symm ▸ hi)
theorem QG.q {Z:Nat→Nat→Int}{x:Mr Qv}{v:Qv}(h:QG n c ms Z)(hi:i<n)(a:ms[i]! = x)(b:j<c)(d:x.xs[j]! = v):v.q=((Z i j:Int):Rat):=by rw[←d,← a];exact h.2.2 i j hi b
theorem QG.set {Z:Nat→Nat→Int}{y:Mr Qv}{x:Qv}{z:Int}(h:QG n c ms Z)(hi:i<n)(s:ms[i]! = y)(B:x.q=((z:Int):Rat)):QG n c (ms.set i ⟨y.A,y.cap,y.xs.set j x⟩) (updZ Z i j z):=by
 obtain⟨p,u,v⟩:=h
 have f:y.xs.length=c:=s ▸ u i hi
 refine⟨by rw[tM];exact p,fun a d=>?_,fun a b d r=>?_⟩
 ·rw[setg (p.symm ▸ d)]
  by_cases e:i=a
  ·rw[uM e];show (y.xs.set j x).length=c;rw[tM];exact f
  rw[uI e];exact u a d
 rw[setg (p.symm ▸ d)]
 unfold updZ
 by_cases e:i=a
 ·rw[uM e]
  subst e
  show (y.xs.set j x)[b]!.q=_
  rw[setg (f.symm ▸ r)]
  by_cases g:j=b
  ·rw[uM g,uM ⟨rfl,g⟩];exact B
  rw[uI g,uI (fun h=>g h.2),← s];exact v i b d r
 rw[uI e,uI (fun h=>e h.1)];exact v a b d r
structure QIn (m:Nat) (w:World) (A:Option Addr) (cap n:Nat) (rs:List (Mr Qv)):Prop where
 row:∃ mq,OwnD w mq 34 1 A cap n (rs.flatMap mrC)
 rlt:∀ i,A=some ⟨i,0,none⟩→i<m
 rd:∀ y∈rs,RdD 32 4 qvC w y.A y.xs
 qs:QMs w rs
 lt:∀ y∈rs,∀ b off,y.A=some ⟨b,off,none⟩→b<m
theorem QIn.up {s u cap:Nat}(h:QIn m w A cap n rs)(a:OwnD w m e k A' s u l)(d:Fr (fun i=>A'=some ⟨i,0,none⟩) w w'):QIn m w' A cap n rs:=by
 obtain⟨⟨v,z⟩,p,B,C,q⟩:=h
 refine⟨⟨v,z.fr d (fun i hi f=>?_)⟩,p,fun y r=>(B y r).fr d (fun b g D E _ f=>?_),C.row a d,q⟩
 ·have F:=p i hi
  have G:=(a.blk f).1
  omega
 have F:=q y r b g E
 have G:=(a.blk f).1
 omega
theorem QIn.ext {cap:Nat}(h:QIn m w A cap n rs)(a:Ext w w'):QIn m w' A cap n rs:=by
 obtain⟨⟨b,d⟩,f,g,p,q⟩:=h
 exact⟨⟨b,d.ext a⟩,f,fun y r=>(g y r).ext a,p.ext a,q⟩
theorem QIn.of {cap:Nat}(d:OwnD w m0 34 1 A cap n (rs.flatMap mrC))(f:MrOk 32 4 qvC m w rs)(p:QMs w rs):QIn w.heap.size w A cap n rs:=by
 refine⟨⟨_,d⟩,fun i hi=>?_,fun y a=>(f.own y a).rd wH,p,fun y a b q hb=>?_⟩
 ·obtain⟨_,_,h,_⟩:=d.blk hi
  exact h.lt
 have r:=f.own y a
 rcases r.2 with ⟨s,_,_⟩|⟨g,u,v,B,z,_⟩
 ·rw[s] at hb;cases hb
 rw[v] at hb
 injection hb with hb
 injection hb with hb
 rw[←hb];exact z.lt
theorem QIn.ne {cap:Nat}(h:QIn m w A cap n rs)(hi:i<n):A≠none:=by obtain⟨b,a⟩:=h.row;exact OwnD.ne a hi
theorem QMs.num {Z:Nat→Nat→Int}{x:Mr Qv}{v:Qv}(h:QMs w rs)(a:QG n c rs Z)(hi:i<n)(b:rs[i]! = x)(d:j<c)(f:x.xs[j]! = v):zP w (lB v.c) ((Z i j:Int):Rat):=by
 rw[←a.q hi b d f]
 exact h x (a.mem hi b) v (f ▸ wP (a.cl hi b d))
end
section
variable {P:Program} {o:Oper} {ρ:Operand→Value} {w:World} {t e:TypeId} {x:Operand} {A:Option Addr} {m n c j cap:Nat} {rs:List (Mr Qv)} {Z:Nat→Nat→Int} {y:Mr Qv}
theorem fH (h:OwnD w m e 1 A cap n (rs.flatMap mrC))(a:QG n c rs Z)(b:j<n)(d:rs[j]! = y)(f:o.op=Op.load t x:=by kernel_rfl)(g:ρ x=atA A (j*1):=by kernel_rfl)(ha:(teOf P t).map (fun e=>e.agg)=some false:=by kernel_rfl) :
 (execOp ρ o).run P w=.ok (.value (.slice y.A c y.cap)) w:=by
 subst d
 rw[←a.2.1 j b]
 exact ZmB h (a.1.symm ▸ b) f g ha
end
def RetQ (n c:Nat) (Z:Nat→Nat→Int) (w:World) (en:Ending) (w':World):Prop:=∃ b ys,en=.returned (.slice (some ⟨b,0,none⟩) n n)∧QG n c ys Z∧OwnD w' w.heap.size 34 1 (some ⟨b,0,none⟩) n n (ys.flatMap mrC)∧MrOk 32 4 qvC w.heap.size w' ys∧QMs w' ys∧Ext w w'
theorem ZkC {n c m0:Nat}{Z:Nat→Nat→Int}{w w':World}{d:Ending}(a:m0≤w.heap.size)(h:RetQ n c Z w d w') :
 lD (fun x:{x:Nat × List (Mr Qv) // QG n c x.2 Z∧m0≤x.1}=>.slice (some ⟨x.1.1,0,none⟩) n n) (fun x w=>(OwnD w m0 34 1 (some ⟨x.1.1,0,none⟩) n n (x.1.2.flatMap mrC)∧MrOk 32 4 qvC m0 w x.1.2)∧QMs w x.1.2) w d w':=by
 obtain⟨b,g,rfl,p,f,q,r,Q⟩:=h
 exact⟨⟨(b,g),p,uA a (f.blk rfl).1⟩,rfl,Q,((f.boxN a).and (q.boxN a)).and (boxn Q (fun S s u v=>r.nrb u v))⟩
instance {n c m0:Nat} {Z:Nat→Nat→Int}:Nonempty {x:Nat × List (Mr Qv) // QG n c x.2 Z∧m0≤x.1}:=by
 refine⟨⟨(m0,(List.range n).map (fun a=>⟨none,0,(List.range c).map (fun b=>⟨qv0.c,((Z a b:Int):Rat)⟩)⟩)),⟨by simp,fun a ha=>?_,fun a b ha hb=>?_⟩,uF _⟩⟩
 ·show (((List.range n).map _)[a]! : Mr Qv).xs.length=c
  rw[vT _ a (by simpa using ha)];simp
 show (((List.range n).map _)[a]! : Mr Qv).xs[b]!.q=_
 rw[vT _ a (by simpa using ha),rM,vT _ b (by simpa using hb),rM];simp
theorem ZpY (n:Int)(w:World)(g : -9223372036854775808≤n)(h:n≤9223372036854775807) :
 Ζ 8 #[.int .i64 n] w (kQ w ((n:Int):Rat)):=by
 refine zU (Φ:=fun w=>True) func8 rfl qK (fun w' q=>trivial) ?_
 refine yY (xq 1 [Δ 2] [Θ 2 32] ?_)
 refine yZ (yY (xq 1 [yJ 3 n] [] ?_))
 refine xqc 17 [yI n] 4 wC _ (fun w R Q=>yM xV (Zab n _ g h)) fun⟨a,b,d,f⟩=>?_
 refine xq 2 [] [bR4 2 32 a b d f false none 0 0] ?_
 refine yZ (zH ?_)
 refine yR (.agg #[.bool a,.slice b d f,.bool false,Ξ]) fun w' R Q=>?_
 exact⟨_,rfl,ZpX Q.2,R⟩
theorem ZnX (τ:Tap)(wl w:World)(D:TOld wl τ)(F:Ext wl w)(G:TOk τ w)(k:Int)(H:0≤k)(K:k≤1000) :
 Ζ 25 #[.pointer (some ⟨τ.g,0,none⟩),.int .i64 k] w (RetT τ (fun x:ShQ×Int=>lB x.1) (fun x => -k≤x.2∧x.2≤k) (fun x w=>zP w (lB x.1) ((x.2:Int):Rat)) w):=by
 refine ZeL (fun i=>i=τ.g) (Φ:=fun w=>TOk τ w) func25 rfl qK (fun w' I=>G.ext I) ?_
 refine yY (xq 1 [Δ 4] [Θ 4 32] ?_)
 refine yZ (yY (xq 3 [(5,.v (.pointer (some ⟨τ.g,0,none⟩))),yJ 7 (IntKind.i64.wrap (2*k))] [] ?_))
 rw[(show IntKind.i64.wrap (2*k)=2*k by rw[IntKind.wrap_i64];omega)]
 refine xq 1 [yJ 8 (IntKind.i64.wrap ((2*k)+1))] [] ?_
 rw[(show IntKind.i64.wrap (2*k+1)=2*k+1 by rw[IntKind.wrap_i64];omega)]
 refine ZbT (b:=τ.g) (d:=9) (j:=0) (c:=.slice τ.A τ.l τ.c) 5 [.pointer (some ⟨τ.g,0,none⟩), yI (2*k+1)] (fun x:{x:Nat // (fun v=>(v:Int)<(2*k+1)) x}=>(fun v=>yI v) x.1) (fun w=>True) (fun x w=>TOk τ w∧(fun _ _=>True) x.1 w) (fun w Q=>TOk.cell Q) (Or.inr rfl) (fun w R Q=>(ZiM τ wl ((2*k+1)) _ D (D.old F R) Q qO qO).mono (fun _ _ h=>Zhe h (fun x J h=>fun _ _ _ _=>trivial))) (fun w L R Q J=>trivial) fun⟨a,E⟩=>?_
 refine xr 2 [Δ 4,yJ 11 (IntKind.i64.wrap ((a:Int)-k))] [Θ 4 32] ?_
 rw[(show IntKind.i64.wrap ((a:Int)-k)=(a:Int)-k by rw[IntKind.wrap_i64];omega)]
 refine xqc 8 [yI ((a:Int)-k)] 12 lB _ (fun w R Q=>yM wM (ZpY ((a:Int)-k) _ qO qO)) fun⟨f,q,r,s,u,z,B,C⟩=>?_
 refine xq 1 [] [bR4 4 32 f q r s u z B C] ?_
 refine yZ (zH ?_)
 refine yR (vR4 f q r s u z B C) fun w' R Q=>?_
 exact⟨(⟨f,q,r,s,u,z,B,C⟩,(a:Int)-k),⟨by show -k≤(a:Int)-k;omega,by show (a:Int)-k≤k;omega⟩,rfl,R,Q.1.2.1,Q.2⟩
theorem Zhg (n c:Nat)(w:World)(K:n≤1000)(L:c≤1000) :
 Ζ 24 #[.int .i64 ((n:Nat):Int),.int .i64 ((c:Nat):Int)] w (RetQ n c (fun _ _=>0) w):=by
 obtain⟨m0,g⟩:∃ m,m=w.heap.size:=⟨_,rfl⟩
 refine zU (Φ:=fun w=>True) func24 rfl qK (fun w' M=>trivial) ?_
 refine yY (xq 1 [eS1 4 none 0 0] [] ?_)
 refine yZ (yY (xq 1 [yJ 7 n] [] ?_))
 refine yD (d:=8) (fun u:{b:Nat // m0≤b}=>Υ u.1 n) (fun u w=>OwnD w m0 34 1 (yL u.1) n n ((List.replicate n (mr0:Mr Qv)).flatMap mrC)) (fun w R Q=>iO (t:=26) (e:=34) (kl:=.i64) (kc:=.i64) (l:=.tmp 7) (c:=.tmp 7) (bytes:=24) (z:=Ξ) (mr0:Mr Qv) ZaC qD rfl Zhf (g ▸ R.size) (by simp only[maxLen];omega) qO) fun⟨a,D⟩=>?_
 refine xr 1 [yJ 0 n,yJ 1 c,eS1 4 none 0 0,eS1 5 (yL a) n n] [] ?_
 refine yZ (zC (yY (xq 1 [yJ 6 0] [] ?_)))
 refine yZ (zQ ?_)
 refine xO (fun E F G=>∃ (k:Nat) (r:List (Mr Qv)),F=ofL [yJ 0 n,yJ 1 c,eS1 4 none 0 0,eS1 5 (yL a) n n,yJ 6 k] []∧G=(fun w=>(MrOk 32 4 qvC m0 w r∧OwnD w m0 34 1 (yL a) n n ((fill n (mr0:Mr Qv) r).flatMap mrC)))∧(k≤n)∧(r.length=k)∧(r.map (·.xs)=List.replicate k (List.replicate c qv0))∧E=(1+(n-k))) ((1+(n-0))) ⟨0,([]:List (Mr Qv)),rfl,rfl,(vS _),rfl,rfl,rfl⟩ (fun w Q=>⟨MrOk.nil,(by rw[Zaz];exact Q.2)⟩) ?_
 rintro E F G ⟨k,r,rfl,rfl,N,v,s,rfl⟩
 refine zC (yY (xq 3 [yB 11 (decide ((k:Int)<(n:Int)))] [] ?_))
 refine xe (zA ?_)
 refine yQ ((decide ((k:Int)<(n:Int)))) (fun p=>?_) fun p=>?_
 ·have q:k<n:=by have:=uC p;omega
  refine zJ (zA (zC (zQ (zB (xq 3 [eS1 14 (yL a) n n,yJ 15 k,yJ 16 c] [] ?_)))))
  refine yD (d:=17) (fun u:{b:Nat // m0≤b∧∀ y∈r,y.A≠yL b}=>Υ u.1 c) (fun u w=>OwnD w m0 32 4 (yL u.1) c c ((List.replicate c qv0).flatMap qvC)) (fun w R Q=>ZnU (t:=34) (e:=32) (kl:=.i64) (kc:=.i64) (l:=.tmp 16) (c:=.tmp 16) (bytes:=64) (z:=.agg #[.bool false,Ξ,.bool false,Ξ]) qv0 wH qD rfl ZbV Q.1 (g ▸ R.size) (by simp only[maxLen];omega) qO) fun⟨f,H,B⟩=>?_
  refine xr 0 [yJ 0 n,yJ 1 c,eS1 4 none 0 0,eS1 5 (yL a) n n,yJ 6 k,eS1 14 (yL a) n n,yJ 15 k,eS1 17 (yL f) c c] [] ?_
  refine xqk 18 (.pointer (some ⟨a,0+k*1,none⟩)) (fun w R Q=>jV (t:=26) (e:=34) (sz:=1) (x:=.tmp 14) (ix:=.tmp 15) (len:=n) (cap:=n) (i:=k) q) ?_
  refine dC (t:=34) (x:=.tmp 18) (y:=.tmp 17) (j:=k) (new:=mrC ((⟨yL f,c,List.replicate c qv0⟩:Mr Qv))) m0 a (Υ f c) (fun w=>(MrOk 32 4 qvC m0 w r∧OwnD w m0 32 4 (yL f) c c ((List.replicate c qv0).flatMap qvC))) (fun w Q=>Q.1.2) q rfl qD (fun h=>Or.inl (uA (g ▸ uF _) h)) (by simp[mrC,Value.oneCell']) (Zhf _) (by unfold mrC;rw[tZ];rfl) (fun w w' Q I=>⟨MrOk.apart Q.1.1 Q.1.2 qD I,OwnD.apart Q.2 Q.1.2 qD I⟩) ?_
  rw[←jU ZaC ((fill n (mr0:Mr Qv) r)) k ((⟨yL f,c,List.replicate c qv0⟩:Mr Qv)) (by rw[Zax qO];exact q),Za4 v q]
  refine xr 0 [yJ 0 n,yJ 1 c,eS1 4 none 0 0,eS1 5 (yL a) n n,yJ 6 k] [] ?_
  refine xe (xR (zA (zB (xq 2 [yJ 13 (IntKind.i64.wrap ((k:Int)+1))] [] ?_))))
  rw[yW ((k:Int)+1) (((k+1:Nat):Int)) qO]
  refine xq 1 [yJ 6 (k+1:Nat)] [] ?_
  refine xe ?_
  exact xK ((1+(n-(k+1)))) qO ⟨(k+1),(r ++ [(⟨yL f,c,List.replicate c qv0⟩:Mr Qv)]),rfl,rfl,q,(by rw[vE,v];rfl),(by rw[nJ,s,oR];rfl),rfl⟩ (fun w Q=>⟨(MrOk.snoc Q.1.1 (by show OwnD _ _ _ _ _ _ (List.replicate c qv0).length _;rw[tZ];exact Q.1.2) B),Q.2⟩)
 have C:k=n:=by have:=uD p;omega
 refine xM (zE (zE (xW (zA (yY (xq 2 [eS1 4 (yL a) n n] [] ?_))))))
 refine yZ (zH ?_)
 refine yR (Υ a n) fun w' R Q=>?_
 exact⟨a,r,rfl,QG.zero (by rw[C] at s;exact s),by have h:=Q.2;have J:=v;rw[C] at J;subst J;rw[Zay] at h;exact g ▸ h,g ▸ Q.1,QMs.zero s,R⟩
section
variable {w w':World} {m m0 n c k i j:Nat} {e:TypeId} {A A':Option Addr} {l:List Value} {ms rs:List (Mr Qv)} {τ:Tap}
def QH (n c:Nat) (ms:List (Mr Qv)) (Z:Nat→Nat→Rat):Prop:=ms.length=n∧(∀ a,a<n→ms[a]!.xs.length=c)∧∀ a b,a<n→b<c→ms[a]!.xs[b]!.q=(Z a b)
def updH (Z:Nat→Nat→Rat) (i j:Nat) (z:Rat):Nat→Nat→Rat:=fun a b=>if i=a∧j=b then z else Z a b
theorem QH.cl {Z:Nat→Nat→Rat}{x:Mr Qv}(h:QH n c ms Z)(hi:i<n)(a:ms[i]! = x)(b:j<c):j<x.xs.length:=by rw[←a,h.2.1 i hi];exact b
theorem QH.mem {Z:Nat→Nat→Rat}{x:Mr Qv}(h:QH n c ms Z)(hi:i<n)(a:ms[i]! = x):x∈ms:=a ▸ wP (h.1.symm ▸ hi)
theorem QH.q {Z:Nat→Nat→Rat}{x:Mr Qv}{v:Qv}(h:QH n c ms Z)(hi:i<n)(a:ms[i]! = x)(b:j<c)(d:x.xs[j]! = v):v.q=(Z i j):=by rw[←d,← a];exact h.2.2 i j hi b
theorem QH.congr {Z Y:Nat→Nat→Rat}(h:QH n c ms Z)(e:∀ a b,a<n→b<c→Z a b=Y a b):QH n c ms Y:=⟨h.1,h.2.1,fun a b d f=>by rw[h.2.2 a b d f,e a b d f]⟩
theorem QH.set {Z:Nat→Nat→Rat}{y:Mr Qv}{x:Qv}{z:Rat}(h:QH n c ms Z)(hi:i<n)(s:ms[i]! = y)(B:x.q=z):QH n c (ms.set i ⟨y.A,y.cap,y.xs.set j x⟩) (updH Z i j z):=by
 obtain⟨p,u,v⟩:=h
 have f:y.xs.length=c:=s ▸ u i hi
 refine⟨by rw[tM];exact p,fun a d=>?_,fun a b d r=>?_⟩
 ·rw[setg (p.symm ▸ d)]
  by_cases e:i=a
  ·rw[uM e];show (y.xs.set j x).length=c;rw[tM];exact f
  rw[uI e];exact u a d
 rw[setg (p.symm ▸ d)]
 unfold updH
 by_cases e:i=a
 ·rw[uM e]
  subst e
  show (y.xs.set j x)[b]!.q=_
  rw[setg (f.symm ▸ r)]
  by_cases g:j=b
  ·rw[uM g,uM ⟨rfl,g⟩];exact B
  rw[uI g,uI (fun h=>g h.2),← s];exact v i b d r
 rw[uI e,uI (fun h=>e h.1)];exact v a b d r
theorem QIn.rdatH {cap:Nat}{Z:Nat→Nat→Rat}{x:Mr Qv}(h:QIn m w A cap n rs)(a:QH n c rs Z)(hi:i<n)(b:rs[i]! = x):RdD 32 4 qvC w x.A x.xs:=h.rd x (a.mem hi b)
theorem QIn.rneH {cap:Nat}{Z:Nat→Nat→Rat}{x:Mr Qv}(h:QIn m w A cap n rs)(a:QH n c rs Z)(hi:i<n)(b:rs[i]! = x)(d:j<c):x.A≠none:=RdD.ne (h.rdatH a hi b) wH qD (a.cl hi b d)
theorem QMs.numH {Z:Nat→Nat→Rat}{x:Mr Qv}{v:Qv}(h:QMs w rs)(a:QH n c rs Z)(hi:i<n)(b:rs[i]! = x)(d:j<c)(f:x.xs[j]! = v):zP w (lB v.c) (Z i j):=by
 rw[←a.q hi b d f]
 exact h x (a.mem hi b) v (f ▸ wP (a.cl hi b d))
def cst (Z:Nat→Nat→Int):Nat→Nat→Rat:=fun a b=>((Z a b:Int):Rat)
theorem QG.H {Z:Nat→Nat→Int}(h:QG n c ms Z):QH n c ms (cst Z):=h
theorem QH.G {Z:Nat→Nat→Int}(h:QH n c ms (cst Z)):QG n c ms Z:=h
end
section
variable {P:Program} {o:Oper} {ρ:Operand→Value} {w:World} {t e:TypeId} {x:Operand} {A:Option Addr} {m n c j cap:Nat} {rs:List (Mr Qv)} {Z:Nat→Nat→Rat} {y:Mr Qv}
theorem Za5 (h:OwnD w m e 1 A cap n (rs.flatMap mrC))(a:QH n c rs Z)(b:j<n)(d:rs[j]! = y)(f:o.op=Op.load t x:=by kernel_rfl)(g:ρ x=atA A (j*1):=by kernel_rfl)(ha:(teOf P t).map (fun e=>e.agg)=some false:=by kernel_rfl) :
 (execOp ρ o).run P w=.ok (.value (.slice y.A c y.cap)) w:=by
 subst d
 rw[←a.2.1 j b]
 exact ZmB h (a.1.symm ▸ b) f g ha
theorem iF (h:QIn m w A cap n rs)(a:QH n c rs Z)(b:j<n)(d:rs[j]! = y)(f:o.op=Op.load t x:=by kernel_rfl)(g:ρ x=atA A (j*1):=by kernel_rfl)(ha:(teOf P t).map (fun e=>e.agg)=some false:=by kernel_rfl) :
 (execOp ρ o).run P w=.ok (.value (.slice y.A c y.cap)) w:=by
 obtain⟨q,p⟩:=h.row
 exact Za5 p a b d f g ha
end
def RetH (n c:Nat) (Z:Nat→Nat→Rat) (w:World) (en:Ending) (w':World):Prop:=∃ b ys,en=.returned (.slice (some ⟨b,0,none⟩) n n)∧QH n c ys Z∧OwnD w' w.heap.size 34 1 (some ⟨b,0,none⟩) n n (ys.flatMap mrC)∧MrOk 32 4 qvC w.heap.size w' ys∧QMs w' ys∧Ext w w'
theorem Zhh {n c m0:Nat}{Z:Nat→Nat→Rat}{w w':World}{d:Ending}(a:m0≤w.heap.size)(h:RetH n c Z w d w') :
 lD (fun x:{x:Nat × List (Mr Qv) // QH n c x.2 Z∧m0≤x.1}=>.slice (some ⟨x.1.1,0,none⟩) n n) (fun x w=>(OwnD w m0 34 1 (some ⟨x.1.1,0,none⟩) n n (x.1.2.flatMap mrC)∧MrOk 32 4 qvC m0 w x.1.2)∧QMs w x.1.2) w d w':=by
 obtain⟨b,g,rfl,p,f,q,r,Q⟩:=h
 exact⟨⟨(b,g),p,uA a (f.blk rfl).1⟩,rfl,Q,((f.boxN a).and (q.boxN a)).and (boxn Q (fun S s u v=>r.nrb u v))⟩
instance {n c m0:Nat} {Z:Nat→Nat→Rat}:Nonempty {x:Nat × List (Mr Qv) // QH n c x.2 Z∧m0≤x.1}:=by
 refine⟨⟨(m0,(List.range n).map (fun a=>⟨none,0,(List.range c).map (fun b=>⟨qv0.c,(Z a b)⟩)⟩)),⟨by simp,fun a ha=>?_,fun a b ha hb=>?_⟩,uF _⟩⟩
 ·show (((List.range n).map _)[a]! : Mr Qv).xs.length=c
  rw[vT _ a (by simpa using ha)];simp
 show (((List.range n).map _)[a]! : Mr Qv).xs[b]!.q=_
 rw[vT _ a (by simpa using ha),rM,vT _ b (by simpa using hb),rM];simp
theorem RetQ.H {n c:Nat}{Z:Nat→Nat→Int}{w w':World}{e:Ending}(h:RetQ n c Z w e w'):RetH n c (cst Z) w e w':=h
theorem ZkD (n c:Nat)(w:World)(a:n≤1000)(b:c≤1000):Ζ 24 #[.int .i64 ((n:Nat):Int),.int .i64 ((c:Nat):Int)] w (RetH n c (fun _ _=>0) w) :=
 (Zhg n c w a b).mono (fun _ _ h=>h.H)
theorem ZpZ {c i k:Nat}{Y Z:Nat→Nat→Rat}(h:∀ a b,a<c→(b<i∨(b=i∧a<k))→Y a b=Z b a):∀ a b,a<c→(b<i∨(b=i∧a<k+1))→updH Y k i (Z i k) a b=Z b a:=fun a b f g=>by
 unfold updH
 by_cases e:k=a∧i=b
 ·rw[uM e,e.1,e.2]
 rw[uI e];exact h a b f qO
def gD (Z1 Z2:Nat→Nat→Rat) (d a b:Nat):Rat:=sm d (fun q=>Z1 a q*Z2 q b)
def TH (Z1 Z2:Nat→Nat→Rat) (d i k j a b:Nat):Rat:=if a<i then gD Z1 Z2 d a b else if a=i then (if b<j then gD Z1 Z2 (k+1) a b else gD Z1 Z2 k a b) else 0
section
variable {Z1 Z2 Y:Nat→Nat→Rat} {n c d i j k a b:Nat}
theorem Zts (a b:Nat):TH Z1 Z2 d 0 0 0 a b=0:=by
 unfold TH
 rw[uI (oM _)]
 by_cases e:a=0
 ·rw[uM e,uI (oM _)];rfl
 rw[uI e]
theorem Ztt:TH Z1 Z2 d i d 0 a b=TH Z1 Z2 d (i+1) 0 0 a b:=by
 unfold TH
 rw[uI (oM _),uI (oM _)]
 by_cases e:a<i
 ·rw[uM e,uM qO]
 rw[uI e]
 by_cases f:a=i
 ·rw[uM f,uM qO]
 rw[uI f,uI qO]
 split<;>rfl
theorem ZuG (e:b<c):TH Z1 Z2 d i k c a b=TH Z1 Z2 d i (k+1) 0 a b:=by
 unfold TH
 rw[uM e,uI (oM _)]
theorem Ztu (g:Z1 i k=0):TH Z1 Z2 d i k j a b=TH Z1 Z2 d i (k+1) 0 a b:=by
 unfold TH
 rw[uI (oM b)]
 by_cases e:a<i
 ·rw[uM e,uM e]
 rw[uI e,uI e]
 by_cases f:a=i
 ·rw[uM f,uM f]
  subst f
  have h:gD Z1 Z2 (k+1) a b=gD Z1 Z2 k a b:=by
   show gD Z1 Z2 k a b+Z1 a k*Z2 k b=_
   rw[g,mT,Rat.add_zero]
  split
  ·rfl
  exact h.symm
 rw[uI f,uI f]
theorem ZuH (hi:i<n)(m:j<c)(h:∀ a b,a<n→b<c→Y a b=TH Z1 Z2 d i k j a b):∀ a b,a<n→b<c→updH Y i j (Y i j+Z1 i k*Z2 k j) a b=TH Z1 Z2 d i k (j+1) a b:=fun a b o p=>by
 unfold updH
 by_cases e:i=a∧j=b
 ·obtain⟨rfl,rfl⟩:=e
  rw[uM ⟨rfl,rfl⟩,h i j hi m]
  unfold TH
  rw[uI (rF _),uM rfl,uI (rF _),uI (rF _),uM rfl,uM (oC _)]
  rfl
 rw[uI e,h a b o p]
 unfold TH
 by_cases f:a<i
 ·rw[uM f,uM f]
 rw[uI f,uI f]
 by_cases g:a=i
 ·rw[uM g,uM g]
  by_cases l:b<j
  ·rw[uM l,uM qO]
  rw[uI l,uI qO]
 rw[uI g,uI g]
theorem Ztv (ha:a<n):TH Z1 Z2 d n 0 0 a b=gD Z1 Z2 d a b:=by unfold TH;rw[uM ha]
theorem Zu7:TH Z1 Z2 d i k j i j=gD Z1 Z2 k i j:=by unfold TH;rw[uI (rF _),uM rfl,uI (rF _)]
end
theorem Zp0 {z:Rat}(h:z≠0):(z.num.sign != 0)=true:=by
 have f:z.num.sign≠0:=fun e=>h (Rat.num_eq_zero.1 (Int.sign_eq_zero_iff_zero.1 e))
 simpa using f
theorem Zp1 (z:qA)(cap n c:Nat)(H:List (Mr Qv))(Z:Nat→Nat→Rat)(w:World)(L:QIn w.heap.size w z cap n H)(J:QH n c H Z)(K:0<n)(hn:n≤64)(hc:c≤64) :
 Ζ 15 #[.slice z n cap] w (RetH c n (fun a b=>Z b a) w):=by
 obtain⟨m0,B⟩:∃ m,m=w.heap.size:=⟨_,rfl⟩
 refine zU (Φ:=fun w=>QIn m0 w z cap n H) func15 rfl qK (fun w' hf=>(by rw[B];exact L.ext hf)) ?_
 refine yY (xq 1 [eS1 2 none 0 0] [] ?_)
 refine yZ (yY (xq 1 [eS1 6 z n cap] [] ?_))
 refine xqk 7 (atA z (0*1)) (fun w R Q=>xE (t:=26) (e:=34) (sz:=1) (x:=.tmp 6) (ix:=(Operand.const (Value.int IntKind.i64 0))) (len:=n) (cap:=cap) (i:=0) (QIn.ne Q K) K) ?_
 obtain⟨M,N⟩:∃ x,H[0]! = x:=⟨_,rfl⟩
 refine xqk 8 (.slice M.A c M.cap) (fun w R Q=>iF (t:=34) (x:=.tmp 7) (j:=0) Q J K N) ?_
 refine xq 3 [yJ 9 c,yJ 11 n] [] ?_
 refine xqc 24 [yI c, yI n] 12 (fun x:{x:Nat × List (Mr Qv) // QH c n x.2 (fun _ _=>0)∧m0≤x.1}=>Υ x.1.1 c) _ (fun w R Q=>(ZkD c n _ qO qO).mono (fun _ _ h=>Zhh (m0:=m0) (B ▸ R.size) h)) fun xx=>?_
 obtain⟨⟨g,O⟩,I,a0⟩:=xx
 refine xq 1 [eS1 3 (yL g) c c] [] ?_
 refine yZ (zC (yY (xq 1 [yJ 4 0] [] ?_)))
 refine yZ (zQ ?_)
 refine xO (fun P S T=>∃ (i:Nat) (v:List (Mr Qv)) (Y:Nat→Nat→Rat),S=ofL [eS1 0 z n cap,eS1 2 none 0 0,eS1 3 (yL g) c c,yJ 4 i] []∧T=(fun w=>(((QIn m0 w z cap n H∧OwnD w m0 34 1 (yL g) c c (v.flatMap mrC))∧MrOk 32 4 qvC m0 w v)∧QMs w v))∧(i≤n)∧(QH c n v Y)∧(∀ a b,a<c→b<i→Y a b=Z b a)∧P=(1+(n-i))) ((1+(n-0))) ⟨0,O,(fun _ _=>0),rfl,rfl,(vS _),I,(fun a b _ h=>qO),rfl⟩ (fun w Q=>⟨⟨⟨Q.1,Q.2.1.1⟩,Q.2.1.2⟩,Q.2.2⟩) ?_
 rintro P S T ⟨i,v,Y,rfl,rfl,hi,r,U,rfl⟩
 refine zC (yY (xq 4 [yB 16 (decide ((i:Int)<(n:Int)))] [] ?_))
 refine xe (zA ?_)
 refine yQ ((decide ((i:Int)<(n:Int)))) (fun C=>?_) fun C=>?_
 ·have s:i<n:=by have:=uC C;omega
  refine zJ (zA (zC (zQ (yY (xq 1 [yJ 5 0] [] ?_)))))
  refine yZ (zQ ?_)
  refine xO (fun P S T=>∃ (k:Nat) (v:List (Mr Qv)) (Y:Nat→Nat→Rat),S=ofL [eS1 0 z n cap,eS1 2 none 0 0,eS1 3 (yL g) c c,yJ 4 i,yJ 5 k] []∧T=(fun w=>(((QIn m0 w z cap n H∧OwnD w m0 34 1 (yL g) c c (v.flatMap mrC))∧MrOk 32 4 qvC m0 w v)∧QMs w v))∧(k≤c)∧(QH c n v Y)∧(∀ a b,a<c→(b<i∨(b=i∧a<k))→Y a b=Z b a)∧P=(1+(c-k))) ((1+(c-0))) ⟨0,v,Y,rfl,rfl,(vS _),r,(fun a b V h=>U a b V qO),rfl⟩ (fun w Q=>⟨⟨⟨Q.1.1.1,Q.1.1.2⟩,Q.1.2⟩,Q.2⟩) ?_
  rintro P S T ⟨k,v,Y,rfl,rfl,hk,r,U,rfl⟩
  refine zC (yY (xq 3 [yJ 19 k,eS1 20 z n cap,yJ 21 i] [] ?_))
  refine xqk 22 (atA z (i*1)) (fun w R Q=>xE (t:=26) (e:=34) (sz:=1) (x:=.tmp 20) (ix:=.tmp 21) (len:=n) (cap:=cap) (i:=i) (QIn.ne Q.1.1.1 s) s) ?_
  obtain⟨W,X⟩:∃ x,H[i]! = x:=⟨_,rfl⟩
  refine xqk 23 (.slice W.A c W.cap) (fun w R Q=>iF (t:=34) (x:=.tmp 22) (j:=i) Q.1.1.1 J s X) ?_
  refine xq 2 [yB 25 (decide ((k:Int)<(c:Int)))] [] ?_
  refine xe (zA ?_)
  refine yQ ((decide ((k:Int)<(c:Int)))) (fun D=>?_) fun D=>?_
  ·have l:k<c:=by have:=uC D;omega
   refine zJ (zA (zC (zQ ?_)))
   refine yO 13 zM ?_
   refine xqg 2 [eS1 28 (yL g) c c,yJ 29 k] ?_
   refine xqj 30 (atA (yL g) (k*1)) (fun w Q=>xE (t:=26) (e:=34) (sz:=1) (x:=.tmp 28) (ix:=.tmp 29) (len:=c) (cap:=c) (i:=k) qS l) ?_
   obtain⟨f,p⟩:∃ x,v[k]! = x:=⟨_,rfl⟩
   refine xqj 31 (.slice f.A n f.cap) (fun w Q=>Za5 (t:=34) (x:=.tmp 30) (j:=k) Q.1.1.2 r l p) ?_
   refine xqg 3 [yJ 32 i,eS1 33 z n cap,yJ 34 i] ?_
   refine xqj 35 (atA z (i*1)) (fun w Q=>xE (t:=26) (e:=34) (sz:=1) (x:=.tmp 33) (ix:=.tmp 34) (len:=n) (cap:=cap) (i:=i) (QIn.ne Q.1.1.1 s) s) ?_
   obtain⟨E,u⟩:∃ x,H[i]! = x:=⟨_,rfl⟩
   refine xqj 36 (.slice E.A c E.cap) (fun w Q=>iF (t:=34) (x:=.tmp 35) (j:=i) Q.1.1.1 J s u) ?_
   refine xqg 1 [yJ 37 k] ?_
   refine xqj 38 (atA E.A (k*4)) (fun w Q=>xE (t:=34) (e:=32) (sz:=4) (x:=.tmp 36) (ix:=.tmp 37) (len:=c) (cap:=E.cap) (i:=k) (QIn.rneH Q.1.1.1 J s u l) l) ?_
   obtain⟨o,F⟩:∃ x,E.xs[k]! = x:=⟨_,rfl⟩
   refine xqj 39 (vR4 o.c.1 o.c.2.1 o.c.2.2.1 o.c.2.2.2.1 o.c.2.2.2.2.1 o.c.2.2.2.2.2.1 o.c.2.2.2.2.2.2.1 o.c.2.2.2.2.2.2.2) (fun w Q=>by rw[←F];exact iA (t:=32) (x:=.tmp 38) (j:=k) (QIn.rdatH Q.1.1.1 J s u) wH (QH.cl J s u l)) ?_
   refine xqj 40 (atA f.A (i*4)) (fun w Q=>xE (t:=34) (e:=32) (sz:=4) (x:=.tmp 31) (ix:=.tmp 32) (len:=n) (cap:=f.cap) (i:=i) (OwnD.ne (show OwnD _ m0 32 4 f.A f.cap f.xs.length (f.xs.flatMap qvC) by rw[←p];exact MrOk.at Q.1.2 (r.1.symm ▸ l)) (QH.cl r l p s)) s) ?_
   refine xz ?_
   have G:=QH.q J s u l F
   refine Zfb (t:=32) (x:=.tmp 40) (y:=.tmp 39) (e:=32) (k:=4) (enc:=qvC) (a:=k) (j:=i) (ys:=v) m0 o (vR4 o.c.1 o.c.2.1 o.c.2.2.1 o.c.2.2.2.1 o.c.2.2.2.2.1 o.c.2.2.2.2.2.1 o.c.2.2.2.2.2.2.1 o.c.2.2.2.2.2.2.2) (fun w=>((QIn m0 w z cap n H∧OwnD w m0 34 1 (yL g) c c (v.flatMap mrC))∧QMs w v)) wH qD (fun w Q=>Q.1.2) (r.1.symm ▸ l) p (QH.cl r l p s) (fun _ h=>Or.inl (uA (B ▸ uF _) h)) (by simp[qvC,Value.oneCell']) (ZbV _) rfl (fun w w' Q hF=>⟨⟨QIn.up Q.1.1.1 (show OwnD _ m0 32 4 f.A f.cap f.xs.length (f.xs.flatMap qvC) by rw[←p];exact MrOk.at Q.1.2 (r.1.symm ▸ l)) hF,OwnD.apart Q.1.1.2 (show OwnD _ m0 32 4 f.A f.cap f.xs.length (f.xs.flatMap qvC) by rw[←p];exact MrOk.at Q.1.2 (r.1.symm ▸ l)) qD hF⟩,QMs.row Q.2 (show OwnD _ m0 32 4 f.A f.cap f.xs.length (f.xs.flatMap qvC) by rw[←p];exact MrOk.at Q.1.2 (r.1.symm ▸ l)) hF⟩) ?_
   refine xr 0 [eS1 0 z n cap,eS1 2 none 0 0,eS1 3 (yL g) c c,yJ 4 i,yJ 5 k] [] ?_
   refine xe (xR (zA (zB (xq 2 [yJ 27 (IntKind.i64.wrap ((k:Int)+1))] [] ?_))))
   rw[yW ((k:Int)+1) (((k+1:Nat):Int)) qO]
   refine xq 1 [yJ 5 (k+1:Nat)] [] ?_
   refine xe ?_
   exact xK ((1+(c-(k+1)))) qO ⟨(k+1),(v.set k ⟨f.A,f.cap,f.xs.set i o⟩),(updH Y k i (Z i k)),rfl,rfl,l,(QH.set r l p G),(ZpZ U),rfl⟩ (fun w Q=>⟨⟨⟨Q.1.1.1,(by rw[Zag (r.1.symm ▸ l) p (tM ..)];exact Q.1.1.2)⟩,Q.2⟩,(QMs.set Q.1.2 (r.1.symm ▸ l) p (by rw[G];exact QMs.numH (QIn.qs Q.1.1.1) J s u l F))⟩)
  have b0:k=c:=by have:=uD D;omega
  refine xM (zE (zE (xW (xR (zA (zB (xq 2 [yJ 18 (IntKind.i64.wrap ((i:Int)+1))] [] ?_)))))))
  rw[yW ((i:Int)+1) (((i+1:Nat):Int)) qO]
  refine xq 1 [yJ 4 (i+1:Nat)] [] ?_
  refine xe ?_
  exact xK ((1+(n-(i+1)))) qO ⟨(i+1),v,Y,rfl,rfl,s,r,(fun a b V h=>U a b V qO),rfl⟩ (fun w Q=>⟨⟨⟨Q.1.1.1,Q.1.1.2⟩,Q.1.2⟩,Q.2⟩)
 have c0:i=n:=by have:=uD C;omega
 refine xM (zE (zE (xW (zA (yY (xq 2 [eS1 2 (yL g) c c] [] ?_))))))
 refine yZ (zH ?_)
 refine yR (Υ g c) fun w' R Q=>?_
 exact⟨g,v,rfl,r.congr (fun a b V hb=>U a b V qO),B ▸ Q.1.1.2,B ▸ Q.1.2,Q.2,R⟩
theorem ZmJ (N I:qA)(r l n d c:Nat)(ra P:List (Mr Qv))(Z1 Z2:Nat→Nat→Rat)(w:World)(n0:QIn w.heap.size w N r n ra)(o0:QIn w.heap.size w I l d P)(F:QH n d ra Z1)(K:QH d c P Z2)(J:0<d)(hn:n≤64)(hd:d≤64)(hc:c≤64)(G0:∀ a b,a<n→b<d→wO (Z1 a b))(H0:∀ a b,a<d→b<c→wO (Z2 a b))(p0:∀ a b k,a<n→b<c→k<d→wO (gD Z1 Z2 k a b)∧wO (Z1 a k*Z2 k b)) :
 Ζ 14 #[.slice N n r,.slice I d l] w (RetH n c (gD Z1 Z2 d) w):=by
 obtain⟨m0,O⟩:∃ m,m=w.heap.size:=⟨_,rfl⟩
 refine zU (Φ:=fun w=>(QIn m0 w N r n ra∧QIn m0 w I l d P)) func14 rfl qK (fun w' hf=>⟨(by rw[O];exact n0.ext hf),(by rw[O];exact o0.ext hf)⟩) ?_
 refine yY (xq 1 [eS1 4 none 0 0] [] ?_)
 refine yZ (yY (xq 3 [yJ 10 n,eS1 11 I d l] [] ?_))
 refine xqk 12 (atA I (0*1)) (fun w R Q=>xE (t:=26) (e:=34) (sz:=1) (x:=.tmp 11) (ix:=(Operand.const (Value.int IntKind.i64 0))) (len:=d) (cap:=l) (i:=0) (QIn.ne Q.2 J) J) ?_
 obtain⟨q0,r0⟩:∃ x,P[0]! = x:=⟨_,rfl⟩
 refine xqk 13 (.slice q0.A c q0.cap) (fun w R Q=>iF (t:=34) (x:=.tmp 12) (j:=0) Q.2 K J r0) ?_
 refine xq 1 [yJ 14 c] [] ?_
 refine xqc 24 [yI n, yI c] 15 (fun x:{x:Nat × List (Mr Qv) // QH n c x.2 (fun _ _=>0)∧m0≤x.1}=>Υ x.1.1 n) _ (fun w R Q=>(ZkD n c _ qO qO).mono (fun _ _ h=>Zhh (m0:=m0) (O ▸ R.size) h)) fun xx=>?_
 obtain⟨⟨p,s0⟩,a0,F0⟩:=xx
 refine xq 1 [eS1 5 (yL p) n n] [] ?_
 refine yZ (zC (yY (xq 1 [yJ 6 0] [] ?_)))
 refine yZ (zQ ?_)
 refine xO (fun nn ss ff=>∃ (i:Nat) (D:List (Mr Qv)) (Y:Nat→Nat→Rat),ss=ofL [eS1 0 N n r,eS1 1 I d l,eS1 4 none 0 0,eS1 5 (yL p) n n,yJ 6 i] []∧ff=(fun w=>((((QIn m0 w N r n ra∧QIn m0 w I l d P)∧OwnD w m0 34 1 (yL p) n n (D.flatMap mrC))∧MrOk 32 4 qvC m0 w D)∧QMs w D))∧(i≤n)∧(QH n c D Y)∧(∀ a b,a<n→b<c→Y a b=TH Z1 Z2 d i 0 0 a b)∧nn=(1+(n-i))) ((1+(n-0))) ⟨0,s0,(fun _ _=>0),rfl,rfl,(vS _),a0,(fun a b _ _=>(Zts a b).symm),rfl⟩ (fun w Q=>⟨⟨⟨⟨Q.1.1,Q.1.2⟩,Q.2.1.1⟩,Q.2.1.2⟩,Q.2.2⟩) ?_
 rintro nn ss ff ⟨i,D,Y,rfl,rfl,hi,o,Z,rfl⟩
 refine zC (yY (xq 4 [yB 19 (decide ((i:Int)<(n:Int)))] [] ?_))
 refine xe (zA ?_)
 refine yQ ((decide ((i:Int)<(n:Int)))) (fun S=>?_) fun S=>?_
 ·have f:i<n:=by have:=uC S;omega
  refine zJ (zA (zC (zQ (yY (xq 1 [yJ 7 0] [] ?_)))))
  refine yZ (zQ ?_)
  refine xO (fun nn ss ff=>∃ (k:Nat) (D:List (Mr Qv)) (Y:Nat→Nat→Rat),ss=ofL [eS1 0 N n r,eS1 1 I d l,eS1 4 none 0 0,eS1 5 (yL p) n n,yJ 6 i,yJ 7 k] []∧ff=(fun w=>((((QIn m0 w N r n ra∧QIn m0 w I l d P)∧OwnD w m0 34 1 (yL p) n n (D.flatMap mrC))∧MrOk 32 4 qvC m0 w D)∧QMs w D))∧(k≤d)∧(QH n c D Y)∧(∀ a b,a<n→b<c→Y a b=TH Z1 Z2 d i k 0 a b)∧nn=(1+(d-k))) ((1+(d-0))) ⟨0,D,Y,rfl,rfl,(vS _),o,Z,rfl⟩ (fun w Q=>⟨⟨⟨⟨Q.1.1.1.1,Q.1.1.1.2⟩,Q.1.1.2⟩,Q.1.2⟩,Q.2⟩) ?_
  rintro nn ss ff ⟨k,D,Y,rfl,rfl,hk,o,Z,rfl⟩
  refine zC (yY (xq 4 [yB 25 (decide ((k:Int)<(d:Int)))] [] ?_))
  refine xe (zA ?_)
  refine yQ ((decide ((k:Int)<(d:Int)))) (fun T=>?_) fun T=>?_
  ·have s:k<d:=by have:=uC T;omega
   refine zJ (zA (zC (zQ (yY (xq 1 [yJ 8 0] [] ?_)))))
   refine yZ (zQ ?_)
   refine xO (fun nn ss ff=>∃ (j:Nat) (D:List (Mr Qv)) (Y:Nat→Nat→Rat),ss=ofL [eS1 0 N n r,eS1 1 I d l,eS1 4 none 0 0,eS1 5 (yL p) n n,yJ 6 i,yJ 7 k,yJ 8 j] []∧ff=(fun w=>((((QIn m0 w N r n ra∧QIn m0 w I l d P)∧OwnD w m0 34 1 (yL p) n n (D.flatMap mrC))∧MrOk 32 4 qvC m0 w D)∧QMs w D))∧(j≤c)∧(QH n c D Y)∧(∀ a b,a<n→b<c→Y a b=TH Z1 Z2 d i k j a b)∧nn=(1+(c-j))) ((1+(c-0))) ⟨0,D,Y,rfl,rfl,(vS _),o,Z,rfl⟩ (fun w Q=>⟨⟨⟨⟨Q.1.1.1.1,Q.1.1.1.2⟩,Q.1.1.2⟩,Q.1.2⟩,Q.2⟩) ?_
   rintro nn ss ff ⟨j,D,Y,rfl,rfl,hj,o,Z,rfl⟩
   refine zC (zC ?_)
   by_cases v:j<c
   ·refine zB (xq 2 [yJ 28 j,eS1 29 I d l] [] ?_)
    refine xqk 30 (atA I (0*1)) (fun w R Q=>xE (t:=26) (e:=34) (sz:=1) (x:=.tmp 29) (ix:=(Operand.const (Value.int IntKind.i64 0))) (len:=d) (cap:=l) (i:=0) (QIn.ne Q.1.1.1.2 J) J) ?_
    obtain⟨t0,u0⟩:∃ x,P[0]! = x:=⟨_,rfl⟩
    refine xqk 31 (.slice t0.A c t0.cap) (fun w R Q=>iF (t:=34) (x:=.tmp 30) (j:=0) Q.1.1.1.2 K J u0) ?_
    refine xq 2 [yB 33 (decide ((j:Int)<(c:Int)))] [] ?_
    rw[(show decide ((j:Int)<(c:Int))=true from vQ qO)]
    refine xq 3 [yB 34 true,eS1 35 N n r,yJ 36 i] [] ?_
    refine xqk 37 (atA N (i*1)) (fun w R Q=>xE (t:=26) (e:=34) (sz:=1) (x:=.tmp 35) (ix:=.tmp 36) (len:=n) (cap:=r) (i:=i) (QIn.ne Q.1.1.1.1 f) f) ?_
    obtain⟨U,G⟩:∃ x,ra[i]! = x:=⟨_,rfl⟩
    refine xqk 38 (.slice U.A d U.cap) (fun w R Q=>iF (t:=34) (x:=.tmp 37) (j:=i) Q.1.1.1.1 F f G) ?_
    refine xq 1 [yJ 39 k] [] ?_
    refine xqk 40 (atA U.A (k*4)) (fun w R Q=>xE (t:=34) (e:=32) (sz:=4) (x:=.tmp 38) (ix:=.tmp 39) (len:=d) (cap:=U.cap) (i:=k) (QIn.rneH Q.1.1.1.1 F f G s) s) ?_
    obtain⟨q,V⟩:∃ x,U.xs[k]! = x:=⟨_,rfl⟩
    refine xqk 41 (vR4 q.c.1 q.c.2.1 q.c.2.2.1 q.c.2.2.2.1 q.c.2.2.2.2.1 q.c.2.2.2.2.2.1 q.c.2.2.2.2.2.2.1 q.c.2.2.2.2.2.2.2) (fun w R Q=>by rw[←V];exact iA (t:=32) (x:=.tmp 40) (j:=k) (QIn.rdatH Q.1.1.1.1 F f G) wH (QH.cl F f G s)) ?_
    by_cases hz:Z1 i k=0
    ·refine xqc 20 [vR4 q.c.1 q.c.2.1 q.c.2.2.1 q.c.2.2.2.1 q.c.2.2.2.2.1 q.c.2.2.2.2.2.1 q.c.2.2.2.2.2.2.1 q.c.2.2.2.2.2.2.2] 42 (fun _:Unit=>yI 0) _ (fun w R Q=>(Zad _ _ _ (QMs.numH (QIn.qs Q.1.1.1.1) F f G s V)).mono (fun _ _ h=>zO h (by rw[hz];rfl))) fun xx=>?_
     refine xq 2 [yB 44 false] [] ?_
     refine yZ (xb (xM (zE (zE (xW (xR (zA (zB (xq 2 [yJ 27 (IntKind.i64.wrap ((k:Int)+1))] [] ?_)))))))))
     rw[yW ((k:Int)+1) (((k+1:Nat):Int)) qO]
     refine xq 1 [yJ 7 (k+1:Nat)] [] ?_
     refine xe ?_
     exact xK ((1+(d-(k+1)))) qO ⟨(k+1),D,Y,rfl,rfl,s,o,(fun a b ha hb=>by rw[Z a b ha hb];exact Ztu hz),rfl⟩ (fun w Q=>⟨⟨⟨⟨Q.1.1.1.1.1,Q.1.1.1.1.2⟩,Q.1.1.1.2⟩,Q.1.1.2⟩,Q.1.2⟩)
    refine xqc 20 [vR4 q.c.1 q.c.2.1 q.c.2.2.1 q.c.2.2.2.1 q.c.2.2.2.2.1 q.c.2.2.2.2.2.1 q.c.2.2.2.2.2.2.1 q.c.2.2.2.2.2.2.2] 42 (fun _:Unit=>yI (Z1 i k).num.sign) _ (fun w R Q=>yN (Zad _ _ _ (QMs.numH (QIn.qs Q.1.1.1.1) F f G s V))) fun xx=>?_
    refine xq 1 [yB 43 (((Z1 i k).num.sign:Int) != 0)] [] ?_
    rw[(show ((Z1 i k).num.sign != 0)=true from Zp0 hz)]
    refine xq 1 [yB 44 true] [] ?_
    refine yZ (xa (zJ (zA (zC (zQ ?_)))))
    have I0:wO (Y i j):=by rw[Z i j f v,Zu7];exact (p0 i j k f v s).1
    have J0:wO (Z1 i k*Z2 k j):=(p0 i j k f v s).2
    refine iK 29 [0,0,3,7,0,0,0,96,224,0,992,2016,0,0,12288,28672,0,126976,258048,0,0,1572864,3670016,0,16252928,33030144,67104768,134217696,268435455] qK qK zM ?_
    refine xqg 2 [eS1 47 (yL p) n n,yJ 48 i] ?_
    refine xqj 49 (atA (yL p) (i*1)) (fun w Q=>xE (t:=26) (e:=34) (sz:=1) (x:=.tmp 47) (ix:=.tmp 48) (len:=n) (cap:=n) (i:=i) qS f) ?_
    obtain⟨g,u⟩:∃ x,D[i]! = x:=⟨_,rfl⟩
    refine xqj 50 (.slice g.A c g.cap) (fun w Q=>Za5 (t:=34) (x:=.tmp 49) (j:=i) Q.1.1.1.2 o f u) ?_
    refine xqg 3 [yJ 51 j,eS1 52 (yL p) n n,yJ 53 i] ?_
    refine xqj 54 (atA (yL p) (i*1)) (fun w Q=>xE (t:=26) (e:=34) (sz:=1) (x:=.tmp 52) (ix:=.tmp 53) (len:=n) (cap:=n) (i:=i) qS f) ?_
    obtain⟨E,H⟩:∃ x,D[i]! = x:=⟨_,rfl⟩
    refine xqj 55 (.slice E.A c E.cap) (fun w Q=>Za5 (t:=34) (x:=.tmp 54) (j:=i) Q.1.1.1.2 o f H) ?_
    refine xqg 1 [yJ 56 j] ?_
    refine xqj 57 (atA E.A (j*4)) (fun w Q=>xE (t:=34) (e:=32) (sz:=4) (x:=.tmp 55) (ix:=.tmp 56) (len:=c) (cap:=E.cap) (i:=j) (OwnD.ne (show OwnD _ m0 32 4 E.A E.cap E.xs.length (E.xs.flatMap qvC) by rw[←H];exact MrOk.at Q.1.1.2 (o.1.symm ▸ f)) (QH.cl o f H v)) v) ?_
    obtain⟨z,j0⟩:∃ x,E.xs[j]! = x:=⟨_,rfl⟩
    refine xqj 58 (vR4 z.c.1 z.c.2.1 z.c.2.2.1 z.c.2.2.2.1 z.c.2.2.2.2.1 z.c.2.2.2.2.2.1 z.c.2.2.2.2.2.2.1 z.c.2.2.2.2.2.2.2) (fun w Q=>by rw[←j0];exact iA (t:=32) (x:=.tmp 57) (j:=j) (OwnD.rd (show OwnD _ m0 32 4 E.A E.cap E.xs.length (E.xs.flatMap qvC) by rw[←H];exact MrOk.at Q.1.1.2 (o.1.symm ▸ f)) wH) wH (QH.cl o f H v)) ?_
    refine xqg 2 [eS1 59 N n r,yJ 60 i] ?_
    refine xqj 61 (atA N (i*1)) (fun w Q=>xE (t:=26) (e:=34) (sz:=1) (x:=.tmp 59) (ix:=.tmp 60) (len:=n) (cap:=r) (i:=i) (QIn.ne Q.1.1.1.1.1 f) f) ?_
    obtain⟨W,L⟩:∃ x,ra[i]! = x:=⟨_,rfl⟩
    refine xqj 62 (.slice W.A d W.cap) (fun w Q=>iF (t:=34) (x:=.tmp 61) (j:=i) Q.1.1.1.1.1 F f L) ?_
    refine xqg 1 [yJ 63 k] ?_
    refine xqj 64 (atA W.A (k*4)) (fun w Q=>xE (t:=34) (e:=32) (sz:=4) (x:=.tmp 62) (ix:=.tmp 63) (len:=d) (cap:=W.cap) (i:=k) (QIn.rneH Q.1.1.1.1.1 F f L s) s) ?_
    obtain⟨B,k0⟩:∃ x,W.xs[k]! = x:=⟨_,rfl⟩
    refine xqj 65 (vR4 B.c.1 B.c.2.1 B.c.2.2.1 B.c.2.2.2.1 B.c.2.2.2.2.1 B.c.2.2.2.2.2.1 B.c.2.2.2.2.2.2.1 B.c.2.2.2.2.2.2.2) (fun w Q=>by rw[←k0];exact iA (t:=32) (x:=.tmp 64) (j:=k) (QIn.rdatH Q.1.1.1.1.1 F f L) wH (QH.cl F f L s)) ?_
    refine xqg 2 [eS1 66 I d l,yJ 67 k] ?_
    refine xqj 68 (atA I (k*1)) (fun w Q=>xE (t:=26) (e:=34) (sz:=1) (x:=.tmp 66) (ix:=.tmp 67) (len:=d) (cap:=l) (i:=k) (QIn.ne Q.1.1.1.1.2 s) s) ?_
    obtain⟨X,M⟩:∃ x,P[k]! = x:=⟨_,rfl⟩
    refine xqj 69 (.slice X.A c X.cap) (fun w Q=>iF (t:=34) (x:=.tmp 68) (j:=k) Q.1.1.1.1.2 K s M) ?_
    refine xqg 1 [yJ 70 j] ?_
    refine xqj 71 (atA X.A (j*4)) (fun w Q=>xE (t:=34) (e:=32) (sz:=4) (x:=.tmp 69) (ix:=.tmp 70) (len:=c) (cap:=X.cap) (i:=j) (QIn.rneH Q.1.1.1.1.2 K s M v) v) ?_
    obtain⟨C,l0⟩:∃ x,X.xs[j]! = x:=⟨_,rfl⟩
    refine xqj 72 (vR4 C.c.1 C.c.2.1 C.c.2.2.1 C.c.2.2.2.1 C.c.2.2.2.2.1 C.c.2.2.2.2.2.1 C.c.2.2.2.2.2.2.1 C.c.2.2.2.2.2.2.2) (fun w Q=>by rw[←l0];exact iA (t:=32) (x:=.tmp 71) (j:=j) (QIn.rdatH Q.1.1.1.1.2 K s M) wH (QH.cl K s M v)) ?_
    refine xqd 22 [vR4 B.c.1 B.c.2.1 B.c.2.2.1 B.c.2.2.2.1 B.c.2.2.2.2.1 B.c.2.2.2.2.2.1 B.c.2.2.2.2.2.2.1 B.c.2.2.2.2.2.2.2,vR4 C.c.1 C.c.2.1 C.c.2.2.1 C.c.2.2.2.1 C.c.2.2.2.2.1 C.c.2.2.2.2.2.1 C.c.2.2.2.2.2.2.1 C.c.2.2.2.2.2.2.2] 73 lB _ (fun w R Q=>yM wM ((show Calls _ _ _ _ (kQ _ ((Z1 i k)*(Z2 k j))) from jP _ _ _ _ _ (QMs.numH (QIn.qs Q.1.1.1.1.1) F f L s k0) (QMs.numH (QIn.qs Q.1.1.1.1.2) K s M v l0) (G0 i k f s) (H0 k j s v)))) fun⟨v0,w0,x0,y0,z0,A0,B0,C0⟩=>?_
    refine xqd 7 [vR4 z.c.1 z.c.2.1 z.c.2.2.1 z.c.2.2.2.1 z.c.2.2.2.2.1 z.c.2.2.2.2.2.1 z.c.2.2.2.2.2.2.1 z.c.2.2.2.2.2.2.2,vR4 v0 w0 x0 y0 z0 A0 B0 C0] 74 lB _ (fun w R Q=>yM wM ((show Calls _ _ _ _ (kQ _ ((Y i j)+((Z1 i k)*(Z2 k j)))) from ZeC _ _ _ _ _ (QMs.numH Q.1.1.2 o f H v j0) Q.2 I0 J0))) fun⟨b0,c0,d0,e0,f0,g0,h0,i0⟩=>?_
    refine xqj 75 (atA g.A (j*4)) (fun w Q=>xE (t:=34) (e:=32) (sz:=4) (x:=.tmp 50) (ix:=.tmp 51) (len:=c) (cap:=g.cap) (i:=j) (OwnD.ne (show OwnD _ m0 32 4 g.A g.cap g.xs.length (g.xs.flatMap qvC) by rw[←u];exact MrOk.at Q.1.1.2 (o.1.symm ▸ f)) (QH.cl o f u v)) v) ?_
    refine xz ?_
    refine Zfb (t:=32) (x:=.tmp 75) (y:=.tmp 74) (e:=32) (k:=4) (enc:=qvC) (a:=i) (j:=j) (ys:=D) m0 (⟨(b0,c0,d0,e0,f0,g0,h0,i0),((Y i j)+((Z1 i k)*(Z2 k j)))⟩:Qv) (vR4 b0 c0 d0 e0 f0 g0 h0 i0) (fun w=>(((((QIn m0 w N r n ra∧QIn m0 w I l d P)∧OwnD w m0 34 1 (yL p) n n (D.flatMap mrC))∧QMs w D)∧zP w (vR4 v0 w0 x0 y0 z0 A0 B0 C0) ((Z1 i k)*(Z2 k j)))∧zP w (vR4 b0 c0 d0 e0 f0 g0 h0 i0) ((Y i j)+((Z1 i k)*(Z2 k j))))) wH qD (fun w Q=>Q.1.1.1.1.2) (o.1.symm ▸ f) u (QH.cl o f u v) (fun _ h=>Or.inl (uA (O ▸ uF _) h)) (by simp[qvC,Value.oneCell']) (ZbV _) rfl (fun w w' Q hF=>⟨⟨⟨⟨⟨QIn.up Q.1.1.1.1.1.1.1 (show OwnD _ m0 32 4 g.A g.cap g.xs.length (g.xs.flatMap qvC) by rw[←u];exact MrOk.at Q.1.1.1.1.2 (o.1.symm ▸ f)) hF,QIn.up Q.1.1.1.1.1.1.2 (show OwnD _ m0 32 4 g.A g.cap g.xs.length (g.xs.flatMap qvC) by rw[←u];exact MrOk.at Q.1.1.1.1.2 (o.1.symm ▸ f)) hF⟩,OwnD.apart Q.1.1.1.1.1.2 (show OwnD _ m0 32 4 g.A g.cap g.xs.length (g.xs.flatMap qvC) by rw[←u];exact MrOk.at Q.1.1.1.1.2 (o.1.symm ▸ f)) qD hF⟩,QMs.row Q.1.1.1.2 (show OwnD _ m0 32 4 g.A g.cap g.xs.length (g.xs.flatMap qvC) by rw[←u];exact MrOk.at Q.1.1.1.1.2 (o.1.symm ▸ f)) hF⟩,zP.rowUp Q.1.2 (show OwnD _ m0 32 4 g.A g.cap g.xs.length (g.xs.flatMap qvC) by rw[←u];exact MrOk.at Q.1.1.1.1.2 (o.1.symm ▸ f)) hF⟩,zP.rowUp Q.2 (show OwnD _ m0 32 4 g.A g.cap g.xs.length (g.xs.flatMap qvC) by rw[←u];exact MrOk.at Q.1.1.1.1.2 (o.1.symm ▸ f)) hF⟩) ?_
    refine xr 0 [eS1 0 N n r,eS1 1 I d l,eS1 4 none 0 0,eS1 5 (yL p) n n,yJ 6 i,yJ 7 k,yJ 8 j] [] ?_
    refine xe (xR (zA (zB (xq 2 [yJ 46 (IntKind.i64.wrap ((j:Int)+1))] [] ?_))))
    rw[yW ((j:Int)+1) (((j+1:Nat):Int)) qO]
    refine xq 1 [yJ 8 (j+1:Nat)] [] ?_
    refine xe ?_
    exact xK ((1+(c-(j+1)))) qO ⟨(j+1),(D.set i ⟨g.A,g.cap,g.xs.set j (⟨(b0,c0,d0,e0,f0,g0,h0,i0),((Y i j)+((Z1 i k)*(Z2 k j)))⟩:Qv)⟩),(updH Y i j (Y i j+Z1 i k*Z2 k j)),rfl,rfl,v,(QH.set o f u rfl),(ZuH f v Z),rfl⟩ (fun w Q=>⟨⟨⟨⟨Q.1.1.1.1.1.1,Q.1.1.1.1.1.2⟩,(by rw[Zag (o.1.symm ▸ f) u (tM ..)];exact Q.1.1.1.1.2)⟩,Q.2⟩,(QMs.set Q.1.1.1.2 (o.1.symm ▸ f) u Q.1.2)⟩)
   have K0:j=c:=qO
   refine zB (xq 2 [yJ 28 j,eS1 29 I d l] [] ?_)
   refine xqk 30 (atA I (0*1)) (fun w R Q=>xE (t:=26) (e:=34) (sz:=1) (x:=.tmp 29) (ix:=(Operand.const (Value.int IntKind.i64 0))) (len:=d) (cap:=l) (i:=0) (QIn.ne Q.1.1.1.2 J) J) ?_
   obtain⟨D0,E0⟩:∃ x,P[0]! = x:=⟨_,rfl⟩
   refine xqk 31 (.slice D0.A c D0.cap) (fun w R Q=>iF (t:=34) (x:=.tmp 30) (j:=0) Q.1.1.1.2 K J E0) ?_
   refine xq 2 [yB 33 (decide ((j:Int)<(c:Int)))] [] ?_
   rw[(show decide ((j:Int)<(c:Int))=false from uV qO)]
   refine xq 11 [yB 44 false] [] ?_
   refine yZ (xb (xM (zE (zE (xW (xR (zA (zB (xq 2 [yJ 27 (IntKind.i64.wrap ((k:Int)+1))] [] ?_)))))))))
   rw[yW ((k:Int)+1) (((k+1:Nat):Int)) qO]
   refine xq 1 [yJ 7 (k+1:Nat)] [] ?_
   refine xe ?_
   exact xK ((1+(d-(k+1)))) qO ⟨(k+1),D,Y,rfl,rfl,s,o,(fun a b ha hb=>by rw[Z a b ha hb,K0];exact ZuG hb),rfl⟩ (fun w Q=>⟨⟨⟨⟨Q.1.1.1.1,Q.1.1.1.2⟩,Q.1.1.2⟩,Q.1.2⟩,Q.2⟩)
  have L0:k=d:=by have:=uD T;omega
  refine xM (zE (zE (xW (xR (zA (zB (xq 2 [yJ 21 (IntKind.i64.wrap ((i:Int)+1))] [] ?_)))))))
  rw[yW ((i:Int)+1) (((i+1:Nat):Int)) qO]
  refine xq 1 [yJ 6 (i+1:Nat)] [] ?_
  refine xe ?_
  exact xK ((1+(n-(i+1)))) qO ⟨(i+1),D,Y,rfl,rfl,f,o,(fun a b ha hb=>by rw[Z a b ha hb,L0];exact Ztt),rfl⟩ (fun w Q=>⟨⟨⟨⟨Q.1.1.1.1,Q.1.1.1.2⟩,Q.1.1.2⟩,Q.1.2⟩,Q.2⟩)
 have M0:i=n:=by have:=uD S;omega
 refine xM (zE (zE (xW (zA (yY (xq 2 [eS1 4 (yL p) n n] [] ?_))))))
 refine yZ (zH ?_)
 refine yR (Υ p n) fun w' R Q=>?_
 exact⟨p,D,rfl,o.congr (fun a b ha hb=>by rw[Z a b ha hb];exact Ztv (M0 ▸ ha)),O ▸ Q.1.1.2,O ▸ Q.1.2,Q.2,R⟩
def sumZ (f:Nat→Int):Nat→Int
 | 0=>0
 | k+1=>sumZ f k+f k
def dO (Z1 Z2:Nat→Nat→Int) (d a b:Nat):Int:=sumZ (fun q=>Z1 a q*Z2 q b) d
section
variable {Z1 Z2 Y:Nat→Nat→Int} {n c d i j k a b:Nat}
theorem ZmK {x y:Int}{p q:Nat}(e:x.natAbs≤p)(f:y.natAbs≤q):(x*y).natAbs≤p*q:=by rw[oE];exact vK e f
theorem ZuI {x y:Int}(e:x.natAbs≤1000)(f:y.natAbs≤1000):(x*y).natAbs≤1000000000:=uA (ZmK e f) qD
theorem ZdI {p q:Nat}:∀ (d:Nat),(∀ r,r<d→(Z1 a r).natAbs≤p)→(∀ r,r<d→(Z2 r b).natAbs≤q)→(dO Z1 Z2 d a b).natAbs≤d*(p*q)
 | 0,_,_=>by show (0:Int).natAbs≤_;simp
 | d+1,h1,h2=>by
  have e:=ZdI d (fun r f=>h1 r qO) (fun r f=>h2 r qO)
  have g:=ZmK (h1 d qO) (h2 d qO)
  show (dO Z1 Z2 d a b+Z1 a d*Z2 d b).natAbs≤_
  rw[rA]
  exact uA (Int.natAbs_add_le _ _) (Nat.add_le_add e g)
theorem iG {z:Int}(h:z.natAbs≤1000000000):wO ((z:Int):Rat):=by
 unfold wO
 rw[nK,nL]
 exact⟨uA (ZgY (k:=10) (vA h qD)) qD,uA (ZgY (k:=1) qD) qD⟩
end
theorem ZdJ (Z1 Z2:Nat→Nat→Int)(a b:Nat):∀ d,gD (cst Z1) (cst Z2) d a b=((dO Z1 Z2 d a b:Int):Rat)
 | 0=>rfl
 | d+1=>by
  show gD (cst Z1) (cst Z2) d a b+cst Z1 a d*cst Z2 d b=((dO Z1 Z2 d a b+Z1 a d*Z2 d b:Int):Rat)
  rw[ZdJ Z1 Z2 a b d,nI,qL];rfl
theorem Zry (f:qA)(cap n c:Nat)(g:List (Mr Qv))(Z:Nat→Nat→Int)(w:World)(e:QIn w.heap.size w f cap n g)(l:QG n c g Z)(h:0<n)(m:n≤64)(o:c≤64) :
 Ζ 15 #[.slice f n cap] w (RetQ c n (fun a b=>Z b a) w) :=
 Zp1 f cap n c g (cst Z) w e l.H h m o
theorem Zp2 (v x:qA)(f g n d c:Nat)(y z:List (Mr Qv))(Z1 Z2:Nat→Nat→Int)(w:World)(t:QIn w.heap.size w v f n y)(u:QIn w.heap.size w x g d z)(A:QG n d y Z1)(B:QG d c z Z2)(C:0<d)(E:n≤64)(F:d≤64)(I:c≤64)(l:∀ a b,a<n→b<d→(Z1 a b).natAbs≤1000)(m:∀ a b,a<d→b<c→(Z2 a b).natAbs≤1000) :
 Ζ 14 #[.slice v n f,.slice x d g] w (RetQ n c (dO Z1 Z2 d) w) :=
 (ZmJ v x f g n d c y z (cst Z1) (cst Z2) w t u A.H B.H C E F I (fun a b o s=>iG (uA (l a b o s) qD)) (fun a b o s=>iG (uA (m a b o s) qD))
  (fun a b k o s D=>⟨by
   rw[ZdJ]
   refine iG (uA (ZdI (p:=1000) (q:=1000) k (fun r J=>l a r o qO) (fun r J=>m r b qO s)) ?_)
   have:k≤64:=qO
   exact uA (uE _ this) qD,by
   show wO (cst Z1 a k*cst Z2 k b)
   have e:cst Z1 a k*cst Z2 k b=((Z1 a k*Z2 k b:Int):Rat):=by rw[qL];rfl
   rw[e];exact iG (ZuI (l a k o D) (m k b D s))⟩)).mono (fun _ _ h=>by
  obtain⟨b,K,L,M,N⟩:=h
  exact⟨b,K,L,QH.G (M.congr (fun a b _ _=>ZdJ Z1 Z2 a b d)),N⟩)
instance {vs:List Fv3} {m0:Nat}:Nonempty {x:Nat × List Nb // x.2.map nbV=vs∧m0≤x.1}:=⟨⟨(m0,vs.map (fun v=>(⟨v.1,none,0,0,v.2.1,v.2.2⟩:Nb))),by
 refine⟨?_,uF _⟩
 show (vs.map _).map nbV=vs
 rw[pV]
 exact List.map_id'' (fun v=>rfl) vs⟩⟩
def Gd (f:ByteArray×Int):Prop:=fvB (bytes f.1) f.2=true∧(bytes f.1).length≤1000
theorem ZeQ {r c cap:Nat}{A:qA}{a:List (ByteArray×Int)}(d:1≤r∧r≤32)(e:1≤c∧c≤32)(g:a.length=r*c)(h:∀ f∈a,Gd f):FmG ⟨r,c,A,cap,a⟩:=⟨d,e,g,fun f b=>(h f b).1,fun f b=>(h f b).2⟩
theorem ZnY {z:Int}(h:blen z.natAbs≤65):(Lib.itoa z).length≤1000:=uA (Zl7 (k:=20) qD (uT (xH.1 h) qD)) qD
theorem Ztw {z x:Int}(h:(z=0∧x=0)∨(z%2=1∧okE x))(a:blen z.natAbs≤65):Gd (⟨(Lib.itoa z).toArray⟩,x):=by
 refine⟨?_,?_⟩
 ·show fvB (Lib.itoa z) x=true
  rw[ZhP];exact vQ h
 exact ZnY a
instance:Nonempty {x:Int×Int // (fun x:Int×Int=>TF x.1 x.2) x}:=⟨⟨(0,0),Or.inl ⟨rfl,rfl⟩,by decide,by decide,by decide⟩⟩
theorem ZmL {z x:Int}(h:(z=0∧x=0)∨(z%2=1∧okE x)):ldV (⟨(Lib.itoa z).toArray⟩,x)=(decide (z<0),z.natAbs,x):=by
 unfold ldV
 show ((ldR (Lib.itoa z) x).s,(ldR (Lib.itoa z) x).m,(ldR (Lib.itoa z) x).e)=_
 have a:fvB (Lib.itoa z) x=true:=by rw[ZhP];exact vQ h
 unfold ldR
 rw[uM a,bW,gC]
theorem ZkE {s:Bool}{m:Nat}(h:m%2=1):sg s m%2=1:=by cases s<;>simp[sg]<;>omega
theorem Zhi (s:Bool)(m:Nat):(sg s m).natAbs=m:=by cases s<;>simp[sg]
theorem Zu8 {v:Fv3}{E:Int}(h:FvOk v)(hb:Bv E v):Gd (ftW v):=by
 refine Ztw ?_ (by rw[Zhi];exact hb.1)
 rcases h.2.2.1 with h0|a
 ·exact Or.inl ⟨by rw[h0];cases v.1<;>rfl,hb.2.2 h0⟩
 exact Or.inr ⟨ZkE a,h.2.1⟩
theorem ZbW {α:Type}{r c:Nat}{V:Nat→Nat→α}{p:α→Prop}(h:∀ i j,i<r→j<c→p (V i j)):∀ v∈kZ r c V,p v:=fun v a=>by
 obtain⟨i,hi,a⟩:=List.mem_flatMap.1 a
 obtain⟨j,b,rfl⟩:=qF.1 a
 exact h i j (sX.1 hi) (sX.1 b)
theorem ZdK {α β:Type}{r c:Nat}{V:Nat→Nat→α}{f:α→β}:(kZ r c V).map f=kZ r c (fun i j=>f (V i j)):=by
 unfold kZ
 rw[List.map_flatMap]
 congr 1
 exact funext fun i=>by rw[pV];rfl
def cz (z:Int):Fv3:=(decide (z<0),oddM z.natAbs,((tzn z.natAbs:Nat):Int))
theorem Za7:oddM 0=0:=by unfold oddM;exact Nat.zero_div _
theorem ZbX:tzn 0=0:=by rw[tzn,dif_pos (Or.inl rfl)]
theorem Zh5:cz 0=(false,0,0):=by
 show (decide ((0:Int)<0),oddM (0:Int).natAbs,((tzn (0:Int).natAbs:Nat):Int))=_
 rw[nM,Za7,ZbX];rfl
theorem ZkF {n:Nat}:oddM n*2^tzn n=n:=by
 rcases uJ n with h|h
 ·subst h;rw[Za7,sD]
 exact (kM h).2.symm
theorem Zc3 {n:Nat}(h:n≠0):0<oddM n:=by have:=(kM (show 0<n by omega)).1;omega
theorem Zrz {n:Nat}(h:oddM n=0):n=0:=by
 rcases uJ n with a|a
 ·exact a
 have:=Zc3 (n:=n) qO;omega
theorem ZnZ {n:Nat}(h:n<2^64):tzn n≤64:=by
 rcases uJ n with a|a
 ·subst a;rw[ZbX];decide
 have f:=ZkF (n:=n)
 have d:=Zc3 (n:=n) qO
 rcases vO 64 (tzn n) with b|b
 ·have e:=vC (show 0<2 by decide) (show 64≤tzn n by omega)
  have g:=vK d e
  omega
 exact b
theorem Zu9 (z:Int):sg (decide (z<0)) z.natAbs=z:=by
 rcases oZ z 0 with h|h
 ·rw[vQ h];unfold sg;rw[uM rfl];omega
 rw[uV qO];unfold sg;rw[uI qD];omega
theorem Zr2 {z:Int}(h:z.natAbs<2^64):FvOk (cz z)∧Bv 100 (cz z):=by
 have f:=ZnZ h
 have b:oddM z.natAbs<2^64:=vA (vJ _ _) h
 refine⟨⟨ZhZ (pA b) qD,Zcu (show -1000≤((tzn z.natAbs:Nat):Int) by omega) (show ((tzn z.natAbs:Nat):Int)≤1000 by omega),?_,fun d=>?_⟩,⟨xH.2 (rY b qD),⟨show -100≤((tzn z.natAbs:Nat):Int) by omega,show ((tzn z.natAbs:Nat):Int)≤100 by omega⟩,fun a=>?_⟩⟩
 ·rcases uJ z.natAbs with a|a
  ·left;show oddM z.natAbs=0;rw[a,Za7]
  right;exact (kM a).1
 ·have:z<0:=uC d
  exact Zc3 qO
 have e:z.natAbs=0:=Zrz a
 show ((tzn z.natAbs:Nat):Int)=0
 rw[e,ZbX];rfl
def zT (z:Int):ByteArray:=⟨(xC ((z:Int):Rat)).toArray⟩
theorem rd_z (z:Int):wA (bytes (zT z))=some ((z:Int):Rat):=ZbR.2 rfl
theorem Zva {z:Int}(h:z.natAbs<2^64):(bytes (zT z)).length≤570:=by
 show (xC ((z:Int):Rat)).length≤570
 unfold xC
 rw[uM (nL _),nK]
 exact uA (Zl7 (k:=20) qD (uT h qD)) qD
theorem Zvb {z:Int}(h:z.natAbs<2^64):ldV (ftW (cz z))=cz z:=by
 have d:=ZnZ h
 show ldV (⟨(Lib.itoa (sg (decide (z<0)) (oddM z.natAbs))).toArray⟩,((tzn z.natAbs:Nat):Int))=_
 rcases uJ z.natAbs with a|a
 ·have:z=0:=qO
  subst this
  rw[ZmL (Or.inl ⟨by rw[nM,Za7];rfl,by rw[nM,ZbX];rfl⟩),nM,Za7,ZbX,Zh5];rfl
 have b:=(kM a).1
 rw[ZmL (Or.inr ⟨ZkE b,Zcu qO qO⟩)]
 unfold cz
 rw[Zhi]
 congr 1
 have e:=Zc3 (n:=z.natAbs) qO
 cases decide (z<0)<;>simp[sg]<;>omega
section
variable {n c:Nat} {Z:Nat→Nat→Int} {ms:List (Mr Qv)}
def toQr (y:Mr Qv):Qr:=⟨y.A,y.cap,y.xs⟩
theorem Zp4 (ms:List (Mr Qv)):(ms.map toQr).flatMap qrC=ms.flatMap mrC:=by rw[List.flatMap_map];rfl
theorem ZkG {α:Type}[Inhabited α]{l:List α}{n:Nat}(h:l.length=n):l=(List.range n).map (fun i=>l[i]!):=List.ext_getElem (by simp[h]) (fun i a b=>by rw[rM,List.getElem_range,vT l i a])
theorem Zbo {α β:Type}{f g:α→List β}:∀ {l:List α},(∀ a∈l,f a=g a)→l.flatMap f=l.flatMap g
 | [],_=>rfl
 | a :: l,h=>by rw[rI,rI,h a pO,Zbo (fun b d=>h b (List.mem_cons_of_mem _ d))]
theorem QG.txt (h:QG n c ms Z):(ms.map toQr).flatMap (fun r=>r.xs.map qT)=kZ n c (fun a b=>zT (Z a b)):=by
 rw[List.flatMap_map]
 show ms.flatMap (fun r=>r.xs.map qT)=_
 rw[ZkG h.1,List.flatMap_map]
 unfold kZ
 refine Zbo fun a d=>?_
 have d:=sX.1 d
 show (ms[a]!).xs.map qT=_
 rw[ZkG (h.2.1 a d),pV]
 refine List.map_congr_left fun b e=>?_
 show qT (ms[a]!).xs[b]! = _
 unfold qT zT
 rw[h.2.2 a b d (sX.1 e)]
theorem QG.fit (h:QG n c ms Z)(j:∀ a b,a<n→b<c→(Z a b).natAbs≤1000000000):∀ y∈ms.map toQr,∀ x∈y.xs,ml x.q.num.natAbs≤65536∧ml x.q.den≤65536:=fun y l x m=>by
 obtain⟨u,o,rfl⟩:=qF.1 l
 obtain⟨a,f,rfl⟩:=pJ o
 obtain⟨b,g,rfl⟩:=pJ (show x∈(ms[a]).xs from m)
 have d:a<n:=by rw[←h.1];exact f
 have i:ms[a]=ms[a]! := (vT ms a f).symm
 have e:b<c:=by rw[←h.2.1 a d,← i];exact g
 have p:(ms[a]).xs[b]=ms[a]!.xs[b]! := by rw[←vT (ms[a]).xs b g,i]
 show ml ((ms[a]).xs[b]).q.num.natAbs≤65536∧ml ((ms[a]).xs[b]).q.den≤65536
 rw[p,h.2.2 a b d e,nK,nL]
 exact⟨uA (ZgY (k:=10) (vA (j a b d e) qD)) qD,uA (ZgY (k:=1) qD) qD⟩
theorem QG.col (h:QG n c ms Z):∀ y∈ms.map toQr,y.xs.length=c:=fun y d=>by
 obtain⟨u,e,rfl⟩:=qF.1 d
 obtain⟨a,b,rfl⟩:=pJ e
 show (ms[a]).xs.length=c
 rw[←vT ms a b]
 exact h.2.1 a (by rw[←h.1];exact b)
end
theorem Zp5 (m b n c:Nat)(ms:List (Mr Qv))(Z:Nat→Nat→Int)(w:World)(k:OwnD w m 34 1 (some ⟨b,0,none⟩) n n (ms.flatMap mrC))(l:MrOk 32 4 qvC m w ms)(o:QMs w ms)(f:QG n c ms Z)(g:0<n)(p:n≤64)(i:0<c)(q:c≤64)(r:∀ a b,a<n→b<c→(Z a b).natAbs≤1000000000) :
 Ζ 10 #[.slice (some ⟨b,0,none⟩) n n] w (fun e w'=>∃ A d,e=.returned (.agg #[.int .i64 ((n:Nat):Int),.int .i64 ((c:Nat):Int),.slice A (n*c) d])∧OwnD w' w.heap.size 9 1 A d (n*c) ((kZ n c (fun a b=>zT (Z a b))).flatMap stC)∧Ext w w'):=by
 have h:=ZpW m b n c (ms.map toQr) w (by rw[Zp4];exact k) (fun y s=>by
  obtain⟨u,j,rfl⟩:=qF.1 s
  exact⟨l.own u j,o u j⟩) (by rw[vG];exact f.1) g p i q f.col (f.fit r)
 unfold Zjc at h
 rw[f.txt] at h
 exact h
theorem Ztx {m0 n c:Nat}{ts:List ByteArray}{w w':World}{e:Ending}(a:m0≤w.heap.size)(h:∃ A cap,e=.returned (.agg #[.int .i64 ((n:Nat):Int),.int .i64 ((c:Nat):Int),.slice A (n*c) cap])∧OwnD w' w.heap.size 9 1 A cap (n*c) (ts.flatMap stC)∧Ext w w') :
 lD (fun x:Option Addr×Nat=>.agg #[.int .i64 ((n:Nat):Int),.int .i64 ((c:Nat):Int),.slice x.1 (n*c) x.2]) (fun x w=>OwnD w m0 9 1 x.1 x.2 (n*c) (ts.flatMap stC)) w e w':=by
 obtain⟨A,cap,rfl,b,Q⟩:=h
 exact⟨(A,cap),rfl,Q,b.boxN a⟩
end Go.Proofs.YtmpffakfhcpjoaaGreatDoor
namespace Go.Proofs.YtmpffakfhcpjoaaGreatDoor
section
variable {n j i:Nat} {L A:List Fv3} {E T:Int}
theorem Zty {a b:Nat}{v:Fv3}(f:L.length=n*n)(k:j<n)(ha:a<n)(g:b<n):at3 (L.set (i*n+j) v) (a*n+b)=if i=a∧j=b then v else at3 L (a*n+b):=by
 unfold at3
 rw[tC,tC,List.getElem?_set]
 by_cases e:i=a∧j=b
 ·rw[uM e,e.1,e.2,uM rfl,uM (by rw[f];exact gidx ha g)];rfl
 rw[uI e,uI (fun h=>e ?_)]
 have c:i=a:=by
  rcases pF a i with d|d|d
  ·have:=uE n (show a+1≤i by omega)
   rw[rA] at this
   omega
  ·exact d.symm
  have:=uE n (show i+1≤a by omega)
  rw[rA] at this
  omega
 subst c
 exact⟨rfl,qO⟩
theorem ZuJ {Z:Nat→Nat→Int}{a b:Nat}(ha:a<n)(c:b<n):at3 (kZ n n (fun a b=>cz (Z a b))) (a*n+b)=cz (Z a b):=by
 unfold at3
 rw[tC,Zp3 ha c];rfl
end
def glB:Nat→Int
 | 0=>75
 | 1=>225
 | 2=>525
 | _=>600
def gtB:Nat→Int
 | 0=>0
 | 1=>150
 | 2=>450
 | _=>1050
theorem Zp6 (k:Nat):glB k≤600:=by
 match k with
 | 0=>decide
 | 1=>decide
 | 2=>decide
 | _+3=>exact nT _
theorem ZuK {k j:Nat}(a:j≤3)(h:k<j):glB k+glB k≤gtB j:=by
 have:(k=0∧(j=1∨j=2∨j=3))∨(k=1∧(j=2∨j=3))∨(k=2∧j=3):=qO
 rcases this with ⟨rfl,rfl|rfl|rfl⟩|⟨rfl,rfl|rfl⟩|⟨rfl,rfl⟩<;>decide
theorem ZuL {j:Nat}(a:j≤3):0≤gtB j∧gtB j≤1050∧gtB j+142≤2*glB j∧0≤glB j:=by
 have:j=0∨j=1∨j=2∨j=3:=qO
 rcases this with rfl|rfl|rfl|rfl<;>decide
theorem Ztz {j:Nat}(a:j≤2):gtB j+3+71≤glB j:=by
 have:j=0∨j=1∨j=2:=qO
 rcases this with rfl|rfl|rfl<;>decide
def lvF (n:Nat) (L:List Fv3) (a k:Nat):Rat:=if a<k then 0 else fval (at3 L (a*n+k))
theorem Zp7 {n:Nat}{L:List Fv3}{a k:Nat}(h:a<k):lvF n L a k=0:=uM h
theorem Zah {n:Nat}{L:List Fv3}{a k:Nat}(h:k≤a):lvF n L a k=fval (at3 L (a*n+k)):=uI qO
theorem ZdL {r:FR}(h:r.err=0):musT r=some (fvR r):=uM h
theorem ZmM {b:Nat} (hb:0 < b) (hb2:b≤79) {L:List Fv3} {i j n:Nat} {g:Int} (hg:g≤2000) :
 ∀ (f k:Nat) (t:Fv3) (T:Int),7≤T→T + 3 * f≤1000→Nx g T t→(∀ x,k≤x→x < k + f→∃ h,Nx h 3 (at3 L (i * n + x))∧Nx h 3 (at3 L (j * n + x))∧h + h≤g) →
   ∃ t',chK b L i j n f k t=some t'∧Nx g (T + 3 * f) t'∧∃ tf fp:Nat→Rat,tf k=fval t∧tf (k + f)=fval t'∧∀ x,k≤x→x < k + f→Fl (2 ^ (-(b:Int))) (fval (at3 L (i * n + x)) * fval (at3 L (j * n + x))) (fp x)∧Fl (2 ^ (-(b:Int))) (tf x - fp x) (tf (x + 1))
 | 0,k,t,T,_,_,hN,_=>⟨t,rfl,hN.weak (nT _) qO,fun _=>fval t,fun _=>0,rfl,rfl,fun x h1 h2=>qO⟩
 | f + 1,k,t,T,h7,hT,hN,hx=>by
  obtain ⟨h,x1,x2,x3⟩:=hx k (uF _) qO
  have m:=Zs8 hb hb2 x1 x2 qO qO
  have s:=Zta hb hb2 hN (m.nx.weak qO qO) qO qO
  obtain ⟨t',e1,e2,tf,fp,e3,e4,e5⟩:=ZmM hb hb2 hg f (k + 1) _ (T + 3) qO qO s.nx (fun x h1 h2=>hx x qO qO)
  refine ⟨t',?_,e2.weak (nT _) qO,fun x=>if x=k then fval t else tf x,fun x=>if x=k then fval (fvR (mulV (at3 L (i * n + k)) (at3 L (j * n + k)) b)) else fp x,uM rfl,?_,fun x h1 h2=>?_⟩
  ·unfold chK Zbm
   rw [ZdL m.er,qZ,ZdL s.er,qZ]
   exact e1
  ·dsimp only; rw [uI qO,← e4]; congr 1; omega
  ·dsimp only
   by_cases hk:x=k
   ·subst hk
    rw [uM rfl,uM rfl,uI qO,e3]
    exact ⟨m.rs.fl hb,s.rs.fl hb⟩
   ·rw [uI hk,uI hk,uI qO]
    exact e5 x qO qO
structure ChInv (n:Nat) (B:Nat→Nat→Rat) (u:Rat) (j:Nat) (L:List Fv3):Prop where
 len:L.length=n*n
 z:∀ a k,a<n→k<n→(j≤k∨a<k)→at3 L (a*n+k)=(false,0,0)
 nx:∀ a k,k<j→k≤a→a<n→Nx (glB k) 3 (at3 L (a*n+k))
 pos:∀ k,k<j→0<lvF n L k k
 near:∀ k,k<j→∀ i,k≤i→i<n→∀ S,0≤S→mB n B i i*mB n B k k≤S*S → -((4*k+7)*(u*S))≤sm (k+1) (fun x=>lvF n L i x*lvF n L k x)-mB n B i k∧sm (k+1) (fun x=>lvF n L i x*lvF n L k x)-mB n B i k≤(4*k+7)*(u*S)
section
variable {n j:Nat} {B:Nat→Nat→Rat} {u:Rat} {L:List Fv3}
theorem Zhj (i:Nat):1≤mB n B i i:=by
 have:=ZaL (B i) n
 unfold mB;rw[uM rfl];grind
theorem Zp8 (a:∀ i,i<n→mB n B i i≤17){i k:Nat}(hi:i<n)(c:k<n):mB n B i i*mB n B k k≤(18:Rat)*18:=by
 have d:=a i hi;have e:=a k c;have f:=Zhj (n:=n) (B:=B) i;have g:=Zhj (n:=n) (B:=B) k
 have h:mB n B i i*mB n B k k≤17*mB n B k k:=uX d (by grind)
 grind
theorem ChInv.short (c:0≤u)(r:u≤1/4096)(g:∀ i,i<n→mB n B i i≤17)(s:n≤4)(l:j≤3)(m:∀ k,k<j→0<lvF n L k k)(o:∀ k,k<j→∀ i,k≤i→i<n→∀ S,0≤S→mB n B i i*mB n B k k≤S*S → -((4*k+7)*(u*S))≤sm (k+1) (fun x=>lvF n L i x*lvF n L k x)-mB n B i k∧sm (k+1) (fun x=>lvF n L i x*lvF n L k x)-mB n B i k≤(4*k+7)*(u*S)){i:Nat}(d:j≤i)(hi:i<n):sm j (fun k=>lvF n L i k*lvF n L i k)≤mB n B i i-1+1026/4096:=by
 obtain⟨t,v⟩:=ZcV l
 have p:0≤(3-(j:Rat))*u:=vV (by grind) c
 have q:ResJ n B (lvF n L) (342*u) j:=fun k e i f hi=>by
  obtain⟨w,y⟩:=ZcV (show k≤3 by omega)
  obtain⟨z,r2⟩:=o k e i f hi 18 qD (Zp8 g hi qO)
  have p:0≤(3-(k:Rat))*u:=vV (by grind) c
  constructor<;>grind
 have:=Zow (fun a k h=>Zp7 h) (fun k e=>by have:=m k e;grind) q (by grind) (by grind) d hi
 grind
end
structure ColInv (n:Nat) (B:Nat→Nat→Rat) (u:Rat) (j i:Nat) (L0 L:List Fv3):Prop where
 len:L.length=n*n
 same:∀ a k,a<n→k<n→(k≠j∨a<j∨i≤a)→at3 L (a*n+k)=at3 L0 (a*n+k)
 nx:∀ a,j≤a→a<i→Nx (glB j) 800 (at3 L (a*n+j))
 dj:j<i→Nx (glB j) 3 (at3 L (j*n+j))∧0<lvF n L j j
 near:∀ a,j≤a→a<i→∀ S,0≤S→mB n B a a*mB n B j j≤S*S → -((4*j+7)*(u*S))≤sm (j+1) (fun x=>lvF n L a x*lvF n L j x)-mB n B a j∧sm (j+1) (fun x=>lvF n L a x*lvF n L j x)-mB n B a j≤(4*j+7)*(u*S)
section
variable {n j b:Nat} {B:Nat→Nat→Rat} {L L0 As:List Fv3}
theorem Zr3 {x:Rat}{c:Rat}(a:0<c)(h:x*x<c*c) : -c<x∧x<c:=by
 have d:=(iI (x:=x) (S:=c) (by grind) (by grind)).1
 have f:=(iI (x:=x) (S:=c) (by grind) (by grind)).2
 have g:x≠c:=fun e=>by subst e;grind
 have i:x ≠ -c:=fun e=>by subst e;grind
 constructor<;>grind
theorem two3:(2:Rat)^(3:Int)=8:=qD
theorem ZeR (a:12≤b):(0:Rat)≤2^(-(b:Int))∧(2:Rat)^(-(b:Int))≤1/4096:=by
 refine⟨qB (gM _),?_⟩
 have:=Zni (show -(b:Int) ≤ -12 by omega)
 have e:(2:Rat)^(-12:Int)=1/4096:=by
  rw[show (-12:Int) = -((12:Nat):Int) from rfl,mS,fF,oF,Rat.one_mul];rfl
 rwa [e] at this
theorem ZkH {v:Fv3}{g T:Int}(_:Nx g T v)(h:0<fval v):v.1=false∧0<v.2.1:=by
 obtain⟨s,m,e⟩:=v
 have a:0<m:=rC fun a=>by
  subst a;rw[aR] at h;exact absurd h qD
 refine⟨?_,a⟩
 cases s
 ·rfl
 rw[dD] at h
 have:=mJ (pS.2 a) (gM e)
 have c:0 < -((m:Rat)*2^e):=h
 exfalso;grind
theorem ZrA (hb:12≤b)(c0:b≤71)(hn:n≤4)(R:∀ i,i<n→mB n B i i≤17)(hA:∀ i k,i<n→k<n→Nx 0 7 (at3 As (i*n+k))∧fval (at3 As (i*n+k))=mB n B i k)(f:j<n)(T:ChInv n B (2^(-(b:Int))) j L0){i:Nat}(z:j≤i)(hi:i<n)(w:ColInv n B (2^(-(b:Int))) j i L0 L) :
 ∃ U,((chK b L i j n j 0 (at3 As (i*n+j))).bind fun t=>(chE b L i j n t).bind fun v=>some (L.set (i*n+j) v))=some U∧ColInv n B (2^(-(b:Int))) j (i+1) L0 U∧∃ v,U=L.set (i*n+j) v∧((chK b L i j n j 0 (at3 As (i*n+j))).bind fun t=>chE b L i j n t)=some v:=by
 obtain⟨m,A⟩:=ZeR hb
 have o:j≤3:=qO
 obtain⟨j0,j3⟩:=ZcV o
 obtain⟨W,d0,e0,f0⟩:=ZuL o
 have b0:=Zp6 j
 have g0:(b:Int)≤71:=qO
 -- the columns before
 have I:∀ a k,a<n→k<j→at3 L (a*n+k)=at3 L0 (a*n+k):=fun a k r l=>w.same a k r qO (Or.inl qO)
 have X:∀ a k,a<n→k<j→lvF n L a k=lvF n L0 a k:=fun a k r l=>by unfold lvF;rw[I a k r l]
 have J:∀ a k,k<j→k≤a→a<n→Nx (glB k) 3 (at3 L (a*n+k)):=fun a k y H Q=>by rw[I a k Q y];exact T.nx a k y H Q
 have K:∀ a,j≤a→a<n→sm j (fun k=>lvF n L a k*lvF n L a k)≤mB n B a a-1+1026/4096:=fun a y H=>by
  rw[xZ (g:=fun k=>lvF n L0 a k*lvF n L0 a k) (fun k l=>by rw[X a k H l])]
  exact ChInv.short m A R hn o T.pos T.near y H
 obtain⟨a1,a2⟩:=hA i j hi f
 obtain⟨t,e1,e2,Y,fp,e3,e4,e5⟩:=ZmM (b:=b) qO qO (L:=L) (i:=i) (j:=j) (n:=n) (g:=gtB j) qO j 0 (at3 As (i*n+j)) 7 qO qO (a1.weak W qO)
  (fun x _ hx=>⟨glB x,J i x qO qO hi,J j x qO qO f,ZuK o qO⟩)
 rw[vZ] at e4
 have C:Nx (gtB j) 16 t:=e2.weak (nT _) qO
 have eF:∀ k,k<j→Fl (2^(-(b:Int))) (lvF n L i k*lvF n L j k) (fp k)∧Fl (2^(-(b:Int))) (Y k-fp k) (Y (k+1)):=fun k l=>by
  rw[Zah qO,Zah qO];exact e5 k (vS _) qO
 have i0:=K j (uF _) f
 have k0:=K i z hi
 have l0:=R j f;have m0:=Zhj (n:=n) (B:=B) j
 have M:∀ S:Rat,0≤S→mB n B i i*mB n B j j≤S*S→_:=fun S s d =>
  ZtT (B:=B) (L:=lvF n L) (i:=i) (j:=j) (fp:=fp) (t:=Y) m A (S:=S) s d o (by grind) (by grind) (by rw[e3];exact a2) (fun k l=>(eF k l).1) (fun k l=>(eF k l).2)
 rw[e4] at M
 -- the new element
 suffices hv:∃ v,chE b L i j n t=some v∧Nx (glB j) 800 v∧(i=j→Nx (glB j) 3 v∧0<fval v)∧∀ S:Rat,0≤S→mB n B i i*mB n B j j≤S*S →
  -((4*j+7)*(2^(-(b:Int))*S))≤sm j (fun x=>lvF n L i x*lvF n L j x)+fval v*(if i=j then fval v else lvF n L j j)-mB n B i j∧sm j (fun x=>lvF n L i x*lvF n L j x)+fval v*(if i=j then fval v else lvF n L j j)-mB n B i j≤(4*j+7)*(2^(-(b:Int))*S) by
  obtain⟨v,v1,v2,v3,v4⟩:=hv
  refine⟨L.set (i*n+j) v,by rw[e1,qZ,v1,qZ],?_,v,rfl,by rw[e1,qZ,v1]⟩
  have D:∀ a k,a<n→k<n→at3 (L.set (i*n+j) v) (a*n+k)=if i=a∧j=k then v else at3 L (a*n+k):=fun a k r l=>Zty w.len f r l
  have p:∀ a k,a<n→k<n→¬ (i=a∧j=k)→lvF n (L.set (i*n+j) v) a k=lvF n L a k:=fun a k r l h=>by unfold lvF;rw[D a k r l,uI h]
  refine⟨by rw[tM];exact w.len,fun a k r l h=>?_,fun a y H=>?_,fun h=>?_,fun a y H S s d=>?_⟩
  ·rw[D a k r l,uI qO];exact w.same a k r l qO
  ·rw[D a j qO f]
   by_cases e:i=a
   ·rw[uM ⟨e,rfl⟩];exact v2
   rw[uI qO];exact w.nx a y qO
  ·by_cases e:i=j
   ·subst e
    obtain⟨w1,w2⟩:=v3 rfl
    rw[Zah (uF _),D i i hi hi,uM ⟨rfl,rfl⟩]
    exact⟨w1,w2⟩
   rw[p j j f f qO,D j j f f,uI qO]
   exact w.dj qO
  by_cases e:i=a
  ·subst e
   have Q:=v4 S s d
   rw[sm,xZ (g:=fun x=>lvF n L i x*lvF n L j x) (fun x hx=>by rw[p i x hi qO qO,p j x f qO qO])]
   rw[show lvF n (L.set (i*n+j) v) i j=fval v by rw[Zah z,D i j hi f,uM ⟨rfl,rfl⟩]]
   rw[show lvF n (L.set (i*n+j) v) j j=if i=j then fval v else lvF n L j j by
    by_cases e:i=j
    ·subst e;rw[uM rfl,Zah z,D i i hi f,uM ⟨rfl,rfl⟩]
    rw[uI e,p j j f f qO]]
   exact Q
  rw[xZ (g:=fun x=>lvF n L a x*lvF n L j x) (fun x hx=>by rw[p a x qO qO qO,p j x f qO qO])]
  exact w.near a y qO S s d
 by_cases E:i=j
 ·-- the root
  subst E
  have ej:=M (mB n B i i) (by grind) nR
  have N:0<fval t:=by
   have h7:(2:Rat)^(-(b:Int))*mB n B i i≤1/4096*17:=by
    have h8:(2:Rat)^(-(b:Int))*mB n B i i≤1/4096*mB n B i i:=uX A (by grind)
    grind
   have h9:0≤(2:Rat)^(-(b:Int))*mB n B i i:=vV m (by grind)
   have Z:0≤(3-(i:Rat))*((2:Rat)^(-(b:Int))*mB n B i i):=vV (by grind) h9
   have:=ej.1.1
   grind
  obtain⟨s1,s2⟩:=ZkH C N
  obtain⟨q1,q2,q3,q4,q5⟩:=Zrd (b:=b) qO qO C s1 s2 (G:=glB i) (V:=10) qO qO qO qO
  have hq:=ZsA m A q4 q5
  have F:chE b L i i n t=some (fvR (iP t b)):=by
   unfold chE
   have a0:¬ sgnV t≤0:=by unfold sgnV;rw[uI qO,s1];decide
   rw[uI (rF _),uI a0,ZdL q1]
  have n0:=(M 18 qD (Zp8 R hi hi)).2
  have o0:(2:Rat)^(-(b:Int))*fval t≤1/4096*fval t:=uX A (by grind)
  have Z:0≤(3-(i:Rat))*(2:Rat)^(-(b:Int)):=vV (by grind) m
  generalize fvR (iP t b)=v at *
  have O:=Zr3 (x:=fval v) (c:=8) qD (by grind)
  refine⟨v,F,q2.weak (nT _) qO,fun _=>⟨q2.top (by rw[two3];exact O.1) (by rw[two3];exact O.2),q3⟩,fun S s d=>?_⟩
  rw[uM rfl]
  have P:=M S s d
  exact Zqw m A s o P.1 P.2.2 hq
 -- the quotient
 obtain⟨d1,d2⟩:=w.dj qO
 rw[Zah (uF _)] at d2
 obtain⟨_,s2⟩:=ZkH d1 d2
 have hd:=Ztz (show j≤2 by omega)
 have q:=Ztb (b:=b) qO qO C d1 s2 (G:=glB j) (V:=800) qO qO qO qO
 have F:chE b L i j n t=some (fvR (divV t (at3 L (j*n+j)) b)):=by
  unfold chE
  rw[uM qO,ZdL q.er]
 refine⟨_,F,q.nx,fun h=>absurd h E,fun S s d=>?_⟩
 rw[uI E,Zah (uF _)]
 have P:=M S s d
 exact Zss m A s o d2 P.1 P.2 (q.rs.fl qO)
theorem ZmN (e:12≤b)(a:b≤71)(g:n≤4)(l:∀ i,i<n→mB n B i i≤17)(m:∀ i k,i<n→k<n→Nx 0 7 (at3 As (i*n+k))∧fval (at3 As (i*n+k))=mB n B i k)(o:j<n)(p:ChInv n B (2^(-(b:Int))) j L0):∀ (f i:Nat) (L:List Fv3),j≤i→i+f=n→ColInv n B (2^(-(b:Int))) j i L0 L→∃ c,chI b As n j f i L=some c∧ColInv n B (2^(-(b:Int))) j n L0 c
 | 0,i,L,_,h,hc=>⟨L,rfl,by
  have:i=n:=qO
  subst this;exact hc⟩
 | f+1,i,L,hji,h,hc=>by
  obtain⟨c,_,q,v,rfl,r⟩:=ZrA e a g l m o p hji qO hc
  obtain⟨d,s,w⟩:=ZmN e a g l m o p f (i+1) _ qO qO q
  refine⟨d,?_,w⟩
  unfold chI
  obtain⟨t,x,y⟩:=tJ.1 r
  rw[x,qZ,y,qZ]
  exact s
theorem ColInv.done (D:12≤b)(E:n≤4)(t:∀ i,i<n→mB n B i i≤17)(v:j<n)(r:ChInv n B (2^(-(b:Int))) j L0)(f:ColInv n B (2^(-(b:Int))) j n L0 L):ChInv n B (2^(-(b:Int))) (j+1) L:=by
 obtain⟨s,F⟩:=ZeR D
 have l:∀ a k,a<n→k<j→lvF n L a k=lvF n L0 a k:=fun a k d m=>by unfold lvF;rw[f.same a k d qO (Or.inl qO)]
 have w:∀ k,k<j+1→0<lvF n L k k:=fun k m=>by
  by_cases e:k=j
  ·subst e;exact (f.dj v).2
  rw[l k k qO qO];exact r.pos k qO
 have y:∀ k,k<j+1→∀ i,k≤i→i<n→∀ S,0≤S→mB n B i i*mB n B k k≤S*S → -((4*k+7)*(2^(-(b:Int))*S))≤sm (k+1) (fun x=>lvF n L i x*lvF n L k x)-mB n B i k∧sm (k+1) (fun x=>lvF n L i x*lvF n L k x)-mB n B i k≤(4*k+7)*(2^(-(b:Int))*S):=fun k m i o hi S A p=>by
  by_cases e:k=j
  ·subst e;exact f.near i o hi S A p
  rw[xZ (g:=fun x=>lvF n L0 i x*lvF n L0 k x) (fun x I=>by rw[l i x hi qO,l k x qO qO])]
  exact r.near k qO i o hi S A p
 refine⟨f.len,fun a k d m h=>?_,fun a k m q d=>?_,w,y⟩
 ·rw[f.same a k d m qO];exact r.z a k d m qO
 by_cases e:k=j
 ·subst e
  by_cases G:a=k
  ·subst G;exact (f.dj v).1
  have H:=ChInv.short (L:=L) s F t E (show k+1≤3 by omega) w y (i:=a) qO d
  have J:=ZaL (lvF n L a) k
  have K:=t a d
  rw[sm,Zah q] at H
  have C:=Zr3 (x:=fval (at3 L (a*n+k))) (c:=8) qD (by grind)
  exact (f.nx a qO d).top (by rw[two3];exact C.1) (by rw[two3];exact C.2)
 rw[f.same a k d qO (Or.inl e)];exact r.nx a k qO q d
theorem ZmO (e:12≤b)(c:b≤71)(g:n≤4)(l:∀ i,i<n→mB n B i i≤17)(o:∀ i k,i<n→k<n→Nx 0 7 (at3 As (i*n+k))∧fval (at3 As (i*n+k))=mB n B i k) :
 ∀ (f j:Nat) (L:List Fv3),j+f=n→ChInv n B (2^(-(b:Int))) j L→∃ d,chJ b As n f j L=some d∧ChInv n B (2^(-(b:Int))) n d
 | 0,j,L,h,hc=>⟨L,rfl,by
  have:j=n:=qO
  subst this;exact hc⟩
 | f+1,j,L,h,hc=>by
  obtain⟨d,p,q⟩:=ZmN e c g l o (show j<n by omega) hc (n-j) j L (uF _) qO ⟨hc.len,fun _ _ _ _ _=>rfl,fun a r s=>qO,fun h=>qO,fun a r s=>qO⟩
  obtain⟨m,t,v⟩:=ZmO e c g l o f (j+1) d qO (q.done e g l qO hc)
  refine⟨m,?_,v⟩
  unfold chJ
  rw[p,qZ]
  exact t
theorem ZtA {m i:Nat}:at3 (List.replicate m ((false,0,0):Fv3)) i=(false,0,0):=by
 unfold at3
 rw[tC,pE]
 split<;>rfl
theorem Zp9 (c:12≤b)(a:b≤71)(d:n≤4)(e:∀ i,i<n→mB n B i i≤17)(f:∀ i k,i<n→k<n→Nx 0 7 (at3 As (i*n+k))∧fval (at3 As (i*n+k))=mB n B i k) :
 ∃ Lf,ZaT b As n=some Lf∧ChInv n B (2^(-(b:Int))) n Lf :=
 ZmO c a d e f n 0 _ qO ⟨by rw[tZ],fun _ _ _ _ _=>ZtA,fun _ _ h=>qO,fun _ h=>qO,fun _ h=>qO⟩
end
end Go.Proofs.YtmpffakfhcpjoaaGreatDoor
namespace Go.Proofs.YtmpffakfhcpjoaaGreatDoor
open Go.RowKit Tryz
section
variable {P:Program} {o:Oper} {ρ:Operand→Value} {w:World} {t e:TypeId} {x:Operand}
theorem ZrB {g len cap off l h n m sz:Nat}{lo hi:Operand}(c:l≤h)(a:h≤cap)(f:l<cap)(j:h-l=n)(k:cap-l=m)(p:o.op=Op.slice t x (some lo) (some hi) none:=by kernel_rfl)(q:P.underlying t=some (.slice e):=by kernel_rfl)(r:(P.info? e).map (fun i=>i.size)=some sz:=by kernel_rfl)(s:ρ x=.slice (some ⟨g,off,none⟩) len cap:=by kernel_rfl)(u:ρ lo=.int .i64 (l:Int):=by kernel_rfl)(v:ρ hi=.int .i64 (h:Int):=by kernel_rfl):(execOp ρ o).run P w=.ok (.value (.slice (some ⟨g,off+l*sz,none⟩) n m)) w:=by
 subst j k
 obtain⟨y,b,z⟩:=vM.1 r
 have d:¬ cap=l:=qO
 simp[execOp,p,Instr.sliceAt,Instr.slice,Instr.sliceBounds,Instr.sliceBound,asIntOf,underlying,q,s,u,v,c,a,sizeOf,typeInfo,b,z,Result.andThen,d,jL]
end
theorem ZuM {r c:Nat}{ts:List ByteArray}(h:mtB r c ts=true):1≤r∧r≤64∧1≤c∧c≤64∧ts.length=r*c∧∀ s∈ts,(wA (bytes s)).isSome=true:=by
 unfold mtB at h
 rw[sA,decide_eq_true_iff] at h
 obtain⟨⟨f,g,i,j,a⟩,b⟩:=h
 rw[←tG] at a
 exact⟨qO,qO,qO,qO,qO,fun s d=>vI.1 b s d⟩
theorem ZtB {m0:Nat}{ts:List ByteArray}{w w':World}{e:Ending}(a:m0≤w.heap.size)(h:∃ b xs,e=.returned (.tuple #[.slice (some ⟨b,0,none⟩) ts.length ts.length,.bool true])∧xs.map (·.q)=ts.map (fun t=>valF (bytes t))∧OwnD w' w.heap.size 32 4 (some ⟨b,0,none⟩) ts.length ts.length (xs.flatMap qvC)∧QsOk w' xs∧Ext w w') :
 lD (fun x:{x:Nat × List Qv // x.2.map (·.q)=ts.map (fun t=>valF (bytes t))∧m0≤x.1}=>.tuple #[.slice (some ⟨x.1.1,0,none⟩) ts.length ts.length,.bool true]) (fun x w=>OwnD w m0 32 4 (some ⟨x.1.1,0,none⟩) ts.length ts.length (x.1.2.flatMap qvC)∧QsOk w x.1.2) w e w':=by
 obtain⟨b,xs,rfl,d,c,f,Q⟩:=h
 exact⟨⟨(b,xs),d,uA a (c.blk rfl).1⟩,rfl,Q,(c.boxN a).and (boxn Q (fun S g i j=>f.nrb i j))⟩
instance {m:Nat} {ts:List ByteArray}:Nonempty {x:Nat × List Qv // x.2.map (·.q)=ts.map (fun t=>valF (bytes t))∧m≤x.1}:=⟨⟨(m,ts.map (fun t=>⟨qv0.c,valF (bytes t)⟩)),by rw[pV];rfl,uF _⟩⟩
def rOne (b:Nat) (xs:List Qv) (c N i:Nat):Mr Qv:=⟨some ⟨b,0+i*c*4,none⟩,N-i*c,(xs.drop (i*c)).take c⟩
def rO (b:Nat) (xs:List Qv) (c N k:Nat):List (Mr Qv):=(List.range k).map (rOne b xs c N)
theorem ZeS {b c N k:Nat}{xs:List Qv}:(rO b xs c N k).length=k:=by unfold rO;simp
theorem ZtC {b c N:Nat}{xs:List Qv}:rO b xs c N 0=[]:=rfl
theorem ZuN {b c N k r:Nat}{xs:List Qv}(h:k<r):(fill r (mr0:Mr Qv) (rO b xs c N k)).set k (rOne b xs c N k)=fill r (mr0:Mr Qv) (rO b xs c N (k+1)):=by
 rw[Za4 ZeS h]
 unfold rO
 rw[mP,nJ,nQ]
theorem ZuO {b c N r:Nat}{xs:List Qv}:fill r (mr0:Mr Qv) (rO b xs c N r)=rO b xs c N r:=by
 have:=Zay (z:=(mr0:Mr Qv)) (l:=rO b xs c N r)
 rwa [ZeS] at this
theorem Zf5 {c i:Nat}{xs:List Qv}(h:(i+1)*c≤xs.length):((xs.drop (i*c)).take c).length=c:=by
 rw[rA] at h
 rw[uN,tB];omega
def Zn0 (r c:Nat) (ts:List ByteArray) (w:World) (e:Ending) (w':World):Prop:=∃ b bl xs,e=.returned (.tuple #[.slice (some ⟨b,0,none⟩) r r,.bool true])∧xs.map (·.q)=ts.map (fun t=>valF (bytes t))∧OwnD w' w.heap.size 34 1 (some ⟨b,0,none⟩) r r ((rO bl xs c ts.length r).flatMap mrC)∧OwnD w' w.heap.size 32 4 (some ⟨bl,0,none⟩) ts.length ts.length (xs.flatMap qvC)∧QsOk w' xs∧Ext w w'
theorem ZrC (r c:Nat)(A:qA)(cap:Nat)(ts:List ByteArray)(w:World)(hS:SRd w A ts)(hs:∀ s∈ts,s.size≤100000)(hv:mtB r c ts=true) :
 Ζ 13 #[.agg #[.int .i64 ((r:Nat):Int),.int .i64 ((c:Nat):Int),.slice A ts.length cap]] w (Zn0 r c ts w):=by
 obtain⟨m0,E⟩:∃ m,m=w.heap.size:=⟨_,rfl⟩
 obtain⟨a0,M,b0,N,O,S⟩:=ZuM hv
 have c0:r*c≤64*64:=vK M N
 refine zU (Φ:=fun w=>True) func13 rfl qK (fun w' hf=>trivial) ?_
 refine yY (xq 3 [Δ 1,eS1 2 none 0 0,yB 3 false] [(1,44,[Γ r,Γ c,Λ A ts.length cap])] ?_)
 refine yZ (zC (yY (xq 4 [yB 11 (decide ((r:Int)<1))] [] ?_)))
 rcases bl2 ((decide ((r:Int)<1))) with f|f
 ·rw[f]
  have H:=uC f
  exfalso;omega
 rw[f]
 have H:=uD f
 refine xq 5 [yB 16 (decide ((r:Int)>64))] [] ?_
 rcases bl2 ((decide ((r:Int)>64))) with n|n
 ·rw[n]
  have I:=uC n
  exfalso;omega
 rw[n]
 have I:=uD n
 refine xq 5 [yB 21 (decide ((c:Int)<1))] [] ?_
 rcases bl2 ((decide ((c:Int)<1))) with u|u
 ·rw[u]
  have J:=uC u
  exfalso;omega
 rw[u]
 have J:=uD u
 refine xq 5 [yB 26 (decide ((c:Int)>64))] [] ?_
 rcases bl2 ((decide ((c:Int)>64))) with B|B
 ·rw[B]
  have K:=uC B
  exfalso;omega
 rw[B]
 have K:=uD B
 refine xq 8 [yJ 29 ts.length,yJ 34 (IntKind.i64.wrap ((r:Int)*(c:Int)))] [] ?_
 rw[(show IntKind.i64.wrap ((r:Int)*(c:Int))=((r*c:Nat):Int) from ZaA qO qO)]
 refine xq 1 [yB 35 ((((ts.length:Nat):Int):Int) != ((r*c:Nat):Int))] [] ?_
 rw[(show ((((ts.length:Nat):Int):Int) != ((r*c:Nat):Int))=false from Zf1 (by rw[O]))]
 refine xq 1 [yB 36 false] [] ?_
 refine yZ (xb (zJ (zA (yY (xq 2 [eS1 39 A ts.length cap] [] ?_)))))
 refine xqc 36 [.slice A ts.length cap] 40 (fun x:{x:Nat × List Qv // x.2.map (·.q)=ts.map (fun t=>valF (bytes t))∧m0≤x.1}=>.tuple #[Υ x.1.1 ts.length,.bool true]) _ (fun w R Q=>(Zrx A cap ts _ (hS.ext R) hs qO S).mono (fun _ _ h=>ZtB (m0:=m0) (E ▸ R.size) h)) fun xx=>?_
 obtain⟨⟨C,G⟩,L,d0⟩:=xx
 have e0:G.length=r*c:=by have:=vP List.length L;rw[vG,vG] at this;rw[this];exact O
 refine xq 5 [eS1 4 (yL C) ts.length ts.length,yB 5 true] [] ?_
 refine yZ (zC (yY (xq 2 [yB 44 false] [] ?_)))
 refine yZ (xb (zJ (zA (yY (xq 2 [yJ 46 r] [] ?_)))))
 refine yD (d:=47) (fun T:{b:Nat // m0≤b}=>Υ T.1 r) (fun T w=>OwnD w m0 34 1 (yL T.1) r r ((List.replicate r (mr0:Mr Qv)).flatMap mrC)) (fun w R Q=>iO (t:=26) (e:=34) (kl:=.i64) (kc:=.i64) (l:=.tmp 46) (c:=.tmp 46) (bytes:=24) (z:=Ξ) (mr0:Mr Qv) ZaC qD rfl Zhf (E ▸ R.size) (by simp only[maxLen];omega) qO) fun⟨a,V⟩=>?_
 refine xr 1 [Δ 1,eS1 2 none 0 0,yB 3 false,eS1 4 (yL C) ts.length ts.length,eS1 6 (yL a) r r] [(1,44,[Γ r,Γ c,Λ A ts.length cap])] ?_
 refine yZ (zC (yY (xq 1 [yJ 7 0] [] ?_)))
 refine yZ (zQ ?_)
 refine xO (fun W X Y=>∃ (k:Nat),X=ofL [Δ 1,eS1 2 none 0 0,yB 3 false,eS1 4 (yL C) ts.length ts.length,eS1 6 (yL a) r r,yJ 7 k] [(1,44,[Γ r,Γ c,Λ A ts.length cap])]∧Y=(fun w=>((OwnD w m0 32 4 (yL C) ts.length ts.length (G.flatMap qvC)∧QsOk w G)∧OwnD w m0 34 1 (yL a) r r ((fill r (mr0:Mr Qv) (rO C G c ts.length k)).flatMap mrC)))∧(k≤r)∧W=(1+(r-k))) ((1+(r-0))) ⟨0,rfl,rfl,(vS _),rfl⟩ (fun w Q=>⟨⟨Q.1.2.1,Q.1.2.2⟩,(by rw[ZtC,Zaz];exact Q.2)⟩) ?_
 rintro W X Y ⟨k,rfl,rfl,hk,rfl⟩
 refine zC (yY (xq 4 [yB 51 (decide ((k:Int)<(r:Int)))] [] ?_))
 refine xe (zA ?_)
 refine yQ ((decide ((k:Int)<(r:Int)))) (fun F=>?_) fun F=>?_
 ·have D:k<r:=by have:=uC F;omega
  refine zJ (zA (zC (zQ (zB (xq 7 [eS1 54 (yL a) r r,yJ 55 k,eS1 56 (yL C) ts.length ts.length,yJ 60 (IntKind.i64.wrap ((k:Int)*(c:Int)))] [] ?_)))))
  rw[(show IntKind.i64.wrap ((k:Int)*(c:Int))=((k*c:Nat):Int) from ZaA qO qO)]
  refine xq 2 [yJ 62 (IntKind.i64.wrap ((k:Int)+1))] [] ?_
  rw[(show IntKind.i64.wrap ((k:Int)+1)=((k+1:Nat):Int) by rw[IntKind.wrap_i64];omega)]
  refine xq 3 [yJ 65 (IntKind.i64.wrap (((k+1:Nat):Int)*(c:Int)))] [] ?_
  rw[(show IntKind.i64.wrap (((k+1:Nat):Int)*(c:Int))=(((k+1)*c:Nat):Int) from ZaA qO qO)]
  have f0:(k+1)*c≤ts.length:=by rw[O];exact uE c D
  have g0:(k+1)*c=k*c+c:=rA k c
  refine xqk 66 (.slice (some ⟨C,0+k*c*4,none⟩) c (ts.length-k*c)) (fun w R Q=>ZrB (t:=34) (e:=32) (sz:=4) (x:=.tmp 56) (lo:=.tmp 60) (hi:=.tmp 65) (g:=C) (len:=ts.length) (cap:=ts.length) (off:=0) (l:=k*c) (h:=(k+1)*c) qO qO qO qO rfl) ?_
  refine xqk 67 (.pointer (some ⟨a,0+k*1,none⟩)) (fun w R Q=>jV (t:=26) (e:=34) (sz:=1) (x:=.tmp 54) (ix:=.tmp 55) (len:=r) (cap:=r) (i:=k) D) ?_
  refine dC (t:=34) (x:=.tmp 67) (y:=.tmp 66) (j:=k) (new:=mrC ((rOne C G c ts.length k))) m0 a (.slice (some ⟨C,0+k*c*4,none⟩) c (ts.length-k*c)) (fun w=>(OwnD w m0 32 4 (yL C) ts.length ts.length (G.flatMap qvC)∧QsOk w G)) (fun w Q=>Q.2) D rfl qD (fun h=>Or.inl (uA (E ▸ uF _) h)) (by simp[mrC,Value.oneCell']) (Zhf _) (by unfold mrC rOne;rw[Zf5 qO];rfl) (fun w w' Q Z=>⟨OwnD.apart Q.1.1 Q.2 qD Z,QsOk.row Q.1.2 Q.2 Z⟩) ?_
  rw[←jU ZaC ((fill r (mr0:Mr Qv) (rO C G c ts.length k))) k ((rOne C G c ts.length k)) (by rw[Zax (by rw[ZeS];omega)];exact D),ZuN D]
  refine xr 0 [Δ 1,eS1 2 none 0 0,yB 3 false,eS1 4 (yL C) ts.length ts.length,eS1 6 (yL a) r r,yJ 7 k] [(1,44,[Γ r,Γ c,Λ A ts.length cap])] ?_
  refine xe (xR (zA (zB (xq 2 [yJ 53 (IntKind.i64.wrap ((k:Int)+1))] [] ?_))))
  rw[yW ((k:Int)+1) (((k+1:Nat):Int)) qO]
  refine xq 1 [yJ 7 (k+1:Nat)] [] ?_
  refine xe ?_
  exact xK ((1+(r-(k+1)))) qO ⟨(k+1),rfl,rfl,D,rfl⟩ (fun w Q=>⟨⟨Q.1.1,Q.1.2⟩,Q.2⟩)
 have U:k=r:=by have:=uD F;omega
 refine xM (zE (zE (xW (zA (yY (xq 3 [eS1 2 (yL a) r r,yB 3 true] [] ?_))))))
 refine yZ (zH ?_)
 refine yR (.tuple #[Υ a r,.bool true]) fun w' R Q=>?_
 exact⟨a,C,G,rfl,L,by have h:=Q.2;rw[U,ZuO] at h;exact E ▸ h,E ▸ Q.1.1,Q.1.2,R⟩
def Zvc (w:World) (rs:List (Mr Qv)):Prop:=∀ y∈rs,RdD 32 4 qvC w y.A y.xs∧QsOk w y.xs
theorem ZuP {w:World}{m b c r N:Nat}{xs:List Qv}(h:OwnD w m 32 4 (some ⟨b,0,none⟩) N N (xs.flatMap qvC))(e:QsOk w xs)(g:xs.length=r*c):Zvc w (rO b xs c N r):=fun y d=>by
 unfold rO at d
 obtain⟨i,hi,rfl⟩:=qF.1 d
 have hi:=sX.1 hi
 have a:(i+1)*c≤r*c:=uE c hi
 rw[rA] at a
 exact⟨RdD.sub (h.rd wH) qO,fun x f=>e x (pB (sU f))⟩
def Dy (a g:Nat) (q:Rat):Prop:=∃ z:Int,q=qv z (-(g:Int))∧blen z.natAbs≤a
theorem Dy.fits {a g:Nat}{q:Rat}(h:Dy a g q)(ha:a≤100000)(c:g≤100000):wO q:=by
 obtain⟨z,rfl,b⟩:=h
 exact Zq9 b ha qO qO
theorem Dy.mul {a b g h:Nat}{p q:Rat}(c:Dy a g p)(d:Dy b h q):Dy (a+b) (g+h) (p*q):=by
 obtain⟨y,rfl,e⟩:=c;obtain⟨z,rfl,f⟩:=d
 exact⟨y*z,by rw[Zun];congr 1;omega,ZpC e f⟩
theorem Dy.add {a b c g:Nat}{p q:Rat}(d:Dy a g p)(e:Dy b g q)(f:a≤c)(h:b≤c):Dy (c+1) g (p+q):=by
 obtain⟨y,rfl,i⟩:=d;obtain⟨z,rfl,j⟩:=e
 exact⟨y+z,ZpB _ _ _,ZpD (uA i f) (uA j h)⟩
theorem Dy.sub {a b c g:Nat}{p q:Rat}(d:Dy a g p)(e:Dy b g q)(f:a≤c)(h:b≤c):Dy (c+1) g (p-q):=by
 obtain⟨y,rfl,i⟩:=d;obtain⟨z,rfl,j⟩:=e
 exact⟨y-z,Zuo _ _ _,ZpE (uA i f) (uA j h)⟩
theorem Dy.int {a g:Nat}{z:Int}(h:blen z.natAbs≤a):Dy (a+g) g ((z:Int):Rat):=by
 refine⟨z*2^g,?_,?_⟩
 ·rw[Zer,show -(g:Int)+g=0 by omega]
  unfold qv
  rw[show (2:Rat)^(0:Int)=1 from rfl,Rat.mul_one]
 have e:(2:Int)^g=((2^g:Nat):Int):=by rw[vY];rfl
 rw[e,oE,sO]
 exact ZfY h (uF _)
theorem ZmP (a g:Nat):Dy a g 0:=⟨0,(ZhW _).symm,vS _⟩
theorem Nx.dy {g T:Nat}{v:Fv3}(H:Nx (g:Int) (T:Int) v):Dy (T+g) g (fval v):=by
 by_cases b:v.2.1=0
 ·rw[ZbU b];exact ZmP _ _
 obtain⟨a,c,d,_⟩:=H.pos b
 refine⟨_,ZeM (f := -(g:Int)) c,?_⟩
 rw[Zhi]
 exact uA ZdE qO
theorem Nx.rf {g T:Int}{v:Fv3}(H:Nx g T v)(a:FvOk v):RF (qv (sg v.1 v.2.1) v.2.2) 80 (sg v.1 v.2.1) v.2.2:=by
 refine RF.of qD ?_ ?_
 ·rcases a.2.2.1 with h|h
  ·have:=H.zero h
   exact Or.inl ⟨by rw[this.1];cases v.1<;>rfl,this.2⟩
  exact Or.inr ⟨ZkE h,a.2.1⟩
 rw[Zhi]
 rcases H with h|h
 ·rw[h.1,iT];omega
 exact h.2.2.2
theorem Nx.ex {g T:Int}{v:Fv3}(H:Nx g T v)(c:FvOk v)(d:g≤1000)(f:T≤1000):(wA (bytes (exV (ftW v)))).isSome=true∧valF (bytes (exV (ftW v)))=fval v∧(exV (ftW v)).size≤500∧Gd (ftW v) ∧ -1000≤(ftW v).2∧(ftW v).2≤1000:=by
 have h:=H.rf c
 have e:bytes (exV (ftW v))=exT (Lib.itoa (sg v.1 v.2.1)) v.2.2:=rfl
 have a : -1000≤v.2.2∧v.2.2≤1000:=by
  rcases H with h|⟨i,j,l,_⟩
  ·rw[h.2];omega
  omega
 rw[e]
 refine⟨by rw[h.read];rfl,h.val,?_,⟨h.fv,?_⟩,a⟩
 ·exact h.len qD a.1 a.2
 exact uA (ZeJ (k:=2) (uA h.b qD)) qD
theorem ZrD {n:Nat}{C:Nat→Nat→Rat}{ts:List ByteArray}{w w':World}{e:Ending}(z:ts.length=n*n)(G:∀ a b,a<n→b<n→valF (bytes ts[a*n+b]!)=C a b)(h:Zn0 n n ts w e w') :
 lD (fun x:{x:Nat × List (Mr Qv) // QH n n x.2 C}=>.tuple #[.slice (some ⟨x.1.1,0,none⟩) n n,.bool true]) (fun x w=>QIn w.heap.size w (some ⟨x.1.1,0,none⟩) n n x.1.2) w e w':=by
 obtain⟨b,v,k,rfl,D,H,I,J,Q⟩:=h
 have d:k.length=n*n:=by have:=vP List.length D;rw[vG,vG] at this;rw[this];exact z
 have m:∀ a,a<n→(rO v k n ts.length n)[a]! = rOne v k n ts.length a:=fun a f=>by
  rw[vT _ a (by rw[ZeS];exact f)]
  unfold rO
  rw[rM,List.getElem_range]
 have A:QH n n (rO v k n ts.length n) C:=by
  refine⟨ZeS,fun a f=>?_,fun a b f g=>?_⟩
  ·rw[m a f]
   exact Zf5 (by rw[d];exact uE n f)
  rw[m a f,← G a b f g]
  have hi:a*n+b<n*n:=gidx f g
  have E:(k.map (·.q))[a*n+b]! = (ts.map (fun t=>valF (bytes t)))[a*n+b]! := by rw[D]
  rw[vT _ _ (by rw[vG,d];exact hi),vT _ _ (by rw[vG,z];exact hi),rM,rM] at E
  rw[vT ts _ (by rw[z];exact hi),← E]
  show (((k.drop (a*n)).take n)[b]!).q=_
  rw[vT _ b (by rw[Zf5 (by rw[d];exact uE n f)];exact g),List.getElem_take,List.getElem_drop]
 refine⟨⟨(b,rO v k n ts.length n),A⟩,rfl,Q,fun S o j p=>?_⟩
 have s:=H.boxN (uF _) S o j p
 have u:=I.boxN (uF _) S o j p
 have B:=boxn Q (fun S j o p=>J.nrb o p) S o j p
 have F:=ZuP (c:=n) (r:=n) u B d
 refine⟨⟨_,s⟩,fun i hi=>?_,fun y l=>(F y l).1,fun y l=>(F y l).2,fun y l L K g=>?_⟩
 ·obtain⟨_,_,h,_⟩:=s.blk hi
  exact h.lt
 unfold rO at l
 obtain⟨i,_,rfl⟩:=qF.1 l
 injection g with g
 injection g with g
 obtain⟨_,_,h,_⟩:=u.blk rfl
 rw[←g];exact h.lt
instance {n:Nat} {C:Nat→Nat→Rat}:Nonempty {x:Nat × List (Mr Qv) // QH n n x.2 C}:=by
 obtain⟨⟨x,h,_⟩⟩:=(inferInstance:Nonempty {x:Nat × List (Mr Qv) // QH n n x.2 C∧0≤x.1})
 exact⟨⟨x,h⟩⟩
end Go.Proofs.YtmpffakfhcpjoaaGreatDoor
namespace Go.Proofs.YtmpffakfhcpjoaaGreatDoor
section
variable {n c i j k:Nat} {Z:Nat→Nat→Int}
theorem Zvd (h:∀ a b,a<n→b<c→(Z a b).natAbs≤1000000000):∀ f∈(kZ n c (fun a b=>cz (Z a b))).map ftW,Gd f:=fun f e=>by
 obtain⟨v,g,rfl⟩:=qF.1 e
 have d:=ZbW (p:=fun v=>FvOk v∧Bv 100 v) (fun a b l m=>Zr2 (z:=Z a b) (vA (h a b l m) qD)) v g
 exact Zu8 d.1 d.2
theorem ZuQ:((kZ n c (fun a b=>cz (Z a b))).map ftW).length=n*c:=by rw[vG,Za6]
end
end Go.Proofs.YtmpffakfhcpjoaaGreatDoor
namespace Go.Proofs.YtmpffakfhcpjoaaGreatDoor
open Go.RowKit Tryz
theorem ZtD {n:Nat}{Z:Nat→Nat→Int}(h:∀ a b,a<n→b<n→(Z a b).natAbs≤1000000000):((kZ n n (fun a b=>cz (Z a b))).map ftW).map ldV=kZ n n (fun a b=>cz (Z a b)):=by
 rw[ZdK,ZdK]
 unfold kZ
 exact Zbo fun a c=>List.map_congr_left fun b d=>Zvb (vA (h a b (sX.1 c) (sX.1 d)) qD)
theorem ZtE (z:Int):fval (cz z)=((z:Int):Rat):=by
 show qv (sg (decide (z<0)) (oddM z.natAbs)) ((tzn z.natAbs:Nat):Int)=_
 have h:=Zer (sg (decide (z<0)) (oddM z.natAbs)) 0 (tzn z.natAbs)
 rw[Zkn,ZkF,Zu9,Int.zero_add] at h
 rw[←h]
 unfold qv
 rw[show (2:Rat)^(0:Int)=1 from rfl,Rat.mul_one]
theorem Zve {z:Int}(h:z.natAbs<128):Nx 0 7 (cz z):=by
 by_cases c:z=0
 ·subst c;rw[Zh5];exact Zh0
 have e:0<z.natAbs:=qO
 have a:=Zc3 (n:=z.natAbs) qO
 have d:=dE a (tzn z.natAbs)
 rw[ZkF] at d
 have f:blen z.natAbs≤7:=xH.2 h
 exact Or.inr ⟨a,by show -0≤((tzn z.natAbs:Nat):Int);omega,by show (blen (oddM z.natAbs):Int)+((tzn z.natAbs:Nat):Int)≤7;omega,by show blen (oddM z.natAbs)≤80;omega⟩
def uQ (n b:Nat):Rat:=Rat.divInt (4*(n+1:Nat)) (1*2^b)
def dQ (n:Nat) (C:Nat→Nat→Rat) (Z:Nat→Nat→Int) (i k:Nat):Rat:=gD C (fun a b=>C b a) n i k-((Z i k:Int):Rat)
structure FacOk (n b:Nat) (Z:Nat→Nat→Int) (Lf:List Fv3) (C:Nat→Nat→Rat):Prop where
 gd:∀ f∈Lf.map ftW,Gd f
 xs:∀ f∈Lf.map ftW,-1000≤f.2∧f.2≤1000
 len:(Lf.map ftW).length=n*n
 rd:∀ s∈(Lf.map ftW).map exV,(wA (bytes s)).isSome=true
 sz:∀ s∈(Lf.map ftW).map exV,s.size≤500
 val:∀ a k,a<n→k<n→valF (bytes ((Lf.map ftW).map exV)[a*n+k]!)=C a k
 dy:∀ a k,a<n→k<n→Dy 603 600 (C a k)
 up:∀ a k,a<k→k<n→C a k=0
 pos:∀ a,a<n→0<C a a
 near:∀ i k,i<n→k<n→dQ n C Z i k*dQ n C Z i k≤uQ n b*uQ n b*(((Z i i:Int):Rat)*((Z k k:Int):Rat))
theorem Zqa (n b:Nat):uQ n b=4*(n+1)*2^(-(b:Int)):=by
 unfold uQ
 rw[Rat.divInt_eq_div,oF,Int.one_mul,mS,fF,show ((2:Int)^b:Int)=((2^b:Nat):Int) by rw[vY];rfl,pX,qL]
 congr 1
 rw[pX];push_cast;rfl
theorem ZrE {n b:Nat}{Y Z A:Nat→Nat→Int}(e0:1≤n)(K:n≤4)(m:12≤b)(L:b≤71)(hA:∀ a b,a<n→b<n→(A a b).natAbs≤2)(hY:Y=dO A (fun a b=>A b a) n)(hZ:∀ a b,a<n→b<n→Z a b=Y a b+if a=b then 1 else 0) :
 ∃ Lf C,ZaT b (((kZ n n (fun a b=>cz (Z a b))).map ftW).map ldV) n=some Lf∧FacOk n b Z Lf C:=by
 have M:∀ a b,a<n→b<n→(Y a b).natAbs≤16:=fun a b j m=>by
  rw[hY]
  exact uA (ZdI n (fun r N=>hA a r j N) (fun r N=>hA b r m N)) (uA (uE _ K) qD)
 have t:∀ a b,a<n→b<n→(Z a b).natAbs≤17:=fun a b j m=>by
  have:=M a b j m
  rw[hZ a b j m]
  split<;>omega
 have u:∀ i k,i<n→k<n→mB n (cst A) i k=((Z i k:Int):Rat):=fun i k hi d=>by
  have w:=ZdJ A (fun a b=>A b a) i k n
  rw[hZ i k hi d,hY,nI,← w]
  unfold mB
  congr 1
  split<;>rfl
 have F:∀ i,i<n→1≤Z i i:=fun i hi=>by
  have w:=Zhj (n:=n) (B:=cst A) i
  rw[u i i hi hi] at w
  exact_mod_cast w
 have O:∀ i k,i<n→k<n→Z i k=Z k i:=fun i k hi d=>by
  have w:=ZhL n (cst A) i k
  rw[u i k hi d,u k i d hi] at w
  exact_mod_cast w
 have hB:∀ i,i<n→mB n (cst A) i i≤17:=fun i hi=>by
  rw[u i i hi hi]
  have w:=t i i hi hi
  have J:Z i i≤17:=qO
  have h3:((Z i i:Int):Rat)≤((17:Int):Rat):=Rat.intCast_le_intCast.2 J
  exact h3
 rw[ZtD (fun a b j m=>uA (t a b j m) qD)]
 obtain⟨Lf,hC,E⟩:=Zp9 (As:=kZ n n (fun a b=>cz (Z a b))) m L K hB (fun i k hi d=>by
  rw[ZuJ hi d,ZtE,u i k hi d]
  exact⟨Zve (vA (t i k hi d) qD),rfl⟩)
 have P:=ZmE (fun v l=>by
  have:=ZbW (p:=FvOk) (r:=n) (c:=n) (V:=fun a b=>cz (Z a b)) (fun a b j m=>(Zr2 (vA (t a b j m) qD)).1)
  exact this v l) qO qO hC
 have hl:=E.len
 -- each element
 have Q:∀ v∈Lf,∃ a k,a<n∧k<n∧v=at3 Lf (a*n+k):=fun v l=>by
  obtain⟨i,hi,rfl⟩:=List.mem_iff_getElem.1 l
  have R:i<n*n:=qO
  refine⟨i/n,i%n,sW R,uP _ qO,?_⟩
  have e:i/n*n+i%n=i:=by rw[uG];exact vX i n
  rw[e]
  unfold at3
  rw[tC,uR hi];rfl
 have G:∀ a k,a<n→k<n→Nx 600 3 (at3 Lf (a*n+k)):=fun a k j d=>by
  by_cases h:a<k
  ·rw[E.z a k j d (Or.inr h)];exact Zh0
  exact (E.nx a k d qO j).weak (Zp6 k) (nT _)
 have U:∀ v∈Lf,Nx 600 3 v:=fun v l=>by
  obtain⟨a,k,j,d,rfl⟩:=Q v l
  exact G a k j d
 have o:=fun v (l:v∈Lf)=>(U v l).ex (P v l) qD qD
 have y:∀ a k,a<k→k<n→fval (at3 Lf (a*n+k))=0:=fun a k h d=>by rw[E.z a k qO d (Or.inr h)];exact aR _ _
 have D:∀ a k,k<n→lvF n Lf a k=fval (at3 Lf (a*n+k)):=fun a k d=>by
  by_cases h:a<k
  ·rw[Zp7 h,y a k h d]
  exact Zah qO
 obtain⟨W,_⟩:=ZeR (b:=b) m
 refine⟨Lf,fun a k=>fval (at3 Lf (a*n+k)),hC,fun f X=>?_,fun f X=>?_,by rw[vG,hl],fun s H=>?_,fun s H=>?_,fun a k j d=>?_,fun a k j d=>?_,y,fun a j=>?_,?_⟩
 ·obtain⟨v,l,rfl⟩:=qF.1 X
  exact (o v l).2.2.2.1
 ·obtain⟨v,l,rfl⟩:=qF.1 X
  exact (o v l).2.2.2.2
 ·rw[pV] at H
  obtain⟨v,l,rfl⟩:=qF.1 H
  exact (o v l).1
 ·rw[pV] at H
  obtain⟨v,l,rfl⟩:=qF.1 H
  exact (o v l).2.2.1
 ·have hi:a*n+k<Lf.length:=by rw[hl];exact gidx j d
  rw[vT _ _ (by rw[vG,vG];exact hi),rM,rM]
  have e:at3 Lf (a*n+k)=Lf[a*n+k]:=by
   unfold at3
   rw[tC,uR hi];rfl
  show _=fval (at3 Lf (a*n+k))
  rw[e]
  exact (o _ (sF hi)).2.1
 ·exact Nx.dy (g:=600) (T:=3) (G a k j d)
 ·have:=E.pos a j
  rwa [D a a j] at this
 have I:∀ i k,k≤i→i<n→dQ n (fun a k=>fval (at3 Lf (a*n+k))) Z i k*dQ n (fun a k=>fval (at3 Lf (a*n+k))) Z i k≤uQ n b*uQ n b*(((Z i i:Int):Rat)*((Z k k:Int):Rat)):=fun i k a0 hi=>by
  have d:k<n:=qO
  have e1:gD (fun a k=>fval (at3 Lf (a*n+k))) (fun a b=>fval (at3 Lf (b*n+a))) n i k=sm (k+1) (fun x=>lvF n Lf i x*lvF n Lf k x):=by
   show sm n (fun q=>fval (at3 Lf (i*n+q))*fval (at3 Lf (k*n+q)))=_
   rw[ZhK (c:=k) d (fun x hx b0=>by rw[y k x hx b0,Rat.mul_zero])]
   exact xZ (fun x hx=>by rw[D i x qO,D k x qO])
  unfold dQ
  rw[e1,Zqa]
  have f0:=F i hi;have g0:=F k d
  have hD:((Z i i:Int):Rat)*((Z k k:Int):Rat)=(((Z i i*Z k k).toNat:Nat):Rat):=by
   rw[←qL,← pX,Int.toNat_of_nonneg (Int.mul_nonneg qO qO)]
  have c0:1≤(Z i i*Z k k).toNat:=by
   have:0<Z i i*Z k k:=Int.mul_pos qO qO
   omega
  refine Zsu K d W _ hD c0 fun S hS d0=>?_
  have:=E.near k d i a0 hi S hS (by rw[u i i hi hi,u k k d d];exact d0)
  rwa [u i k hi d] at this
 intro i k hi d
 rcases nU k i with h|h
 ·exact I i k h hi
 have J:=I k i h d
 have e:gD (fun a k=>fval (at3 Lf (a*n+k))) (fun a b=>fval (at3 Lf (b*n+a))) n i k=gD (fun a k=>fval (at3 Lf (a*n+k))) (fun a b=>fval (at3 Lf (b*n+a))) n k i :=
  xZ (fun q _=>pU _ _)
 unfold dQ at J ⊢
 rw[e,O i k hi d,pU ((Z i i:Int):Rat)]
 exact J
section
variable {n b:Nat} {Z:Nat→Nat→Int} {Lf:List Fv3} {C:Nat→Nat→Rat}
theorem FacOk.part (h:FacOk n b Z Lf C)(f:n≤4){i k:Nat}(hi:i<n)(e:k<n):∀ d,d≤n→Dy (1206+d) 1200 (gD C (fun a b=>C b a) d i k)
 | 0,_=>ZmP _ _
 | d+1,hd=>Dy.add (c:=1206+d) (FacOk.part h f hi e d qO) (Dy.mul (h.dy i d hi qO) (h.dy k d e qO)) (uF _) qO
theorem FacOk.fit (h:FacOk n b Z Lf C){a k:Nat}(ha:a<n)(c:k<n):wO (C a k):=(h.dy a k ha c).fits qD qD
theorem FacOk.fitT (h:FacOk n b Z Lf C)(f:n≤4){a k d:Nat}(ha:a<n)(c:k<n)(e:d<n):wO (gD C (fun a b=>C b a) d a k)∧wO (C a d*(fun a b=>C b a) d k) :=
 ⟨(h.part f ha c d qO).fits qO qD,(Dy.mul (h.dy a d ha e) (h.dy k d c e)).fits qD qD⟩
theorem ZkI {z:Int}(h:z.natAbs≤17):blen z.natAbs≤5:=xH.2 (vA h qD)
theorem FacOk.dif (h:FacOk n b Z Lf C)(j:n≤4){i k:Nat}(hi:i<n)(l:k<n)(m:(Z i k).natAbs≤17):wO (gD C (fun a b=>C b a) n i k)∧wO ((Z i k:Int):Rat)∧wO (dQ n C Z i k)∧wO (dQ n C Z i k*dQ n C Z i k):=by
 have e:=h.part j hi l n (uF _)
 have f:=Dy.int (g:=1200) (ZkI m)
 have d:=Dy.sub (c:=1210) e f qO qD
 exact⟨e.fits qO qD,f.fits qD qD,d.fits qD qD,(d.mul d).fits qD qD⟩
theorem Zqb (h:n≤4)(i:b≤71){x y:Int}(e:x.natAbs≤17)(f:y.natAbs≤17):wO (uQ n b)∧wO (uQ n b*uQ n b)∧wO (((x:Int):Rat)*((y:Int):Rat))∧wO (uQ n b*uQ n b*(((x:Int):Rat)*((y:Int):Rat))):=by
 have a:Dy 5 b (uQ n b):=by
  refine⟨4*(n+1:Nat),?_,xH.2 qO⟩
  rw[Zqa]
  unfold qv
  rw[qL,pX];push_cast;rfl
 have c:=a.mul a
 have d:=Dy.mul (Dy.int (g:=0) (ZkI e)) (Dy.int (g:=0) (ZkI f))
 exact⟨a.fits qD qO,c.fits qD qO,d.fits qD qD,(c.mul d).fits qD qO⟩
theorem FacOk.cmp (h:FacOk n b Z Lf C){i k:Nat}(hi:i<n)(a:k<n):(dQ n C Z i k*dQ n C Z i k-uQ n b*uQ n b*(((Z i i:Int):Rat)*((Z k k:Int):Rat))).num.sign≤0:=Zup (h.near i k hi a)
end
theorem zP.boxT {w w':World}{v:Value}{q:Rat}{b:Nat}(h:zP w' v q)(c:Fr (fun i=>i=b) w w'):BoxT b w w' (fun w=>zP w v q):=fun _ _ d a=>h.nrb (fun i hi=>by
 obtain⟨k,e,t,f,g,j⟩:=d i hi
 exact⟨t,f,g.fr c e,j⟩) a
theorem ZuR {p n c i j:Nat}{X:Nat→Nat→Int}{z:Int}(h:∀ a b,a<n→b<c→(X a b).natAbs≤p)(d:z.natAbs≤p):∀ a b,a<n→b<c→(updZ X i j z a b).natAbs≤p:=fun a b e f=>by
 unfold updZ
 split
 ·exact d
 exact h a b e f
instance:Nonempty {x:ShQ×Int // (fun x:ShQ×Int => -2≤x.2∧x.2≤2) x}:=⟨⟨(qv0.c,0),by decide⟩⟩
theorem ZkJ (τ:Tap)(wl w:World)(hO:TOld wl τ)(h0:Ext wl w)(hT:TOk τ w)(n:Nat)(k0:1≤n)(hn:n≤4) :
 Ζ 6 #[.pointer (some ⟨τ.g,0,none⟩),.int .i64 ((n:Nat):Int),.int .i64 ((n:Nat):Int)] w (RetT τ (fun x:Nat × List (Mr Qv)×(Nat→Nat→Int)=>.slice (some ⟨x.1,0,none⟩) n n) (fun x:Nat × List (Mr Qv)×(Nat→Nat→Int)=>QG n n x.2.1 x.2.2∧∃ Y:Nat→Nat→Int,(∀ a b,a<n→b<n→(Y a b).natAbs≤2)∧x.2.2=dO Y (fun a b=>Y b a) n) (fun x w'=>(OwnD w' w.heap.size 34 1 (some ⟨x.1,0,none⟩) n n (x.2.1.flatMap mrC)∧MrOk 32 4 qvC w.heap.size w' x.2.1)∧QMs w' x.2.1) w):=by
 obtain⟨m0,s⟩:∃ m,m=w.heap.size:=⟨_,rfl⟩
 have P:τ.g<m0:=s ▸ hT.lt
 refine ZeL (fun i=>i=τ.g) (Φ:=fun w=>TOk τ w) func6 rfl qK (fun w' hf=>hT.ext hf) ?_
 refine yY (xq 1 [eS1 6 none 0 0] [] ?_)
 refine yZ (yY (xq 2 [yJ 10 n,yJ 11 n] [] ?_))
 refine xqc 24 [yI n, yI n] 12 (fun x:{x:Nat × List (Mr Qv) // QG n n x.2 (fun _ _=>0)∧m0≤x.1}=>Υ x.1.1 n) _ (fun w R Q=>(Zhg n n _ qO qO).mono (fun _ _ h=>ZkC (m0:=m0) (s ▸ R.size) h)) fun S=>?_
 obtain⟨⟨d,V⟩,K,g0⟩:=S
 refine xq 1 [eS1 7 (yL d) n n] [] ?_
 refine yZ (zC (yY (xq 3 [yJ 14 n,yJ 15 0] [] ?_)))
 refine yZ (zQ ?_)
 refine xO (fun W X Z=>∃ (i:Nat) (r:List (Mr Qv)) (Y:Nat→Nat→Int),X=ofL [(0,.v (.pointer (some ⟨τ.g,0,none⟩))),eS1 6 none 0 0,eS1 7 (yL d) n n,yJ 14 n,yJ 15 i] []∧Z=(fun w=>(((TOk τ w∧OwnD w m0 34 1 (yL d) n n (r.flatMap mrC))∧MrOk 32 4 qvC m0 w r)∧QMs w r))∧(i≤n)∧(QG n n r Y)∧(∀ a b,a<n→b<n→(Y a b).natAbs≤2)∧W=(1+(n-i))) ((1+(n-0))) ⟨0,V,(fun _ _=>0),rfl,rfl,(vS _),K,(fun a b _ _=>by show (0:Int).natAbs≤2;decide),rfl⟩ (fun w Q=>⟨⟨⟨Q.1,Q.2.1.1⟩,Q.2.1.2⟩,Q.2.2⟩) ?_
 rintro W X Z ⟨i,r,Y,rfl,rfl,hi,p,T,rfl⟩
 refine yY (xq 1 [yB 16 (decide ((i:Int)<(n:Int)))] [] ?_)
 refine yZ (zC ?_)
 refine yQ ((decide ((i:Int)<(n:Int)))) (fun u=>?_) fun u=>?_
 ·have q:i<n:=by have:=uC u;omega
  refine zJ (zA (zC (zQ (yY (xq 2 [yJ 8 i] [] ?_)))))
  refine yZ (yY (xq 2 [eS1 18 (yL d) n n,yJ 19 i] [] ?_))
  refine xqk 20 (atA (yL d) (i*1)) (fun w R Q=>xE (t:=26) (e:=34) (sz:=1) (x:=.tmp 18) (ix:=.tmp 19) (len:=n) (cap:=n) (i:=i) qS q) ?_
  obtain⟨a0,b0⟩:∃ x,r[i]! = x:=⟨_,rfl⟩
  refine xqk 21 (.slice a0.A n a0.cap) (fun w R Q=>fH (t:=34) (x:=.tmp 20) (j:=i) Q.1.1.2 p q b0) ?_
  refine xq 2 [yJ 22 n,yJ 23 0] [] ?_
  refine yZ (zQ ?_)
  refine xO (fun W X Z=>∃ (k:Nat) (r:List (Mr Qv)) (Y:Nat→Nat→Int),X=ofL [(0,.v (.pointer (some ⟨τ.g,0,none⟩))),eS1 6 none 0 0,eS1 7 (yL d) n n,yJ 8 i,yJ 14 n,yJ 15 i,yJ 22 n,yJ 23 k] []∧Z=(fun w=>(((TOk τ w∧OwnD w m0 34 1 (yL d) n n (r.flatMap mrC))∧MrOk 32 4 qvC m0 w r)∧QMs w r))∧(k≤n)∧(QG n n r Y)∧(∀ a b,a<n→b<n→(Y a b).natAbs≤2)∧W=(1+(n-k))) ((1+(n-0))) ⟨0,r,Y,rfl,rfl,(vS _),p,T,rfl⟩ (fun w Q=>⟨⟨⟨Q.1.1.1,Q.1.1.2⟩,Q.1.2⟩,Q.2⟩) ?_
  rintro W X Z ⟨k,r,Y,rfl,rfl,hk,p,T,rfl⟩
  refine yY (xq 1 [yB 24 (decide ((k:Int)<(n:Int)))] [] ?_)
  refine yZ (zC ?_)
  refine yQ ((decide ((k:Int)<(n:Int)))) (fun z=>?_) fun z=>?_
  ·have L:k<n:=by have:=uC z;omega
   refine zJ (zA (zC (zQ (yY (xq 2 [yJ 9 k] [] ?_)))))
   refine xe (zA ?_)
   refine yO 8 zM ?_
   refine xqg 2 [eS1 26 (yL d) n n,yJ 27 i] ?_
   refine xqj 28 (atA (yL d) (i*1)) (fun w Q=>xE (t:=26) (e:=34) (sz:=1) (x:=.tmp 26) (ix:=.tmp 27) (len:=n) (cap:=n) (i:=i) qS q) ?_
   obtain⟨f,o⟩:∃ x,r[i]! = x:=⟨_,rfl⟩
   refine xqj 29 (.slice f.A n f.cap) (fun w Q=>fH (t:=34) (x:=.tmp 28) (j:=i) Q.1.1.2 p q o) ?_
   refine xqg 2 [yJ 30 k,(31,.v (.pointer (some ⟨τ.g,0,none⟩)))] ?_
   refine Zrp 32 (b:=τ.g) (j:=0) (c:=.slice τ.A τ.l τ.c) 25 [.pointer (some ⟨τ.g,0,none⟩), yI 2] (fun x:{x:ShQ×Int // (fun x => -2≤x.2∧x.2≤2) x}=>(fun x=>lB x.1) x.1) (fun w=>((OwnD w m0 34 1 (yL d) n n (r.flatMap mrC)∧MrOk 32 4 qvC m0 w r)∧QMs w r)) (fun x w=>TOk τ w∧(fun x w=>zP w (lB x.1) ((x.2:Int):Rat)) x.1 w) (fun w Q=>TOk.cell Q.1.1.1) (Or.inr rfl) (fun w R Q=>(ZnX τ wl _ hO (hO.old h0 R) Q.1.1.1 2 qD qD).mono (fun _ _ h=>Zhe h (fun x J h=>h.boxT J))) (fun w w2 R Q J=>⟨⟨OwnD.tape Q.1.1.2 J P,MrOk.tape Q.1.2 J P⟩,QMs.tape Q.2 Q.1.1.1 J⟩) (fun x w Q=>⟨⟨⟨Q.2.1,Q.1.1.1⟩,Q.1.1.2⟩,Q.1.2⟩) fun S=>?_
   obtain⟨⟨⟨B,C,D,E,F,G,H,I⟩,M⟩,c0⟩:=S
   dsimp only at c0
   refine xf 0 [(0,.v (.pointer (some ⟨τ.g,0,none⟩))),eS1 6 none 0 0,eS1 7 (yL d) n n,yJ 8 i,yJ 14 n,yJ 15 i,yJ 22 n,yJ 23 k,eS1 29 f.A n f.cap,yJ 30 k,eR4 32 B C D E F G H I] [] ?_
   refine xqj 33 (atA f.A (k*4)) (fun w Q=>xE (t:=34) (e:=32) (sz:=4) (x:=.tmp 29) (ix:=.tmp 30) (len:=n) (cap:=f.cap) (i:=k) (OwnD.ne (show OwnD _ m0 32 4 f.A f.cap f.xs.length (f.xs.flatMap qvC) by rw[←o];exact MrOk.at Q.1.2 (p.1.symm ▸ q)) (QG.cl p q o L)) L) ?_
   refine xz ?_
   refine Zfb (t:=32) (x:=.tmp 33) (y:=.tmp 32) (e:=32) (k:=4) (enc:=qvC) (a:=i) (j:=k) (ys:=r) m0 (⟨(B,C,D,E,F,G,H,I),((M:Int):Rat)⟩:Qv) (vR4 B C D E F G H I) (fun w=>(((OwnD w m0 34 1 (yL d) n n (r.flatMap mrC)∧QMs w r)∧TOk τ w)∧zP w (vR4 B C D E F G H I) (((M:Int):Rat)))) wH qD (fun w Q=>Q.1.1.2) (p.1.symm ▸ q) o (QG.cl p q o L) (fun _ h=>Or.inl (uA (s ▸ uF _) h)) (by simp[qvC,Value.oneCell']) (ZbV _) rfl (fun w w' Q J=>⟨⟨⟨OwnD.apart Q.1.1.1 (show OwnD _ m0 32 4 f.A f.cap f.xs.length (f.xs.flatMap qvC) by rw[←o];exact MrOk.at Q.1.1.2 (p.1.symm ▸ q)) qD J,QMs.row Q.1.2 (show OwnD _ m0 32 4 f.A f.cap f.xs.length (f.xs.flatMap qvC) by rw[←o];exact MrOk.at Q.1.1.2 (p.1.symm ▸ q)) J⟩,TOk.row Q.2.1 (show OwnD _ m0 32 4 f.A f.cap f.xs.length (f.xs.flatMap qvC) by rw[←o];exact MrOk.at Q.1.1.2 (p.1.symm ▸ q)) P J⟩,zP.rowUp Q.2.2 (show OwnD _ m0 32 4 f.A f.cap f.xs.length (f.xs.flatMap qvC) by rw[←o];exact MrOk.at Q.1.1.2 (p.1.symm ▸ q)) J⟩) ?_
   refine xr 0 [(0,.v (.pointer (some ⟨τ.g,0,none⟩))),eS1 6 none 0 0,eS1 7 (yL d) n n,yJ 8 i,yJ 14 n,yJ 15 i,yJ 22 n,yJ 23 k] [] ?_
   refine xe (xR (zA (zB (xq 1 [yJ 34 (IntKind.i64.wrap ((k:Int)+1))] [] ?_))))
   rw[yW ((k:Int)+1) (((k+1:Nat):Int)) qO]
   refine xq 1 [yJ 23 (k+1:Nat)] [] ?_
   refine xe ?_
   exact xK ((1+(n-(k+1)))) qO ⟨(k+1),(r.set i ⟨f.A,f.cap,f.xs.set k (⟨(B,C,D,E,F,G,H,I),((M:Int):Rat)⟩:Qv)⟩),(updZ Y i k M),rfl,rfl,L,(QG.set p q o rfl),(ZuR T qO),rfl⟩ (fun w Q=>⟨⟨⟨Q.1.1.2,(by rw[Zag (p.1.symm ▸ q) o (tM ..)];exact Q.1.1.1.1)⟩,Q.2⟩,(QMs.set Q.1.1.1.2 (p.1.symm ▸ q) o Q.1.2)⟩)
  have l0:k=n:=by have:=uD z;omega
  refine xM (zE (zE (xW (xR (zA (zB (xq 1 [yJ 35 (IntKind.i64.wrap ((i:Int)+1))] [] ?_)))))))
  rw[yW ((i:Int)+1) (((i+1:Nat):Int)) qO]
  refine xq 1 [yJ 15 (i+1:Nat)] [] ?_
  refine xe ?_
  exact xK ((1+(n-(i+1)))) qO ⟨(i+1),r,Y,rfl,rfl,q,p,T,rfl⟩ (fun w Q=>⟨⟨⟨Q.1.1.1,Q.1.1.2⟩,Q.1.2⟩,Q.2⟩)
 have n0:i=n:=by have:=uD u;omega
 refine xM (zE (zE (xW (zA (yY (xq 2 [eS1 36 (yL d) n n,eS1 37 (yL d) n n] [] ?_))))))
 refine xqc 15 [Υ d n] 38 (fun x:{x:Nat × List (Mr Qv) // QG n n x.2 (fun a b=>Y b a)∧m0≤x.1}=>Υ x.1.1 n) _ (fun w R Q=>(Zry (yL d) n n n r Y _ (QIn.of Q.1.1.2 Q.1.2 Q.2) p qO qO qO).mono (fun _ _ h=>ZkC (m0:=m0) (s ▸ R.size) h)) fun S=>?_
 obtain⟨⟨d0,e0⟩,N,i0⟩:=S
 refine xqc 14 [Υ d n,Υ d0 n] 39 (fun x:{x:Nat × List (Mr Qv) // QG n n x.2 (dO Y (fun a b=>Y b a) n)∧m0≤x.1}=>Υ x.1.1 n) _ (fun w R Q=>(Zp2 (yL d) (yL d0) n n n n n r e0 Y (fun a b=>Y b a) _ (QIn.of Q.1.1.1.2 Q.1.1.2 Q.1.2) (QIn.of Q.2.1.1 Q.2.1.2 Q.2.2) p N qO qO qO qO (fun a b ha hb=>uA (T a b ha hb) qD) (fun a b ha hb=>uA (T b a hb ha) qD)).mono (fun _ _ h=>ZkC (m0:=m0) (s ▸ R.size) h)) fun S=>?_
 obtain⟨⟨U,f0⟩,O,j0⟩:=S
 refine xq 1 [eS1 6 (yL U) n n] [] ?_
 refine yZ (zH ?_)
 refine yR (Υ U n) fun w' R Q=>?_
 exact⟨(U,f0,dO Y (fun a b=>Y b a) n),⟨O,Y,T,rfl⟩,rfl,R,Q.1.1.1.1.1,⟨⟨s ▸ Q.2.1.1,s ▸ Q.2.1.2⟩,Q.2.2⟩⟩
theorem ZtF {s:Bool}{n k:Nat}{z:Int}(d:n*2^k=z.natAbs)(h:z.natAbs<2^60)(i:z≠0→s=decide (z<0)):musT (wX s n 1 ((k:Nat):Int) 60)=some (cz z)∧(wX s n 1 ((k:Nat):Int) 60).err=0:=by
 rcases uJ n with c|c
 ·subst c
  rw[sD] at d
  have:z=0:=qO
  subst this
  rw[jJ,Zh5]
  exact⟨rfl,rfl⟩
 have f:z≠0:=fun e=>by
  subst e
  have:=sK c (p2 k)
  rw[d] at this
  exact absurd this qD
 have a:=kM c
 have g:oddM z.natAbs=oddM n∧tzn z.natAbs=tzn n+k:=by
  have j:z.natAbs=oddM n*2^(tzn n+k):=by rw[uU,← uH,← a.2];exact d.symm
  rw[j]
  exact⟨ZcW a.1 _,ZbM a.1 _⟩
 have o:=ZnZ (rY h qD)
 have l:n<2^60:=by
  have:=Nat.le_mul_of_pos_right n (p2 k)
  omega
 have m:=few s (k:Int) (b:=60) qD a.2 a.1 l (Zcu qO qO)
 rw[m]
 refine⟨?_,rfl⟩
 show some (s,oddM n,(k:Int)+((tzn n:Nat):Int))=_
 unfold cz
 rw[g.1,g.2,i f,show (k:Int)+((tzn n:Nat):Int)=((tzn n+k:Nat):Int) by omega]
theorem ZmQ {z:Int}(h:z.natAbs<2^60):(kW (bytes (zT z)) 60).err=0∧fvR (kW (bytes (zT z)) 60)=cz z:=by
 have a:=ZtF (s:=decide (z<0)) (n:=z.natAbs) (k:=0) (z:=z) (by rw[tH,sH]) h (fun _=>rfl)
 have b:kW (bytes (zT z)) 60=wX (decide (z<0)) z.natAbs 1 ((0:Nat):Int) 60:=by
  unfold kW
  rw[uM (by rw[rd_z];rfl),uM qO,dF (rd_z z)]
  unfold rndF
  rw[nK,nL];rfl
 rw[b]
 exact⟨a.2,(iV a.1).2.symm⟩
theorem ZtG {z:Int}(h:z.natAbs<2^60):rdF 60 (zT z)=ftW (cz z):=by
 obtain⟨a,b⟩:=ZmQ h
 unfold rdF frT frE
 rw[uM a,uM a,← b];rfl
theorem ZkK (m n c:Nat)(A:qA)(cap:Nat)(Z:Nat→Nat→Int)(w:World)(l:Glob w)(j:OwnD w m 9 1 A cap (n*c) ((kZ n c (fun a b=>zT (Z a b))).flatMap stC))(o:0<n)(p:n≤4)(q:0<c)(r:c≤4)(s:∀ a b,a<n→b<c→(Z a b).natAbs≤1000000000) :
 Ζ 9 #[.agg #[.int .i64 ((n:Nat):Int),.int .i64 ((c:Nat):Int),.slice A (n*c) cap],.int .i64 60] w (ZaU (fun v=>.tuple #[v,.int .i64 0]) n c ((kZ n c (fun a b=>cz (Z a b))).map ftW) w):=by
 obtain⟨i,d⟩:∃ i,i=kZ n c (fun a b=>zT (Z a b)):=⟨_,rfl⟩
 have k:i.length=n*c:=by rw[d,Za6]
 have g:∀ a b,a<n→b<c→(Z a b).natAbs<2^60:=fun a b e f=>vA (s a b e f) qD
 have t:n*c≤4*4:=vK p r
 rw[←d] at j
 have h:=ZiI n c A cap i 60 w l (ZmI j) (by rw[d];exact ZbW fun a b e f=>Zva (rY (g a b e f) qD)) (by
  unfold mtB
  rw[vQ ⟨qO,qO,qO,qO,by rw[k,tG]⟩,mI,d]
  exact vI.2 (ZbW fun a b e f=>by rw[rd_z];rfl)) qD qD qO qO qO (by rw[d];exact ZbW fun a b e f=>(ZmQ (g a b e f)).1)
 rw[k] at h
 rw[show (kZ n c (fun a b=>cz (Z a b))).map ftW=i.map (rdF 60) by
  rw[d,ZdK,ZdK]
  unfold kZ
  exact Zbo fun a e=>List.map_congr_left fun b f=>(ZtG (g a b (sX.1 e) (sX.1 f))).symm]
 exact h
end Go.Proofs.YtmpffakfhcpjoaaGreatDoor
