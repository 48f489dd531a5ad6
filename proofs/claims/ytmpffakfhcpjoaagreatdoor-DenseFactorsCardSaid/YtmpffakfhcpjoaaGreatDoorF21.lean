/-
 My texts.
-/
import Derived.Test.YtmpffakfhcpjoaaGreatDoorF20
import Derived.Lib.SplitLaws
set_option maxRecDepth 100000
set_option maxHeartbeats 8000000
namespace Go.Proofs.YtmpffakfhcpjoaaGreatDoor
open Go.RowKit
theorem ZeK {m0:Nat}{P:Program}{o:Oper}{ρ:Operand→Value}{w:World}{t e:TypeId}{n sz:Nat}{z:Value}{parts:Array (Nat × Operand)}{c:Array Value}(j:m0≤w.heap.size)(k:o.op=Op.buildSlice t n parts)(l:P.underlying t=some (.slice e))(d:(P.info? e).map (fun i=>(i.zero,i.size))=some (some z,sz))(m:Nat.ble (n*sz) 1000=true)(g:Nat.beq (n*sz) 0=false)(p:Instr.fill (fun i=>some (i*sz,sz)) ((List.range (n*sz)).map (fun i=>z.cells[i%z.cells.size]!)).toArray (parts.toList.map fun q=>(q.1,ρ q.2))=some c) :
 Does P o ρ w (DoR (fun b:{b:Nat // m0≤b}=>.slice (some ⟨b.1,0,none⟩) n n) (fun b w=>Blk e w b.1 c) w):=by
 have f:=ZgH (w:=w) l d m g p
 exact Or.inl ⟨_,_,by simp[execOp,k,f,Result.andThen],⟨w.heap.size,j⟩,rfl,(Fr.refl _ w).alloc _,fun S r u v=>(Blk.new w e c).fr v (fun h=>by have:=(r _ h).1;omega)⟩
section
variable {N:Nat} {S0:Nat→Prop} {w:World} {Φ:World→Prop} {P:Program}
theorem ZeL (S0:Nat→Prop){fn:Func}{f:FuncId}{c:Code}{args:List Value}{R:Ending→World→Prop}(j:P.funcs[f]? = some fn)(k:fn.body=some c)(l:Nat.ble args.length fn.ntmps=true)(Q:Box (fun _=>False) w Φ)(h:SXc P fn.ntmps S0 w (bodyPost P fn R) c (ofL (Zdc 0 args) []) Φ):Calls P f args.toArray w R:=by
 refine calls_of_wp j k (h (fun _=>0) _ w ⟨?_,rfl,fun i x m=>?_,⟨fun b t n e=>(by cases e),fun b c e=>(by cases e),fun b e=>(by cases e),Fr.refl _ _,fun i b off e=>?_,fun b t n e=>(by cases e)⟩,?_⟩)
 ·have:=tT l
  simp;omega
 ·obtain⟨_,v,hv,rfl⟩:=aD args 0 i x m
  have d:i<args.length:=by
   rcases vO i args.length with a|a
   ·exact a
   rw[vU qO] at hv;cases hv
  simp only[AV.conc]
  rw[Array.getElem?_append_left (by simpa using d)]
  simpa using hv
 ·obtain⟨_,v,hv,e'⟩:=aD args 0 i _ e
  cases e'
 intro w' g
 exact Q w' (g.mono (fun i _ a=>by obtain⟨b,e,_⟩:=a;cases e))
end
section
variable {N:Nat} {S0:Nat→Prop} {w0:World} {s:St} {Φ Ψ:World→Prop} {L:Nat→Nat} {a:Act} {w:World} {P:Program} {ops:Array Oper} {Q:Exit→Act→World→Prop}
theorem Inv.eff3 (h:Inv N S0 w0 s Φ L a w){w':World}{r:Nat}(g:Fr (fun i=>i=r) w w')(l:¬ s.own L r)(d:w0.heap.size≤r∨S0 r)(m:∀ w1 w2,Fr S0 w0 w2→Φ w1→Fr (fun i=>i=r) w1 w2→Fr (s.own L) w' w2→Ψ w2):Inv N S0 w0 s Ψ L a w':=by
 refine⟨h.size,h.df,h.sl,⟨fun b t n e=>(h.mem.blk b t n e).fr g (fun o=>l ⟨b,by rw[e];rfl,o⟩),h.mem.inj,h.mem.old,h.mem.ext.next g (fun i hi e=>?_),h.mem.slp,h.mem.cel⟩,fun w2 j=>?_⟩
 ·rcases d with f|f
  ·omega
  rw[e];exact f
 have k:Fr (fun i=>s.own L i∨i=r) w w2:=(g.mono (fun i _ e=>Or.inr e)).trans (j.mono (fun i _ e=>Or.inl e))
 obtain⟨w1,p,q⟩:=k.split
 refine m w1 w2 (h.mem.ext.next k (fun i hi u=>?_)) (h.box w1 p) q j
 rcases u with ⟨c,v,e⟩|e
 ·rcases h.mem.old c v with f|f
  ·omega
  rw[←e];exact f
 rcases d with f|f
 ·omega
 rw[e];exact f
end
section
variable {N:Nat} {S0:Nat→Prop} {w0:World} {s:St} {Φ Ψ:World→Prop} {L:Nat→Nat} {a:Act} {w:World} {P:Program} {ops:Array Oper} {Q:Exit→Act→World→Prop}
theorem Inv.eff4 (h:Inv N S0 w0 s Φ L a w){w':World}{T:Nat→Prop}(f:Fr T w w')(g:∀ i,T i→¬ s.own L i∧(w0.heap.size≤i∨S0 i))(l:∀ w1 w2,Fr S0 w0 w2→Φ w1→Fr T w1 w2→Fr (s.own L) w' w2→Ψ w2):Inv N S0 w0 s Ψ L a w':=by
 refine⟨h.size,h.df,h.sl,⟨fun b t m e=>(h.mem.blk b t m e).fr f (fun n=>(g _ n).1 ⟨b,by rw[e];rfl,rfl⟩),h.mem.inj,h.mem.old,h.mem.ext.next f (fun i hi e=>?_),h.mem.slp,h.mem.cel⟩,fun w2 j=>?_⟩
 ·rcases (g i e).2 with d|d
  ·omega
  exact d
 have k:Fr (fun i=>s.own L i∨T i) w w2:=(f.mono (fun i _ e=>Or.inr e)).trans (j.mono (fun i _ e=>Or.inl e))
 obtain⟨w1,o,p⟩:=k.split
 refine l w1 w2 (h.mem.ext.next k (fun i hi q=>?_)) (h.box w1 o) p j
 rcases q with ⟨c,r,e⟩|e
 ·rcases h.mem.old c r with d|d
  ·omega
  rw[←e];exact d
 rcases (g i e).2 with d|d
 ·omega
 exact d
end
def OwnD (w:World) (m:Nat) (e:TypeId) (k:Nat) (A:Option Addr) (c n:Nat) (xs:List Value):Prop :=
 xs.length=n*k∧((A=none∧c=0∧n=0)∨∃ g cur,A=some ⟨g,0,none⟩∧m≤g∧Blk e w g cur∧iX cur∧n≤c∧c≤maxLen∧cur.size=c*k∧cur.toList.take (n*k)=xs)
section
variable {w w':World} {m n c k:Nat} {e:TypeId} {A:Option Addr} {xs:List Value}
theorem OwnD.nil (w:World)(m:Nat)(e:TypeId)(k:Nat):OwnD w m e k none 0 0 []:=⟨qS,Or.inl ⟨rfl,rfl,rfl⟩⟩
theorem OwnD.own (h:OwnD w m e k A c n xs):w.ownsRow m e k (.slice A n c) n xs:=by
 obtain⟨d,f⟩:=h
 refine⟨d,?_⟩
 rcases f with ⟨rfl,rfl,rfl⟩|⟨g,b,rfl,i,j,_,l⟩
 ·exact Or.inl ⟨rfl,rfl⟩
 exact Or.inr ⟨g,c,b,rfl,i,j,l⟩
theorem OwnD.mono {f:Nat}(h:OwnD w m e k A c n xs)(l:f≤m):OwnD w f e k A c n xs:=by
 obtain⟨i,b⟩:=h
 refine⟨i,?_⟩
 rcases b with b|⟨g,d,rfl,o,j⟩
 ·exact Or.inl b
 exact Or.inr ⟨g,d,rfl,qO,j⟩
theorem OwnD.fr {S:Nat→Prop}(h:OwnD w m e k A c n xs)(f:Fr S w w')(j:∀ i,A=some ⟨i,0,none⟩→¬ S i):OwnD w' m e k A c n xs:=by
 obtain⟨l,b⟩:=h
 refine⟨l,?_⟩
 rcases b with b|⟨g,d,rfl,o,p,q⟩
 ·exact Or.inl b
 exact Or.inr ⟨g,d,rfl,o,p.fr f (j g rfl),q⟩
theorem OwnD.blk (h:OwnD w m e k A c n xs){i:Nat}(hi:A=some ⟨i,0,none⟩):m≤i∧∃ cur,Blk e w i cur∧iX cur:=by
 rcases h.2 with ⟨h3,_⟩|⟨b,cur,h3,d,f,g,_⟩
 ·rw[hi] at h3;cases h3
 rw[hi] at h3
 injection h3 with h3
 injection h3 with h3
 subst h3
 exact⟨d,cur,f,g⟩
theorem iX.list {l:List Value}(h:∀ (k:IntKind) (z:Int),Value.int k z∈l→k=.i64):iX l.toArray:=fun i k z e=>by
 rw[List.getElem?_toArray] at e
 exact h k z (oX e)
theorem iX.mem {cs:Array Value}(h:iX cs){k:IntKind}{z:Int}(b:Value.int k z∈cs.toList):k=.i64:=by
 obtain⟨i,hi,e⟩:=pJ b
 exact h i k z (by rw[←mD,uR hi,e])
theorem Zra {z:Array Value}{n:Nat}{v:Value}(h:v∈(Builtin.zeroCells z n).toList):v∈z.toList:=by
 simp[Builtin.zeroCells] at h
 obtain⟨j,d,b⟩:=h
 have f:0<z.size:=rC (fun e=>by rw[e] at d;omega)
 rw[vT z (j%z.size) (uP _ f)] at b
 rw[←b]
 simp
theorem Zkr {P:Program}(w:World)(m:Nat)(t J e:TypeId)(i:TypeInfo)(z:Value)(k bytes:Nat)(M:P.underlying t=some (.slice e))(hi:P.info? e=some i)(hz:i.zero=some z)(O:i.size=k)(R:i.bytes=bytes)(S:z.cells.size=k)(c0:0<k)(T:iX z.cells)(A:qA)(c n:Nat)(xs:List Value)(hO:OwnD w m e k A c n xs)(a:Addr)(d c2:Nat)(news:List Value)(D:news.length=d*k)(U:0<d)(b:∀ j u,news[j]? = some u→w.cell? (a.add j)=some u)(h1:∀ u∈news,u.oneCell'=true)(E:∀ (k:IntKind) (z:Int),Value.int k z∈news→k=.i64)(F:n+d≤maxLen)(o:(n+d)*bytes≤140737488355328)(hm:m≤w.heap.size) :
 ∃ K c' w',(Builtin.append_ #[t,t] J #[.slice A n c,.slice (some a) d c2]).run P w=.ok (.slice K (n+d) c') w'∧OwnD w' m e k K c' (n+d) (xs ++ news)∧Fr (fun i=>A=some ⟨i,0,none⟩) w w'∧(∀ i,K=some ⟨i,0,none⟩→A=some ⟨i,0,none⟩∨i=w.heap.size)∧K≠none:=by
 subst O R
 have p:(xs ++ news).length=(n+d)*i.size:=by rw[vE,hO.1,D,uW]
 have b0:n+d≤9223372036854775807:=by simp only[maxLen] at F;omega
 obtain⟨x,h2⟩:=hO
 have r:∀ (old:Nat),iX xs.toArray→OwnD (w.drew.alloc (.cells (xs.toArray ++ news.toArray ++ Builtin.zeroCells z.cells (grownCap w (n+d) old e-(n+d))) e)) m e i.size (some ⟨w.heap.size,0,none⟩) (grownCap w (n+d) old e) (n+d) (xs ++ news):=fun old hx=>by
  have V:=grownCap_ge w (n+d) old e
  refine⟨p,Or.inr ⟨w.heap.size,_,rfl,hm,heap_alloc_new w.drew _,fun j q y hj=>?_,V,grownCap_le_maxLen w (n+d) old e F,?_,?_⟩⟩
  ·have h3:=oX (by rw[←mD] at hj;exact hj)
   rw[Array.toList_append,Array.toList_append] at h3
   rcases rD.1 h3 with h3|h3
   ·rcases rD.1 h3 with h3|h3
    ·exact hx.mem h3
    exact E q y (by simpa using h3)
   exact T.mem (Zra h3)
  ·simp only[Array.size_append,oQ,size_zeroCells,S,x,D,← uW]
   congr 1
   omega
  simp only[Array.toList_append,tD]
  rw[←tD,← p]
  exact List.take_left
 rcases h2 with ⟨rfl,rfl,rfl⟩|⟨g,v,rfl,W,X,B,d0,Y,Z,f⟩
 ·obtain rfl:xs=[]:=pD (by simpa using x)
  have G:=run_append_nil (P:=P) w t J e i z M hi hz a d c2 news D b U qO (by have hb:=o;simp only[vZ] at hb;omega)
  have H:=r 0 (fun i k z h=>by simp at h)
  simp only[vZ,pQ,Array.empty_append] at H ⊢
  exact⟨_,_,_,G,H,((Fr.refl _ w).drewN 1).alloc _,fun j e=>by injection e with e;injection e with e;exact Or.inr e.symm,qS⟩
 have a0:iX xs.toArray:=iX.list (fun k z h=>B.mem (sU (f ▸ h)))
 by_cases l:n+d≤c
 ·have I:n*i.size+news.length≤v.size:=by rw[D,Z,← uW];exact uE _ l
  have G:=run_append_room (P:=P) w t J e i M hi g n c v X a d c2 news D b h1 l I
  refine⟨_,_,_,G,⟨p,Or.inr ⟨g,_,rfl,W,setRow_heap w g v _ e _ X,iX.list (fun k z h=>?_),l,Y,?_,?_⟩⟩,⟨rfl,rfl,rfl,qS,fun k _ O=>setRow_other w g k _ (fun e=>O (by rw[e]))⟩,fun j e=>Or.inl e,qS⟩
  ·rcases rD.1 h with h|h
   ·rcases rD.1 h with h|h
    ·exact B.mem (sU h)
    exact E k z h
   exact B.mem (pB h)
  ·simp only[oQ,vE,uN,tB,Array.length_toList]
   omega
  rw[f,← p]
  exact List.take_left
 have C:∀ j u,xs[j]? = some u→w.cell? ((⟨g,0,none⟩:Addr).add j)=some u:=fun j u hu=>by
  have h3:(v.toList.take (n*i.size))[j]? = some u:=by rw[f];exact hu
  rw[Lib.add_plain,vZ,Blk.cell X]
  rw[nP] at h3
  split at h3
  ·simpa using h3
  cases h3
 have G:=run_append_grow (P:=P) w t J e i z M hi hz ⟨g,0,none⟩ n c xs x C a d c2 news D b qO qO (growslice_fits qO o)
 exact⟨_,_,_,G,r c a0,((Fr.refl _ w).drewN 1).alloc _,fun j e=>by injection e with e;injection e with e;exact Or.inr e.symm,qS⟩
end
section
variable {N:Nat} {S0:Nat→Prop} {w0:World} {s:St} {Φ Ψ:World→Prop} {L:Nat→Nat} {a:Act} {w:World} {P:Program} {ops:Array Oper} {Q:Exit→Act→World→Prop}
theorem Zs3 {i d k n m cap bytes:Nat}{t e:TypeId}{s0 x:Operand}{xs news:List Value}{z:Value}(base:Nat)(A:qA)(B:Nat→Prop)(o:∀ j,A=some ⟨j,0,none⟩→base≤j→w0.heap.size≤j∨S0 j)(H c2:Nat)(Ψ:World→Prop)(hb:∀ w,Fr S0 w0 w→Φ w→base≤w.heap.size)(hO:∀ w,Φ w→OwnD w base e k A cap n xs)(hX:∀ w,Φ w→∀ j u,news[j]? = some u→w.cell? ⟨H,j,none⟩=some u)(hl:news.length=m*k)(hk:0<k)(hz:z.cells.size=k)(I:iX z.cells)(J:0<m)(h1:∀ u∈news,u.oneCell'=true)(M:∀ (k:IntKind) (z:Int),Value.int k z∈news→k=.i64)(O:n+m≤maxLen)(f:(n+m)*bytes≤140737488355328)(S:n=0→A=none)(hB:∀ w,Φ w→∀ j,B j→j<w.heap.size)(T:∀ j,A=some ⟨j,0,none⟩→¬ B j)(hΨ:∀ w w',Fr S0 w0 w'→Φ w→Fr (fun i=>A=some ⟨i,0,none⟩) w w'→Ψ w')(K:∀ (A':qA) (cap':Nat),A'≠none∧(∀ j,A'=some ⟨j,0,none⟩→A=some ⟨j,0,none⟩∨w0.heap.size≤j)∧(∀ j,A'=some ⟨j,0,none⟩→¬ B j)→SXi P N S0 w0 ops Q (i+1) (s.put d (Λ A' (n+m) cap')) (fun w=>Ψ w∧OwnD w base e k A' cap' (n+m) (xs ++ news)))(U:Nat.blt i ops.size=true:=by kernel_rfl)(hw:s.wantB ops (opAt ops i)=some true:=by kernel_rfl)(hv:(opAt ops i).op.operands.toList.all s.vB=true:=by kernel_rfl)(ho:(opAt ops i).op=.call { callee:=.builtin .append,args:=#[s0,x],argTypes:=#[t,t] }:=by kernel_rfl)(hd:(opAt ops i).dst=some d:=by kernel_rfl)(hN:Nat.blt d N=true:=by kernel_rfl)(ht:P.underlying t=some (.slice e):=by kernel_rfl)(p:(P.info? e).map (fun i=>(i.zero,i.size,i.bytes))=some (some z,k,bytes):=by kernel_rfl)(hs:s.rho s0=.slice A n cap:=by kernel_rfl)(hx:s.rho x=.slice (some ⟨H,0,none⟩) m c2:=by kernel_rfl):SXi P N S0 w0 ops Q i s Φ:=by
 unfold SXi
 rw[gU U]
 intro L a w hi
 refine wpList_step fun K' hK=>?_
 rw[uM (hi.want hw)]
 unfold Oper.wp
 have V:jD (opAt ops i).op=true:=by rw[ho];rfl
 rw[hi.exec V hv]
 obtain⟨W,D,E⟩:=vM.1 p
 injection E with hz0 E
 injection E with hsize hby
 have r:=hO w hi.box.self
 have X:=hX w hi.box.self
 have hT:∀ j,A=some ⟨j,0,none⟩→¬ s.own L j∧(w0.heap.size≤j∨S0 j):=fun j hj=>by
  have b0:n≠0:=fun h=>by rw[S h] at hj;cases hj
  have l:0<xs.length:=by rw[r.1];exact sK qO hk
  refine⟨hi.notOwn (c:=xs[0]'l) (j:=0) (fun w R=>?_),?_⟩
  ·have C:=(hO w R).own.cells (g:=j) (by rw[hj];rfl) 0 (xs[0]'l) qS
   rw[Lib.add_plain] at C
   exact C
  exact o j hj (r.blk hj).1
 obtain⟨A',cap',w',F,hr,Y,b,Z⟩:=Zkr (P:=P) w base t (opAt ops i).type e W z k bytes ht D hz0 hsize hby hz hk I A cap n xs r ⟨H,0,none⟩ m c2 news hl J
  (fun j u hj=>by rw[Lib.add_plain,vZ];exact X j u hj) h1 M O f (hb w hi.mem.ext hi.box.self)
 have y:(execOp s.rho (opAt ops i)).run P w=.ok (.value (.slice A' (n+m) cap')) w':=by simp[execOp,ho,resolve,invoke,builtin,hs,hx,F,Result.andThen]
 rw[y,Oper.upon_value,hd]
 have h0:=hi.app0 (d:=d) (tT hN) (al_v (s:=s) (.slice A' (n+m) cap'))
 have a0:∀ b',A'=some ⟨b',0,none⟩→¬ s.own L b':=fun b' e1=>by
  rcases b b' e1 with C|rfl
  ·exact (hT b' C).1
  rintro⟨c,hc,e⟩
  obtain⟨q,eq⟩:=sY.1 hc
  have:=(hi.mem.blk c q.1 q.2 eq).lt
  omega
 exact hK _ _ (K A' cap' ⟨Z,fun j hj=>(b j hj).elim Or.inl (fun (e:j=w.heap.size)=>Or.inr (by rw[e];exact hi.mem.ext.size)),fun j hj G=>(b j hj).elim (fun h=>T j h G) (fun (e:j=w.heap.size)=>rF _ (e ▸ hB w hi.box.self j G))⟩ L _ _ (h0.eff4 Y hT (fun w1 w2 E C h4 h5=>⟨hΨ w1 w2 E C h4,hr.fr h5 a0⟩)))
theorem Zs4 {i d k n m cap bytes:Nat}{t e:TypeId}{s0 x:Operand}{xs news:List Value}{z:Value}(base:Nat)(A:qA)(f:∀ j,A=some ⟨j,0,none⟩→base≤j→w0.heap.size≤j∨S0 j)(l c2:Nat)(Ψ:World→Prop)(C:∀ w,Fr S0 w0 w→Φ w→base≤w.heap.size)(D:∀ w,Φ w→OwnD w base e k A cap n xs)(E:∀ w,Φ w→∀ j u,news[j]? = some u→w.cell? ⟨l,j,none⟩=some u)(F:news.length=m*k)(G:0<k)(H:z.cells.size=k)(o:iX z.cells)(p:0<m)(I:∀ u∈news,u.oneCell'=true)(q:∀ (k:IntKind) (z:Int),Value.int k z∈news→k=.i64)(r:n+m≤maxLen)(b:(n+m)*bytes≤140737488355328)(y:n=0→A=none)(J:∀ w w',Fr S0 w0 w'→Φ w→Fr (fun i=>A=some ⟨i,0,none⟩) w w'→Ψ w')(K:∀ (A':qA) (cap':Nat),A'≠none∧(∀ j,A'=some ⟨j,0,none⟩→A=some ⟨j,0,none⟩∨w0.heap.size≤j)→SXi P N S0 w0 ops Q (i+1) (s.put d (Λ A' (n+m) cap')) (fun w=>Ψ w∧OwnD w base e k A' cap' (n+m) (xs ++ news)))(B:Nat.blt i ops.size=true:=by kernel_rfl)(M:s.wantB ops (opAt ops i)=some true:=by kernel_rfl)(O:(opAt ops i).op.operands.toList.all s.vB=true:=by kernel_rfl)(R:(opAt ops i).op=.call { callee:=.builtin .append,args:=#[s0,x],argTypes:=#[t,t] }:=by kernel_rfl)(S:(opAt ops i).dst=some d:=by kernel_rfl)(T:Nat.blt d N=true:=by kernel_rfl)(U:P.underlying t=some (.slice e):=by kernel_rfl)(g:(P.info? e).map (fun i=>(i.zero,i.size,i.bytes))=some (some z,k,bytes):=by kernel_rfl)(V:s.rho s0=.slice A n cap:=by kernel_rfl)(W:s.rho x=.slice (some ⟨l,0,none⟩) m c2:=by kernel_rfl):SXi P N S0 w0 ops Q i s Φ :=
 Zs3 base A (fun _=>False) f l c2 Ψ C D E F G H o p I q r b y (fun _ _ _ h=>h.elim) (fun _ _ h=>h) J (fun A' X h=>K A' X ⟨h.1,h.2.1⟩) B M O R S T U g V W
theorem Blk.news {e:TypeId}{b:Nat}{news:List Value}(h:Blk e w b news.toArray):∀ j u,news[j]? = some u→w.cell? ⟨b,j,none⟩=some u:=fun j u d=>by rw[h.cell];simpa using d
theorem OwnD.news {m k c n b:Nat}{e:TypeId}{news:List Value}(h:OwnD w m e k (some ⟨b,0,none⟩) c n news):∀ j u,news[j]? = some u→w.cell? ⟨b,j,none⟩=some u:=fun j u hj=>by
 rcases h.2 with ⟨h3,_⟩|⟨g,d,h3,_,f,_,_,_,_,i⟩
 ·cases h3
 injection h3 with h3
 injection h3 with h3
 subst h3
 rw[f.cell]
 rw[←i,nP] at hj
 split at hj
 ·simpa using hj
 cases hj
theorem OwnD.ofBlk {m k n b:Nat}{e:TypeId}{xs:List Value}(h:Blk e w b xs.toArray)(f:m≤b)(d:xs.length=n*k)(g:n≤maxLen)(i:∀ (k:IntKind) (z:Int),Value.int k z∈xs→k=.i64):OwnD w m e k (some ⟨b,0,none⟩) n n xs :=
 ⟨d,Or.inr ⟨b,_,rfl,f,h,iX.list i,uF _,g,by simpa using d,by rw[List.toList_toArray,← d,pK]⟩⟩
theorem OwnD.blkSome {m k n c:Nat}{e:TypeId}{A:qA}{xs:List Value}(h:OwnD w m e k A c n xs)(j:0<n):∃ b,A=some ⟨b,0,none⟩∧m≤b:=by
 rcases h.2 with ⟨_,_,d⟩|⟨g,f,d,i,_⟩
 ·omega
 exact⟨g,d,i⟩
def BoxT (b:Nat) (w w':World) (φ:World→Prop):Prop:=∀ (S:Nat→Prop) (w'':World),(∀ i,S i→i<w.heap.size∧i≠b∧NRB w i)→Fr S w' w''→φ w''
theorem BoxT.and {b:Nat}{w w':World}{φ ψ:World→Prop}(h:BoxT b w w' φ)(k:BoxT b w w' ψ):BoxT b w w' (fun w=>φ w∧ψ w):=fun S d f g=>⟨h S d f g,k S d f g⟩
theorem ZbT {i d b:Nat}{α:Type}(f:FuncId)(args:List Value)(sh:α→Value)(Ψ:World→Prop)(φ:α→World→Prop){c:Value}{j:Nat}(u:∀ w,Φ w→w.cell? ⟨b,j,none⟩=some c)(l:w0.heap.size≤b∨S0 b)(y:∀ w,Fr S0 w0 w→Φ w→Calls P f args.toArray w (fun en w'=>∃ x,en=.returned (sh x)∧Fr (fun i=>i=b) w w'∧BoxT b w w' (φ x)))(z:∀ w w',Fr S0 w0 w'→Φ w→Fr (fun i=>i=b) w w'→Ψ w')(K:∀ x,SXi P N S0 w0 ops Q (i+1) (s.put d (.v (sh x))) (fun w=>Ψ w∧φ x w))(o:Nat.blt i ops.size=true:=by kernel_rfl)(h:fL P N ops (opAt ops i) s=some (f,args,d):=by kernel_rfl):SXi P N S0 w0 ops Q i s Φ:=by
 obtain⟨B,C,D,E,F,G,H⟩:=eO h
 unfold SXi
 rw[gU o]
 intro L a w hi
 refine wpList_step fun X I=>?_
 rw[uM (hi.want B)]
 unfold Oper.wp
 rw[hi.exec E F,ZaX C G,Oper.upon_enter]
 refine Calls.mono (y w hi.mem.ext hi.box.self) fun en w' J=>?_
 obtain⟨x,rfl,M,O⟩:=J
 simp only[D]
 have R:=hi.app0 (d:=d) H (al_v (s:=s) (sh x))
 have g:¬ s.own L b:=hi.notOwn (c:=c) (j:=j) u
 have p:∀ r,s.own L r→r<w.heap.size∧r≠b∧NRB w r:=fun r q=>⟨(hi.own_nrb q).1,fun e=>g (e ▸ q),(hi.own_nrb q).2⟩
 exact I _ _ (K x L _ _ (R.eff3 M g l (fun S t T U V W=>⟨z S t T U V,O _ t p W⟩)))
end
theorem OwnD.ext {w w':World}{m n c k:Nat}{e:TypeId}{A:qA}{xs:List Value}(h:OwnD w m e k A c n xs)(a:Ext w w'):OwnD w' m e k A c n xs:=h.fr a (fun _ _ f=>f)
theorem OwnD.nrb {w:World}{m n c k i:Nat}{e:TypeId}{A:qA}{xs:List Value}(h:OwnD w m e k A c n xs)(hi:A=some ⟨i,0,none⟩):NRB w i:=by
 obtain⟨_,a,b,d⟩:=h.blk hi
 exact⟨_,_,b,d⟩
theorem bN {α:Type}[Inhabited α]{enc:α→List Value}{k:Nat}(b:∀ x,(enc x).length=k):∀ (a:List α) (i j:Nat),i<a.length→j<k→(a.flatMap enc)[i*k+j]? = (enc a[i]!)[j]?
 | [],i,j,h,_=>by cases h
 | x :: a,0,j,_,hj=>by
  rw[rI,sD,vZ,rP (by rw[b];exact hj)];rfl
 | x :: a,i+1,j,h,hj=>by
  rw[rI,sN (by rw[b,rA];omega),b,rA,show i*k+k+j-k=i*k+j by omega,bN b a i j (by simpa using h) hj]
  simp
theorem OwnD.at {w:World}{m c n k:Nat}{e:TypeId}{A:qA}{xs:List Value}(h:OwnD w m e k A c n xs){j:Nat}{v:Value}(hj:xs[j]? = some v):∃ b,A=some ⟨b,0,none⟩∧b<w.heap.size∧w.cell? ⟨b,0+j,none⟩=some v:=by
 rcases h.2 with ⟨_,_,a⟩|⟨g,f,rfl,a,d,_,_,_,_,i⟩
 ·have:=h.1
  rw[a,sD] at this
  rw[tI.1 this] at hj
  simp at hj
 refine⟨g,rfl,d.lt,?_⟩
 rw[d.cell,vZ]
 rw[←i,nP] at hj
 split at hj
 ·simpa using hj
 cases hj
theorem OwnD.ne {w:World}{m c n k i:Nat}{e:TypeId}{A:qA}{xs:List Value}(h:OwnD w m e k A c n xs)(hi:i<n):A≠none:=fun e=>by
 rcases h.2 with ⟨_,_,b⟩|⟨g,a,rfl,_⟩
 ·omega
 cases e
section
variable {P:Program} {o:Oper} {ρ:Operand→Value} {w:World} {t e:TypeId} {x:Operand}
theorem aQ {α:Type}[Inhabited α]{enc:α→List Value}{A:qA}{m c n k j:Nat}{ys:List α}(h:OwnD w m e k A c n (ys.flatMap enc))(a:∀ x,(enc x).length=k)(r:j<ys.length)(s:0<k:=by decide)(u:o.op=Op.load t x:=by kernel_rfl)(v:ρ x=atA A (j*k):=by kernel_rfl)(ha:(teOf P t).map (fun e=>(e.agg,e.size))=some (true,k):=by kernel_rfl) :
 (execOp ρ o).run P w=.ok (.value (.agg (enc ys[j]!).toArray)) w:=by
 obtain⟨B,q,y⟩:=vM.1 ha
 injection y with ha hn
 have z:∃ g,A=some ⟨g,0,none⟩:=by
  have d:=bN a ys j 0 r s
  rw[uR (l:=enc ys[j]!) (by rw[a];exact s)] at d
  obtain⟨b,p,_⟩:=h.at d
  exact⟨b,p⟩
 obtain⟨g,rfl⟩:=z
 have:=Zaa (P:=P) (w:=w) q (g:=g) (off:=0+j*k) (cs:=enc ys[j]!) (by rw[a];exact hn.symm) (fun i hi=>by
  rw[a] at hi
  have d:=bN a ys j i r hi
  rw[uR (l:=enc ys[j]!) (by rw[a];exact hi)] at d
  obtain⟨b,f,_,p⟩:=h.at d
  injection f with f
  injection f with f
  subst f
  rw[vZ] at p ⊢
  rw[p,uR (l:=enc ys[j]!) (by rw[a];exact hi)]
  rfl) ha
 simp only[execOp,u,v,atA,rE,jL,Sem.run_bind,this,Result.andThen_ok,Sem.run_pure]
end
theorem ZpF {α:Type}[Inhabited α]{enc:α→List Value}{k:Nat}(c:∀ x,(enc x).length=k)(j:0<k)(b:α)(z:Array Value)(e:z.toList=enc b)(n:Nat):(madeCells z (n*k)).toList=(List.replicate n b).flatMap enc:=by
 have d:z.size=k:=by rw[←c b,← e];simp
 have m:((List.replicate n b).flatMap enc).length=n*k:=by
  induction n with
  | zero=>simp
  | succ n ih=>rw[nD,rI,vE,ih,c,rA];omega
 refine List.ext_getElem? fun i=>?_
 by_cases hi:i<n*k
 ·have f:i/k<n:=sW (by rwa [uG])
  have l:i%k<k:=uP _ j
  have g:=bN c (List.replicate n b) (i/k) (i%k) (by simpa using f) l
  rw[show i/k*k+i%k=i by rw[uG];exact vX i k] at g
  rw[g,vT _ _ (by simpa using f),oJ,← e]
  have h:i%k<z.size:=qO
  simp only[madeCells,Array.toList_map,Array.toList_range,nW,List.getElem?_range hi,rE,d]
  rw[vT z _ h,uR (by simpa using h)]
  simp
 rw[vU (by simp[madeCells];omega),vU qO]
theorem Zg7 {α:Type}{enc:α→List Value}(h:∀ x,∀ (k:IntKind) (z:Int),Value.int k z∈enc x→k=.i64)(l:List α):∀ (k:IntKind) (z:Int),Value.int k z∈l.flatMap enc→k=.i64:=fun k z b=>by
 obtain⟨x,_,c⟩:=List.mem_flatMap.1 b
 exact h x k z c
theorem iO {α:Type}[Inhabited α]{enc:α→List Value}{P:Program}{o:Oper}{ρ:Operand→Value}{w:World}{m0 k n bytes:Nat}{t e:TypeId}{kl kc:IntKind}{l c:Operand}{z:Value}(r:α)(G:∀ x,(enc x).length=k)(H:0<k)(I:z.cells.toList=enc r)(u:∀ x,∀ (k:IntKind) (z:Int),Value.int k z∈enc x→k=.i64)(D:m0≤w.heap.size)(E:n≤maxLen)(J:bytes*n≤281474976710656)(K:o.op=Op.makeSlice t l c:=by kernel_rfl)(M:P.underlying t=some (.slice e):=by kernel_rfl)(f:(P.info? e).map (fun i=>(i.zero,i.size,i.bytes))=some (some z,k,bytes):=by kernel_rfl)(O:ρ l=.int kl (n:Int):=by kernel_rfl)(R:ρ c=.int kc (n:Int):=by kernel_rfl) :
 Does P o ρ w (DoR (fun b:{b:Nat // m0≤b}=>.slice (some ⟨b.1,0,none⟩) n n) (fun b w=>OwnD w m0 e k (some ⟨b.1,0,none⟩) n n ((List.replicate n r).flatMap enc)) w):=by
 obtain⟨g,m,v⟩:=vM.1 f
 injection v with hz0 v
 injection v with hsize hb
 have A:(n:Int)≤9223372036854775807:=by simp only[maxLen] at E;omega
 have B:(g.bytes:Int)*(n:Int)≤281474976710656:=by
  have h:((g.bytes*n:Nat):Int)≤281474976710656:=by rw[hb];omega
  rwa [tG] at h
 have F:=run_make (P:=P) w t e g z M m hz0 kl kc n n qO (nT _) B A
 simp only[rT,hsize] at F
 have p:(execOp ρ o).run P w=.ok (.value (.slice (some ⟨w.heap.size,0,none⟩) n n)) (w.alloc (.cells (madeCells z.cells (n*k)) e)):=by simp[execOp,K,O,R,F,Result.andThen]
 have Q:Ext w (w.alloc (.cells (madeCells z.cells (n*k)) e)):=(Fr.refl _ w).alloc _
 refine Or.inl ⟨_,_,p,⟨w.heap.size,D⟩,rfl,Q,fun S T U V=>?_⟩
 have C:Blk e (w.alloc (.cells (madeCells z.cells (n*k)) e)) w.heap.size (madeCells z.cells (n*k)):=Blk.new w e _
 have W:=C.fr V (fun h=>by have:=(T _ h).1;omega)
 have d:=ZpF G H r z.cells I n
 have j:(madeCells z.cells (n*k)).size=n*k:=size_madeCells _ _
 refine⟨by rw[←d];simp[j],Or.inr ⟨w.heap.size,_,rfl,D,W,fun i q y hi=>?_,uF _,E,j,?_⟩⟩
 ·refine Zg7 u (List.replicate n r) q y ?_
  rw[←d]
  exact oX (by rw[←mD] at hi;exact hi)
 rw[d,uB]
 rw[←d];simp[j]
section
variable {N:Nat} {S0:Nat→Prop} {w0:World} {s:St} {Φ Ψ:World→Prop} {L:Nat→Nat} {a:Act} {w:World} {P:Program} {ops:Array Oper} {Q:Exit→Act→World→Prop}
theorem ZdD {α:Type}{l cs:List α}{off:Nat}(h:off+cs.length≤l.length):(lM l off cs).length=l.length:=by
 unfold lM
 simp only[vE,uN,tB]
 omega
theorem Zg8 {α:Type}{l cs:List α}{off:Nat}(h:off+cs.length≤l.length)(i:Nat):(lM l off cs)[i]? = if i<off then l[i]? else if i<off+cs.length then cs[i-off]? else l[i]? := by
 unfold lM
 by_cases b:i<off
 ·rw[uM b,tD,rP (by rw[uN];omega),tU b]
 rw[uI b]
 by_cases c:i<off+cs.length
 ·rw[uM c,rP (by rw[vE,uN];omega),sN (by rw[uN];omega),uN,uY qO]
 rw[uI c,sN (by rw[vE,uN];omega),vE,uN,uY qO,vR]
 congr 1
 omega
theorem Zlx {α:Type}{l cs:List α}{off n:Nat}(h:off+cs.length≤n)(b:n≤l.length):(lM l off cs).take n=lM (l.take n) off cs:=by
 refine List.ext_getElem? fun i=>?_
 by_cases hi:i<n
 ·rw[tU hi,Zg8 qO,Zg8 (by rw[uN];omega),tU hi]
 rw[vU (by rw[uN];omega),vU (by rw[ZdD (by rw[uN];omega),uN];omega)]
theorem jU {α:Type}{enc:α→List Value}{k:Nat}(c:∀ x,(enc x).length=k):∀ (b:List α) (j:Nat) (x:α),j<b.length→(b.set j x).flatMap enc=lM (b.flatMap enc) (j*k) (enc x)
 | [],j,x,h=>by cases h
 | y :: b,0,x,_=>by
  unfold lM
  rw[List.set_cons_zero,rI,rI,sD,List.take_zero,pQ,c,vZ,mF,c,rZ,sI,List.drop_eq_nil_of_le (by rw[c];exact uF _),pQ]
 | y :: b,j+1,x,h=>by
  rw[List.set_cons_succ,rI,rI,jU c b j x (by simpa using h)]
  unfold lM
  have d:(enc y ++ b.flatMap enc).take ((j+1)*k)=enc y ++ (b.flatMap enc).take (j*k):=by
   rw[rA,List.take_append,c,uB (by rw[c];omega),tK]
  have e:(enc y ++ b.flatMap enc).drop ((j+1)*k+(enc x).length)=(b.flatMap enc).drop (j*k+(enc x).length):=by
   rw[rA,mF,c,List.drop_eq_nil_of_le (by rw[c];omega),pQ,c]
   congr 1
   omega
  rw[d,e]
  simp only[tD]
theorem dC {i k n c j:Nat}{t e:TypeId}{x y:Operand}{xs new:List Value}(base b:Nat)(v:Value)(Ψ:World→Prop)(Y:∀ w,Φ w→OwnD w base e k (some ⟨b,0,none⟩) c n xs)(hj:j<n)(m:new.length=k)(hk:0<k)(o:base≤b→w0.heap.size≤b∨S0 b)(h1:∀ c,c∈new→c.oneCell'=true)(J:∀ (k:IntKind) (z:Int),Value.int k z∈new→k=.i64)(I:v.cells.toList=new)(hΨ:∀ w w',Φ w→Fr (fun i=>some (⟨b,0,none⟩:Addr)=some ⟨i,0,none⟩) w w'→Ψ w')(K:SXi P N S0 w0 ops Q (i+1) s (fun w=>Ψ w∧OwnD w base e k (some ⟨b,0,none⟩) c n (lM xs (j*k) new)))(M:Nat.blt i ops.size=true:=by kernel_rfl)(hw:s.wantB ops (opAt ops i)=some true:=by kernel_rfl)(ho:(opAt ops i).op=.store t x y:=by kernel_rfl)(hd:(opAt ops i).dst=none:=by kernel_rfl)(hs:(teOf P t).map (fun e=>e.size)=some k:=by kernel_rfl)(hx:s.eval x=some (.v (.pointer (some ⟨b,0+j*k,none⟩))):=by kernel_rfl)(d:s.eval y=some (.v v):=by kernel_rfl):SXi P N S0 w0 ops Q i s Φ:=by
 unfold SXi
 rw[gU M]
 intro L a w hi
 refine wpList_step fun K' hK=>?_
 rw[uM (hi.want hw)]
 obtain⟨te,O,p⟩:=vM.1 hs
 obtain⟨l,r⟩:=Y w hi.box.self
 rcases r with ⟨h3,_⟩|⟨g,cur,h3,u,Z,A,B,S,T,U⟩
 ·cases h3
 injection h3 with h3
 injection h3 with h3
 subst h3
 have C:j*k+k≤n*k:=by rw[←rA];exact uE k hj
 have D:n*k≤c*k:=uE k B
 have h:cur.toList.length=c*k:=by simpa using T
 have V:Blk e w b cur.toList.toArray:=by rw[Array.toArray_toList];exact Z
 obtain⟨w',hr,E,hF⟩:=ZaE (P:=P) O (g:=b) (bt:=e) (off:=0+j*k) (cur:=cur.toList) (v:=v) V (by rw[I,m];exact p.symm) (by rw[I,m,h];omega) (fun c hc=>by rw[I] at hc;exact h1 c hc)
 rw[I,vZ] at E
 unfold Oper.wp
 have ex:=hi.eval hx
 have ey:=hi.eval d
 have F:(execOp a.eval (opAt ops i)).run P w=.ok .skip w':=by simp only[execOp,ho,Sem.run_bind,ex,ey,AV.conc,hr,Result.andThen_ok,Sem.run_pure]
 rw[F,Oper.upon_skip,hd]
 have W:OwnD w' base e k (some ⟨b,0,none⟩) c n (lM xs (j*k) new):=by
  refine⟨by rw[ZdD (by rw[m,l];exact C),l],Or.inr ⟨b,_,rfl,u,E,iX.list (fun q y d=>?_),B,S,by rw[oQ,ZdD (by rw[m,h];omega),h],?_⟩⟩
  ·unfold lM at d
   rcases rD.1 d with d|d
   ·rcases rD.1 d with d|d
    ·exact A.mem (sU d)
    exact J q y d
   exact A.mem (pB d)
  rw[Zlx (by rw[m];exact C) (by rw[h];exact D),U]
 have f:0<xs.length:=by rw[l];have:0<k*n:=sK hk qO;rw[uG];exact this
 have X:Fr (fun i=>i=b) w w':=hF
 refine hK _ _ (K L _ _ (hi.eff X (hi.notOwn (c:=xs[0]'f) (j:=0) (fun w R=>?_)) (o u) Z.lt (fun w1 w2 k1 k2 k3=>⟨hΨ w1 w2 k1 (k2.mono (fun i _ e=>by rw[e])),?_⟩)))
 ·obtain⟨b2,G,_,h4⟩:=(Y w R).at (j:=0) (v:=xs[0]'f) (uR f)
  injection G with G
  injection G with G
  subst G
  exact h4
 obtain⟨q1,q2⟩:=W
 refine⟨q1,?_⟩
 rcases q2 with ⟨h3,_⟩|⟨g,H,h3,r1,r2,r3⟩
 ·cases h3
 injection h3 with h3
 injection h3 with h3
 subst h3
 exact Or.inr ⟨b,H,rfl,r1,k3.trans r2,r3⟩
end
abbrev Fv3:=Bool×Nat × Int
def flC (x:ByteArray×Int):List Value:=[.string x.1,.int .i64 x.2]
structure Nb where
 s:Bool
 A:Option Addr
 l:Nat
 c:Nat
 m:Nat
 e:Int
def nb0:Nb:=⟨false,none,0,0,0,0⟩
instance:Inhabited Nb:=⟨nb0⟩
def nbC (x:Nb):List Value:=[.bool x.s,.slice x.A x.l x.c,.int .i64 x.e]
def nbV (x:Nb):Fv3:=(x.s,x.m,x.e)
def NbOk (w:World) (x:Nb):Prop:=zF w (.slice x.A x.l x.c) x.m
def wR (w:World) (xs:List Nb):Prop:=∀ x∈xs,NbOk w x
theorem Zbx (x:Nb):(nbC x).length=3:=rfl
theorem Zaw (x:ByteArray×Int):(flC x).length=2:=rfl
theorem Zks (x:Nb):∀ (k:IntKind) (z:Int),Value.int k z∈nbC x→k=.i64:=fun k z h=>by
 simp[nbC] at h;exact h.1
theorem Zg9 (x:ByteArray×Int):∀ (k:IntKind) (z:Int),Value.int k z∈flC x→k=.i64:=fun k z h=>by
 simp[flC] at h;exact h.1
theorem Zur (w:World):NbOk w nb0:=zF.zero w
section
variable {w w':World} {xs:List Nb} {m n c k:Nat} {e:TypeId} {A:Option Addr} {l:List Value}
theorem wR.nrb {S:Nat→Prop}(h:wR w xs)(a:∀ i,S i→NRB w i)(b:Fr S w w'):wR w' xs:=fun x d=>(h x d).nrb a b
theorem wR.ext (h:wR w xs)(a:Ext w w'):wR w' xs:=fun x b=>(h x b).ext a
theorem wR.row (h:wR w xs)(a:OwnD w m e k A c n l)(b:Fr (fun i=>A=some ⟨i,0,none⟩) w w'):wR w' xs:=h.nrb (fun _ hi=>a.nrb hi) b
theorem zF.rowD {v:Value}{x:Nat}(h:zF w v x)(a:OwnD w m e k A c n l)(b:Fr (fun i=>A=some ⟨i,0,none⟩) w w'):zF w' v x:=h.nrb (fun _ hi=>a.nrb hi) b
theorem wR.get {j:Nat}(h:wR w xs)(a:j<xs.length):zF w (.slice xs[j]!.A xs[j]!.l xs[j]!.c) xs[j]!.m:=h _ (by rw[vT xs j a];exact sF a)
theorem wR.zero (w:World)(n:Nat):wR w (List.replicate n nb0):=fun x a=>by rw[(qV.1 a).2];exact Zur w
theorem wR.set {j:Nat}{x:Nb}(h:wR w xs)(b:NbOk w x):wR w (xs.set j x):=fun y d=>by
 rcases rN d with a|a
 ·exact h y a
 rw[a];exact b
end
def fill (n:Nat) {α:Type} (z:α) (l:List α):List α:=l ++ List.replicate (n-l.length) z
theorem Zax {n:Nat}{α:Type}{z:α}{l:List α}(h:l.length≤n):(fill n z l).length=n:=by unfold fill;simp;omega
theorem Zay {α:Type}{z:α}{l:List α}:fill l.length z l=l:=by unfold fill;simp
theorem Zkt {n:Nat}{α:Type}{z x:α}{l:List α}(h:l.length<n):(fill n z l).set l.length x=fill n z (l ++ [x]):=by
 unfold fill
 rw[pP _ _ (uF _),rZ,show n-l.length=(n-(l ++ [x]).length)+1 by simp;omega,nD,List.set_cons_zero,tD]
 rfl
theorem Zaz (n:Nat){α:Type}(z:α):fill n z []=List.replicate n z:=by unfold fill;simp
def SRd (w:World) (A:Option Addr) (ss:List ByteArray):Prop:=∀ i,i<ss.length→∃ b off,A=some ⟨b,off,none⟩∧b<w.heap.size∧w.cell? ⟨b,off+i,none⟩=some (.string ss[i]!)
theorem SRd.ext {w w':World}{A:qA}{ss:List ByteArray}(h:SRd w A ss)(d:Ext w w'):SRd w' A ss:=fun i hi=>by
 obtain⟨b,a,j,g,q⟩:=h i hi
 exact⟨b,a,j,uT g d.size,(d.cell (p:=⟨b,a+i,none⟩) g (fun f=>f)).trans q⟩
theorem SRd.ne {w:World}{A:qA}{a:List ByteArray}{i:Nat}(h:SRd w A a)(hi:i<a.length):A≠none:=by
 obtain⟨b,d,f,_⟩:=h i hi
 rw[f];exact Option.some_ne_none _
section
variable {P:Program} {o:Oper} {ρ:Operand→Value} {w:World} {t e:TypeId} {x ix:Operand}
theorem jV {b len cap i sz:Nat}(h:i<len)(a:o.op=Op.indexAddr t x ix:=by kernel_rfl)(d:P.underlying t=some (.slice e):=by kernel_rfl)(f:(P.info? e).map (fun i=>i.size)=some sz:=by kernel_rfl)(g:ρ x=.slice (some ⟨b,0,none⟩) len cap:=by kernel_rfl)(hi:ρ ix=.int .i64 (i:Int):=by kernel_rfl):(execOp ρ o).run P w=.ok (.value (.pointer (some ⟨b,0+i*sz,none⟩))) w:=by
 have:=xE (w:=w) (A:=some ⟨b,0,none⟩) qS h a d f g hi
 rw[this,atA,rE,jL]
theorem ZfZ {A:qA}{a:List ByteArray}{j:Nat}(d:SRd w A a)(f:j<a.length)(g:o.op=Op.load t x:=by kernel_rfl)(h:ρ x=atA A (j*1):=by kernel_rfl)(ha:(teOf P t).map (fun e=>e.agg)=some false:=by kernel_rfl) :
 (execOp ρ o).run P w=.ok (.value (.string a[j]!)) w:=by
 obtain⟨b,i,rfl,_,p⟩:=d j f
 exact wN p g (by rw[h,atA,rE,jL,sH]) ha
end
section
variable {N:Nat} {S0:Nat→Prop} {w0:World} {s s':St} {Φ Ψ Φ0:World→Prop} {L:Nat→Nat} {a:Act} {w:World} {P:Program} {ops:Array Oper} {Q:Exit→Act→World→Prop} {o:Oper} {fin:St→(World→Prop)→Prop}
def Zhc:Op→Bool
 | .extract _ _=>true
 | _=>false
theorem Zrg (hi:Inv N S0 w0 s Φ L a w){o:Oper}{x:AV}(h:lY P o s=some x)(w':World):∃ y,x=.v y∧(execOp a.eval o).run P w'=.ok (.value y) w':=by
 unfold lY at h
 cases hb:jD o.op && o.op.operands.toList.all s.vB with
 | false=>rw[hb] at h;cases h
 | true =>
  rw[hb] at h
  rw[sA] at hb
  simp only[cond_true] at h
  split at h
  ·rename_i y b
   injection h with h
   refine⟨y,h.symm,?_⟩
   rw[hi.exec hb.1 hb.2]
   exact Zcw b w'
  cases h
theorem ZpI {e d:Nat}(hex:Zhc (opAt ops e).op=true)(c:(opAt ops e).guard=none)(f:(opAt ops e).dst=some d)(h:Strat P N S0 w0 ops Φ0 fin [e] s Φ):∃ v,s.wantB ops (opAt ops e)=some true∧lY P (opAt ops e) s=some (.v v)∧d<N∧Strat P N S0 w0 ops Φ0 fin [] (s.app d (.v v,none)) Φ:=by
 have g:cls (opAt ops e).op=0:=by
  cases h:(opAt ops e).op<;>first|rfl | (rw[h] at hex;cases hex)
 have b:s.wantB ops (opAt ops e)=some true:=by unfold St.wantB;rw[c]
 cases h with
 | flt hx hd hN K =>
  rename_i r m
  rw[f] at hd
  injection hd with hd
  subst hd
  rcases hx with hx|⟨y,_,hk,_⟩
  ·unfold jR at hx
   rw[b] at hx
   have i:noB (lY P (opAt ops e) s)=some r:=by
    cases h:(opAt ops e).op<;>first | (rw[h] at hex;cases hex;done) | (rw[h] at hx;simpa using hx)
   obtain⟨y,j,k⟩:=lS i
   obtain⟨v,l⟩:=Zed j
   subst l
   rw[k] at K
   exact⟨v,b,j,hN,K⟩
  cases h:(opAt ops e).op<;>first | (rw[h] at hex;cases hex;done) | (rw[h] at hk;cases hk)
 | does hα sh φ hm=>rw[g] at hm;cases hm
 | gen hα sh E Ψ hm=>rw[g] at hm;cases hm
 | sto hm=>rw[g] at hm;cases hm
theorem ZnP {s0:St}{n e d:Nat}{R:Nat→Nat→Bool}(hR:Zgu ops R)(hu:ZaG ops=true)(hn:n≤ops.size)(C:Zb9 ops=true)(D:∀ i,i<n→i≠e→fT .any ops n i=true)(E:Ze1 R ops s0 n=true)(T:Region.seqB .any ops (ops.size-n) n (cI ops n)=true)(g0:∃ w,Φ0 w)(he:e<n)(h0:Zhc (opAt ops e).op=true)(i0:(opAt ops e).guard=none)(r:(opAt ops e).dst=some d)(U:∀ (j:Nat) (o:Oper) cs b,ops[j]? = some o→o.op≠.select cs b)(V:∀ j oj,ops[j]? = some oj→n≤j→(opAt ops e).apart ops oj=true)(hQ:∀ c a w v,Q (.panic c) (a.put (some d) v) w→Q (.panic c) a w)(W:∀ s Φ,fin s Φ→∀ L a w,Inv N S0 w0 s Φ L a w→wpList P ops Q (ops.toList.drop n) a w) :
 ∀ (k:Nat) (listed:Array Bool) (s:St) (Φ:World→Prop) (L:Nat→Nat) (a:Act) (w:World),(un n listed).length=k→listed.size=ops.size→(∀ i,n≤i→i<ops.size→listed.getD i true=false)→bS .any ops listed →
 BI ops s0 s→(∀ w,Φ w→Φ0 w)→Inv N S0 w0 s Φ L a w→Strat P N S0 w0 ops Φ0 fin (un n listed) s Φ→wpAny P .any ops Q (k+(ops.size-n)) listed a w:=by
 intro k
 induction k with
 | zero =>
  intro listed s Φ L a w hk p t q u S hi hS
  have A:un n listed=[]:=tI.1 hk
  rw[A] at hS
  have F:listed=cI ops n:=by
   refine Array.ext (by simp[cI,p];omega) fun i f h2=>?_
   have G:i<ops.size:=by rw[←p];exact f
   have e:listed.getD i true=listed[i]:=by simp[f]
   rw[←e]
   by_cases I:i<n
   ·have:listed.getD i true≠false:=fun h=>by
     have:=eP.2 ⟨I,h⟩
     rw[A] at this
     cases this
    simp only[cI,List.getElem_toArray]
    rw[List.getElem_append_left (by simpa using I),oJ]
    cases h:listed.getD i true with
    | true=>rfl
    | false=>exact absurd h this
   rw[t i qO G]
   simp only[cI,List.getElem_toArray]
   rw[List.getElem_append_right (by simpa using I),oJ]
  have X:(ops.toList.drop n).length=ops.size-n:=qS
  cases hS with
  | done hf =>
   have:=wpAny_of_seq (md:=.any) (Q':=Q) (ops.toList.drop n) n listed a w (fun j=>qS) (by rw[X,F];exact T) (W _ _ hf L a w hi)
   rw[X] at this
   rw[vZ];exact this
 | succ k ih =>
  intro listed s Φ L a w hk p t q u S hi hS
  rw[show k+1+(ops.size-n)=(k+(ops.size-n))+1 by omega]
  obtain⟨x,R',g⟩:∃ x R,un n listed=x :: R:=by
   cases h:un n listed with
   | nil=>rw[h] at hk;cases hk
   | cons x R=>exact⟨x,R,rfl⟩
  have hx:=eP.1 (by rw[g];exact pO:x∈un n listed)
  have Y:∀ i,i<x→listed.getD i true=true:=fun i D0=>by
   cases h:listed.getD i true with
   | true=>rfl
   | false =>
    have:=eP.2 ⟨(by omega:i<n),h⟩
    rw[g] at this
    have B:=aJ n listed
    rw[g] at B
    rcases oN.1 this with e|e
    ·omega
    have:=(List.pairwise_cons.1 B).1 i e;omega
  have hxr:x∈Region.ready .any ops listed:=by
   have z:x<ops.size:=qO
   refine mem_ready.2 ⟨hx.2,opAt ops x,dJ z,fun e he j0=>?_⟩
   have f:=vI.1 C x (sX.2 z)
   rw[dJ z] at f
   have Z:=Array.all_eq_true'.1 f e he
   rw[j0] at Z
   have h2:=tT Z
   have h3:=Y e.on h2
   have h4:e.on<listed.size:=by rw[p];exact rY h2 z
   simp[h4] at h3 ⊢;exact h3
  by_cases l:∀ y,y∈un n listed→y=e
  ·have k0:x=e:=l x (by rw[g];exact pO)
   have J:R'=[]:=by
    cases R' with
    | nil=>rfl
    | cons y R2 =>
     have B:=aJ n listed
     rw[g] at B l
     have f:=(List.pairwise_cons.1 B).1 y pO
     have h2:=l y (List.mem_cons_of_mem _ pO)
     omega
   subst k0
   rw[g,J] at hS
   have a0:x<ops.size:=qO
   obtain⟨v,hw,l0,hN,K'⟩:=ZpI h0 i0 r hS
   have O:Yields P ops (opAt ops x) v a:=by
    refine Or.inl ⟨hi.want hw,fun w'=>?_⟩
    obtain⟨y,K,m0⟩:=Zrg hi l0 w'
    injection K with K
    rw[K];exact m0
   have m:=ZjA (l1:=[]) (l2:=[]) (by rw[g,J];rfl:un n listed=[] ++ x :: [])
   have n0:k=0:=by rw[g,J] at hk;simpa using hk.symm
   have H:=ih (listed.setIfInBounds x true) _ Φ L _ w (by rw[m,n0];rfl) (by simp[p]) (fun i f h2=>by rw[getD_set_ne true qO];exact t i f h2) (q.set hxr) (u.app hu a0 r (fun b off hr=>by cases hr) (fun b off hr=>by cases hr)) S (hi.app0 (d:=d) hN (al_v (s:=s) v)) (by rw[m];exact K')
   refine wpAny_first (i:=x) (oi:=opAt ops x) (v:=v) (dJ a0) U (fun c a w=>by rw[r];exact hQ c a w v) _ listed a w (fun j oj hj o0 p0 _=>?_) hxr O (by rw[r];exact H)
   refine V j oj hj ?_
   rcases vO j n with h|h
   ·exact absurd (l j (eP.2 ⟨h,p0⟩)) o0
   exact h
  obtain⟨y0,q0,b0⟩:∃ y,y∈un n listed∧y≠e:=by
   refine tY fun r0=>l fun y O=>tY fun t0=>r0 ⟨y,O,t0⟩
  have c0:=eP.1 q0
  refine⟨fun h=>(by rw[h] at hxr;cases hxr),fun j hj=>?_⟩
  have d0:j<n:=ZfJ (D y0 c0.1 b0) q c0.2 hj
  obtain⟨e0,oj,u0,M⟩:=mem_ready.1 hj
  have v0:j∈un n listed:=eP.2 ⟨d0,e0⟩
  obtain⟨l1,l2,F⟩:=List.append_of_mem v0
  have B:=aJ n listed
  rw[F] at B
  have x0:∀ y,y∈l1→y<ops.size∧(opAt ops y).apart ops (opAt ops j)=true∧(gP (opAt ops y).op (opAt ops j).op=true∨(lsB (opAt ops y).op (opAt ops j).op=true∧farB ops s0 (opAt ops y) (opAt ops j)=true)):=fun y O=>by
   have z0:y<j:=(List.pairwise_append.1 B).2.2 y O j pO
   have A0:=(eP.1 (by rw[F];exact List.mem_append_left _ O:y∈un n listed)).2
   have f:=vI.1 (vI.1 E j (sX.2 d0)) y (sX.2 z0)
   rw[mQ] at f
   rcases f with f|f
   ·have h2:=hR listed q j y f (fun o ho=>by
     have:o=oj:=pR (ho.symm.trans u0)
     subst this
     exact M)
    rw[getD_both A0] at h2
    cases h2
   simp only[sA,mQ] at f
   exact⟨qO,f⟩
  rw[F] at hS
  have B0:=Strat.front hu g0 l1 l2 s Φ hi.wf u x0 hS
  refine Strat.exec hu u qO hi S B0 fun s' Φ' L' a' w' f0 C0 G K'=>?_
  have m:=ZjA F
  refine ih (listed.setIfInBounds j true) s' Φ' L' a' w' ?_ (by simp[p]) (fun i f h2=>?_) (q.set hj) f0 C0 G (by rw[m];exact K')
  ·rw[m]
   rw[F] at hk
   simp only[vE,sS] at hk ⊢
   omega
  rw[getD_set_ne true qO];exact t i f h2
def ZrZ (ops:Array Oper) (s0:St) (n e d:Nat):Bool:=(Nat.ble (e+1) n && (Zhc (opAt ops e).op && (opAt ops e).guard.isNone && (match (opAt ops e).dst with | some k=>Nat.beq k d | none=>false)) && Region.noSelect ops && (List.range ops.size).all (fun j=>Nat.blt j n || (opAt ops e).apart ops (opAt ops j))) && (Nat.ble n ops.size && (ZaG ops && Zb9 ops && ((List.range n).all (fun i=>Nat.beq i e || fT .any ops n i) && (Ze1 (Zb8 .any ops 4) ops s0 n && Region.seqB .any ops (ops.size-n) n (cI ops n)))))
theorem Zf2 {o:Oper}{d:Nat}(h:(Zhc o.op=true∧o.guard.isNone=true)∧(match o.dst with | some k=>Nat.beq k d | none=>false)=true):Zhc o.op=true∧o.guard=none∧o.dst=some d:=by
 obtain⟨⟨b,c⟩,h3⟩:=h
 refine⟨b,by simpa using c,?_⟩
 split at h3
 ·rename_i k e
  rw[e,mC h3]
 cases h3
theorem ZnQ {n e:Nat}(h:(List.range ops.size).all (fun j=>Nat.blt j n || (opAt ops e).apart ops (opAt ops j))=true):∀ j b,ops[j]? = some b→n≤j→(opAt ops e).apart ops b=true:=fun j b d k=>by
 have f:j<ops.size:=(oW.1 d).1
 have c:=vI.1 h j (sX.2 f)
 rw[mQ] at c
 have g:opAt ops j=b:=by have:=dJ f;rw[d] at this;injection this with this;exact this.symm
 rw[g] at c
 refine c.resolve_left fun i=>?_
 have:=tT i
 omega
theorem Zrh {id:Nat}(n e d:Nat){sl:SlL}{g:BlL}(p:∀ c a w v,Q (.panic c) (a.put (some d) v) w→Q (.panic c) a w)(h:StI P N S0 w0 ops Φ Q n 0 (ofL sl g) Φ)(k:ZrZ ops (ofL sl g) n e d=true:=by kernel_rfl)(hI:Ze0 ops sl=true:=by kernel_rfl)(q:P.follows .mixedOrders=true:=by exact zM):SXc P N S0 w0 Q (.region id ops true) (ofL sl g) Φ:=by
 unfold ZrZ at k
 simp only[sA] at k
 obtain⟨⟨⟨⟨r,l⟩,t⟩,u⟩,x,⟨y,z⟩,A,B,C⟩:=k
 have D:=tT x
 intro L a w hi
 refine wp_region_any q ?_
 have f:un n (Array.replicate ops.size false)=List.range n:=by
  unfold un
  refine List.filter_eq_self.2 fun i b=>?_
  have:=sX.1 b
  simp[show i<ops.size by omega]
 have:=ZnP (Zfp ops) (e:=e) (d:=d) (Q:=Q) (fin:=fun s Φ=>SXi P N S0 w0 ops Q n s Φ) y D z (fun i b m=>((mQ _ _).mp (vI.1 A i (sX.2 b))).resolve_left (fun h=>m (mC h))) B C ⟨w,hi.box.self⟩ (tT r) (Zf2 l).1 (Zf2 l).2.1 (Zf2 l).2.2 (Region.noSelect_spec t) (ZnQ u) p (fun s Φ E L a w b=>E L a w b) (un n (Array.replicate ops.size false)).length (Array.replicate ops.size false) _ Φ L a w.drew rfl qS
  (fun i _ F=>by simp[F]) (fun j G _ hl=>by rw[getD_replicate_false] at hl;cases hl) (BI.init hI) (fun _ h=>h) hi.drew (by rw[f];unfold StI at h;rw[←List.range_eq_range'] at h;exact h)
 rw[f,List.length_range,show n+(ops.size-n)=ops.size by omega] at this
 exact this
end
section
variable {N:Nat} {S0:Nat→Prop} {w0:World} {s:St} {Φ Φ0:World→Prop} {P:Program} {ops:Array Oper} {Q:Exit→Act→World→Prop}
theorem Zrp {n i b:Nat}{α:Type}[u:Nonempty α](d:Nat)(f:FuncId)(args:List Value)(sh:α→Value)(Ψ:World→Prop)(φ:α→World→Prop){c:Value}{j:Nat}(y:∀ w,Φ w→w.cell? ⟨b,j,none⟩=some c)(k:w0.heap.size≤b∨S0 b)(z:∀ w,Fr S0 w0 w→Φ w→Calls P f args.toArray w (fun en w'=>∃ x,en=.returned (sh x)∧Fr (fun i=>i=b) w w'∧BoxT b w w' (φ x)))(A:∀ w w',Fr S0 w0 w'→Φ w→Fr (fun i=>i=b) w w'→Ψ w')(B:∀ x w,Ψ w∧φ x w→Φ0 w)(K:∀ x,StI P N S0 w0 ops Φ0 Q n (i+1) (s.put d (.v (sh x))) (fun w=>Ψ w∧φ x w))(hi:Nat.blt i n=true:=by kernel_rfl)(C:cls (opAt ops i).op=2:=by kernel_rfl)(h:fL P N ops (opAt ops i) s=some (f,args,d):=by kernel_rfl):StI P N S0 w0 ops Φ0 Q n i s Φ:=by
 obtain⟨D,E,F,G,H,I,J⟩:=eO h
 have M:i<n:=tT hi
 unfold StI
 rw[show n-i=(n-(i+1))+1 by omega,List.range'_succ]
 refine .gen u sh (fun x w w'=>Fr S0 w0 w∧Fr (fun i=>i=b) w w'∧BoxT b w w' (φ x)) (fun x w=>Ψ w∧φ x w) C D G H F J (fun w p R=>?_) (fun q L a w w' x hi S=>?_) B K
 ·exact Or.inr ⟨f,args.toArray,w,ZaX E I,(z w p R).mono (fun e w' h=>by
   obtain⟨x,O,l⟩:=h
   exact⟨_,O,x,rfl,p,l⟩)⟩
 obtain⟨_,T,U⟩:=S
 have g:¬ q.own L b:=hi.notOwn (c:=c) (j:=j) y
 have m:∀ r,q.own L r→r<w.heap.size∧r≠b∧NRB w r:=fun r o=>⟨(hi.own_nrb o).1,fun e=>g (e ▸ o),(hi.own_nrb o).2⟩
 exact hi.eff3 T g k (fun V t l W X Y=>⟨A V t l W X,U _ t m Y⟩)
end
section
variable {N:Nat} {S0:Nat→Prop} {w0:World} {s:St} {Φ Φ0:World→Prop} {P:Program} {ops:Array Oper} {Q:Exit→Act→World→Prop}
theorem Inv.facts {Ψ:World→Prop}{L:Nat→Nat}{a:Act}{w:World}(h:Inv N S0 w0 s Ψ L a w)(Q:∀ w,Ψ w→Φ w):Inv N S0 w0 s Φ L a w :=
 ⟨h.size,h.df,h.sl,h.mem,fun w' b=>Q _ (h.box w' b)⟩
theorem SXi.facts {n:Nat}{Ψ:World→Prop}(h:SXi P N S0 w0 ops Q n s Φ)(R:∀ w,Ψ w→Φ w):SXi P N S0 w0 ops Q n s Ψ:=fun L a w hi=>h L a w (hi.facts R)
variable {n x0 y0:Nat} {RR:List Nat} {sl:SlL} {bl:BlL}
-- the part ahead of the pair
structure IsDo (P:Program) (N:Nat) (S0:Nat→Prop) (w0:World) (ops:Array Oper) (s:St) (Φ:World→Prop) (i d:Nat) {α:Type} (sh:α→Value) (φ:α→World→Prop):Prop where
 hm:cls (opAt ops i).op=2
 hw:s.wantB ops (opAt ops i)=some true
 hn:jD (opAt ops i).op=true
 hv:(opAt ops i).op.operands.toList.all s.vB=true
 hd:(opAt ops i).dst=some d
 hN:d<N
 hdo:∀ w,Fr S0 w0 w→Φ w→Does P (opAt ops i) s.rho w (DoR sh φ w)
end
theorem xP {N:Nat}{S0:Nat→Prop}{w0:World}{P:Program}{ops:Array Oper}{Q:Exit→Act→World→Prop}{i d:Nat}{x:AV}{sl:SlL}{a:BlL}{Φ:World→Prop}(K:SXi P N S0 w0 ops Q i (ofL ((d,x) :: sl) a) Φ):SXi P N S0 w0 ops Q i ((ofL sl a).put d x) Φ:=K
end Go.Proofs.YtmpffakfhcpjoaaGreatDoor
