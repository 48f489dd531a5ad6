/-
 My texts.
-/
import Derived.Test.YtdlgidnkmbklcaaGreatDoorZ17
import Derived.Lib.SplitLaws
set_option maxRecDepth 100000
set_option maxHeartbeats 8000000
namespace Go.Proofs.YtdlgidnkmbklcaaGreatDoor
open Go.RowKit
theorem wA {m0:Nat}{P:Program}{o:Oper}{ρ:Operand→Value}{w:World}{t e:TypeId}{n sz:Nat}{z:Value}{parts:Array (Nat × Operand)}{c:Array Value}(j:m0≤w.heap.size)(k:o.op=Op.buildSlice t n parts)(l:P.underlying t=some (.slice e))(d:(P.info? e).map (fun i=>(i.zero,i.size))=some (some z,sz))(m:Nat.ble (n*sz) 1000=true)(g:Nat.beq (n*sz) 0=false)(p:Instr.fill (fun i=>some (i*sz,sz)) ((List.range (n*sz)).map (fun i=>z.cells[i%z.cells.size]!)).toArray (parts.toList.map fun q=>(q.1,ρ q.2))=some c) :
 Does P o ρ w (DoR (fun b:{b:Nat // m0≤b}=>.slice (some ⟨b.1,0,none⟩) n n) (fun b w=>Blk e w b.1 c) w):=by
 have f:=Zf1 (w:=w) l d m g p
 exact Or.inl ⟨_,_,by simp[execOp,k,f,Result.andThen],⟨w.heap.size,j⟩,rfl,(Fr.refl _ w).alloc _,fun S r u v=>(Blk.new w e c).fr v (fun h=>by have:=(r _ h).1;omega)⟩
section
variable {N:Nat} {S0:Nat→Prop} {w:World} {Φ:World→Prop} {P:Program}
theorem Zaz (S0:Nat→Prop){fn:Func}{f:FuncId}{c:Code}{args:List Value}{R:Ending→World→Prop}(j:P.funcs[f]? = some fn)(k:fn.body=some c)(l:Nat.ble args.length fn.ntmps=true)(Q:Box (fun _=>False) w Φ)(h:SXc P fn.ntmps S0 w (bodyPost P fn R) c (ofL (Zcz 0 args) []) Φ):Calls P f args.toArray w R:=by
 refine calls_of_wp j k (h (fun _=>0) _ w ⟨?_,rfl,fun i x m=>?_,⟨fun b t n e=>(by cases e),fun b c e=>(by cases e),fun b e=>(by cases e),Fr.refl _ _,fun i b off e=>?_,fun b t n e=>(by cases e)⟩,?_⟩)
 ·have:=vS l
  simp;omega
 ·obtain⟨_,v,hv,rfl⟩:=bN args 0 i x m
  have d:i<args.length:=by
   rcases vM i args.length with a|a
   ·exact a
   rw[vL qO] at hv;cases hv
  simp only[AV.conc]
  rw[Array.getElem?_append_left (by simpa using d)]
  simpa using hv
 ·obtain⟨_,v,hv,e'⟩:=bN args 0 i _ e
  cases e'
 intro w' g
 exact Q w' (g.mono (fun i _ a=>by obtain⟨b,e,_⟩:=a;cases e))
end
section
variable {N:Nat} {S0:Nat→Prop} {w0:World} {s:St} {Φ Ψ:World→Prop} {L:Nat→Nat} {a:Act} {w:World} {P:Program} {ops:Array Oper} {Q:Exit→Act→World→Prop}
theorem Inv.eff3 (h:Inv N S0 w0 s Φ L a w){w':World}{r:Nat}(g:Fr (fun i=>i=r) w w')(l:¬ s.own L r)(d:w0.heap.size≤r∨S0 r)(m:∀ w1 w2,Fr S0 w0 w2→Φ w1→Fr (fun i=>i=r) w1 w2→Fr (s.own L) w' w2→Ψ w2):Inv N S0 w0 s Ψ L a w':=by
 refine⟨h.size,h.df,h.sl,⟨fun b t n e=>(h.mem.blk b t n e).fr g (fun o=>l ⟨b,by rw[e];rfl,o⟩),h.mem.inj,h.mem.old,h.mem.ext.next g (fun i hi e=>?_),h.mem.slp,h.mem.cel⟩,fun w2 j=>?_⟩
 ·rcases d with f|f
  ·omega
  rw[e];exact f
 have k:Fr (fun i=>s.own L i∨i=r) w w2:=(g.mono (fun i _ e=>Or.inr e)).trans (j.mono (fun i _ e=>Or.inl e))
 obtain⟨w1,k1,p⟩:=k.split
 refine m w1 w2 (h.mem.ext.next k (fun i hi q=>?_)) (h.box w1 k1) p j
 rcases q with ⟨c,u,e⟩|e
 ·rcases h.mem.old c u with f|f
  ·omega
  rw[←e];exact f
 rcases d with f|f
 ·omega
 rw[e];exact f
end
section
variable {N:Nat} {S0:Nat→Prop} {w0:World} {s:St} {Φ Ψ:World→Prop} {L:Nat→Nat} {a:Act} {w:World} {P:Program} {ops:Array Oper} {Q:Exit→Act→World→Prop}
theorem Inv.eff4 (h:Inv N S0 w0 s Φ L a w){w':World}{T:Nat→Prop}(f:Fr T w w')(g:∀ i,T i→¬ s.own L i∧(w0.heap.size≤i∨S0 i))(l:∀ w1 w2,Fr S0 w0 w2→Φ w1→Fr T w1 w2→Fr (s.own L) w' w2→Ψ w2):Inv N S0 w0 s Ψ L a w':=by
 refine⟨h.size,h.df,h.sl,⟨fun b t m e=>(h.mem.blk b t m e).fr f (fun n=>(g _ n).1 ⟨b,by rw[e];rfl,rfl⟩),h.mem.inj,h.mem.old,h.mem.ext.next f (fun i hi e=>?_),h.mem.slp,h.mem.cel⟩,fun w2 j=>?_⟩
 ·rcases (g i e).2 with d|d
  ·omega
  exact d
 have k:Fr (fun i=>s.own L i∨T i) w w2:=(f.mono (fun i _ e=>Or.inr e)).trans (j.mono (fun i _ e=>Or.inl e))
 obtain⟨w1,k1,o⟩:=k.split
 refine l w1 w2 (h.mem.ext.next k (fun i hi p=>?_)) (h.box w1 k1) o j
 rcases p with ⟨c,q,e⟩|e
 ·rcases h.mem.old c q with d|d
  ·omega
  rw[←e];exact d
 rcases (g i e).2 with d|d
 ·omega
 exact d
end
def OwnD (w:World) (m:Nat) (e:TypeId) (k:Nat) (A:Option Addr) (c n:Nat) (xs:List Value):Prop :=
 xs.length=n*k∧((A=none∧c=0∧n=0)∨∃ g cur,A=some ⟨g,0,none⟩∧m≤g∧Blk e w g cur∧wW cur∧n≤c∧c≤maxLen∧cur.size=c*k∧cur.toList.take (n*k)=xs)
section
variable {w w':World} {m n c k:Nat} {e:TypeId} {A:Option Addr} {xs:List Value}
theorem OwnD.nil (w:World)(m:Nat)(e:TypeId)(k:Nat):OwnD w m e k none 0 0 []:=⟨qS,Or.inl ⟨rfl,rfl,rfl⟩⟩
theorem OwnD.own (h:OwnD w m e k A c n xs):w.ownsRow m e k (.slice A n c) n xs:=by
 obtain⟨d,f⟩:=h
 refine⟨d,?_⟩
 rcases f with ⟨rfl,rfl,rfl⟩|⟨g,b,rfl,i,j,_,l⟩
 ·exact Or.inl ⟨rfl,rfl⟩
 exact Or.inr ⟨g,c,b,rfl,i,j,l⟩
theorem OwnD.mono {f:Nat}(h:OwnD w m e k A c n xs)(l:f≤m):OwnD w f e k A c n xs:=by
 obtain⟨i,b⟩:=h
 refine⟨i,?_⟩
 rcases b with b|⟨g,d,rfl,o,j⟩
 ·exact Or.inl b
 exact Or.inr ⟨g,d,rfl,qO,j⟩
theorem OwnD.fr {S:Nat→Prop}(h:OwnD w m e k A c n xs)(f:Fr S w w')(j:∀ i,A=some ⟨i,0,none⟩→¬ S i):OwnD w' m e k A c n xs:=by
 obtain⟨l,b⟩:=h
 refine⟨l,?_⟩
 rcases b with b|⟨g,d,rfl,o,p,q⟩
 ·exact Or.inl b
 exact Or.inr ⟨g,d,rfl,o,p.fr f (j g rfl),q⟩
theorem OwnD.blk (h:OwnD w m e k A c n xs){i:Nat}(hi:A=some ⟨i,0,none⟩):m≤i∧∃ cur,Blk e w i cur∧wW cur:=by
 rcases h.2 with ⟨h3,_⟩|⟨b,cur,h3,d,f,g,_⟩
 ·rw[hi] at h3;cases h3
 rw[hi] at h3
 injection h3 with h3
 injection h3 with h3
 subst h3
 exact⟨d,cur,f,g⟩
theorem wW.list {l:List Value}(h:∀ (k:IntKind) (z:Int),Value.int k z∈l→k=.i64):wW l.toArray:=fun i k z e=>by
 rw[List.getElem?_toArray] at e
 exact h k z (List.mem_of_getElem? e)
theorem wW.mem {cs:Array Value}(h:wW cs){k:IntKind}{z:Int}(b:Value.int k z∈cs.toList):k=.i64:=by
 obtain⟨i,hi,e⟩:=oM b
 exact h i k z (by rw[←nE,uV hi,e])
theorem ZoR {z:Array Value}{n:Nat}{v:Value}(h:v∈(Builtin.zeroCells z n).toList):v∈z.toList:=by
 simp[Builtin.zeroCells] at h
 obtain⟨j,d,b⟩:=h
 have f:0<z.size:=qJ (fun e=>by rw[e] at d;omega)
 rw[vT z (j%z.size) (uO _ f)] at b
 rw[←b]
 simp
theorem ZdF {P:Program}(w:World)(m:Nat)(t J e:TypeId)(i:TypeInfo)(z:Value)(k bytes:Nat)(M:P.underlying t=some (.slice e))(hi:P.info? e=some i)(hz:i.zero=some z)(O:i.size=k)(R:i.bytes=bytes)(S:z.cells.size=k)(c0:0<k)(T:wW z.cells)(A:qA)(c n:Nat)(xs:List Value)(hO:OwnD w m e k A c n xs)(a:Addr)(d c2:Nat)(news:List Value)(D:news.length=d*k)(U:0<d)(b:∀ j u,news[j]? = some u→w.cell? (a.add j)=some u)(h1:∀ u∈news,u.oneCell'=true)(E:∀ (k:IntKind) (z:Int),Value.int k z∈news→k=.i64)(F:n+d≤maxLen)(o:(n+d)*bytes≤140737488355328)(hm:m≤w.heap.size) :
 ∃ K c' w',(Builtin.append_ #[t,t] J #[.slice A n c,.slice (some a) d c2]).run P w=.ok (.slice K (n+d) c') w'∧OwnD w' m e k K c' (n+d) (xs ++ news)∧Fr (fun i=>A=some ⟨i,0,none⟩) w w'∧(∀ i,K=some ⟨i,0,none⟩→A=some ⟨i,0,none⟩∨i=w.heap.size)∧K≠none:=by
 subst O R
 have p:(xs ++ news).length=(n+d)*i.size:=by rw[uN,hO.1,D,vC]
 have b0:n+d≤9223372036854775807:=by simp only[maxLen] at F;omega
 obtain⟨x,h2⟩:=hO
 have r:∀ (old:Nat),wW xs.toArray→OwnD (w.drew.alloc (.cells (xs.toArray ++ news.toArray ++ Builtin.zeroCells z.cells (grownCap w (n+d) old e-(n+d))) e)) m e i.size (some ⟨w.heap.size,0,none⟩) (grownCap w (n+d) old e) (n+d) (xs ++ news):=fun old hx=>by
  have V:=grownCap_ge w (n+d) old e
  refine⟨p,Or.inr ⟨w.heap.size,_,rfl,hm,heap_alloc_new w.drew _,fun j q y hj=>?_,V,grownCap_le_maxLen w (n+d) old e F,?_,?_⟩⟩
  ·have h3:=List.mem_of_getElem? (by rw[←nE] at hj;exact hj)
   rw[oL,oL] at h3
   rcases tI.1 h3 with h3|h3
   ·rcases tI.1 h3 with h3|h3
    ·exact hx.mem h3
    exact E q y (by simpa using h3)
   exact T.mem (ZoR h3)
  ·simp only[Array.size_append,pE,size_zeroCells,S,x,D,← vC]
   congr 1
   omega
  simp only[oL,vU]
  rw[←vU,← p]
  exact List.take_left
 rcases h2 with ⟨rfl,rfl,rfl⟩|⟨g,v,rfl,W,X,B,d0,Y,Z,f⟩
 ·obtain rfl:xs=[]:=qQ (by simpa using x)
  have G:=run_append_nil (P:=P) w t J e i z M hi hz a d c2 news D b U qO (by have hb:=o;simp only[tA] at hb;omega)
  have H:=r 0 (fun i k z h=>by simp at h)
  simp only[tA,qW,Array.empty_append] at H ⊢
  exact⟨_,_,_,G,H,((Fr.refl _ w).drewN 1).alloc _,fun j e=>by injection e with e;injection e with e;exact Or.inr e.symm,qS⟩
 have a0:wW xs.toArray:=wW.list (fun k z h=>B.mem (sR (f ▸ h)))
 by_cases l:n+d≤c
 ·have I:n*i.size+news.length≤v.size:=by rw[D,Z,← vC];exact uE _ l
  have G:=run_append_room (P:=P) w t J e i M hi g n c v X a d c2 news D b h1 l I
  refine⟨_,_,_,G,⟨p,Or.inr ⟨g,_,rfl,W,setRow_heap w g v _ e _ X,wW.list (fun k z h=>?_),l,Y,?_,?_⟩⟩,⟨rfl,rfl,rfl,qS,fun k _ O=>setRow_other w g k _ (fun e=>O (by rw[e]))⟩,fun j e=>Or.inl e,qS⟩
  ·rcases tI.1 h with h|h
   ·rcases tI.1 h with h|h
    ·exact B.mem (sR h)
    exact E k z h
   exact B.mem (pC h)
  ·simp only[pE,uN,uM,tC,Array.length_toList]
   omega
  rw[f,← p]
  exact List.take_left
 have C:∀ j u,xs[j]? = some u→w.cell? ((⟨g,0,none⟩:Addr).add j)=some u:=fun j u hu=>by
  have h3:(v.toList.take (n*i.size))[j]? = some u:=by rw[f];exact hu
  rw[Lib.add_plain,tA,Blk.cell X]
  rw[List.getElem?_take] at h3
  split at h3
  ·simpa using h3
  cases h3
 have G:=run_append_grow (P:=P) w t J e i z M hi hz ⟨g,0,none⟩ n c xs x C a d c2 news D b qO qO (growslice_fits qO o)
 exact⟨_,_,_,G,r c a0,((Fr.refl _ w).drewN 1).alloc _,fun j e=>by injection e with e;injection e with e;exact Or.inr e.symm,qS⟩
end
section
variable {N:Nat} {S0:Nat→Prop} {w0:World} {s:St} {Φ Ψ:World→Prop} {L:Nat→Nat} {a:Act} {w:World} {P:Program} {ops:Array Oper} {Q:Exit→Act→World→Prop}
theorem fS {i d k n m cap bytes:Nat}{t e:TypeId}{s0 x:Operand}{xs news:List Value}{z:Value}(base:Nat)(A:qA)(B:Nat→Prop)(o:∀ j,A=some ⟨j,0,none⟩→base≤j→w0.heap.size≤j∨S0 j)(H c2:Nat)(Ψ:World→Prop)(hb:∀ w,Fr S0 w0 w→Φ w→base≤w.heap.size)(hO:∀ w,Φ w→OwnD w base e k A cap n xs)(hX:∀ w,Φ w→∀ j u,news[j]? = some u→w.cell? ⟨H,j,none⟩=some u)(hl:news.length=m*k)(hk:0<k)(hz:z.cells.size=k)(I:wW z.cells)(J:0<m)(h1:∀ u∈news,u.oneCell'=true)(M:∀ (k:IntKind) (z:Int),Value.int k z∈news→k=.i64)(O:n+m≤maxLen)(f:(n+m)*bytes≤140737488355328)(S:n=0→A=none)(hB:∀ w,Φ w→∀ j,B j→j<w.heap.size)(T:∀ j,A=some ⟨j,0,none⟩→¬ B j)(hΨ:∀ w w',Fr S0 w0 w'→Φ w→Fr (fun i=>A=some ⟨i,0,none⟩) w w'→Ψ w')(K:∀ (A':qA) (cap':Nat),A'≠none∧(∀ j,A'=some ⟨j,0,none⟩→A=some ⟨j,0,none⟩∨w0.heap.size≤j)∧(∀ j,A'=some ⟨j,0,none⟩→¬ B j)→SXi P N S0 w0 ops Q (i+1) (s.put d (Λ A' (n+m) cap')) (fun w=>Ψ w∧OwnD w base e k A' cap' (n+m) (xs ++ news)))(U:Nat.blt i ops.size=true:=by kernel_rfl)(hw:s.wantB ops (opAt ops i)=some true:=by kernel_rfl)(hv:(opAt ops i).op.operands.toList.all s.vB=true:=by kernel_rfl)(ho:(opAt ops i).op=.call { callee:=.builtin .append,args:=#[s0,x],argTypes:=#[t,t] }:=by kernel_rfl)(hd:(opAt ops i).dst=some d:=by kernel_rfl)(hN:Nat.blt d N=true:=by kernel_rfl)(ht:P.underlying t=some (.slice e):=by kernel_rfl)(p:(P.info? e).map (fun i=>(i.zero,i.size,i.bytes))=some (some z,k,bytes):=by kernel_rfl)(hs:s.rho s0=.slice A n cap:=by kernel_rfl)(hx:s.rho x=.slice (some ⟨H,0,none⟩) m c2:=by kernel_rfl):SXi P N S0 w0 ops Q i s Φ:=by
 unfold SXi
 rw[jP U]
 intro L a w hi
 refine wpList_step fun K' hK=>?_
 rw[uZ (hi.want hw)]
 unfold Oper.wp
 have V:kU (opAt ops i).op=true:=by rw[ho];rfl
 rw[hi.exec V hv]
 obtain⟨W,D,E⟩:=vK.1 p
 injection E with hz0 E
 injection E with hsize hby
 have r:=hO w hi.box.self
 have X:=hX w hi.box.self
 have hT:∀ j,A=some ⟨j,0,none⟩→¬ s.own L j∧(w0.heap.size≤j∨S0 j):=fun j hj=>by
  have b0:n≠0:=fun h=>by rw[S h] at hj;cases hj
  have l:0<xs.length:=by rw[r.1];exact rC qO hk
  refine⟨hi.notOwn (c:=xs[0]'l) (j:=0) (fun w R=>?_),?_⟩
  ·have C:=(hO w R).own.cells (g:=j) (by rw[hj];rfl) 0 (xs[0]'l) qS
   rw[Lib.add_plain] at C
   exact C
  exact o j hj (r.blk hj).1
 obtain⟨A',cap',w',F,hr,Y,b,Z⟩:=ZdF (P:=P) w base t (opAt ops i).type e W z k bytes ht D hz0 hsize hby hz hk I A cap n xs r ⟨H,0,none⟩ m c2 news hl J
  (fun j u hj=>by rw[Lib.add_plain,tA];exact X j u hj) h1 M O f (hb w hi.mem.ext hi.box.self)
 have y:(execOp s.rho (opAt ops i)).run P w=.ok (.value (.slice A' (n+m) cap')) w':=by simp[execOp,ho,resolve,invoke,builtin,hs,hx,F,Result.andThen]
 rw[y,Oper.upon_value,hd]
 have h0:=hi.app0 (d:=d) (vS hN) (al_v (s:=s) (.slice A' (n+m) cap'))
 have a0:∀ b',A'=some ⟨b',0,none⟩→¬ s.own L b':=fun b' e1=>by
  rcases b b' e1 with C|rfl
  ·exact (hT b' C).1
  rintro⟨c,hc,e⟩
  obtain⟨q,eq⟩:=sX.1 hc
  have:=(hi.mem.blk c q.1 q.2 eq).lt
  omega
 exact hK _ _ (K A' cap' ⟨Z,fun j hj=>(b j hj).elim Or.inl (fun (e:j=w.heap.size)=>Or.inr (by rw[e];exact hi.mem.ext.size)),fun j hj G=>(b j hj).elim (fun h=>T j h G) (fun (e:j=w.heap.size)=>Nat.lt_irrefl _ (e ▸ hB w hi.box.self j G))⟩ L _ _ (h0.eff4 Y hT (fun w1 w2 E C h4 h5=>⟨hΨ w1 w2 E C h4,hr.fr h5 a0⟩)))
theorem ZaS {i d k n m cap bytes:Nat}{t e:TypeId}{s0 x:Operand}{xs news:List Value}{z:Value}(base:Nat)(A:qA)(f:∀ j,A=some ⟨j,0,none⟩→base≤j→w0.heap.size≤j∨S0 j)(l c2:Nat)(Ψ:World→Prop)(C:∀ w,Fr S0 w0 w→Φ w→base≤w.heap.size)(D:∀ w,Φ w→OwnD w base e k A cap n xs)(E:∀ w,Φ w→∀ j u,news[j]? = some u→w.cell? ⟨l,j,none⟩=some u)(F:news.length=m*k)(G:0<k)(H:z.cells.size=k)(o:wW z.cells)(p:0<m)(I:∀ u∈news,u.oneCell'=true)(q:∀ (k:IntKind) (z:Int),Value.int k z∈news→k=.i64)(r:n+m≤maxLen)(b:(n+m)*bytes≤140737488355328)(y:n=0→A=none)(J:∀ w w',Fr S0 w0 w'→Φ w→Fr (fun i=>A=some ⟨i,0,none⟩) w w'→Ψ w')(K:∀ (A':qA) (cap':Nat),A'≠none∧(∀ j,A'=some ⟨j,0,none⟩→A=some ⟨j,0,none⟩∨w0.heap.size≤j)→SXi P N S0 w0 ops Q (i+1) (s.put d (Λ A' (n+m) cap')) (fun w=>Ψ w∧OwnD w base e k A' cap' (n+m) (xs ++ news)))(B:Nat.blt i ops.size=true:=by kernel_rfl)(M:s.wantB ops (opAt ops i)=some true:=by kernel_rfl)(O:(opAt ops i).op.operands.toList.all s.vB=true:=by kernel_rfl)(R:(opAt ops i).op=.call { callee:=.builtin .append,args:=#[s0,x],argTypes:=#[t,t] }:=by kernel_rfl)(S:(opAt ops i).dst=some d:=by kernel_rfl)(T:Nat.blt d N=true:=by kernel_rfl)(U:P.underlying t=some (.slice e):=by kernel_rfl)(g:(P.info? e).map (fun i=>(i.zero,i.size,i.bytes))=some (some z,k,bytes):=by kernel_rfl)(V:s.rho s0=.slice A n cap:=by kernel_rfl)(W:s.rho x=.slice (some ⟨l,0,none⟩) m c2:=by kernel_rfl):SXi P N S0 w0 ops Q i s Φ :=
 fS base A (fun _=>False) f l c2 Ψ C D E F G H o p I q r b y (fun _ _ _ h=>h.elim) (fun _ _ h=>h) J (fun A' X h=>K A' X ⟨h.1,h.2.1⟩) B M O R S T U g V W
theorem Blk.news {e:TypeId}{b:Nat}{news:List Value}(h:Blk e w b news.toArray):∀ j u,news[j]? = some u→w.cell? ⟨b,j,none⟩=some u:=fun j u d=>by rw[h.cell];simpa using d
theorem OwnD.ofBlk {m k n b:Nat}{e:TypeId}{xs:List Value}(h:Blk e w b xs.toArray)(f:m≤b)(d:xs.length=n*k)(g:n≤maxLen)(i:∀ (k:IntKind) (z:Int),Value.int k z∈xs→k=.i64):OwnD w m e k (some ⟨b,0,none⟩) n n xs :=
 ⟨d,Or.inr ⟨b,_,rfl,f,h,wW.list i,uF _,g,by simpa using d,by rw[List.toList_toArray,← d,sP]⟩⟩
theorem OwnD.blkSome {m k n c:Nat}{e:TypeId}{A:qA}{xs:List Value}(h:OwnD w m e k A c n xs)(j:0<n):∃ b,A=some ⟨b,0,none⟩∧m≤b:=by
 rcases h.2 with ⟨_,_,d⟩|⟨g,f,d,i,_⟩
 ·omega
 exact⟨g,d,i⟩
def BoxT (b:Nat) (w w':World) (φ:World→Prop):Prop:=∀ (S:Nat→Prop) (w'':World),(∀ i,S i→i<w.heap.size∧i≠b∧NRB w i)→Fr S w' w''→φ w''
theorem BoxT.and {b:Nat}{w w':World}{φ ψ:World→Prop}(h:BoxT b w w' φ)(k:BoxT b w w' ψ):BoxT b w w' (fun w=>φ w∧ψ w):=fun S d f g=>⟨h S d f g,k S d f g⟩
theorem iV {i d b:Nat}{α:Type}(f:FuncId)(args:List Value)(o:α→Value)(Ψ:World→Prop)(φ:α→World→Prop){c:Value}{j:Nat}(y:∀ w,Φ w→w.cell? ⟨b,j,none⟩=some c)(l:w0.heap.size≤b∨S0 b)(z:∀ w,Fr S0 w0 w→Φ w→Calls P f args.toArray w (fun en w'=>∃ x,en=.returned (o x)∧Fr (fun i=>i=b) w w'∧BoxT b w w' (φ x)))(B:∀ w w',Fr S0 w0 w'→Φ w→Fr (fun i=>i=b) w w'→Ψ w')(K:∀ x,SXi P N S0 w0 ops Q (i+1) (s.put d (.v (o x))) (fun w=>Ψ w∧φ x w))(p:Nat.blt i ops.size=true:=by kernel_rfl)(h:gH P N ops (opAt ops i) s=some (f,args,d):=by kernel_rfl):SXi P N S0 w0 ops Q i s Φ:=by
 obtain⟨C,D,E,F,G,H,I⟩:=gO h
 unfold SXi
 rw[jP p]
 intro L a w hi
 refine wpList_step fun Y J=>?_
 rw[uZ (hi.want C)]
 unfold Oper.wp
 rw[hi.exec F G,bT D H,Oper.upon_enter]
 refine Calls.mono (z w hi.mem.ext hi.box.self) fun en w' M=>?_
 obtain⟨x,rfl,O,R⟩:=M
 simp only[E]
 have S:=hi.app0 (d:=d) I (al_v (s:=s) (o x))
 have g:¬ s.own L b:=hi.notOwn (c:=c) (j:=j) y
 have q:∀ r,s.own L r→r<w.heap.size∧r≠b∧NRB w r:=fun r t=>⟨(hi.own_nrb t).1,fun e=>g (e ▸ t),(hi.own_nrb t).2⟩
 exact J _ _ (K x L _ _ (S.eff3 O g l (fun T u U V W X=>⟨B T u U V W,R _ u q X⟩)))
end
theorem OwnD.ext {w w':World}{m n c k:Nat}{e:TypeId}{A:qA}{xs:List Value}(h:OwnD w m e k A c n xs)(a:Ext w w'):OwnD w' m e k A c n xs:=h.fr a (fun _ _ f=>f)
theorem OwnD.nrb {w:World}{m n c k i:Nat}{e:TypeId}{A:qA}{xs:List Value}(h:OwnD w m e k A c n xs)(hi:A=some ⟨i,0,none⟩):NRB w i:=by
 obtain⟨_,a,b,d⟩:=h.blk hi
 exact⟨_,_,b,d⟩
theorem aA {α:Type}[Inhabited α]{enc:α→List Value}{k:Nat}(b:∀ x,(enc x).length=k):∀ (a:List α) (i j:Nat),i<a.length→j<k→(a.flatMap enc)[i*k+j]? = (enc a[i]!)[j]?
 | [],i,j,h,_=>by cases h
 | x :: a,0,j,_,hj=>by
  rw[qC,sY,tA,rN (by rw[b];exact hj)];rfl
 | x :: a,i+1,j,h,hj=>by
  rw[qC,sJ (by rw[b,pF];omega),b,pF,show i*k+k+j-k=i*k+j by omega,aA b a i j (by simpa using h) hj]
  simp
theorem OwnD.at {w:World}{m c n k:Nat}{e:TypeId}{A:qA}{xs:List Value}(h:OwnD w m e k A c n xs){j:Nat}{v:Value}(hj:xs[j]? = some v):∃ b,A=some ⟨b,0,none⟩∧b<w.heap.size∧w.cell? ⟨b,0+j,none⟩=some v:=by
 rcases h.2 with ⟨_,_,a⟩|⟨g,f,rfl,a,d,_,_,_,_,i⟩
 ·have:=h.1
  rw[a,sY] at this
  rw[tG.1 this] at hj
  simp at hj
 refine⟨g,rfl,d.lt,?_⟩
 rw[d.cell,tA]
 rw[←i,List.getElem?_take] at hj
 split at hj
 ·simpa using hj
 cases hj
theorem OwnD.ne {w:World}{m c n k i:Nat}{e:TypeId}{A:qA}{xs:List Value}(h:OwnD w m e k A c n xs)(hi:i<n):A≠none:=fun e=>by
 rcases h.2 with ⟨_,_,b⟩|⟨g,a,rfl,_⟩
 ·omega
 cases e
section
variable {P:Program} {o:Oper} {ρ:Operand→Value} {w:World} {t e:TypeId} {x:Operand}
theorem wX {α:Type}[Inhabited α]{enc:α→List Value}{A:qA}{m c n k j:Nat}{ys:List α}(h:OwnD w m e k A c n (ys.flatMap enc))(a:∀ x,(enc x).length=k)(r:j<ys.length)(s:0<k:=by decide)(u:o.op=Op.load t x:=by kernel_rfl)(v:ρ x=atA A (j*k):=by kernel_rfl)(ha:(teOf P t).map (fun e=>(e.agg,e.size))=some (true,k):=by kernel_rfl) :
 (execOp ρ o).run P w=.ok (.value (.agg (enc ys[j]!).toArray)) w:=by
 obtain⟨B,q,y⟩:=vK.1 ha
 injection y with ha hn
 have z:∃ g,A=some ⟨g,0,none⟩:=by
  have d:=aA a ys j 0 r s
  rw[uV (l:=enc ys[j]!) (by rw[a];exact s)] at d
  obtain⟨b,p,_⟩:=h.at d
  exact⟨b,p⟩
 obtain⟨g,rfl⟩:=z
 have:=ZaG (P:=P) (w:=w) q (g:=g) (off:=0+j*k) (cs:=enc ys[j]!) (by rw[a];exact hn.symm) (fun i hi=>by
  rw[a] at hi
  have d:=aA a ys j i r hi
  rw[uV (l:=enc ys[j]!) (by rw[a];exact hi)] at d
  obtain⟨b,f,_,p⟩:=h.at d
  injection f with f
  injection f with f
  subst f
  rw[tA] at p ⊢
  rw[p,uV (l:=enc ys[j]!) (by rw[a];exact hi)]
  rfl) ha
 simp only[execOp,u,v,atA,rK,jW,Sem.run_bind,this,Result.andThen_ok,Sem.run_pure]
end
theorem Zne {α:Type}[Inhabited α]{enc:α→List Value}{k:Nat}(c:∀ x,(enc x).length=k)(j:0<k)(b:α)(z:Array Value)(e:z.toList=enc b)(n:Nat):(madeCells z (n*k)).toList=(List.replicate n b).flatMap enc:=by
 have d:z.size=k:=by rw[←c b,← e];simp
 have m:((List.replicate n b).flatMap enc).length=n*k:=by
  induction n with
  | zero=>simp
  | succ n ih=>rw[oJ,qC,uN,ih,c,pF];omega
 refine List.ext_getElem? fun i=>?_
 by_cases hi:i<n*k
 ·have f:i/k<n:=sW (by rwa [uG])
  have l:i%k<k:=uO _ j
  have g:=aA c (List.replicate n b) (i/k) (i%k) (by simpa using f) l
  rw[show i/k*k+i%k=i by rw[uG];exact tB i k] at g
  rw[g,vT _ _ (by simpa using f),rZ,← e]
  have h:i%k<z.size:=qO
  simp only[madeCells,Array.toList_map,Array.toList_range,List.getElem?_map,List.getElem?_range hi,rK,d]
  rw[vT z _ h,uV (by simpa using h)]
  simp
 rw[vL (by simp[madeCells];omega),vL qO]
theorem ZlV {α:Type}{enc:α→List Value}(h:∀ x,∀ (k:IntKind) (z:Int),Value.int k z∈enc x→k=.i64)(l:List α):∀ (k:IntKind) (z:Int),Value.int k z∈l.flatMap enc→k=.i64:=fun k z b=>by
 obtain⟨x,_,c⟩:=List.mem_flatMap.1 b
 exact h x k z c
theorem cJ {α:Type}[Inhabited α]{enc:α→List Value}{P:Program}{o:Oper}{ρ:Operand→Value}{w:World}{m0 k n bytes:Nat}{t e:TypeId}{kl kc:IntKind}{l c:Operand}{z:Value}(r:α)(G:∀ x,(enc x).length=k)(H:0<k)(I:z.cells.toList=enc r)(u:∀ x,∀ (k:IntKind) (z:Int),Value.int k z∈enc x→k=.i64)(D:m0≤w.heap.size)(E:n≤maxLen)(J:bytes*n≤281474976710656)(K:o.op=Op.makeSlice t l c:=by kernel_rfl)(M:P.underlying t=some (.slice e):=by kernel_rfl)(f:(P.info? e).map (fun i=>(i.zero,i.size,i.bytes))=some (some z,k,bytes):=by kernel_rfl)(O:ρ l=.int kl (n:Int):=by kernel_rfl)(R:ρ c=.int kc (n:Int):=by kernel_rfl) :
 Does P o ρ w (DoR (fun b:{b:Nat // m0≤b}=>.slice (some ⟨b.1,0,none⟩) n n) (fun b w=>OwnD w m0 e k (some ⟨b.1,0,none⟩) n n ((List.replicate n r).flatMap enc)) w):=by
 obtain⟨g,m,v⟩:=vK.1 f
 injection v with hz0 v
 injection v with hsize hb
 have A:(n:Int)≤9223372036854775807:=by simp only[maxLen] at E;omega
 have B:(g.bytes:Int)*(n:Int)≤281474976710656:=by
  have h:((g.bytes*n:Nat):Int)≤281474976710656:=by rw[hb];omega
  rwa [tU] at h
 have F:=run_make (P:=P) w t e g z M m hz0 kl kc n n qO (Int.le_refl _) B A
 simp only[qT,hsize] at F
 have p:(execOp ρ o).run P w=.ok (.value (.slice (some ⟨w.heap.size,0,none⟩) n n)) (w.alloc (.cells (madeCells z.cells (n*k)) e)):=by simp[execOp,K,O,R,F,Result.andThen]
 have Q:Ext w (w.alloc (.cells (madeCells z.cells (n*k)) e)):=(Fr.refl _ w).alloc _
 refine Or.inl ⟨_,_,p,⟨w.heap.size,D⟩,rfl,Q,fun S T U V=>?_⟩
 have C:Blk e (w.alloc (.cells (madeCells z.cells (n*k)) e)) w.heap.size (madeCells z.cells (n*k)):=Blk.new w e _
 have W:=C.fr V (fun h=>by have:=(T _ h).1;omega)
 have d:=Zne G H r z.cells I n
 have j:(madeCells z.cells (n*k)).size=n*k:=size_madeCells _ _
 refine⟨by rw[←d];simp[j],Or.inr ⟨w.heap.size,_,rfl,D,W,fun i q y hi=>?_,uF _,E,j,?_⟩⟩
 ·refine ZlV u (List.replicate n r) q y ?_
  rw[←d]
  exact List.mem_of_getElem? (by rw[←nE] at hi;exact hi)
 rw[d,uA]
 rw[←d];simp[j]
section
variable {N:Nat} {S0:Nat→Prop} {w0:World} {s:St} {Φ Ψ:World→Prop} {L:Nat→Nat} {a:Act} {w:World} {P:Program} {ops:Array Oper} {Q:Exit→Act→World→Prop}
theorem ZcI {α:Type}{l cs:List α}{off:Nat}(h:off+cs.length≤l.length):(lL l off cs).length=l.length:=by
 unfold lL
 simp only[uN,uM,tC]
 omega
theorem Zf4 {α:Type}{l cs:List α}{off:Nat}(h:off+cs.length≤l.length)(i:Nat):(lL l off cs)[i]? = if i<off then l[i]? else if i<off+cs.length then cs[i-off]? else l[i]? := by
 unfold lL
 by_cases b:i<off
 ·rw[uZ b,vU,rN (by rw[uM];omega),tP b]
 rw[uQ b]
 by_cases c:i<off+cs.length
 ·rw[uZ c,rN (by rw[uN,uM];omega),sJ (by rw[uM];omega),uM,uU qO]
 rw[uQ c,sJ (by rw[uN,uM];omega),uN,uM,uU qO,vJ]
 congr 1
 omega
theorem Zke {α:Type}{l cs:List α}{off n:Nat}(h:off+cs.length≤n)(b:n≤l.length):(lL l off cs).take n=lL (l.take n) off cs:=by
 refine List.ext_getElem? fun i=>?_
 by_cases hi:i<n
 ·rw[tP hi,Zf4 qO,Zf4 (by rw[uM];omega),tP hi]
 rw[vL (by rw[uM];omega),vL (by rw[ZcI (by rw[uM];omega),uM];omega)]
theorem dR {α:Type}{enc:α→List Value}{k:Nat}(c:∀ x,(enc x).length=k):∀ (b:List α) (j:Nat) (x:α),j<b.length→(b.set j x).flatMap enc=lL (b.flatMap enc) (j*k) (enc x)
 | [],j,x,h=>by cases h
 | y :: b,0,x,_=>by
  unfold lL
  rw[List.set_cons_zero,qC,qC,sY,List.take_zero,qW,c,tA,nH,c,qM,sE,List.drop_eq_nil_of_le (by rw[c];exact uF _),qW]
 | y :: b,j+1,x,h=>by
  rw[List.set_cons_succ,qC,qC,dR c b j x (by simpa using h)]
  unfold lL
  have d:(enc y ++ b.flatMap enc).take ((j+1)*k)=enc y ++ (b.flatMap enc).take (j*k):=by
   rw[pF,List.take_append,c,uA (by rw[c];omega),tN]
  have e:(enc y ++ b.flatMap enc).drop ((j+1)*k+(enc x).length)=(b.flatMap enc).drop (j*k+(enc x).length):=by
   rw[pF,nH,c,List.drop_eq_nil_of_le (by rw[c];omega),qW,c]
   congr 1
   omega
  rw[d,e]
  simp only[vU]
theorem Zce {i k n c j:Nat}{t e:TypeId}{x y:Operand}{xs new:List Value}(base b:Nat)(v:Value)(Ψ:World→Prop)(Y:∀ w,Φ w→OwnD w base e k (some ⟨b,0,none⟩) c n xs)(hj:j<n)(m:new.length=k)(hk:0<k)(o:base≤b→w0.heap.size≤b∨S0 b)(h1:∀ c,c∈new→c.oneCell'=true)(J:∀ (k:IntKind) (z:Int),Value.int k z∈new→k=.i64)(I:v.cells.toList=new)(hΨ:∀ w w',Φ w→Fr (fun i=>some (⟨b,0,none⟩:Addr)=some ⟨i,0,none⟩) w w'→Ψ w')(K:SXi P N S0 w0 ops Q (i+1) s (fun w=>Ψ w∧OwnD w base e k (some ⟨b,0,none⟩) c n (lL xs (j*k) new)))(M:Nat.blt i ops.size=true:=by kernel_rfl)(hw:s.wantB ops (opAt ops i)=some true:=by kernel_rfl)(ho:(opAt ops i).op=.store t x y:=by kernel_rfl)(hd:(opAt ops i).dst=none:=by kernel_rfl)(hs:(teOf P t).map (fun e=>e.size)=some k:=by kernel_rfl)(hx:s.eval x=some (.v (.pointer (some ⟨b,0+j*k,none⟩))):=by kernel_rfl)(d:s.eval y=some (.v v):=by kernel_rfl):SXi P N S0 w0 ops Q i s Φ:=by
 unfold SXi
 rw[jP M]
 intro L a w hi
 refine wpList_step fun K' hK=>?_
 rw[uZ (hi.want hw)]
 obtain⟨te,O,p⟩:=vK.1 hs
 obtain⟨l,r⟩:=Y w hi.box.self
 rcases r with ⟨h3,_⟩|⟨g,cur,h3,u,Z,A,B,S,T,U⟩
 ·cases h3
 injection h3 with h3
 injection h3 with h3
 subst h3
 have C:j*k+k≤n*k:=by rw[←pF];exact uE k hj
 have D:n*k≤c*k:=uE k B
 have h:cur.toList.length=c*k:=by simpa using T
 have V:Blk e w b cur.toList.toArray:=by rw[Array.toArray_toList];exact Z
 obtain⟨w',hr,E,hF⟩:=Zah (P:=P) O (g:=b) (bt:=e) (off:=0+j*k) (cur:=cur.toList) (v:=v) V (by rw[I,m];exact p.symm) (by rw[I,m,h];omega) (fun c hc=>by rw[I] at hc;exact h1 c hc)
 rw[I,tA] at E
 unfold Oper.wp
 have ex:=hi.eval hx
 have ey:=hi.eval d
 have F:(execOp a.eval (opAt ops i)).run P w=.ok .skip w':=by simp only[execOp,ho,Sem.run_bind,ex,ey,AV.conc,hr,Result.andThen_ok,Sem.run_pure]
 rw[F,Oper.upon_skip,hd]
 have W:OwnD w' base e k (some ⟨b,0,none⟩) c n (lL xs (j*k) new):=by
  refine⟨by rw[ZcI (by rw[m,l];exact C),l],Or.inr ⟨b,_,rfl,u,E,wW.list (fun q y d=>?_),B,S,by rw[pE,ZcI (by rw[m,h];omega),h],?_⟩⟩
  ·unfold lL at d
   rcases tI.1 d with d|d
   ·rcases tI.1 d with d|d
    ·exact A.mem (sR d)
    exact J q y d
   exact A.mem (pC d)
  rw[Zke (by rw[m];exact C) (by rw[h];exact D),U]
 have f:0<xs.length:=by rw[l];have:0<k*n:=rC hk qO;rw[uG];exact this
 have X:Fr (fun i=>i=b) w w':=hF
 refine hK _ _ (K L _ _ (hi.eff X (hi.notOwn (c:=xs[0]'f) (j:=0) (fun w R=>?_)) (o u) Z.lt (fun w1 w2 k1 k2 k3=>⟨hΨ w1 w2 k1 (k2.mono (fun i _ e=>by rw[e])),?_⟩)))
 ·obtain⟨b2,G,_,h4⟩:=(Y w R).at (j:=0) (v:=xs[0]'f) (uV f)
  injection G with G
  injection G with G
  subst G
  exact h4
 obtain⟨q1,q2⟩:=W
 refine⟨q1,?_⟩
 rcases q2 with ⟨h3,_⟩|⟨g,H,h3,r1,r2,r3⟩
 ·cases h3
 injection h3 with h3
 injection h3 with h3
 subst h3
 exact Or.inr ⟨b,H,rfl,r1,k3.trans r2,r3⟩
end
end Go.Proofs.YtdlgidnkmbklcaaGreatDoor
