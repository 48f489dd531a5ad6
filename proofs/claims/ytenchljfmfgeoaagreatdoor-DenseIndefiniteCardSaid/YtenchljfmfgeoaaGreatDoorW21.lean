/-
 My texts.
-/
import Derived.Test.YtenchljfmfgeoaaGreatDoorW20
import Derived.Lib.SplitLaws
set_option maxRecDepth 100000
set_option maxHeartbeats 8000000
namespace Go.Proofs.YtenchljfmfgeoaaGreatDoor
open Go.RowKit
theorem aB {m0:Nat}{P:Program}{o:Oper}{ρ:Operand→Value}{w:World}{t e:TypeId}{n sz:Nat}{z:Value}{parts:Array (Nat × Operand)}{c:Array Value}(j:m0≤w.heap.size)(k:o.op=Op.buildSlice t n parts)(l:P.underlying t=some (.slice e))(d:(P.info? e).map (fun i=>(i.zero,i.size))=some (some z,sz))(m:Nat.ble (n*sz) 1000=true)(g:Nat.beq (n*sz) 0=false)(p:Instr.fill (fun i=>some (i*sz,sz)) ((List.range (n*sz)).map (fun i=>z.cells[i%z.cells.size]!)).toArray (parts.toList.map fun q=>(q.1,ρ q.2))=some c) :
 Does P o ρ w (DoR (fun b:{b:Nat // m0≤b}=>.slice (some ⟨b.1,0,none⟩) n n) (fun b w=>Blk e w b.1 c) w):=by
 have f:=ZfW (w:=w) l d m g p
 exact Or.inl ⟨_,_,by simp[execOp,k,f,Result.andThen],⟨w.heap.size,j⟩,rfl,(Fr.refl _ w).alloc _,fun S r u v=>(Blk.new w e c).fr v (fun h=>by have:=(r _ h).1;omega)⟩
section
variable {N:Nat} {S0:Nat→Prop} {w:World} {Φ:World→Prop} {P:Program}
theorem Zd3 (S0:Nat→Prop){fn:Func}{f:FuncId}{c:Code}{args:List Value}{R:Ending→World→Prop}(j:P.funcs[f]? = some fn)(k:fn.body=some c)(l:Nat.ble args.length fn.ntmps=true)(Q:Box (fun _=>False) w Φ)(h:SXc P fn.ntmps S0 w (bodyPost P fn R) c (ofL (Zcv 0 args) []) Φ):Calls P f args.toArray w R:=by
 refine calls_of_wp j k (h (fun _=>0) _ w ⟨?_,rfl,fun i x m=>?_,⟨fun b t n e=>(by cases e),fun b c e=>(by cases e),fun b e=>(by cases e),Fr.refl _ _,fun i b off e=>?_,fun b t n e=>(by cases e)⟩,?_⟩)
 ·have:=tJ l
  simp;omega
 ·obtain⟨_,v,hv,rfl⟩:=cK args 0 i x m
  have d:i<args.length:=by
   rcases vL i args.length with a|a
   ·exact a
   rw[vP qO] at hv;cases hv
  simp only[AV.conc]
  rw[Array.getElem?_append_left (by simpa using d)]
  simpa using hv
 ·obtain⟨_,v,hv,e'⟩:=cK args 0 i _ e
  cases e'
 intro w' g
 exact Q w' (g.mono (fun i _ a=>by obtain⟨b,e,_⟩:=a;cases e))
end
section
variable {N:Nat} {S0:Nat→Prop} {w0:World} {s:St} {Φ Ψ:World→Prop} {L:Nat→Nat} {a:Act} {w:World} {P:Program} {ops:Array Oper} {Q:Exit→Act→World→Prop}
theorem Inv.eff3 (h:Inv N S0 w0 s Φ L a w){w':World}{r:Nat}(g:Fr (fun i=>i=r) w w')(l:¬ s.own L r)(d:w0.heap.size≤r∨S0 r)(m:∀ w1 w2,Fr S0 w0 w2→Φ w1→Fr (fun i=>i=r) w1 w2→Fr (s.own L) w' w2→Ψ w2):Inv N S0 w0 s Ψ L a w':=by
 refine⟨h.size,h.df,h.sl,⟨fun b t n e=>(h.mem.blk b t n e).fr g (fun o=>l ⟨b,by rw[e];rfl,o⟩),h.mem.inj,h.mem.old,h.mem.ext.next g (fun i hi e=>?_),h.mem.slp,h.mem.cel⟩,fun w2 j=>?_⟩
 ·rcases d with f|f
  ·omega
  rw[e];exact f
 have k:Fr (fun i=>s.own L i∨i=r) w w2:=(g.mono (fun i _ e=>Or.inr e)).trans (j.mono (fun i _ e=>Or.inl e))
 obtain⟨w1,p,q⟩:=k.split
 refine m w1 w2 (h.mem.ext.next k (fun i hi u=>?_)) (h.box w1 p) q j
 rcases u with ⟨c,v,e⟩|e
 ·rcases h.mem.old c v with f|f
  ·omega
  rw[←e];exact f
 rcases d with f|f
 ·omega
 rw[e];exact f
end
section
variable {N:Nat} {S0:Nat→Prop} {w0:World} {s:St} {Φ Ψ:World→Prop} {L:Nat→Nat} {a:Act} {w:World} {P:Program} {ops:Array Oper} {Q:Exit→Act→World→Prop}
theorem Inv.eff4 (h:Inv N S0 w0 s Φ L a w){w':World}{T:Nat→Prop}(f:Fr T w w')(g:∀ i,T i→¬ s.own L i∧(w0.heap.size≤i∨S0 i))(l:∀ w1 w2,Fr S0 w0 w2→Φ w1→Fr T w1 w2→Fr (s.own L) w' w2→Ψ w2):Inv N S0 w0 s Ψ L a w':=by
 refine⟨h.size,h.df,h.sl,⟨fun b t m e=>(h.mem.blk b t m e).fr f (fun n=>(g _ n).1 ⟨b,by rw[e];rfl,rfl⟩),h.mem.inj,h.mem.old,h.mem.ext.next f (fun i hi e=>?_),h.mem.slp,h.mem.cel⟩,fun w2 j=>?_⟩
 ·rcases (g i e).2 with d|d
  ·omega
  exact d
 have k:Fr (fun i=>s.own L i∨T i) w w2:=(f.mono (fun i _ e=>Or.inr e)).trans (j.mono (fun i _ e=>Or.inl e))
 obtain⟨w1,o,p⟩:=k.split
 refine l w1 w2 (h.mem.ext.next k (fun i hi q=>?_)) (h.box w1 o) p j
 rcases q with ⟨c,r,e⟩|e
 ·rcases h.mem.old c r with d|d
  ·omega
  rw[←e];exact d
 rcases (g i e).2 with d|d
 ·omega
 exact d
end
def OwnD (w:World) (m:Nat) (e:TypeId) (k:Nat) (A:Option Addr) (c n:Nat) (xs:List Value):Prop :=
 xs.length=n*k∧((A=none∧c=0∧n=0)∨∃ g cur,A=some ⟨g,0,none⟩∧m≤g∧Blk e w g cur∧iK cur∧n≤c∧c≤maxLen∧cur.size=c*k∧cur.toList.take (n*k)=xs)
section
variable {w w':World} {m n c k:Nat} {e:TypeId} {A:Option Addr} {xs:List Value}
theorem OwnD.nil (w:World)(m:Nat)(e:TypeId)(k:Nat):OwnD w m e k none 0 0 []:=⟨qS,Or.inl ⟨rfl,rfl,rfl⟩⟩
theorem OwnD.own (h:OwnD w m e k A c n xs):w.ownsRow m e k (.slice A n c) n xs:=by
 obtain⟨d,f⟩:=h
 refine⟨d,?_⟩
 rcases f with ⟨rfl,rfl,rfl⟩|⟨g,b,rfl,i,j,_,l⟩
 ·exact Or.inl ⟨rfl,rfl⟩
 exact Or.inr ⟨g,c,b,rfl,i,j,l⟩
theorem OwnD.mono {f:Nat}(h:OwnD w m e k A c n xs)(l:f≤m):OwnD w f e k A c n xs:=by
 obtain⟨i,b⟩:=h
 refine⟨i,?_⟩
 rcases b with b|⟨g,d,rfl,o,j⟩
 ·exact Or.inl b
 exact Or.inr ⟨g,d,rfl,qO,j⟩
theorem OwnD.fr {S:Nat→Prop}(h:OwnD w m e k A c n xs)(f:Fr S w w')(j:∀ i,A=some ⟨i,0,none⟩→¬ S i):OwnD w' m e k A c n xs:=by
 obtain⟨l,b⟩:=h
 refine⟨l,?_⟩
 rcases b with b|⟨g,d,rfl,o,p,q⟩
 ·exact Or.inl b
 exact Or.inr ⟨g,d,rfl,o,p.fr f (j g rfl),q⟩
theorem OwnD.blk (h:OwnD w m e k A c n xs){i:Nat}(hi:A=some ⟨i,0,none⟩):m≤i∧∃ cur,Blk e w i cur∧iK cur:=by
 rcases h.2 with ⟨h3,_⟩|⟨b,cur,h3,d,f,g,_⟩
 ·rw[hi] at h3;cases h3
 rw[hi] at h3
 injection h3 with h3
 injection h3 with h3
 subst h3
 exact⟨d,cur,f,g⟩
theorem iK.list {l:List Value}(h:∀ (k:IntKind) (z:Int),Value.int k z∈l→k=.i64):iK l.toArray:=fun i k z e=>by
 rw[List.getElem?_toArray] at e
 exact h k z (pS e)
theorem iK.mem {cs:Array Value}(h:iK cs){k:IntKind}{z:Int}(b:Value.int k z∈cs.toList):k=.i64:=by
 obtain⟨i,hi,e⟩:=qC b
 exact h i k z (by rw[←oU,uO hi,e])
theorem Zo2 {z:Array Value}{n:Nat}{v:Value}(h:v∈(Builtin.zeroCells z n).toList):v∈z.toList:=by
 simp[Builtin.zeroCells] at h
 obtain⟨j,d,b⟩:=h
 have f:0<z.size:=sO (fun e=>by rw[e] at d;omega)
 rw[vZ z (j%z.size) (uM _ f)] at b
 rw[←b]
 simp
theorem Zi0 {P:Program}(w:World)(m:Nat)(t J e:TypeId)(i:TypeInfo)(z:Value)(k bytes:Nat)(M:P.underlying t=some (.slice e))(hi:P.info? e=some i)(hz:i.zero=some z)(O:i.size=k)(R:i.bytes=bytes)(S:z.cells.size=k)(c0:0<k)(T:iK z.cells)(A:qA)(c n:Nat)(xs:List Value)(hO:OwnD w m e k A c n xs)(a:Addr)(d c2:Nat)(news:List Value)(D:news.length=d*k)(U:0<d)(b:∀ j u,news[j]? = some u→w.cell? (a.add j)=some u)(h1:∀ u∈news,u.oneCell'=true)(E:∀ (k:IntKind) (z:Int),Value.int k z∈news→k=.i64)(F:n+d≤maxLen)(o:(n+d)*bytes≤140737488355328)(hm:m≤w.heap.size) :
 ∃ K c' w',(Builtin.append_ #[t,t] J #[.slice A n c,.slice (some a) d c2]).run P w=.ok (.slice K (n+d) c') w'∧OwnD w' m e k K c' (n+d) (xs ++ news)∧Fr (fun i=>A=some ⟨i,0,none⟩) w w'∧(∀ i,K=some ⟨i,0,none⟩→A=some ⟨i,0,none⟩∨i=w.heap.size)∧K≠none:=by
 subst O R
 have p:(xs ++ news).length=(n+d)*i.size:=by rw[uY,hO.1,D,uT]
 have b0:n+d≤9223372036854775807:=by simp only[maxLen] at F;omega
 obtain⟨x,h2⟩:=hO
 have r:∀ (old:Nat),iK xs.toArray→OwnD (w.drew.alloc (.cells (xs.toArray ++ news.toArray ++ Builtin.zeroCells z.cells (grownCap w (n+d) old e-(n+d))) e)) m e i.size (some ⟨w.heap.size,0,none⟩) (grownCap w (n+d) old e) (n+d) (xs ++ news):=fun old hx=>by
  have V:=grownCap_ge w (n+d) old e
  refine⟨p,Or.inr ⟨w.heap.size,_,rfl,hm,heap_alloc_new w.drew _,fun j q y hj=>?_,V,grownCap_le_maxLen w (n+d) old e F,?_,?_⟩⟩
  ·have h3:=pS (by rw[←oU] at hj;exact hj)
   rw[Array.toList_append,Array.toList_append] at h3
   rcases rA.1 h3 with h3|h3
   ·rcases rA.1 h3 with h3|h3
    ·exact hx.mem h3
    exact E q y (by simpa using h3)
   exact T.mem (Zo2 h3)
  ·simp only[Array.size_append,pM,size_zeroCells,S,x,D,← uT]
   congr 1
   omega
  simp only[Array.toList_append,vT]
  rw[←vT,← p]
  exact List.take_left
 rcases h2 with ⟨rfl,rfl,rfl⟩|⟨g,v,rfl,W,X,B,d0,Y,Z,f⟩
 ·obtain rfl:xs=[]:=rY (by simpa using x)
  have G:=run_append_nil (P:=P) w t J e i z M hi hz a d c2 news D b U qO (by have hb:=o;simp only[vW] at hb;omega)
  have H:=r 0 (fun i k z h=>by simp at h)
  simp only[vW,qL,Array.empty_append] at H ⊢
  exact⟨_,_,_,G,H,((Fr.refl _ w).drewN 1).alloc _,fun j e=>by injection e with e;injection e with e;exact Or.inr e.symm,qS⟩
 have a0:iK xs.toArray:=iK.list (fun k z h=>B.mem (sQ (f ▸ h)))
 by_cases l:n+d≤c
 ·have I:n*i.size+news.length≤v.size:=by rw[D,Z,← uT];exact uE _ l
  have G:=run_append_room (P:=P) w t J e i M hi g n c v X a d c2 news D b h1 l I
  refine⟨_,_,_,G,⟨p,Or.inr ⟨g,_,rfl,W,setRow_heap w g v _ e _ X,iK.list (fun k z h=>?_),l,Y,?_,?_⟩⟩,⟨rfl,rfl,rfl,qS,fun k _ O=>setRow_other w g k _ (fun e=>O (by rw[e]))⟩,fun j e=>Or.inl e,qS⟩
  ·rcases rA.1 h with h|h
   ·rcases rA.1 h with h|h
    ·exact B.mem (sQ h)
    exact E k z h
   exact B.mem (qQ h)
  ·simp only[pM,uY,uP,tN,Array.length_toList]
   omega
  rw[f,← p]
  exact List.take_left
 have C:∀ j u,xs[j]? = some u→w.cell? ((⟨g,0,none⟩:Addr).add j)=some u:=fun j u hu=>by
  have h3:(v.toList.take (n*i.size))[j]? = some u:=by rw[f];exact hu
  rw[Lib.add_plain,vW,Blk.cell X]
  rw[oL] at h3
  split at h3
  ·simpa using h3
  cases h3
 have G:=run_append_grow (P:=P) w t J e i z M hi hz ⟨g,0,none⟩ n c xs x C a d c2 news D b qO qO (growslice_fits qO o)
 exact⟨_,_,_,G,r c a0,((Fr.refl _ w).drewN 1).alloc _,fun j e=>by injection e with e;injection e with e;exact Or.inr e.symm,qS⟩
end
section
variable {N:Nat} {S0:Nat→Prop} {w0:World} {s:St} {Φ Ψ:World→Prop} {L:Nat→Nat} {a:Act} {w:World} {P:Program} {ops:Array Oper} {Q:Exit→Act→World→Prop}
theorem Zqv {i d k n m cap bytes:Nat}{t e:TypeId}{s0 x:Operand}{xs news:List Value}{z:Value}(base:Nat)(A:qA)(o:∀ j,A=some ⟨j,0,none⟩→base≤j→w0.heap.size≤j∨S0 j)(F c2:Nat)(Ψ:World→Prop)(hb:∀ w,Fr S0 w0 w→Φ w→base≤w.heap.size)(Y:∀ w,Φ w→OwnD w base e k A cap n xs)(hX:∀ w,Φ w→∀ j u,news[j]? = some u→w.cell? ⟨F,j,none⟩=some u)(hl:news.length=m*k)(Z:0<k)(hz:z.cells.size=k)(G:iK z.cells)(H:0<m)(h1:∀ u∈news,u.oneCell'=true)(I:∀ (k:IntKind) (z:Int),Value.int k z∈news→k=.i64)(J:n+m≤maxLen)(b:(n+m)*bytes≤140737488355328)(M:n=0→A=none)(hΨ:∀ w w',Fr S0 w0 w'→Φ w→Fr (fun i=>A=some ⟨i,0,none⟩) w w'→Ψ w')(K:∀ (A':qA) (cap':Nat),A'≠none∧(∀ j,A'=some ⟨j,0,none⟩→A=some ⟨j,0,none⟩∨w0.heap.size≤j)→SXi P N S0 w0 ops Q (i+1) (s.put d (.v (.slice A' (n+m) cap'))) (fun w=>Ψ w∧OwnD w base e k A' cap' (n+m) (xs ++ news)))(O:Nat.blt i ops.size=true:=by kernel_rfl)(hw:s.wantB ops (opAt ops i)=some true:=by kernel_rfl)(hv:(opAt ops i).op.operands.toList.all s.vB=true:=by kernel_rfl)(ho:(opAt ops i).op=.call { callee:=.builtin .append,args:=#[s0,x],argTypes:=#[t,t] }:=by kernel_rfl)(hd:(opAt ops i).dst=some d:=by kernel_rfl)(hN:Nat.blt d N=true:=by kernel_rfl)(ht:P.underlying t=some (.slice e):=by kernel_rfl)(p:(P.info? e).map (fun i=>(i.zero,i.size,i.bytes))=some (some z,k,bytes):=by kernel_rfl)(hs:s.rho s0=.slice A n cap:=by kernel_rfl)(hx:s.rho x=.slice (some ⟨F,0,none⟩) m c2:=by kernel_rfl):SXi P N S0 w0 ops Q i s Φ:=by
 unfold SXi
 rw[jN O]
 intro L a w hi
 refine wpList_step fun K' hK=>?_
 rw[uQ (hi.want hw)]
 unfold Oper.wp
 have S:kP (opAt ops i).op=true:=by rw[ho];rfl
 rw[hi.exec S hv]
 obtain⟨T,C,D⟩:=vI.1 p
 injection D with hz0 D
 injection D with hsize hby
 have r:=Y w hi.box.self
 have U:=hX w hi.box.self
 have hT:∀ j,A=some ⟨j,0,none⟩→¬ s.own L j∧(w0.heap.size≤j∨S0 j):=fun j hj=>by
  have a0:n≠0:=fun h=>by rw[M h] at hj;cases hj
  have f:0<xs.length:=by rw[r.1];exact sH qO Z
  refine⟨hi.notOwn (c:=xs[0]'f) (j:=0) (fun w R=>?_),?_⟩
  ·have B:=(Y w R).own.cells (g:=j) (by rw[hj];rfl) 0 (xs[0]'f) qS
   rw[Lib.add_plain] at B
   exact B
  exact o j hj (r.blk hj).1
 obtain⟨A',cap',w',E,hr,V,l,W⟩:=Zi0 (P:=P) w base t (opAt ops i).type e T z k bytes ht C hz0 hsize hby hz Z G A cap n xs r ⟨F,0,none⟩ m c2 news hl H
  (fun j u hj=>by rw[Lib.add_plain,vW];exact U j u hj) h1 I J b (hb w hi.mem.ext hi.box.self)
 have y:(execOp s.rho (opAt ops i)).run P w=.ok (.value (.slice A' (n+m) cap')) w':=by simp[execOp,ho,resolve,invoke,builtin,hs,hx,E,Result.andThen]
 rw[y,Oper.upon_value,hd]
 have h0:=hi.app0 (d:=d) (tJ hN) (al_v (s:=s) (.slice A' (n+m) cap'))
 have X:∀ b',A'=some ⟨b',0,none⟩→¬ s.own L b':=fun b' e1=>by
  rcases l b' e1 with B|rfl
  ·exact (hT b' B).1
  rintro⟨c,hc,e⟩
  obtain⟨q,eq⟩:=sV.1 hc
  have:=(hi.mem.blk c q.1 q.2 eq).lt
  omega
 exact hK _ _ (K A' cap' ⟨W,fun j hj=>(l j hj).elim Or.inl (fun (e:j=w.heap.size)=>Or.inr (by rw[e];exact hi.mem.ext.size))⟩ L _ _ (h0.eff4 V hT (fun w1 w2 D B h4 h5=>⟨hΨ w1 w2 D B h4,hr.fr h5 X⟩)))
theorem Blk.news {e:TypeId}{b:Nat}{news:List Value}(h:Blk e w b news.toArray):∀ j u,news[j]? = some u→w.cell? ⟨b,j,none⟩=some u:=fun j u d=>by rw[h.cell];simpa using d
theorem OwnD.news {m k c n b:Nat}{e:TypeId}{news:List Value}(h:OwnD w m e k (some ⟨b,0,none⟩) c n news):∀ j u,news[j]? = some u→w.cell? ⟨b,j,none⟩=some u:=fun j u hj=>by
 rcases h.2 with ⟨h3,_⟩|⟨g,d,h3,_,f,_,_,_,_,i⟩
 ·cases h3
 injection h3 with h3
 injection h3 with h3
 subst h3
 rw[f.cell]
 rw[←i,oL] at hj
 split at hj
 ·simpa using hj
 cases hj
theorem OwnD.ofBlk {m k n b:Nat}{e:TypeId}{xs:List Value}(h:Blk e w b xs.toArray)(f:m≤b)(d:xs.length=n*k)(g:n≤maxLen)(i:∀ (k:IntKind) (z:Int),Value.int k z∈xs→k=.i64):OwnD w m e k (some ⟨b,0,none⟩) n n xs :=
 ⟨d,Or.inr ⟨b,_,rfl,f,h,iK.list i,uH _,g,by simpa using d,by rw[List.toList_toArray,← d,qZ]⟩⟩
theorem OwnD.blkSome {m k n c:Nat}{e:TypeId}{A:qA}{xs:List Value}(h:OwnD w m e k A c n xs)(j:0<n):∃ b,A=some ⟨b,0,none⟩∧m≤b:=by
 rcases h.2 with ⟨_,_,d⟩|⟨g,f,d,i,_⟩
 ·omega
 exact⟨g,d,i⟩
def BoxT (b:Nat) (w w':World) (φ:World→Prop):Prop:=∀ (S:Nat→Prop) (w'':World),(∀ i,S i→i<w.heap.size∧i≠b∧NRB w i)→Fr S w' w''→φ w''
theorem BoxT.and {b:Nat}{w w':World}{φ ψ:World→Prop}(h:BoxT b w w' φ)(k:BoxT b w w' ψ):BoxT b w w' (fun w=>φ w∧ψ w):=fun S d f g=>⟨h S d f g,k S d f g⟩
theorem cU {i d b:Nat}{α:Type}(f:FuncId)(args:List Value)(sh:α→Value)(Ψ:World→Prop)(φ:α→World→Prop){c:Value}{j:Nat}(u:∀ w,Φ w→w.cell? ⟨b,j,none⟩=some c)(l:w0.heap.size≤b∨S0 b)(y:∀ w,Fr S0 w0 w→Φ w→Calls P f args.toArray w (fun en w'=>∃ x,en=.returned (sh x)∧Fr (fun i=>i=b) w w'∧BoxT b w w' (φ x)))(z:∀ w w',Fr S0 w0 w'→Φ w→Fr (fun i=>i=b) w w'→Ψ w')(K:∀ x,SXi P N S0 w0 ops Q (i+1) (s.put d (.v (sh x))) (fun w=>Ψ w∧φ x w))(o:Nat.blt i ops.size=true:=by kernel_rfl)(h:gN P N ops (opAt ops i) s=some (f,args,d):=by kernel_rfl):SXi P N S0 w0 ops Q i s Φ:=by
 obtain⟨B,C,D,E,F,G,H⟩:=fN h
 unfold SXi
 rw[jN o]
 intro L a w hi
 refine wpList_step fun X I=>?_
 rw[uQ (hi.want B)]
 unfold Oper.wp
 rw[hi.exec E F,Zai C G,Oper.upon_enter]
 refine Calls.mono (y w hi.mem.ext hi.box.self) fun en w' J=>?_
 obtain⟨x,rfl,M,O⟩:=J
 simp only[D]
 have R:=hi.app0 (d:=d) H (al_v (s:=s) (sh x))
 have g:¬ s.own L b:=hi.notOwn (c:=c) (j:=j) u
 have p:∀ r,s.own L r→r<w.heap.size∧r≠b∧NRB w r:=fun r q=>⟨(hi.own_nrb q).1,fun e=>g (e ▸ q),(hi.own_nrb q).2⟩
 exact I _ _ (K x L _ _ (R.eff3 M g l (fun S t T U V W=>⟨z S t T U V,O _ t p W⟩)))
end
theorem OwnD.ext {w w':World}{m n c k:Nat}{e:TypeId}{A:qA}{xs:List Value}(h:OwnD w m e k A c n xs)(a:Ext w w'):OwnD w' m e k A c n xs:=h.fr a (fun _ _ f=>f)
theorem OwnD.nrb {w:World}{m n c k i:Nat}{e:TypeId}{A:qA}{xs:List Value}(h:OwnD w m e k A c n xs)(hi:A=some ⟨i,0,none⟩):NRB w i:=by
 obtain⟨_,a,b,d⟩:=h.blk hi
 exact⟨_,_,b,d⟩
theorem dM {α:Type}[Inhabited α]{enc:α→List Value}{k:Nat}(b:∀ x,(enc x).length=k):∀ (a:List α) (i j:Nat),i<a.length→j<k→(a.flatMap enc)[i*k+j]? = (enc a[i]!)[j]?
 | [],i,j,h,_=>by cases h
 | x :: a,0,j,_,hj=>by
  rw[sX,tY,vW,rF (by rw[b];exact hj)];rfl
 | x :: a,i+1,j,h,hj=>by
  rw[sX,sC (by rw[b,rD];omega),b,rD,show i*k+k+j-k=i*k+j by omega,dM b a i j (by simpa using h) hj]
  simp
theorem OwnD.at {w:World}{m c n k:Nat}{e:TypeId}{A:qA}{xs:List Value}(h:OwnD w m e k A c n xs){j:Nat}{v:Value}(hj:xs[j]? = some v):∃ b,A=some ⟨b,0,none⟩∧b<w.heap.size∧w.cell? ⟨b,0+j,none⟩=some v:=by
 rcases h.2 with ⟨_,_,a⟩|⟨g,f,rfl,a,d,_,_,_,_,i⟩
 ·have:=h.1
  rw[a,tY] at this
  rw[vY.1 this] at hj
  simp at hj
 refine⟨g,rfl,d.lt,?_⟩
 rw[d.cell,vW]
 rw[←i,oL] at hj
 split at hj
 ·simpa using hj
 cases hj
theorem OwnD.ne {w:World}{m c n k i:Nat}{e:TypeId}{A:qA}{xs:List Value}(h:OwnD w m e k A c n xs)(hi:i<n):A≠none:=fun e=>by
 rcases h.2 with ⟨_,_,b⟩|⟨g,a,rfl,_⟩
 ·omega
 cases e
section
variable {P:Program} {o:Oper} {ρ:Operand→Value} {w:World} {t e:TypeId} {x:Operand}
theorem eN {α:Type}[Inhabited α]{enc:α→List Value}{A:qA}{m c n k j:Nat}{ys:List α}(h:OwnD w m e k A c n (ys.flatMap enc))(a:∀ x,(enc x).length=k)(r:j<ys.length)(s:0<k:=by decide)(u:o.op=Op.load t x:=by kernel_rfl)(v:ρ x=atA A (j*k):=by kernel_rfl)(ha:(teOf P t).map (fun e=>(e.agg,e.size))=some (true,k):=by kernel_rfl) :
 (execOp ρ o).run P w=.ok (.value (.agg (enc ys[j]!).toArray)) w:=by
 obtain⟨B,q,y⟩:=vI.1 ha
 injection y with ha hn
 have z:∃ g,A=some ⟨g,0,none⟩:=by
  have d:=dM a ys j 0 r s
  rw[uO (l:=enc ys[j]!) (by rw[a];exact s)] at d
  obtain⟨b,p,_⟩:=h.at d
  exact⟨b,p⟩
 obtain⟨g,rfl⟩:=z
 have:=bV (P:=P) (w:=w) q (g:=g) (off:=0+j*k) (cs:=enc ys[j]!) (by rw[a];exact hn.symm) (fun i hi=>by
  rw[a] at hi
  have d:=dM a ys j i r hi
  rw[uO (l:=enc ys[j]!) (by rw[a];exact hi)] at d
  obtain⟨b,f,_,p⟩:=h.at d
  injection f with f
  injection f with f
  subst f
  rw[vW] at p ⊢
  rw[p,uO (l:=enc ys[j]!) (by rw[a];exact hi)]
  rfl) ha
 simp only[execOp,u,v,atA,sU,jH,Sem.run_bind,this,Result.andThen_ok,Sem.run_pure]
end
theorem Znz {α:Type}[Inhabited α]{enc:α→List Value}{k:Nat}(c:∀ x,(enc x).length=k)(j:0<k)(b:α)(z:Array Value)(e:z.toList=enc b)(n:Nat):(madeCells z (n*k)).toList=(List.replicate n b).flatMap enc:=by
 have d:z.size=k:=by rw[←c b,← e];simp
 have m:((List.replicate n b).flatMap enc).length=n*k:=by
  induction n with
  | zero=>simp
  | succ n ih=>rw[pY,sX,uY,ih,c,rD];omega
 refine List.ext_getElem? fun i=>?_
 by_cases hi:i<n*k
 ·have f:i/k<n:=sR (by rwa [uF])
  have l:i%k<k:=uM _ j
  have g:=dM c (List.replicate n b) (i/k) (i%k) (by simpa using f) l
  rw[show i/k*k+i%k=i by rw[uF];exact vX i k] at g
  rw[g,vZ _ _ (by simpa using f),pF,← e]
  have h:i%k<z.size:=qO
  simp only[madeCells,Array.toList_map,Array.toList_range,List.getElem?_map,List.getElem?_range hi,sU,d]
  rw[vZ z _ h,uO (by simpa using h)]
  simp
 rw[vP (by simp[madeCells];omega),vP qO]
theorem Zgd {α:Type}{enc:α→List Value}(h:∀ x,∀ (k:IntKind) (z:Int),Value.int k z∈enc x→k=.i64)(l:List α):∀ (k:IntKind) (z:Int),Value.int k z∈l.flatMap enc→k=.i64:=fun k z b=>by
 obtain⟨x,_,c⟩:=List.mem_flatMap.1 b
 exact h x k z c
theorem fB {α:Type}[Inhabited α]{enc:α→List Value}{P:Program}{o:Oper}{ρ:Operand→Value}{w:World}{m0 k n bytes:Nat}{t e:TypeId}{kl kc:IntKind}{l c:Operand}{z:Value}(r:α)(G:∀ x,(enc x).length=k)(H:0<k)(I:z.cells.toList=enc r)(u:∀ x,∀ (k:IntKind) (z:Int),Value.int k z∈enc x→k=.i64)(D:m0≤w.heap.size)(E:n≤maxLen)(J:bytes*n≤281474976710656)(K:o.op=Op.makeSlice t l c:=by kernel_rfl)(M:P.underlying t=some (.slice e):=by kernel_rfl)(f:(P.info? e).map (fun i=>(i.zero,i.size,i.bytes))=some (some z,k,bytes):=by kernel_rfl)(O:ρ l=.int kl (n:Int):=by kernel_rfl)(R:ρ c=.int kc (n:Int):=by kernel_rfl) :
 Does P o ρ w (DoR (fun b:{b:Nat // m0≤b}=>.slice (some ⟨b.1,0,none⟩) n n) (fun b w=>OwnD w m0 e k (some ⟨b.1,0,none⟩) n n ((List.replicate n r).flatMap enc)) w):=by
 obtain⟨g,m,v⟩:=vI.1 f
 injection v with hz0 v
 injection v with hsize hb
 have A:(n:Int)≤9223372036854775807:=by simp only[maxLen] at E;omega
 have B:(g.bytes:Int)*(n:Int)≤281474976710656:=by
  have h:((g.bytes*n:Nat):Int)≤281474976710656:=by rw[hb];omega
  rwa [tT] at h
 have F:=run_make (P:=P) w t e g z M m hz0 kl kc n n qO (Int.le_refl _) B A
 simp only[oO,hsize] at F
 have p:(execOp ρ o).run P w=.ok (.value (.slice (some ⟨w.heap.size,0,none⟩) n n)) (w.alloc (.cells (madeCells z.cells (n*k)) e)):=by simp[execOp,K,O,R,F,Result.andThen]
 have Q:Ext w (w.alloc (.cells (madeCells z.cells (n*k)) e)):=(Fr.refl _ w).alloc _
 refine Or.inl ⟨_,_,p,⟨w.heap.size,D⟩,rfl,Q,fun S T U V=>?_⟩
 have C:Blk e (w.alloc (.cells (madeCells z.cells (n*k)) e)) w.heap.size (madeCells z.cells (n*k)):=Blk.new w e _
 have W:=C.fr V (fun h=>by have:=(T _ h).1;omega)
 have d:=Znz G H r z.cells I n
 have j:(madeCells z.cells (n*k)).size=n*k:=size_madeCells _ _
 refine⟨by rw[←d];simp[j],Or.inr ⟨w.heap.size,_,rfl,D,W,fun i q y hi=>?_,uH _,E,j,?_⟩⟩
 ·refine Zgd u (List.replicate n r) q y ?_
  rw[←d]
  exact pS (by rw[←oU] at hi;exact hi)
 rw[d,uA]
 rw[←d];simp[j]
section
variable {N:Nat} {S0:Nat→Prop} {w0:World} {s:St} {Φ Ψ:World→Prop} {L:Nat→Nat} {a:Act} {w:World} {P:Program} {ops:Array Oper} {Q:Exit→Act→World→Prop}
theorem ZcU {α:Type}{l cs:List α}{off:Nat}(h:off+cs.length≤l.length):(lE l off cs).length=l.length:=by
 unfold lE
 simp only[uY,uP,tN]
 omega
theorem Zge {α:Type}{l cs:List α}{off:Nat}(h:off+cs.length≤l.length)(i:Nat):(lE l off cs)[i]? = if i<off then l[i]? else if i<off+cs.length then cs[i-off]? else l[i]? := by
 unfold lE
 by_cases b:i<off
 ·rw[uQ b,vT,rF (by rw[uP];omega),tL b]
 rw[uL b]
 by_cases c:i<off+cs.length
 ·rw[uQ c,rF (by rw[uY,uP];omega),sC (by rw[uP];omega),uP,uV qO]
 rw[uL c,sC (by rw[uY,uP];omega),uY,uP,uV qO,vJ]
 congr 1
 omega
theorem Zj6 {α:Type}{l cs:List α}{off n:Nat}(h:off+cs.length≤n)(b:n≤l.length):(lE l off cs).take n=lE (l.take n) off cs:=by
 refine List.ext_getElem? fun i=>?_
 by_cases hi:i<n
 ·rw[tL hi,Zge qO,Zge (by rw[uP];omega),tL hi]
 rw[vP (by rw[uP];omega),vP (by rw[ZcU (by rw[uP];omega),uP];omega)]
theorem iI {α:Type}{enc:α→List Value}{k:Nat}(c:∀ x,(enc x).length=k):∀ (b:List α) (j:Nat) (x:α),j<b.length→(b.set j x).flatMap enc=lE (b.flatMap enc) (j*k) (enc x)
 | [],j,x,h=>by cases h
 | y :: b,0,x,_=>by
  unfold lE
  rw[List.set_cons_zero,sX,sX,tY,List.take_zero,qL,c,vW,oW,c,sS,tW,List.drop_eq_nil_of_le (by rw[c];exact uH _),qL]
 | y :: b,j+1,x,h=>by
  rw[List.set_cons_succ,sX,sX,iI c b j x (by simpa using h)]
  unfold lE
  have d:(enc y ++ b.flatMap enc).take ((j+1)*k)=enc y ++ (b.flatMap enc).take (j*k):=by
   rw[rD,List.take_append,c,uA (by rw[c];omega),tH]
  have e:(enc y ++ b.flatMap enc).drop ((j+1)*k+(enc x).length)=(b.flatMap enc).drop (j*k+(enc x).length):=by
   rw[rD,oW,c,List.drop_eq_nil_of_le (by rw[c];omega),qL,c]
   congr 1
   omega
  rw[d,e]
  simp only[vT]
theorem dN {i k n c j:Nat}{t e:TypeId}{x y:Operand}{xs new:List Value}(base b:Nat)(v:Value)(Ψ:World→Prop)(Y:∀ w,Φ w→OwnD w base e k (some ⟨b,0,none⟩) c n xs)(hj:j<n)(m:new.length=k)(hk:0<k)(o:base≤b→w0.heap.size≤b∨S0 b)(h1:∀ c,c∈new→c.oneCell'=true)(J:∀ (k:IntKind) (z:Int),Value.int k z∈new→k=.i64)(I:v.cells.toList=new)(hΨ:∀ w w',Φ w→Fr (fun i=>some (⟨b,0,none⟩:Addr)=some ⟨i,0,none⟩) w w'→Ψ w')(K:SXi P N S0 w0 ops Q (i+1) s (fun w=>Ψ w∧OwnD w base e k (some ⟨b,0,none⟩) c n (lE xs (j*k) new)))(M:Nat.blt i ops.size=true:=by kernel_rfl)(hw:s.wantB ops (opAt ops i)=some true:=by kernel_rfl)(ho:(opAt ops i).op=.store t x y:=by kernel_rfl)(hd:(opAt ops i).dst=none:=by kernel_rfl)(hs:(teOf P t).map (fun e=>e.size)=some k:=by kernel_rfl)(hx:s.eval x=some (.v (.pointer (some ⟨b,0+j*k,none⟩))):=by kernel_rfl)(d:s.eval y=some (.v v):=by kernel_rfl):SXi P N S0 w0 ops Q i s Φ:=by
 unfold SXi
 rw[jN M]
 intro L a w hi
 refine wpList_step fun K' hK=>?_
 rw[uQ (hi.want hw)]
 obtain⟨te,O,p⟩:=vI.1 hs
 obtain⟨l,r⟩:=Y w hi.box.self
 rcases r with ⟨h3,_⟩|⟨g,cur,h3,u,Z,A,B,S,T,U⟩
 ·cases h3
 injection h3 with h3
 injection h3 with h3
 subst h3
 have C:j*k+k≤n*k:=by rw[←rD];exact uE k hj
 have D:n*k≤c*k:=uE k B
 have h:cur.toList.length=c*k:=by simpa using T
 have V:Blk e w b cur.toList.toArray:=by rw[Array.toArray_toList];exact Z
 obtain⟨w',hr,E,hF⟩:=dS (P:=P) O (g:=b) (bt:=e) (off:=0+j*k) (cur:=cur.toList) (v:=v) V (by rw[I,m];exact p.symm) (by rw[I,m,h];omega) (fun c hc=>by rw[I] at hc;exact h1 c hc)
 rw[I,vW] at E
 unfold Oper.wp
 have ex:=hi.eval hx
 have ey:=hi.eval d
 have F:(execOp a.eval (opAt ops i)).run P w=.ok .skip w':=by simp only[execOp,ho,Sem.run_bind,ex,ey,AV.conc,hr,Result.andThen_ok,Sem.run_pure]
 rw[F,Oper.upon_skip,hd]
 have W:OwnD w' base e k (some ⟨b,0,none⟩) c n (lE xs (j*k) new):=by
  refine⟨by rw[ZcU (by rw[m,l];exact C),l],Or.inr ⟨b,_,rfl,u,E,iK.list (fun q y d=>?_),B,S,by rw[pM,ZcU (by rw[m,h];omega),h],?_⟩⟩
  ·unfold lE at d
   rcases rA.1 d with d|d
   ·rcases rA.1 d with d|d
    ·exact A.mem (sQ d)
    exact J q y d
   exact A.mem (qQ d)
  rw[Zj6 (by rw[m];exact C) (by rw[h];exact D),U]
 have f:0<xs.length:=by rw[l];have:0<k*n:=sH hk qO;rw[uF];exact this
 have X:Fr (fun i=>i=b) w w':=hF
 refine hK _ _ (K L _ _ (hi.eff X (hi.notOwn (c:=xs[0]'f) (j:=0) (fun w R=>?_)) (o u) Z.lt (fun w1 w2 k1 k2 k3=>⟨hΨ w1 w2 k1 (k2.mono (fun i _ e=>by rw[e])),?_⟩)))
 ·obtain⟨b2,G,_,h4⟩:=(Y w R).at (j:=0) (v:=xs[0]'f) (uO f)
  injection G with G
  injection G with G
  subst G
  exact h4
 obtain⟨q1,q2⟩:=W
 refine⟨q1,?_⟩
 rcases q2 with ⟨h3,_⟩|⟨g,H,h3,r1,r2,r3⟩
 ·cases h3
 injection h3 with h3
 injection h3 with h3
 subst h3
 exact Or.inr ⟨b,H,rfl,r1,k3.trans r2,r3⟩
end
abbrev Fv3:=Bool×Nat × Int
def flC (x:ByteArray×Int):List Value:=[.string x.1,.int .i64 x.2]
structure Nb where
 s:Bool
 A:Option Addr
 l:Nat
 c:Nat
 m:Nat
 e:Int
def nb0:Nb:=⟨false,none,0,0,0,0⟩
instance:Inhabited Nb:=⟨nb0⟩
def nbC (x:Nb):List Value:=[.bool x.s,.slice x.A x.l x.c,.int .i64 x.e]
def nbV (x:Nb):Fv3:=(x.s,x.m,x.e)
def NbOk (w:World) (x:Nb):Prop:=zF w (.slice x.A x.l x.c) x.m
def xF (w:World) (xs:List Nb):Prop:=∀ x∈xs,NbOk w x
theorem ZaP (x:Nb):(nbC x).length=3:=rfl
theorem aO (x:ByteArray×Int):(flC x).length=2:=rfl
theorem Zi1 (x:Nb):∀ (k:IntKind) (z:Int),Value.int k z∈nbC x→k=.i64:=fun k z h=>by
 simp[nbC] at h;exact h.1
theorem Zgf (x:ByteArray×Int):∀ (k:IntKind) (z:Int),Value.int k z∈flC x→k=.i64:=fun k z h=>by
 simp[flC] at h;exact h.1
theorem Zrx (w:World):NbOk w nb0:=zF.zero w
section
variable {w w':World} {xs:List Nb} {m n c k:Nat} {e:TypeId} {A:Option Addr} {l:List Value}
theorem xF.nrb {S:Nat→Prop}(h:xF w xs)(a:∀ i,S i→NRB w i)(b:Fr S w w'):xF w' xs:=fun x d=>(h x d).nrb a b
theorem xF.ext (h:xF w xs)(a:Ext w w'):xF w' xs:=fun x b=>(h x b).ext a
theorem xF.row (h:xF w xs)(a:OwnD w m e k A c n l)(b:Fr (fun i=>A=some ⟨i,0,none⟩) w w'):xF w' xs:=h.nrb (fun _ hi=>a.nrb hi) b
theorem zF.rowD {v:Value}{x:Nat}(h:zF w v x)(a:OwnD w m e k A c n l)(b:Fr (fun i=>A=some ⟨i,0,none⟩) w w'):zF w' v x:=h.nrb (fun _ hi=>a.nrb hi) b
theorem xF.get {j:Nat}(h:xF w xs)(a:j<xs.length):zF w (.slice xs[j]!.A xs[j]!.l xs[j]!.c) xs[j]!.m:=h _ (by rw[vZ xs j a];exact sK a)
theorem xF.zero (w:World)(n:Nat):xF w (List.replicate n nb0):=fun x a=>by rw[(rS.1 a).2];exact Zrx w
theorem xF.set {j:Nat}{x:Nb}(h:xF w xs)(b:NbOk w x):xF w (xs.set j x):=fun y d=>by
 rcases rE d with a|a
 ·exact h y a
 rw[a];exact b
end
def fill (n:Nat) {α:Type} (z:α) (l:List α):List α:=l ++ List.replicate (n-l.length) z
theorem ZcV {n:Nat}{α:Type}{z:α}{l:List α}(h:l.length≤n):(fill n z l).length=n:=by unfold fill;simp;omega
theorem ZcW {α:Type}{z:α}{l:List α}:fill l.length z l=l:=by unfold fill;simp
theorem Zi2 {n:Nat}{α:Type}{z x:α}{l:List α}(h:l.length<n):(fill n z l).set l.length x=fill n z (l ++ [x]):=by
 unfold fill
 rw[qI _ _ (uH _),sS,show n-l.length=(n-(l ++ [x]).length)+1 by simp;omega,pY,List.set_cons_zero,vT]
 rfl
theorem ZcX (n:Nat){α:Type}(z:α):fill n z []=List.replicate n z:=by unfold fill;simp
def SRd (w:World) (A:Option Addr) (ss:List ByteArray):Prop:=∀ i,i<ss.length→∃ b off,A=some ⟨b,off,none⟩∧b<w.heap.size∧w.cell? ⟨b,off+i,none⟩=some (.string ss[i]!)
theorem SRd.ext {w w':World}{A:qA}{ss:List ByteArray}(h:SRd w A ss)(d:Ext w w'):SRd w' A ss:=fun i hi=>by
 obtain⟨b,a,j,g,q⟩:=h i hi
 exact⟨b,a,j,uS g d.size,(d.cell (p:=⟨b,a+i,none⟩) g (fun f=>f)).trans q⟩
theorem SRd.ne {w:World}{A:qA}{a:List ByteArray}{i:Nat}(h:SRd w A a)(hi:i<a.length):A≠none:=by
 obtain⟨b,d,f,_⟩:=h i hi
 rw[f];exact Option.some_ne_none _
section
variable {P:Program} {o:Oper} {ρ:Operand→Value} {w:World} {t e:TypeId} {x ix:Operand}
theorem iJ {b len cap i sz:Nat}(h:i<len)(a:o.op=Op.indexAddr t x ix:=by kernel_rfl)(d:P.underlying t=some (.slice e):=by kernel_rfl)(f:(P.info? e).map (fun i=>i.size)=some sz:=by kernel_rfl)(g:ρ x=.slice (some ⟨b,0,none⟩) len cap:=by kernel_rfl)(hi:ρ ix=.int .i64 (i:Int):=by kernel_rfl):(execOp ρ o).run P w=.ok (.value (.pointer (some ⟨b,0+i*sz,none⟩))) w:=by
 have:=xQ (w:=w) (A:=some ⟨b,0,none⟩) qS h a d f g hi
 rw[this,atA,sU,jH]
theorem Zi3 {A:qA}{a:List ByteArray}{j:Nat}(d:SRd w A a)(f:j<a.length)(g:o.op=Op.load t x:=by kernel_rfl)(h:ρ x=atA A (j*1):=by kernel_rfl)(ha:(teOf P t).map (fun e=>e.agg)=some false:=by kernel_rfl) :
 (execOp ρ o).run P w=.ok (.value (.string a[j]!)) w:=by
 obtain⟨b,i,rfl,_,p⟩:=d j f
 exact xZ p g (by rw[h,atA,sU,jH,tU]) ha
end
section
variable {N:Nat} {S0:Nat→Prop} {w0:World} {s s':St} {Φ Ψ Φ0:World→Prop} {L:Nat→Nat} {a:Act} {w:World} {P:Program} {ops:Array Oper} {Q:Exit→Act→World→Prop} {o:Oper} {fin:St→(World→Prop)→Prop}
def Zgh:Op→Bool
 | .extract _ _=>true
 | _=>false
theorem Zo5 (hi:Inv N S0 w0 s Φ L a w){o:Oper}{x:AV}(h:lS P o s=some x)(w':World):∃ y,x=.v y∧(execOp a.eval o).run P w'=.ok (.value y) w':=by
 unfold lS at h
 cases hb:kP o.op && o.op.operands.toList.all s.vB with
 | false=>rw[hb] at h;cases h
 | true =>
  rw[hb] at h
  rw[sA] at hb
  simp only[cond_true] at h
  split at h
  ·rename_i y b
   injection h with h
   refine⟨y,h.symm,?_⟩
   rw[hi.exec hb.1 hb.2]
   exact ZbM b w'
  cases h
theorem ZnA {e d:Nat}(hex:Zgh (opAt ops e).op=true)(c:(opAt ops e).guard=none)(f:(opAt ops e).dst=some d)(h:Strat P N S0 w0 ops Φ0 fin [e] s Φ):∃ v,s.wantB ops (opAt ops e)=some true∧lS P (opAt ops e) s=some (.v v)∧d<N∧Strat P N S0 w0 ops Φ0 fin [] (s.app d (.v v,none)) Φ:=by
 have g:cls (opAt ops e).op=0:=by
  cases h:(opAt ops e).op<;>first|rfl | (rw[h] at hex;cases hex)
 have b:s.wantB ops (opAt ops e)=some true:=by unfold St.wantB;rw[c]
 cases h with
 | flt hx hd hN K =>
  rename_i r m
  rw[f] at hd
  injection hd with hd
  subst hd
  rcases hx with hx|⟨y,_,hk,_⟩
  ·unfold jI at hx
   rw[b] at hx
   have i:noB (lS P (opAt ops e) s)=some r:=by
    cases h:(opAt ops e).op<;>first | (rw[h] at hex;cases hex;done) | (rw[h] at hx;simpa using hx)
   obtain⟨y,j,k⟩:=lL i
   obtain⟨v,l⟩:=ZdA j
   subst l
   rw[k] at K
   exact⟨v,b,j,hN,K⟩
  cases h:(opAt ops e).op<;>first | (rw[h] at hex;cases hex;done) | (rw[h] at hk;cases hk)
 | does hα sh φ hm=>rw[g] at hm;cases hm
 | gen hα sh E Ψ hm=>rw[g] at hm;cases hm
 | sto hm=>rw[g] at hm;cases hm
theorem ZlW {s0:St}{n e d:Nat}{R:Nat→Nat→Bool}(hR:ZfI ops R)(hu:aV ops=true)(hn:n≤ops.size)(C:Zbl ops=true)(D:∀ i,i<n→i≠e→gX .any ops n i=true)(E:Zeo R ops s0 n=true)(T:Region.seqB .any ops (ops.size-n) n (eW ops n)=true)(g0:∃ w,Φ0 w)(he:e<n)(h0:Zgh (opAt ops e).op=true)(i0:(opAt ops e).guard=none)(r:(opAt ops e).dst=some d)(U:∀ (j:Nat) (o:Oper) cs b,ops[j]? = some o→o.op≠.select cs b)(V:∀ j oj,ops[j]? = some oj→n≤j→(opAt ops e).apart ops oj=true)(hQ:∀ c a w v,Q (.panic c) (a.put (some d) v) w→Q (.panic c) a w)(W:∀ s Φ,fin s Φ→∀ L a w,Inv N S0 w0 s Φ L a w→wpList P ops Q (ops.toList.drop n) a w) :
 ∀ (k:Nat) (listed:Array Bool) (s:St) (Φ:World→Prop) (L:Nat→Nat) (a:Act) (w:World),(un n listed).length=k→listed.size=ops.size→(∀ i,n≤i→i<ops.size→listed.getD i true=false)→dV .any ops listed →
 BI ops s0 s→(∀ w,Φ w→Φ0 w)→Inv N S0 w0 s Φ L a w→Strat P N S0 w0 ops Φ0 fin (un n listed) s Φ→wpAny P .any ops Q (k+(ops.size-n)) listed a w:=by
 intro k
 induction k with
 | zero =>
  intro listed s Φ L a w hk p t q u S hi hS
  have A:un n listed=[]:=vY.1 hk
  rw[A] at hS
  have F:listed=eW ops n:=by
   refine Array.ext (by simp[eW,p];omega) fun i f h2=>?_
   have G:i<ops.size:=by rw[←p];exact f
   have e:listed.getD i true=listed[i]:=by simp[f]
   rw[←e]
   by_cases I:i<n
   ·have:listed.getD i true≠false:=fun h=>by
     have:=fO.2 ⟨I,h⟩
     rw[A] at this
     cases this
    simp only[eW,List.getElem_toArray]
    rw[List.getElem_append_left (by simpa using I),pF]
    cases h:listed.getD i true with
    | true=>rfl
    | false=>exact absurd h this
   rw[t i qO G]
   simp only[eW,List.getElem_toArray]
   rw[List.getElem_append_right (by simpa using I),pF]
  have X:(ops.toList.drop n).length=ops.size-n:=qS
  cases hS with
  | done hf =>
   have:=wpAny_of_seq (md:=.any) (Q':=Q) (ops.toList.drop n) n listed a w (fun j=>qS) (by rw[X,F];exact T) (W _ _ hf L a w hi)
   rw[X] at this
   rw[vW];exact this
 | succ k ih =>
  intro listed s Φ L a w hk p t q u S hi hS
  rw[show k+1+(ops.size-n)=(k+(ops.size-n))+1 by omega]
  obtain⟨x,R',g⟩:∃ x R,un n listed=x :: R:=by
   cases h:un n listed with
   | nil=>rw[h] at hk;cases hk
   | cons x R=>exact⟨x,R,rfl⟩
  have hx:=fO.1 (by rw[g];exact qH:x∈un n listed)
  have Y:∀ i,i<x→listed.getD i true=true:=fun i D0=>by
   cases h:listed.getD i true with
   | true=>rfl
   | false =>
    have:=fO.2 ⟨(by omega:i<n),h⟩
    rw[g] at this
    have B:=bD n listed
    rw[g] at B
    rcases pJ.1 this with e|e
    ·omega
    have:=(List.pairwise_cons.1 B).1 i e;omega
  have hxr:x∈Region.ready .any ops listed:=by
   have z:x<ops.size:=qO
   refine mem_ready.2 ⟨hx.2,opAt ops x,fZ z,fun e he j0=>?_⟩
   have f:=vF.1 C x (sP.2 z)
   rw[fZ z] at f
   have Z:=Array.all_eq_true'.1 f e he
   rw[j0] at Z
   have h2:=tJ Z
   have h3:=Y e.on h2
   have h4:e.on<listed.size:=by rw[p];exact rV h2 z
   simp[h4] at h3 ⊢;exact h3
  by_cases l:∀ y,y∈un n listed→y=e
  ·have k0:x=e:=l x (by rw[g];exact qH)
   have J:R'=[]:=by
    cases R' with
    | nil=>rfl
    | cons y R2 =>
     have B:=bD n listed
     rw[g] at B l
     have f:=(List.pairwise_cons.1 B).1 y qH
     have h2:=l y (List.mem_cons_of_mem _ qH)
     omega
   subst k0
   rw[g,J] at hS
   have a0:x<ops.size:=qO
   obtain⟨v,hw,l0,hN,K'⟩:=ZnA h0 i0 r hS
   have O:Yields P ops (opAt ops x) v a:=by
    refine Or.inl ⟨hi.want hw,fun w'=>?_⟩
    obtain⟨y,K,m0⟩:=Zo5 hi l0 w'
    injection K with K
    rw[K];exact m0
   have m:=Zim (l1:=[]) (l2:=[]) (by rw[g,J];rfl:un n listed=[] ++ x :: [])
   have n0:k=0:=by rw[g,J] at hk;simpa using hk.symm
   have H:=ih (listed.setIfInBounds x true) _ Φ L _ w (by rw[m,n0];rfl) (by simp[p]) (fun i f h2=>by rw[getD_set_ne true qO];exact t i f h2) (q.set hxr) (u.app hu a0 r (fun b off hr=>by cases hr) (fun b off hr=>by cases hr)) S (hi.app0 (d:=d) hN (al_v (s:=s) v)) (by rw[m];exact K')
   refine wpAny_first (i:=x) (oi:=opAt ops x) (v:=v) (fZ a0) U (fun c a w=>by rw[r];exact hQ c a w v) _ listed a w (fun j oj hj o0 p0 _=>?_) hxr O (by rw[r];exact H)
   refine V j oj hj ?_
   rcases vL j n with h|h
   ·exact absurd (l j (fO.2 ⟨h,p0⟩)) o0
   exact h
  obtain⟨y0,q0,b0⟩:∃ y,y∈un n listed∧y≠e:=by
   refine tV fun r0=>l fun y O=>tV fun t0=>r0 ⟨y,O,t0⟩
  have c0:=fO.1 q0
  refine⟨fun h=>(by rw[h] at hxr;cases hxr),fun j hj=>?_⟩
  have d0:j<n:=Ze4 (D y0 c0.1 b0) q c0.2 hj
  obtain⟨e0,oj,u0,M⟩:=mem_ready.1 hj
  have v0:j∈un n listed:=fO.2 ⟨d0,e0⟩
  obtain⟨l1,l2,F⟩:=List.append_of_mem v0
  have B:=bD n listed
  rw[F] at B
  have x0:∀ y,y∈l1→y<ops.size∧(opAt ops y).apart ops (opAt ops j)=true∧(iM (opAt ops y).op (opAt ops j).op=true∨(lsB (opAt ops y).op (opAt ops j).op=true∧farB ops s0 (opAt ops y) (opAt ops j)=true)):=fun y O=>by
   have z0:y<j:=(List.pairwise_append.1 B).2.2 y O j qH
   have A0:=(fO.1 (by rw[F];exact List.mem_append_left _ O:y∈un n listed)).2
   have f:=vF.1 (vF.1 E j (sP.2 d0)) y (sP.2 z0)
   rw[nD] at f
   rcases f with f|f
   ·have h2:=hR listed q j y f (fun o ho=>by
     have:o=oj:=oG (ho.symm.trans u0)
     subst this
     exact M)
    rw[getD_both A0] at h2
    cases h2
   simp only[sA,nD] at f
   exact⟨qO,f⟩
  rw[F] at hS
  have B0:=Strat.front hu g0 l1 l2 s Φ hi.wf u x0 hS
  refine Strat.exec hu u qO hi S B0 fun s' Φ' L' a' w' f0 C0 G K'=>?_
  have m:=Zim F
  refine ih (listed.setIfInBounds j true) s' Φ' L' a' w' ?_ (by simp[p]) (fun i f h2=>?_) (q.set hj) f0 C0 G (by rw[m];exact K')
  ·rw[m]
   rw[F] at hk
   simp only[uY,sL] at hk ⊢
   omega
  rw[getD_set_ne true qO];exact t i f h2
def ZpB (ops:Array Oper) (s0:St) (n e d:Nat):Bool:=(Nat.ble (e+1) n && (Zgh (opAt ops e).op && (opAt ops e).guard.isNone && (match (opAt ops e).dst with | some k=>Nat.beq k d | none=>false)) && Region.noSelect ops && (List.range ops.size).all (fun j=>Nat.blt j n || (opAt ops e).apart ops (opAt ops j))) && (Nat.ble n ops.size && (aV ops && Zbl ops && ((List.range n).all (fun i=>Nat.beq i e || gX .any ops n i) && (Zeo (Zbk .any ops 4) ops s0 n && Region.seqB .any ops (ops.size-n) n (eW ops n)))))
theorem Zfg {o:Oper}{d:Nat}(h:(Zgh o.op=true∧o.guard.isNone=true)∧(match o.dst with | some k=>Nat.beq k d | none=>false)=true):Zgh o.op=true∧o.guard=none∧o.dst=some d:=by
 obtain⟨⟨b,c⟩,h3⟩:=h
 refine⟨b,by simpa using c,?_⟩
 split at h3
 ·rename_i k e
  rw[e,oT h3]
 cases h3
theorem ZlX {n e:Nat}(h:(List.range ops.size).all (fun j=>Nat.blt j n || (opAt ops e).apart ops (opAt ops j))=true):∀ j b,ops[j]? = some b→n≤j→(opAt ops e).apart ops b=true:=fun j b d k=>by
 have f:j<ops.size:=(pR.1 d).1
 have c:=vF.1 h j (sP.2 f)
 rw[nD] at c
 have g:opAt ops j=b:=by have:=fZ f;rw[d] at this;injection this with this;exact this.symm
 rw[g] at c
 refine c.resolve_left fun i=>?_
 have:=tJ i
 omega
theorem Zo6 {id:Nat}(n e d:Nat){sl:SlL}{g:BlL}(p:∀ c a w v,Q (.panic c) (a.put (some d) v) w→Q (.panic c) a w)(h:StI P N S0 w0 ops Φ Q n 0 (ofL sl g) Φ)(k:ZpB ops (ofL sl g) n e d=true:=by kernel_rfl)(hI:Zen ops sl=true:=by kernel_rfl)(q:P.follows .mixedOrders=true:=by exact zO):SXc P N S0 w0 Q (.region id ops true) (ofL sl g) Φ:=by
 unfold ZpB at k
 simp only[sA] at k
 obtain⟨⟨⟨⟨r,l⟩,t⟩,u⟩,x,⟨y,z⟩,A,B,C⟩:=k
 have D:=tJ x
 intro L a w hi
 refine wp_region_any q ?_
 have f:un n (Array.replicate ops.size false)=List.range n:=by
  unfold un
  refine List.filter_eq_self.2 fun i b=>?_
  have:=sP.1 b
  simp[show i<ops.size by omega]
 have:=ZlW (ZeJ ops) (e:=e) (d:=d) (Q:=Q) (fin:=fun s Φ=>SXi P N S0 w0 ops Q n s Φ) y D z (fun i b m=>((nD _ _).mp (vF.1 A i (sP.2 b))).resolve_left (fun h=>m (oT h))) B C ⟨w,hi.box.self⟩ (tJ r) (Zfg l).1 (Zfg l).2.1 (Zfg l).2.2 (Region.noSelect_spec t) (ZlX u) p (fun s Φ E L a w b=>E L a w b) (un n (Array.replicate ops.size false)).length (Array.replicate ops.size false) _ Φ L a w.drew rfl qS
  (fun i _ F=>by simp[F]) (fun j G _ hl=>by rw[getD_replicate_false] at hl;cases hl) (BI.init hI) (fun _ h=>h) hi.drew (by rw[f];unfold StI at h;rw[←List.range_eq_range'] at h;exact h)
 rw[f,List.length_range,show n+(ops.size-n)=ops.size by omega] at this
 exact this
end
section
variable {N:Nat} {S0:Nat→Prop} {w0:World} {s:St} {Φ Φ0:World→Prop} {P:Program} {ops:Array Oper} {Q:Exit→Act→World→Prop}
theorem Zjc {n i b:Nat}{α:Type}[u:Nonempty α](d:Nat)(f:FuncId)(args:List Value)(sh:α→Value)(Ψ:World→Prop)(φ:α→World→Prop){c:Value}{j:Nat}(y:∀ w,Φ w→w.cell? ⟨b,j,none⟩=some c)(k:w0.heap.size≤b∨S0 b)(z:∀ w,Fr S0 w0 w→Φ w→Calls P f args.toArray w (fun en w'=>∃ x,en=.returned (sh x)∧Fr (fun i=>i=b) w w'∧BoxT b w w' (φ x)))(A:∀ w w',Fr S0 w0 w'→Φ w→Fr (fun i=>i=b) w w'→Ψ w')(B:∀ x w,Ψ w∧φ x w→Φ0 w)(K:∀ x,StI P N S0 w0 ops Φ0 Q n (i+1) (s.put d (.v (sh x))) (fun w=>Ψ w∧φ x w))(hi:Nat.blt i n=true:=by kernel_rfl)(C:cls (opAt ops i).op=2:=by kernel_rfl)(h:gN P N ops (opAt ops i) s=some (f,args,d):=by kernel_rfl):StI P N S0 w0 ops Φ0 Q n i s Φ:=by
 obtain⟨D,E,F,G,H,I,J⟩:=fN h
 have M:i<n:=tJ hi
 unfold StI
 rw[show n-i=(n-(i+1))+1 by omega,List.range'_succ]
 refine .gen u sh (fun x w w'=>Fr S0 w0 w∧Fr (fun i=>i=b) w w'∧BoxT b w w' (φ x)) (fun x w=>Ψ w∧φ x w) C D G H F J (fun w p R=>?_) (fun q L a w w' x hi S=>?_) B K
 ·exact Or.inr ⟨f,args.toArray,w,Zai E I,(z w p R).mono (fun e w' h=>by
   obtain⟨x,O,l⟩:=h
   exact⟨_,O,x,rfl,p,l⟩)⟩
 obtain⟨_,T,U⟩:=S
 have g:¬ q.own L b:=hi.notOwn (c:=c) (j:=j) y
 have m:∀ r,q.own L r→r<w.heap.size∧r≠b∧NRB w r:=fun r o=>⟨(hi.own_nrb o).1,fun e=>g (e ▸ o),(hi.own_nrb o).2⟩
 exact hi.eff3 T g k (fun V t l W X Y=>⟨A V t l W X,U _ t m Y⟩)
end
section
variable {N:Nat} {S0:Nat→Prop} {w0:World} {s:St} {Φ Φ0:World→Prop} {P:Program} {ops:Array Oper} {Q:Exit→Act→World→Prop}
theorem Inv.facts {Ψ:World→Prop}{L:Nat→Nat}{a:Act}{w:World}(h:Inv N S0 w0 s Ψ L a w)(Q:∀ w,Ψ w→Φ w):Inv N S0 w0 s Φ L a w :=
 ⟨h.size,h.df,h.sl,h.mem,fun w' b=>Q _ (h.box w' b)⟩
theorem SXi.facts {n:Nat}{Ψ:World→Prop}(h:SXi P N S0 w0 ops Q n s Φ)(R:∀ w,Ψ w→Φ w):SXi P N S0 w0 ops Q n s Ψ:=fun L a w hi=>h L a w (hi.facts R)
variable {n x0 y0:Nat} {RR:List Nat} {sl:SlL} {bl:BlL}
-- the part ahead of the pair
structure IsDo (P:Program) (N:Nat) (S0:Nat→Prop) (w0:World) (ops:Array Oper) (s:St) (Φ:World→Prop) (i d:Nat) {α:Type} (sh:α→Value) (φ:α→World→Prop):Prop where
 hm:cls (opAt ops i).op=2
 hw:s.wantB ops (opAt ops i)=some true
 hn:kP (opAt ops i).op=true
 hv:(opAt ops i).op.operands.toList.all s.vB=true
 hd:(opAt ops i).dst=some d
 hN:d<N
 hdo:∀ w,Fr S0 w0 w→Φ w→Does P (opAt ops i) s.rho w (DoR sh φ w)
end
end Go.Proofs.YtenchljfmfgeoaaGreatDoor
