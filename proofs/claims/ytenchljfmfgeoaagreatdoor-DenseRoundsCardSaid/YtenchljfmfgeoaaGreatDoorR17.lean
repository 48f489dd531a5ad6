/-
 My texts Sx21, Sx22, Sx23, Sx24, Sx25, Ty, Db, Dn0 put together.
-/
import Derived.Test.YtenchljfmfgeoaaGreatDoorR15
import Derived.Test.YtenchljfmfgeoaaGreatDoorR16
import Derived.Lib.SplitLaws
set_option maxRecDepth 100000
set_option maxHeartbeats 8000000
namespace Go.Proofs.YtenchljfmfgeoaaGreatDoor
open Go.RowKit
section
variable {N:Nat} {S0:Nat→Prop} {w0:World} {s:St} {Φ Ψ:World→Prop} {L:Nat→Nat} {a:Act} {w:World} {P:Program} {ops:Array Oper} {Q:Exit→Act→World→Prop}
end
theorem Za9 {m0:Nat}{P:Program}{o:Oper}{ρ:Operand→Value}{w:World}{t e:TypeId}{n sz:Nat}{z:Value}{parts:Array (Nat × Operand)}{cells:Array Value}(g:m0≤w.heap.size)(j:o.op=Op.buildSlice t n parts)(k:P.underlying t=some (.slice e))(c:(P.info? e).map (fun i=>(i.zero,i.size))=some (some z,sz))(l:Nat.ble (n*sz) 1000=true)(f:Nat.beq (n*sz) 0=false)(m:Instr.fill (fun i=>some (i*sz,sz)) ((List.range (n*sz)).map (fun i=>z.cells[i%z.cells.size]!)).toArray (parts.toList.map fun q=>(q.1,ρ q.2))=some cells) :
 Does P o ρ w (DoR (fun b:{b:Nat // m0≤b}=>.slice (some ⟨b.1,0,none⟩) n n) (fun b w=>Blk e w b.1 cells) w):=by
 have d:=ZfH (w:=w) k c l f m
 exact Or.inl ⟨_,_,by simp[execOp,j,d,Result.andThen],⟨w.heap.size,g⟩,rfl,(Fr.refl _ w).alloc _,fun S p r u=>(Blk.new w e cells).fr u (fun h=>by have:=(p _ h).1;omega)⟩
section
variable {N:Nat} {S0:Nat→Prop} {w0:World} {s:St} {Φ Φ0:World→Prop} {P:Program} {ops:Array Oper} {Q:Exit→Act→World→Prop}
end
section
variable {N:Nat} {S0:Nat→Prop} {w:World} {Φ:World→Prop} {P:Program}
theorem Zm8 (S0:Nat→Prop){fn:Func}{f:FuncId}{c:Code}{args:List Value}{R:Ending→World→Prop}(j:P.funcs[f]? = some fn)(k:fn.body=some c)(l:Nat.ble args.length fn.ntmps=true)(Q:Box (fun _=>False) w Φ)(h:SXc P fn.ntmps S0 w (bodyPost P fn R) c (ofL (Zcq 0 args) []) Φ):Calls P f args.toArray w R:=by
 refine calls_of_wp j k (h (fun _=>0) _ w ⟨?_,rfl,fun i x m=>?_,⟨fun b t n e=>(by cases e),fun b c e=>(by cases e),fun b e=>(by cases e),Fr.refl _ _,fun i b off e=>?_,fun b t n e=>(by cases e)⟩,?_⟩)
 ·have:=vQ l
  simp;omega
 ·obtain⟨_,v,hv,rfl⟩:=cO args 0 i x m
  have d:i<args.length:=by
   rcases vL i args.length with a|a
   ·exact a
   rw[vN qO] at hv;cases hv
  simp only[AV.conc]
  rw[Array.getElem?_append_left (by simpa using d)]
  simpa using hv
 ·obtain⟨_,v,hv,e'⟩:=cO args 0 i _ e
  cases e'
 intro w' g
 exact Q w' (g.mono (fun i _ a=>by obtain⟨b,e,_⟩:=a;cases e))
end
section
variable {N:Nat} {S0:Nat→Prop} {w0:World} {s:St} {Φ Ψ:World→Prop} {L:Nat→Nat} {a:Act} {w:World} {P:Program} {ops:Array Oper} {Q:Exit→Act→World→Prop}
theorem Inv.eff3 (h:Inv N S0 w0 s Φ L a w){w':World}{r:Nat}(g:Fr (fun i=>i=r) w w')(l:¬ s.own L r)(d:w0.heap.size≤r∨S0 r)(m:∀ w1 w2,Fr S0 w0 w2→Φ w1→Fr (fun i=>i=r) w1 w2→Fr (s.own L) w' w2→Ψ w2):Inv N S0 w0 s Ψ L a w':=by
 refine⟨h.size,h.df,h.sl,⟨fun b t n e=>(h.mem.blk b t n e).fr g (fun o=>l ⟨b,by rw[e];rfl,o⟩),h.mem.inj,h.mem.old,h.mem.ext.next g (fun i hi e=>?_),h.mem.slp,h.mem.cel⟩,fun w2 j=>?_⟩
 ·rcases d with f|f
  ·omega
  rw[e];exact f
 have k:Fr (fun i=>s.own L i∨i=r) w w2:=(g.mono (fun i _ e=>Or.inr e)).trans (j.mono (fun i _ e=>Or.inl e))
 obtain⟨w1,p,q⟩:=k.split
 refine m w1 w2 (h.mem.ext.next k (fun i hi u=>?_)) (h.box w1 p) q j
 rcases u with ⟨c,v,e⟩|e
 ·rcases h.mem.old c v with f|f
  ·omega
  rw[←e];exact f
 rcases d with f|f
 ·omega
 rw[e];exact f
end
section
variable {N:Nat} {S0:Nat→Prop} {w0:World} {s:St} {Φ Ψ:World→Prop} {L:Nat→Nat} {a:Act} {w:World} {P:Program} {ops:Array Oper} {Q:Exit→Act→World→Prop}
theorem Inv.eff4 (h:Inv N S0 w0 s Φ L a w){w':World}{T:Nat→Prop}(f:Fr T w w')(g:∀ i,T i→¬ s.own L i∧(w0.heap.size≤i∨S0 i))(l:∀ w1 w2,Fr S0 w0 w2→Φ w1→Fr T w1 w2→Fr (s.own L) w' w2→Ψ w2):Inv N S0 w0 s Ψ L a w':=by
 refine⟨h.size,h.df,h.sl,⟨fun b t m e=>(h.mem.blk b t m e).fr f (fun n=>(g _ n).1 ⟨b,by rw[e];rfl,rfl⟩),h.mem.inj,h.mem.old,h.mem.ext.next f (fun i hi e=>?_),h.mem.slp,h.mem.cel⟩,fun w2 j=>?_⟩
 ·rcases (g i e).2 with d|d
  ·omega
  exact d
 have k:Fr (fun i=>s.own L i∨T i) w w2:=(f.mono (fun i _ e=>Or.inr e)).trans (j.mono (fun i _ e=>Or.inl e))
 obtain⟨w1,o,p⟩:=k.split
 refine l w1 w2 (h.mem.ext.next k (fun i hi q=>?_)) (h.box w1 o) p j
 rcases q with ⟨c,r,e⟩|e
 ·rcases h.mem.old c r with d|d
  ·omega
  rw[←e];exact d
 rcases (g i e).2 with d|d
 ·omega
 exact d
end
section
variable {N:Nat} {S0:Nat→Prop} {w0:World} {s:St} {Φ Ψ:World→Prop} {L:Nat→Nat} {a:Act} {w:World} {P:Program} {ops:Array Oper} {Q:Exit→Act→World→Prop}
end
def OwnD (w:World) (m:Nat) (e:TypeId) (k:Nat) (A:Option Addr) (c n:Nat) (xs:List Value):Prop :=
 xs.length=n*k∧((A=none∧c=0∧n=0)∨∃ g cur,A=some ⟨g,0,none⟩∧m≤g∧Blk e w g cur∧iE cur∧n≤c∧c≤maxLen∧cur.size=c*k∧cur.toList.take (n*k)=xs)
section
variable {w w':World} {m n c k:Nat} {e:TypeId} {A:Option Addr} {xs:List Value}
theorem OwnD.nil (w:World)(m:Nat)(e:TypeId)(k:Nat):OwnD w m e k none 0 0 []:=⟨qS,Or.inl ⟨rfl,rfl,rfl⟩⟩
theorem OwnD.own (h:OwnD w m e k A c n xs):w.ownsRow m e k (.slice A n c) n xs:=by
 obtain⟨d,f⟩:=h
 refine⟨d,?_⟩
 rcases f with ⟨rfl,rfl,rfl⟩|⟨g,b,rfl,i,j,_,l⟩
 ·exact Or.inl ⟨rfl,rfl⟩
 exact Or.inr ⟨g,c,b,rfl,i,j,l⟩
theorem OwnD.mono {f:Nat}(h:OwnD w m e k A c n xs)(l:f≤m):OwnD w f e k A c n xs:=by
 obtain⟨i,b⟩:=h
 refine⟨i,?_⟩
 rcases b with b|⟨g,d,rfl,o,j⟩
 ·exact Or.inl b
 exact Or.inr ⟨g,d,rfl,qO,j⟩
theorem OwnD.fr {S:Nat→Prop}(h:OwnD w m e k A c n xs)(f:Fr S w w')(j:∀ i,A=some ⟨i,0,none⟩→¬ S i):OwnD w' m e k A c n xs:=by
 obtain⟨l,b⟩:=h
 refine⟨l,?_⟩
 rcases b with b|⟨g,d,rfl,o,p,q⟩
 ·exact Or.inl b
 exact Or.inr ⟨g,d,rfl,o,p.fr f (j g rfl),q⟩
theorem OwnD.blk (h:OwnD w m e k A c n xs){i:Nat}(hi:A=some ⟨i,0,none⟩):m≤i∧∃ cur,Blk e w i cur∧iE cur:=by
 rcases h.2 with ⟨h3,_⟩|⟨b,cur,h3,d,f,g,_⟩
 ·rw[hi] at h3;cases h3
 rw[hi] at h3
 injection h3 with h3
 injection h3 with h3
 subst h3
 exact⟨d,cur,f,g⟩
theorem iE.list {l:List Value}(h:∀ (k:IntKind) (z:Int),Value.int k z∈l→k=.i64):iE l.toArray:=fun i k z e=>by
 rw[List.getElem?_toArray] at e
 exact h k z (oD e)
theorem iE.mem {cs:Array Value}(h:iE cs){k:IntKind}{z:Int}(b:Value.int k z∈cs.toList):k=.i64:=by
 obtain⟨i,hi,e⟩:=List.getElem_of_mem b
 exact h i k z (by rw[←oV,uP hi,e])
theorem ZoP {z:Array Value}{n:Nat}{v:Value}(h:v∈(Builtin.zeroCells z n).toList):v∈z.toList:=by
 simp[Builtin.zeroCells] at h
 obtain⟨j,d,b⟩:=h
 have f:0<z.size:=rA (fun e=>by rw[e] at d;omega)
 rw[tH z (j%z.size) (uM _ f)] at b
 rw[←b]
 simp
theorem Zix {P:Program}(w:World)(m:Nat)(t K e:TypeId)(i:TypeInfo)(z:Value)(k bytes:Nat)(O:P.underlying t=some (.slice e))(hi:P.info? e=some i)(hz:i.zero=some z)(R:i.size=k)(S:i.bytes=bytes)(T:z.cells.size=k)(d0:0<k)(U:iE z.cells)(A:qA)(c n:Nat)(xs:List Value)(hO:OwnD w m e k A c n xs)(a:Addr)(d c2:Nat)(news:List Value)(E:news.length=d*k)(V:0<d)(b:∀ j u,news[j]? = some u→w.cell? (a.add j)=some u)(h1:∀ u∈news,u.oneCell'=true)(F:∀ (k:IntKind) (z:Int),Value.int k z∈news→k=.i64)(G:n+d≤maxLen)(o:(n+d)*bytes≤140737488355328)(hm:m≤w.heap.size) :
 ∃ M c' w',(Builtin.append_ #[t,t] K #[.slice A n c,.slice (some a) d c2]).run P w=.ok (.slice M (n+d) c') w'∧OwnD w' m e k M c' (n+d) (xs ++ news)∧Fr (fun i=>A=some ⟨i,0,none⟩) w w'∧(∀ i,M=some ⟨i,0,none⟩→A=some ⟨i,0,none⟩∨i=w.heap.size)∧M≠none:=by
 subst R S
 have p:(xs ++ news).length=(n+d)*i.size:=by rw[vA,hO.1,E,uX]
 have c0:n+d≤9223372036854775807:=by simp only[maxLen] at G;omega
 obtain⟨B,h2⟩:=hO
 have r:∀ (v:Nat),iE xs.toArray→OwnD (w.drew.alloc (.cells (xs.toArray ++ news.toArray ++ Builtin.zeroCells z.cells (grownCap w (n+d) v e-(n+d))) e)) m e i.size (some ⟨w.heap.size,0,none⟩) (grownCap w (n+d) v e) (n+d) (xs ++ news):=fun v hx=>by
  have W:=grownCap_ge w (n+d) v e
  refine⟨p,Or.inr ⟨w.heap.size,_,rfl,hm,heap_alloc_new w.drew _,fun j q y hj=>?_,W,grownCap_le_maxLen w (n+d) v e G,?_,?_⟩⟩
  ·have h3:=oD (by rw[←oV] at hj;exact hj)
   rw[Array.toList_append,Array.toList_append] at h3
   rcases sN.1 h3 with h3|h3
   ·rcases sN.1 h3 with h3|h3
    ·exact hx.mem h3
    exact F q y (by simpa using h3)
   exact U.mem (ZoP h3)
  ·simp only[Array.size_append,pW,size_zeroCells,T,B,E,← uX]
   congr 1
   omega
  simp only[Array.toList_append,vU]
  rw[←vU,← p]
  exact List.take_left
 rcases h2 with ⟨rfl,rfl,rfl⟩|⟨g,x,rfl,X,Y,C,e0,Z,a0,f⟩
 ·obtain rfl:xs=[]:=qM (by simpa using B)
  have H:=run_append_nil (P:=P) w t K e i z O hi hz a d c2 news E b V qO (by have hb:=o;simp only[vW] at hb;omega)
  have I:=r 0 (fun i k z h=>by simp at h)
  simp only[vW,pD,Array.empty_append] at I ⊢
  exact⟨_,_,_,H,I,((Fr.refl _ w).drewN 1).alloc _,fun j e=>by injection e with e;injection e with e;exact Or.inr e.symm,qS⟩
 have b0:iE xs.toArray:=iE.list (fun k z h=>C.mem (tZ (f ▸ h)))
 by_cases l:n+d≤c
 ·have J:n*i.size+news.length≤x.size:=by rw[E,a0,← uX];exact uE _ l
  have H:=run_append_room (P:=P) w t K e i O hi g n c x Y a d c2 news E b h1 l J
  refine⟨_,_,_,H,⟨p,Or.inr ⟨g,_,rfl,X,setRow_heap w g x _ e _ Y,iE.list (fun k z h=>?_),l,Z,?_,?_⟩⟩,⟨rfl,rfl,rfl,qS,fun k _ R=>setRow_other w g k _ (fun e=>R (by rw[e]))⟩,fun j e=>Or.inl e,qS⟩
  ·rcases sN.1 h with h|h
   ·rcases sN.1 h with h|h
    ·exact C.mem (tZ h)
    exact F k z h
   exact C.mem (rP h)
  ·simp only[pW,vA,uL,vT,Array.length_toList]
   omega
  rw[f,← p]
  exact List.take_left
 have D:∀ j u,xs[j]? = some u→w.cell? ((⟨g,0,none⟩:Addr).add j)=some u:=fun j u hu=>by
  have h3:(x.toList.take (n*i.size))[j]? = some u:=by rw[f];exact hu
  rw[Lib.add_plain,vW,Blk.cell Y]
  rw[oQ] at h3
  split at h3
  ·simpa using h3
  cases h3
 have H:=run_append_grow (P:=P) w t K e i z O hi hz ⟨g,0,none⟩ n c xs B D a d c2 news E b qO qO (growslice_fits qO o)
 exact⟨_,_,_,H,r c b0,((Fr.refl _ w).drewN 1).alloc _,fun j e=>by injection e with e;injection e with e;exact Or.inr e.symm,qS⟩
end
section
variable {N:Nat} {S0:Nat→Prop} {w0:World} {s:St} {Φ Ψ:World→Prop} {L:Nat→Nat} {a:Act} {w:World} {P:Program} {ops:Array Oper} {Q:Exit→Act→World→Prop}
theorem Zqu {i d k n m cap bytes:Nat}{t e:TypeId}{s0 x:Operand}{xs news:List Value}{z:Value}(base:Nat)(A:qA)(o:∀ j,A=some ⟨j,0,none⟩→base≤j→w0.heap.size≤j∨S0 j)(F c2:Nat)(Ψ:World→Prop)(hb:∀ w,Fr S0 w0 w→Φ w→base≤w.heap.size)(Y:∀ w,Φ w→OwnD w base e k A cap n xs)(hX:∀ w,Φ w→∀ j u,news[j]? = some u→w.cell? ⟨F,j,none⟩=some u)(hl:news.length=m*k)(Z:0<k)(hz:z.cells.size=k)(G:iE z.cells)(H:0<m)(h1:∀ u∈news,u.oneCell'=true)(I:∀ (k:IntKind) (z:Int),Value.int k z∈news→k=.i64)(J:n+m≤maxLen)(b:(n+m)*bytes≤140737488355328)(M:n=0→A=none)(hΨ:∀ w w',Fr S0 w0 w'→Φ w→Fr (fun i=>A=some ⟨i,0,none⟩) w w'→Ψ w')(K:∀ (A':qA) (cap':Nat),A'≠none∧(∀ j,A'=some ⟨j,0,none⟩→A=some ⟨j,0,none⟩∨w0.heap.size≤j)→SXi P N S0 w0 ops Q (i+1) (s.put d (.v (.slice A' (n+m) cap'))) (fun w=>Ψ w∧OwnD w base e k A' cap' (n+m) (xs ++ news)))(O:Nat.blt i ops.size=true:=by kernel_rfl)(hw:s.wantB ops (opAt ops i)=some true:=by kernel_rfl)(hv:(opAt ops i).op.operands.toList.all s.vB=true:=by kernel_rfl)(ho:(opAt ops i).op=.call { callee:=.builtin .append,args:=#[s0,x],argTypes:=#[t,t] }:=by kernel_rfl)(hd:(opAt ops i).dst=some d:=by kernel_rfl)(hN:Nat.blt d N=true:=by kernel_rfl)(ht:P.underlying t=some (.slice e):=by kernel_rfl)(p:(P.info? e).map (fun i=>(i.zero,i.size,i.bytes))=some (some z,k,bytes):=by kernel_rfl)(hs:s.rho s0=.slice A n cap:=by kernel_rfl)(hx:s.rho x=.slice (some ⟨F,0,none⟩) m c2:=by kernel_rfl):SXi P N S0 w0 ops Q i s Φ:=by
 unfold SXi
 rw[iX O]
 intro L a w hi
 refine wpList_step fun K' hK=>?_
 rw[vC (hi.want hw)]
 unfold Oper.wp
 have S:kM (opAt ops i).op=true:=by rw[ho];rfl
 rw[hi.exec S hv]
 obtain⟨T,C,D⟩:=vJ.1 p
 injection D with hz0 D
 injection D with hsize hby
 have r:=Y w hi.box.self
 have U:=hX w hi.box.self
 have hT:∀ j,A=some ⟨j,0,none⟩→¬ s.own L j∧(w0.heap.size≤j∨S0 j):=fun j hj=>by
  have a0:n≠0:=fun h=>by rw[M h] at hj;cases hj
  have f:0<xs.length:=by rw[r.1];exact sL qO Z
  refine⟨hi.notOwn (c:=xs[0]'f) (j:=0) (fun w R=>?_),?_⟩
  ·have B:=(Y w R).own.cells (g:=j) (by rw[hj];rfl) 0 (xs[0]'f) qS
   rw[Lib.add_plain] at B
   exact B
  exact o j hj (r.blk hj).1
 obtain⟨A',cap',w',E,hr,V,l,W⟩:=Zix (P:=P) w base t (opAt ops i).type e T z k bytes ht C hz0 hsize hby hz Z G A cap n xs r ⟨F,0,none⟩ m c2 news hl H
  (fun j u hj=>by rw[Lib.add_plain,vW];exact U j u hj) h1 I J b (hb w hi.mem.ext hi.box.self)
 have y:(execOp s.rho (opAt ops i)).run P w=.ok (.value (.slice A' (n+m) cap')) w':=by simp[execOp,ho,resolve,invoke,builtin,hs,hx,E,Result.andThen]
 rw[y,Oper.upon_value,hd]
 have h0:=hi.app0 (d:=d) (vQ hN) (al_v (s:=s) (.slice A' (n+m) cap'))
 have X:∀ b',A'=some ⟨b',0,none⟩→¬ s.own L b':=fun b' e1=>by
  rcases l b' e1 with B|rfl
  ·exact (hT b' B).1
  rintro⟨c,hc,e⟩
  obtain⟨q,eq⟩:=sC.1 hc
  have:=(hi.mem.blk c q.1 q.2 eq).lt
  omega
 exact hK _ _ (K A' cap' ⟨W,fun j hj=>(l j hj).elim Or.inl (fun (e:j=w.heap.size)=>Or.inr (by rw[e];exact hi.mem.ext.size))⟩ L _ _ (h0.eff4 V hT (fun w1 w2 D B h4 h5=>⟨hΨ w1 w2 D B h4,hr.fr h5 X⟩)))
theorem Blk.news {e:TypeId}{b:Nat}{news:List Value}(h:Blk e w b news.toArray):∀ j u,news[j]? = some u→w.cell? ⟨b,j,none⟩=some u:=fun j u d=>by rw[h.cell];simpa using d
theorem OwnD.news {m k c n b:Nat}{e:TypeId}{news:List Value}(h:OwnD w m e k (some ⟨b,0,none⟩) c n news):∀ j u,news[j]? = some u→w.cell? ⟨b,j,none⟩=some u:=fun j u hj=>by
 rcases h.2 with ⟨h3,_⟩|⟨g,d,h3,_,f,_,_,_,_,i⟩
 ·cases h3
 injection h3 with h3
 injection h3 with h3
 subst h3
 rw[f.cell]
 rw[←i,oQ] at hj
 split at hj
 ·simpa using hj
 cases hj
theorem OwnD.ofBlk {m k n b:Nat}{e:TypeId}{xs:List Value}(h:Blk e w b xs.toArray)(f:m≤b)(d:xs.length=n*k)(g:n≤maxLen)(i:∀ (k:IntKind) (z:Int),Value.int k z∈xs→k=.i64):OwnD w m e k (some ⟨b,0,none⟩) n n xs :=
 ⟨d,Or.inr ⟨b,_,rfl,f,h,iE.list i,uF _,g,by simpa using d,by rw[List.toList_toArray,← d,rB]⟩⟩
theorem OwnD.blkSome {m k n c:Nat}{e:TypeId}{A:qA}{xs:List Value}(h:OwnD w m e k A c n xs)(j:0<n):∃ b,A=some ⟨b,0,none⟩∧m≤b:=by
 rcases h.2 with ⟨_,_,d⟩|⟨g,f,d,i,_⟩
 ·omega
 exact⟨g,d,i⟩
def BoxT (b:Nat) (w w':World) (φ:World→Prop):Prop:=∀ (S:Nat→Prop) (w'':World),(∀ i,S i→i<w.heap.size∧i≠b∧NRB w i)→Fr S w' w''→φ w''
theorem Ziy {i d b:Nat}{α:Type}(f:FuncId)(args:List Value)(sh:α→Value)(Ψ:World→Prop)(φ:α→World→Prop){c:Value}{j:Nat}(u:∀ w,Φ w→w.cell? ⟨b,j,none⟩=some c)(l:w0.heap.size≤b∨S0 b)(y:∀ w,Fr S0 w0 w→Φ w→Calls P f args.toArray w (fun en w'=>∃ x,en=.returned (sh x)∧Fr (fun i=>i=b) w w'∧BoxT b w w' (φ x)))(z:∀ w w',Fr S0 w0 w'→Φ w→Fr (fun i=>i=b) w w'→Ψ w')(K:∀ x,SXi P N S0 w0 ops Q (i+1) (s.put d (.v (sh x))) (fun w=>Ψ w∧φ x w))(o:Nat.blt i ops.size=true:=by kernel_rfl)(h:gF P N ops (opAt ops i) s=some (f,args,d):=by kernel_rfl):SXi P N S0 w0 ops Q i s Φ:=by
 obtain⟨B,C,D,E,F,G,H⟩:=gK h
 unfold SXi
 rw[iX o]
 intro L a w hi
 refine wpList_step fun X I=>?_
 rw[vC (hi.want B)]
 unfold Oper.wp
 rw[hi.exec E F,Zal C G,Oper.upon_enter]
 refine Calls.mono (y w hi.mem.ext hi.box.self) fun en w' J=>?_
 obtain⟨x,rfl,M,O⟩:=J
 simp only[D]
 have R:=hi.app0 (d:=d) H (al_v (s:=s) (sh x))
 have g:¬ s.own L b:=hi.notOwn (c:=c) (j:=j) u
 have p:∀ r,s.own L r→r<w.heap.size∧r≠b∧NRB w r:=fun r q=>⟨(hi.own_nrb q).1,fun e=>g (e ▸ q),(hi.own_nrb q).2⟩
 exact I _ _ (K x L _ _ (R.eff3 M g l (fun S t T U V W=>⟨z S t T U V,O _ t p W⟩)))
end
theorem OwnD.ext {w w':World}{m n c k:Nat}{e:TypeId}{A:qA}{xs:List Value}(h:OwnD w m e k A c n xs)(a:Ext w w'):OwnD w' m e k A c n xs:=h.fr a (fun _ _ f=>f)
theorem OwnD.nrb {w:World}{m n c k i:Nat}{e:TypeId}{A:qA}{xs:List Value}(h:OwnD w m e k A c n xs)(hi:A=some ⟨i,0,none⟩):NRB w i:=by
 obtain⟨_,a,b,d⟩:=h.blk hi
 exact⟨_,_,b,d⟩
theorem aJ {α:Type}[Inhabited α]{enc:α→List Value}{k:Nat}(b:∀ x,(enc x).length=k):∀ (a:List α) (i j:Nat),i<a.length→j<k→(a.flatMap enc)[i*k+j]? = (enc a[i]!)[j]?
 | [],i,j,h,_=>by cases h
 | x :: a,0,j,_,hj=>by
  rw[rV,sM,vW,qB (by rw[b];exact hj)];rfl
 | x :: a,i+1,j,h,hj=>by
  rw[rV,sO (by rw[b,rW];omega),b,rW,show i*k+k+j-k=i*k+j by omega,aJ b a i j (by simpa using h) hj]
  simp
theorem OwnD.at {w:World}{m c n k:Nat}{e:TypeId}{A:qA}{xs:List Value}(h:OwnD w m e k A c n xs){j:Nat}{v:Value}(hj:xs[j]? = some v):∃ b,A=some ⟨b,0,none⟩∧b<w.heap.size∧w.cell? ⟨b,0+j,none⟩=some v:=by
 rcases h.2 with ⟨_,_,a⟩|⟨g,f,rfl,a,d,_,_,_,_,i⟩
 ·have:=h.1
  rw[a,sM] at this
  rw[vZ.1 this] at hj
  simp at hj
 refine⟨g,rfl,d.lt,?_⟩
 rw[d.cell,vW]
 rw[←i,oQ] at hj
 split at hj
 ·simpa using hj
 cases hj
theorem OwnD.ne {w:World}{m c n k i:Nat}{e:TypeId}{A:qA}{xs:List Value}(h:OwnD w m e k A c n xs)(hi:i<n):A≠none:=fun e=>by
 rcases h.2 with ⟨_,_,b⟩|⟨g,a,rfl,_⟩
 ·omega
 cases e
section
variable {P:Program} {o:Oper} {ρ:Operand→Value} {w:World} {t e:TypeId} {x:Operand}
theorem eP {α:Type}[Inhabited α]{enc:α→List Value}{A:qA}{m c n k j:Nat}{ys:List α}(h:OwnD w m e k A c n (ys.flatMap enc))(a:∀ x,(enc x).length=k)(r:j<ys.length)(s:0<k:=by decide)(u:o.op=Op.load t x:=by kernel_rfl)(v:ρ x=atA A (j*k):=by kernel_rfl)(ha:(teOf P t).map (fun e=>(e.agg,e.size))=some (true,k):=by kernel_rfl) :
 (execOp ρ o).run P w=.ok (.value (.agg (enc ys[j]!).toArray)) w:=by
 obtain⟨B,q,y⟩:=vJ.1 ha
 injection y with ha hn
 have z:∃ g,A=some ⟨g,0,none⟩:=by
  have d:=aJ a ys j 0 r s
  rw[uP (l:=enc ys[j]!) (by rw[a];exact s)] at d
  obtain⟨b,p,_⟩:=h.at d
  exact⟨b,p⟩
 obtain⟨g,rfl⟩:=z
 have:=bT (P:=P) (w:=w) q (g:=g) (off:=0+j*k) (cs:=enc ys[j]!) (by rw[a];exact hn.symm) (fun i hi=>by
  rw[a] at hi
  have d:=aJ a ys j i r hi
  rw[uP (l:=enc ys[j]!) (by rw[a];exact hi)] at d
  obtain⟨b,f,_,p⟩:=h.at d
  injection f with f
  injection f with f
  subst f
  rw[vW] at p ⊢
  rw[p,uP (l:=enc ys[j]!) (by rw[a];exact hi)]
  rfl) ha
 simp only[execOp,u,v,atA,rL,jS,Sem.run_bind,this,Result.andThen_ok,Sem.run_pure]
end
theorem Zm9 {α:Type}[Inhabited α]{enc:α→List Value}{k:Nat}(c:∀ x,(enc x).length=k)(j:0<k)(b:α)(z:Array Value)(e:z.toList=enc b)(n:Nat):(madeCells z (n*k)).toList=(List.replicate n b).flatMap enc:=by
 have d:z.size=k:=by rw[←c b,← e];simp
 have m:((List.replicate n b).flatMap enc).length=n*k:=by
  induction n with
  | zero=>simp
  | succ n ih=>rw[oL,rV,vA,ih,c,rW];omega
 refine List.ext_getElem? fun i=>?_
 by_cases hi:i<n*k
 ·have f:i/k<n:=sZ (by rwa [uH])
  have l:i%k<k:=uM _ j
  have g:=aJ c (List.replicate n b) (i/k) (i%k) (by simpa using f) l
  rw[show i/k*k+i%k=i by rw[uH];exact vX i k] at g
  rw[g,tH _ _ (by simpa using f),qV,← e]
  have h:i%k<z.size:=qO
  simp only[madeCells,Array.toList_map,Array.toList_range,List.getElem?_map,List.getElem?_range hi,rL,d]
  rw[tH z _ h,uP (by simpa using h)]
  simp
 rw[vN (by simp[madeCells];omega),vN qO]
theorem ZlF {α:Type}{enc:α→List Value}(h:∀ x,∀ (k:IntKind) (z:Int),Value.int k z∈enc x→k=.i64)(l:List α):∀ (k:IntKind) (z:Int),Value.int k z∈l.flatMap enc→k=.i64:=fun k z b=>by
 obtain⟨x,_,c⟩:=List.mem_flatMap.1 b
 exact h x k z c
theorem jX {α:Type}[Inhabited α]{enc:α→List Value}{P:Program}{o:Oper}{ρ:Operand→Value}{w:World}{m0 k n bytes:Nat}{t e:TypeId}{kl kc:IntKind}{l c:Operand}{z:Value}(r:α)(G:∀ x,(enc x).length=k)(H:0<k)(I:z.cells.toList=enc r)(u:∀ x,∀ (k:IntKind) (z:Int),Value.int k z∈enc x→k=.i64)(D:m0≤w.heap.size)(E:n≤maxLen)(J:bytes*n≤281474976710656)(K:o.op=Op.makeSlice t l c:=by kernel_rfl)(M:P.underlying t=some (.slice e):=by kernel_rfl)(f:(P.info? e).map (fun i=>(i.zero,i.size,i.bytes))=some (some z,k,bytes):=by kernel_rfl)(O:ρ l=.int kl (n:Int):=by kernel_rfl)(R:ρ c=.int kc (n:Int):=by kernel_rfl) :
 Does P o ρ w (DoR (fun b:{b:Nat // m0≤b}=>.slice (some ⟨b.1,0,none⟩) n n) (fun b w=>OwnD w m0 e k (some ⟨b.1,0,none⟩) n n ((List.replicate n r).flatMap enc)) w):=by
 obtain⟨g,m,v⟩:=vJ.1 f
 injection v with hz0 v
 injection v with hsize hb
 have A:(n:Int)≤9223372036854775807:=by simp only[maxLen] at E;omega
 have B:(g.bytes:Int)*(n:Int)≤281474976710656:=by
  have h:((g.bytes*n:Nat):Int)≤281474976710656:=by rw[hb];omega
  rwa [tL] at h
 have F:=run_make (P:=P) w t e g z M m hz0 kl kc n n qO (Int.le_refl _) B A
 simp only[pF,hsize] at F
 have p:(execOp ρ o).run P w=.ok (.value (.slice (some ⟨w.heap.size,0,none⟩) n n)) (w.alloc (.cells (madeCells z.cells (n*k)) e)):=by simp[execOp,K,O,R,F,Result.andThen]
 have Q:Ext w (w.alloc (.cells (madeCells z.cells (n*k)) e)):=(Fr.refl _ w).alloc _
 refine Or.inl ⟨_,_,p,⟨w.heap.size,D⟩,rfl,Q,fun S T U V=>?_⟩
 have C:Blk e (w.alloc (.cells (madeCells z.cells (n*k)) e)) w.heap.size (madeCells z.cells (n*k)):=Blk.new w e _
 have W:=C.fr V (fun h=>by have:=(T _ h).1;omega)
 have d:=Zm9 G H r z.cells I n
 have j:(madeCells z.cells (n*k)).size=n*k:=size_madeCells _ _
 refine⟨by rw[←d];simp[j],Or.inr ⟨w.heap.size,_,rfl,D,W,fun i q y hi=>?_,uF _,E,j,?_⟩⟩
 ·refine ZlF u (List.replicate n r) q y ?_
  rw[←d]
  exact oD (by rw[←oV] at hi;exact hi)
 rw[d,uC]
 rw[←d];simp[j]
section
variable {N:Nat} {S0:Nat→Prop} {w0:World} {s:St} {Φ Ψ:World→Prop} {L:Nat→Nat} {a:Act} {w:World} {P:Program} {ops:Array Oper} {Q:Exit→Act→World→Prop}
theorem ZcC {α:Type}{l cs:List α}{off:Nat}(h:off+cs.length≤l.length):(lH l off cs).length=l.length:=by
 unfold lH
 simp only[vA,uL,vT]
 omega
theorem ZfI {α:Type}{l cs:List α}{off:Nat}(h:off+cs.length≤l.length)(i:Nat):(lH l off cs)[i]? = if i<off then l[i]? else if i<off+cs.length then cs[i-off]? else l[i]? := by
 unfold lH
 by_cases b:i<off
 ·rw[vC b,vU,qB (by rw[uL];omega),sA b]
 rw[uO b]
 by_cases c:i<off+cs.length
 ·rw[vC c,qB (by rw[vA,uL];omega),sO (by rw[uL];omega),uL,uT qO]
 rw[uO c,sO (by rw[vA,uL];omega),vA,uL,uT qO,vK]
 congr 1
 omega
theorem ZjT {α:Type}{l cs:List α}{off n:Nat}(h:off+cs.length≤n)(b:n≤l.length):(lH l off cs).take n=lH (l.take n) off cs:=by
 refine List.ext_getElem? fun i=>?_
 by_cases hi:i<n
 ·rw[sA hi,ZfI qO,ZfI (by rw[uL];omega),sA hi]
 rw[vN (by rw[uL];omega),vN (by rw[ZcC (by rw[uL];omega),uL];omega)]
theorem jF {α:Type}{enc:α→List Value}{k:Nat}(c:∀ x,(enc x).length=k):∀ (b:List α) (j:Nat) (x:α),j<b.length→(b.set j x).flatMap enc=lH (b.flatMap enc) (j*k) (enc x)
 | [],j,x,h=>by cases h
 | y :: b,0,x,_=>by
  unfold lH
  rw[List.set_cons_zero,rV,rV,sM,List.take_zero,pD,c,vW,oZ,c,rI,tX,List.drop_eq_nil_of_le (by rw[c];exact uF _),pD]
 | y :: b,j+1,x,h=>by
  rw[List.set_cons_succ,rV,rV,jF c b j x (by simpa using h)]
  unfold lH
  have d:(enc y ++ b.flatMap enc).take ((j+1)*k)=enc y ++ (b.flatMap enc).take (j*k):=by
   rw[rW,List.take_append,c,uC (by rw[c];omega),tM]
  have e:(enc y ++ b.flatMap enc).drop ((j+1)*k+(enc x).length)=(b.flatMap enc).drop (j*k+(enc x).length):=by
   rw[rW,oZ,c,List.drop_eq_nil_of_le (by rw[c];omega),pD,c]
   congr 1
   omega
  rw[d,e]
  simp only[vU]
theorem fP {i k n c j:Nat}{t e:TypeId}{x y:Operand}{xs new:List Value}(base b:Nat)(v:Value)(Ψ:World→Prop)(Y:∀ w,Φ w→OwnD w base e k (some ⟨b,0,none⟩) c n xs)(hj:j<n)(m:new.length=k)(hk:0<k)(o:base≤b→w0.heap.size≤b∨S0 b)(h1:∀ c,c∈new→c.oneCell'=true)(J:∀ (k:IntKind) (z:Int),Value.int k z∈new→k=.i64)(I:v.cells.toList=new)(hΨ:∀ w w',Φ w→Fr (fun i=>some (⟨b,0,none⟩:Addr)=some ⟨i,0,none⟩) w w'→Ψ w')(K:SXi P N S0 w0 ops Q (i+1) s (fun w=>Ψ w∧OwnD w base e k (some ⟨b,0,none⟩) c n (lH xs (j*k) new)))(M:Nat.blt i ops.size=true:=by kernel_rfl)(hw:s.wantB ops (opAt ops i)=some true:=by kernel_rfl)(ho:(opAt ops i).op=.store t x y:=by kernel_rfl)(hd:(opAt ops i).dst=none:=by kernel_rfl)(hs:(teOf P t).map (fun e=>e.size)=some k:=by kernel_rfl)(hx:s.eval x=some (.v (.pointer (some ⟨b,0+j*k,none⟩))):=by kernel_rfl)(d:s.eval y=some (.v v):=by kernel_rfl):SXi P N S0 w0 ops Q i s Φ:=by
 unfold SXi
 rw[iX M]
 intro L a w hi
 refine wpList_step fun K' hK=>?_
 rw[vC (hi.want hw)]
 obtain⟨te,O,p⟩:=vJ.1 hs
 obtain⟨l,r⟩:=Y w hi.box.self
 rcases r with ⟨h3,_⟩|⟨g,cur,h3,u,Z,A,B,S,T,U⟩
 ·cases h3
 injection h3 with h3
 injection h3 with h3
 subst h3
 have C:j*k+k≤n*k:=by rw[←rW];exact uE k hj
 have D:n*k≤c*k:=uE k B
 have h:cur.toList.length=c*k:=by simpa using T
 have V:Blk e w b cur.toList.toArray:=by rw[Array.toArray_toList];exact Z
 obtain⟨w',hr,E,hF⟩:=ZbP (P:=P) O (g:=b) (bt:=e) (off:=0+j*k) (cur:=cur.toList) (v:=v) V (by rw[I,m];exact p.symm) (by rw[I,m,h];omega) (fun c hc=>by rw[I] at hc;exact h1 c hc)
 rw[I,vW] at E
 unfold Oper.wp
 have ex:=hi.eval hx
 have ey:=hi.eval d
 have F:(execOp a.eval (opAt ops i)).run P w=.ok .skip w':=by simp only[execOp,ho,Sem.run_bind,ex,ey,AV.conc,hr,Result.andThen_ok,Sem.run_pure]
 rw[F,Oper.upon_skip,hd]
 have W:OwnD w' base e k (some ⟨b,0,none⟩) c n (lH xs (j*k) new):=by
  refine⟨by rw[ZcC (by rw[m,l];exact C),l],Or.inr ⟨b,_,rfl,u,E,iE.list (fun q y d=>?_),B,S,by rw[pW,ZcC (by rw[m,h];omega),h],?_⟩⟩
  ·unfold lH at d
   rcases sN.1 d with d|d
   ·rcases sN.1 d with d|d
    ·exact A.mem (tZ d)
    exact J q y d
   exact A.mem (rP d)
  rw[ZjT (by rw[m];exact C) (by rw[h];exact D),U]
 have f:0<xs.length:=by rw[l];have:0<k*n:=sL hk qO;rw[uH];exact this
 have X:Fr (fun i=>i=b) w w':=hF
 refine hK _ _ (K L _ _ (hi.eff X (hi.notOwn (c:=xs[0]'f) (j:=0) (fun w R=>?_)) (o u) Z.lt (fun w1 w2 k1 k2 k3=>⟨hΨ w1 w2 k1 (k2.mono (fun i _ e=>by rw[e])),?_⟩)))
 ·obtain⟨b2,G,_,h4⟩:=(Y w R).at (j:=0) (v:=xs[0]'f) (uP f)
  injection G with G
  injection G with G
  subst G
  exact h4
 obtain⟨q1,q2⟩:=W
 refine⟨q1,?_⟩
 rcases q2 with ⟨h3,_⟩|⟨g,H,h3,r1,r2,r3⟩
 ·cases h3
 injection h3 with h3
 injection h3 with h3
 subst h3
 exact Or.inr ⟨b,H,rfl,r1,k3.trans r2,r3⟩
end
end Go.Proofs.YtenchljfmfgeoaaGreatDoor
