/-
 My texts Sx21, Sx22, Sx23, Sx24, Sx25, Ty, Db, Dn0 put together.
-/
import Derived.Test.YtenchljfmfgeoaaGreatDoorL15
import Derived.Test.YtenchljfmfgeoaaGreatDoorL16
import Derived.Lib.SplitLaws
set_option maxRecDepth 100000
namespace Go.Proofs.YtenchljfmfgeoaaGreatDoor
open Go.RowKit
section
variable {N:Nat} {S0:Nat→Prop} {w0:World} {s:St} {Φ Ψ:World→Prop} {L:Nat→Nat} {a:Act} {w:World} {P:Program} {ops:Array Oper} {Q:Exit→Act→World→Prop}
end
theorem Zhc {m0:Nat} {P:Program} {o:Oper} {ρ:Operand→Value} {w:World} {t e:TypeId} {n sz:Nat} {z:Value} {parts:Array (Nat × Operand)} {cells:Array Value} (hm:m0≤w.heap.size) (ho:o.op=Op.buildSlice t n parts) (ht:P.underlying t=some (.slice e))
 (hinfo:(P.info? e).map (fun i=>(i.zero,i.size))=some (some z,sz)) (hn:Nat.ble (n * sz) 1000=true) (hn0:Nat.beq (n * sz) 0=false)
 (hf:Instr.fill (fun i=>some (i * sz,sz)) ((List.range (n * sz)).map (fun i=>z.cells[i % z.cells.size]!)).toArray (parts.toList.map fun q=>(q.1,ρ q.2))=some cells) :
 Does P o ρ w (DoR (fun b:{b:Nat // m0≤b}=>.slice (some ⟨b.1,0,none⟩) n n) (fun b w=>Blk e w b.1 cells) w):=by
 have hrun:=ZiV (w:=w) ht hinfo hn hn0 hf
 exact Or.inl ⟨_,_,by simp [execOp,ho,hrun,Result.andThen],⟨w.heap.size,hm⟩,rfl,(Fr.refl _ w).alloc _,fun S hS w'' hF=>(Blk.new w e cells).fr hF (fun h=>by have:=(hS _ h).1; omega)⟩
end Go.Proofs.YtenchljfmfgeoaaGreatDoor

namespace Go.Proofs.YtenchljfmfgeoaaGreatDoor
open Go.RowKit
section
variable {N:Nat} {S0:Nat→Prop} {w0:World} {s:St} {Φ Φ0:World→Prop} {P:Program} {ops:Array Oper} {Q:Exit→Act→World→Prop}
end
section
variable {N:Nat} {S0:Nat→Prop} {w:World} {Φ:World→Prop} {P:Program}
theorem Zoz (S0:Nat→Prop) {fn:Func} {f:FuncId} {c:Code} {args:List Value} {R:Ending→World→Prop} (hf:P.funcs[f]? = some fn) (hb:fn.body=some c) (hl:Nat.ble args.length fn.ntmps=true) (Q:Box (fun _=>False) w Φ)
 (h:SXc P fn.ntmps S0 w (bodyPost P fn R) c (ofL (Zge 0 args) []) Φ):Calls P f args.toArray w R:=by
 refine calls_of_wp hf hb (h (fun _=>0) _ w ⟨?_,rfl,fun i x hx=>?_,⟨fun b t cs e=>(by cases e),fun b c e=>(by cases e),fun b e=>(by cases e),Fr.refl _ _,fun i b off e=>?_,fun b t cs e=>(by cases e)⟩,?_⟩)
 ·have:=Nat.le_of_ble_eq_true hl
  simp; omega
 ·obtain ⟨_,v,hv,rfl⟩:=ZdG args 0 i x hx
  have hlt:i < args.length:=by
   rcases Nat.lt_or_ge i args.length with h' | h'
   ·exact h'
   ·rw [List.getElem?_eq_none (by omega)] at hv; cases hv
  simp only [AV.conc]
  rw [Array.getElem?_append_left (by simpa using hlt)]
  simpa using hv
 ·obtain ⟨_,v,hv,e'⟩:=ZdG args 0 i _ e
  cases e'
 ·intro w' hf'
  exact Q w' (hf'.mono (fun i _ h'=>by obtain ⟨b,e,_⟩:=h'; cases e))
end
end Go.Proofs.YtenchljfmfgeoaaGreatDoor

namespace Go.Proofs.YtenchljfmfgeoaaGreatDoor
open Go.RowKit
section
variable {N:Nat} {S0:Nat→Prop} {w0:World} {s:St} {Φ Ψ:World→Prop} {L:Nat→Nat} {a:Act} {w:World} {P:Program} {ops:Array Oper} {Q:Exit→Act→World→Prop}
theorem Inv.eff3 (h:Inv N S0 w0 s Φ L a w) {w':World} {r:Nat} (hF:Fr (fun i=>i=r) w w') (hr:¬ s.own L r) (hnew:w0.heap.size≤r∨S0 r)
 (hΨ:∀ w1 w2,Fr S0 w0 w2→Φ w1→Fr (fun i=>i=r) w1 w2→Fr (s.own L) w' w2→Ψ w2):Inv N S0 w0 s Ψ L a w':=by
 refine ⟨h.size,h.df,h.sl,⟨fun b t cs e=>(h.mem.blk b t cs e).fr hF (fun e'=>hr ⟨b,by rw [e]; rfl,e'⟩),h.mem.inj,h.mem.old,h.mem.ext.next hF (fun i hi e=>?_),h.mem.slp,h.mem.cel⟩,fun w2 hf=>?_⟩
 ·rcases hnew with h' | h'
  ·omega
  ·rw [e]; exact h'
 ·have h2:Fr (fun i=>s.own L i∨i=r) w w2:=(hF.mono (fun i _ e=>Or.inr e)).trans (hf.mono (fun i _ e=>Or.inl e))
  obtain ⟨w1,k1,k2⟩:=h2.split
  refine hΨ w1 w2 (h.mem.ext.next h2 (fun i hi ho=>?_)) (h.box w1 k1) k2 hf
  rcases ho with ⟨c,hc,e⟩ | e
  ·rcases h.mem.old c hc with h' | h'
   ·omega
   ·rw [← e]; exact h'
  ·rcases hnew with h' | h'
   ·omega
   ·rw [e]; exact h'
end
end Go.Proofs.YtenchljfmfgeoaaGreatDoor

namespace Go.Proofs.YtenchljfmfgeoaaGreatDoor
open Go.RowKit
section
variable {N:Nat} {S0:Nat→Prop} {w0:World} {s:St} {Φ Ψ:World→Prop} {L:Nat→Nat} {a:Act} {w:World} {P:Program} {ops:Array Oper} {Q:Exit→Act→World→Prop}
theorem Inv.eff4 (h:Inv N S0 w0 s Φ L a w) {w':World} {T:Nat→Prop} (hF:Fr T w w') (hT:∀ i,T i→¬ s.own L i∧(w0.heap.size≤i∨S0 i))
 (hΨ:∀ w1 w2,Fr S0 w0 w2→Φ w1→Fr T w1 w2→Fr (s.own L) w' w2→Ψ w2):Inv N S0 w0 s Ψ L a w':=by
 refine ⟨h.size,h.df,h.sl,⟨fun b t cs e=>(h.mem.blk b t cs e).fr hF (fun e'=>(hT _ e').1 ⟨b,by rw [e]; rfl,rfl⟩),h.mem.inj,h.mem.old,h.mem.ext.next hF (fun i hi e=>?_),h.mem.slp,h.mem.cel⟩,fun w2 hf=>?_⟩
 ·rcases (hT i e).2 with h' | h'
  ·omega
  ·exact h'
 ·have h2:Fr (fun i=>s.own L i∨T i) w w2:=(hF.mono (fun i _ e=>Or.inr e)).trans (hf.mono (fun i _ e=>Or.inl e))
  obtain ⟨w1,k1,k2⟩:=h2.split
  refine hΨ w1 w2 (h.mem.ext.next h2 (fun i hi ho=>?_)) (h.box w1 k1) k2 hf
  rcases ho with ⟨c,hc,e⟩ | e
  ·rcases h.mem.old c hc with h' | h'
   ·omega
   ·rw [← e]; exact h'
  ·rcases (hT i e).2 with h' | h'
   ·omega
   ·exact h'
end
end Go.Proofs.YtenchljfmfgeoaaGreatDoor

namespace Go.Proofs.YtenchljfmfgeoaaGreatDoor
open Go.RowKit
section
variable {N:Nat} {S0:Nat→Prop} {w0:World} {s:St} {Φ Ψ:World→Prop} {L:Nat→Nat} {a:Act} {w:World} {P:Program} {ops:Array Oper} {Q:Exit→Act→World→Prop}
end
end Go.Proofs.YtenchljfmfgeoaaGreatDoor

namespace Go.Proofs.YtenchljfmfgeoaaGreatDoor
open Go.RowKit
def OwnD (w:World) (m:Nat) (e:TypeId) (k:Nat) (A:Option Addr) (c n:Nat) (xs:List Value):Prop :=
 xs.length=n * k∧((A=none∧c=0∧n=0)∨∃ g cur,A=some ⟨g,0,none⟩∧m≤g∧Blk e w g cur∧Zcp cur∧n≤c∧c≤maxLen∧cur.size=c * k∧cur.toList.take (n * k)=xs)
section
variable {w w':World} {m n c k:Nat} {e:TypeId} {A:Option Addr} {xs:List Value}
theorem OwnD.nil (w:World) (m:Nat) (e:TypeId) (k:Nat):OwnD w m e k none 0 0 []:=⟨by simp,Or.inl ⟨rfl,rfl,rfl⟩⟩
theorem OwnD.own (h:OwnD w m e k A c n xs):w.ownsRow m e k (.slice A n c) n xs:=by
 obtain ⟨h1,h2⟩:=h
 refine ⟨h1,?_⟩
 rcases h2 with ⟨rfl,rfl,rfl⟩ | ⟨g,cur,rfl,h3,h4,_,h5⟩
 ·exact Or.inl ⟨rfl,rfl⟩
 ·exact Or.inr ⟨g,c,cur,rfl,h3,h4,h5⟩
theorem OwnD.mono {m':Nat} (h:OwnD w m e k A c n xs) (hm:m'≤m):OwnD w m' e k A c n xs:=by
 obtain ⟨h1,h2⟩:=h
 refine ⟨h1,?_⟩
 rcases h2 with h2 | ⟨g,cur,rfl,h3,h4⟩
 ·exact Or.inl h2
 ·exact Or.inr ⟨g,cur,rfl,by omega,h4⟩
theorem OwnD.fr {S:Nat→Prop} (h:OwnD w m e k A c n xs) (hF:Fr S w w') (hS:∀ i,A=some ⟨i,0,none⟩→¬ S i):OwnD w' m e k A c n xs:=by
 obtain ⟨h1,h2⟩:=h
 refine ⟨h1,?_⟩
 rcases h2 with h2 | ⟨g,cur,rfl,h3,h4,h5⟩
 ·exact Or.inl h2
 ·exact Or.inr ⟨g,cur,rfl,h3,h4.fr hF (hS g rfl),h5⟩
theorem OwnD.blk (h:OwnD w m e k A c n xs) {i:Nat} (hi:A=some ⟨i,0,none⟩):m≤i∧∃ cur,Blk e w i cur∧Zcp cur:=by
 rcases h.2 with ⟨h3,_⟩ | ⟨b,cur,h3,h4,h5,h6,_⟩
 ·rw [hi] at h3; cases h3
 ·rw [hi] at h3
  injection h3 with h3
  injection h3 with h3
  subst h3
  exact ⟨h4,cur,h5,h6⟩
theorem Zcp.list {l:List Value} (h:∀ (k:IntKind) (z:Int),Value.int k z ∈ l→k=.i64):Zcp l.toArray:=fun i k z e=>by
 rw [List.getElem?_toArray] at e
 exact h k z (List.mem_of_getElem? e)
theorem Zcp.mem {cs:Array Value} (h:Zcp cs) {k:IntKind} {z:Int} (hz:Value.int k z ∈ cs.toList):k=.i64:=by
 obtain ⟨i,hi,e⟩:=List.getElem_of_mem hz
 exact h i k z (by rw [← Array.getElem?_toList,List.getElem?_eq_getElem hi,e])
theorem ZpU {z:Array Value} {n:Nat} {v:Value} (h:v ∈ (Builtin.zeroCells z n).toList):v ∈ z.toList:=by
 simp [Builtin.zeroCells] at h
 obtain ⟨j,h1,h2⟩:=h
 have h3:0 < z.size:=Nat.pos_of_ne_zero (fun e=>by rw [e] at h1; omega)
 rw [getElem!_pos z (j % z.size) (Nat.mod_lt _ h3)] at h2
 rw [← h2]
 simp
theorem Zlb {P:Program} (w:World) (m:Nat) (t ty e:TypeId) (i:TypeInfo) (z:Value) (k bytes:Nat) (ht:P.underlying t=some (.slice e)) (hi:P.info? e=some i) (hz:i.zero=some z)
 (hk:i.size=k) (hby:i.bytes=bytes) (hzs:z.cells.size=k) (hk0:0 < k) (hzd:Zcp z.cells)
 (A:Option Addr) (c n:Nat) (xs:List Value) (hO:OwnD w m e k A c n xs)
 (a:Addr) (d c2:Nat) (news:List Value) (hl:news.length=d * k) (hd0:0 < d) (hnews:∀ j u,news[j]? = some u→w.cell? (a.add j)=some u) (h1:∀ u ∈ news,u.oneCell'=true) (hnd:∀ (k:IntKind) (z:Int),Value.int k z ∈ news→k=.i64)
 (h63:n + d≤maxLen) (hbytes:(n + d) * bytes≤140737488355328) (hm:m≤w.heap.size) :
 ∃ A' c' w',(Builtin.append_ #[t,t] ty #[.slice A n c, .slice (some a) d c2]).run P w=.ok (.slice A' (n + d) c') w'∧OwnD w' m e k A' c' (n + d) (xs ++ news)∧Fr (fun i=>A=some ⟨i,0,none⟩) w w'∧(∀ i,A'=some ⟨i,0,none⟩→A=some ⟨i,0,none⟩∨i=w.heap.size)∧A'≠none:=by
 subst hk hby
 have hlen:(xs ++ news).length=(n + d) * i.size:=by rw [List.length_append,hO.1,hl,Nat.add_mul]
 have h63':n + d≤9223372036854775807:=by simp only [maxLen] at h63; omega
 obtain ⟨hxl,h2⟩:=hO
 have grown:∀ (old:Nat),Zcp xs.toArray→OwnD (w.drew.alloc (.cells (xs.toArray ++ news.toArray ++ Builtin.zeroCells z.cells (grownCap w (n + d) old e - (n + d))) e)) m e i.size (some ⟨w.heap.size,0,none⟩) (grownCap w (n + d) old e) (n + d) (xs ++ news):=fun old hx=>by
  have hge:=grownCap_ge w (n + d) old e
  refine ⟨hlen,Or.inr ⟨w.heap.size,_,rfl,hm,heap_alloc_new w.drew _,fun j q y hj=>?_,hge,grownCap_le_maxLen w (n + d) old e h63,?_,?_⟩⟩
  ·have h3:=List.mem_of_getElem? (by rw [← Array.getElem?_toList] at hj; exact hj)
   rw [Array.toList_append,Array.toList_append] at h3
   rcases List.mem_append.1 h3 with h3 | h3
   ·rcases List.mem_append.1 h3 with h3 | h3
    ·exact hx.mem h3
    ·exact hnd q y (by simpa using h3)
   ·exact hzd.mem (ZpU h3)
  ·simp only [Array.size_append,List.size_toArray,size_zeroCells,hzs,hxl,hl,← Nat.add_mul]
   congr 1
   omega
  ·simp only [Array.toList_append,List.append_assoc]
   rw [← List.append_assoc,← hlen]
   exact List.take_left
 rcases h2 with ⟨rfl,rfl,rfl⟩ | ⟨g,cur,rfl,hbg,hg,hnc,hcc,hcm,hcs,htake⟩
 ·obtain rfl:xs=[]:=List.eq_nil_of_length_eq_zero (by simpa using hxl)
  have hr:=run_append_nil (P:=P) w t ty e i z ht hi hz a d c2 news hl hnews hd0 (by omega) (by have hb:=hbytes; simp only [Nat.zero_add] at hb; omega)
  have hgr:=grown 0 (fun i k z h=>by simp at h)
  simp only [Nat.zero_add,List.nil_append,Array.empty_append] at hgr ⊢
  exact ⟨_,_,_,hr,hgr,((Fr.refl _ w).drewN 1).alloc _,fun j e=>by injection e with e; injection e with e; exact Or.inr e.symm,by simp⟩
 ·have hxd:Zcp xs.toArray:=Zcp.list (fun k z h=>hnc.mem (List.mem_of_mem_take (htake ▸ h)))
  by_cases hroom:n + d≤c
  ·have hfit:n * i.size + news.length≤cur.size:=by rw [hl,hcs,← Nat.add_mul]; exact Nat.mul_le_mul_right _ hroom
   have hr:=run_append_room (P:=P) w t ty e i ht hi g n c cur hg a d c2 news hl hnews h1 hroom hfit
   refine ⟨_,_,_,hr,⟨hlen,Or.inr ⟨g,_,rfl,hbg,setRow_heap w g cur _ e _ hg,Zcp.list (fun k z h=>?_),hroom,hcm,?_,?_⟩⟩,⟨rfl,rfl,rfl,by simp,fun k _ hk=>setRow_other w g k _ (fun e=>hk (by rw [e]))⟩,fun j e=>Or.inl e,by simp⟩
   ·rcases List.mem_append.1 h with h | h
    ·rcases List.mem_append.1 h with h | h
     ·exact hnc.mem (List.mem_of_mem_take h)
     ·exact hnd k z h
    ·exact hnc.mem (List.mem_of_mem_drop h)
   ·simp only [List.size_toArray,List.length_append,List.length_take,List.length_drop,Array.length_toList]
    omega
   ·rw [htake,← hlen]
    exact List.take_left
  ·have holds:∀ j u,xs[j]? = some u→w.cell? ((⟨g,0,none⟩:Addr).add j)=some u:=fun j u hu=>by
    have h3:(cur.toList.take (n * i.size))[j]? = some u:=by rw [htake]; exact hu
    rw [Lib.add_plain,Nat.zero_add,Blk.cell hg]
    rw [List.getElem?_take] at h3
    split at h3
    ·simpa using h3
    ·cases h3
   have hr:=run_append_grow (P:=P) w t ty e i z ht hi hz ⟨g,0,none⟩ n c xs hxl holds a d c2 news hl hnews (by omega) (by omega) (growslice_fits (by omega) hbytes)
   exact ⟨_,_,_,hr,grown c hxd,((Fr.refl _ w).drewN 1).alloc _,fun j e=>by injection e with e; injection e with e; exact Or.inr e.symm,by simp⟩
end
section
variable {N:Nat} {S0:Nat→Prop} {w0:World} {s:St} {Φ Ψ:World→Prop} {L:Nat→Nat} {a:Act} {w:World} {P:Program} {ops:Array Oper} {Q:Exit→Act→World→Prop}
theorem Zrp {i d k n m cap bytes:Nat} {t e:TypeId} {s0 x:Operand} {xs news:List Value} {z:Value} (base:Nat) (A:Option Addr) (hbase:∀ j,A=some ⟨j,0,none⟩→base≤j→w0.heap.size≤j∨S0 j) (b2 c2:Nat) (Ψ:World→Prop) (hb:∀ w,Fr S0 w0 w→Φ w→base≤w.heap.size) (hO:∀ w,Φ w→OwnD w base e k A cap n xs) (hX:∀ w,Φ w→∀ j u,news[j]? = some u→w.cell? ⟨b2,j,none⟩=some u) (hl:news.length=m * k) (hk:0 < k) (hz:z.cells.size=k) (hzd:Zcp z.cells)
 (hm0:0 < m) (h1:∀ u ∈ news,u.oneCell'=true) (hnd:∀ (k:IntKind) (z:Int),Value.int k z ∈ news→k=.i64) (h63:n + m≤maxLen) (hbytes:(n + m) * bytes≤140737488355328) (hnn:n=0→A=none)
 (hΨ:∀ w w',Fr S0 w0 w'→Φ w→Fr (fun i=>A=some ⟨i,0,none⟩) w w'→Ψ w')
 (K:∀ (A':Option Addr) (cap':Nat),A'≠none∧(∀ j,A'=some ⟨j,0,none⟩→A=some ⟨j,0,none⟩∨w0.heap.size≤j)→SXi P N S0 w0 ops Q (i + 1) (s.put d (.v (.slice A' (n + m) cap'))) (fun w=>Ψ w∧OwnD w base e k A' cap' (n + m) (xs ++ news)))
 (hsz:Nat.blt i ops.size=true:=by kernel_rfl) (hw:s.wantB ops (opAt ops i)=some true:=by kernel_rfl) (hv:(opAt ops i).op.operands.toList.all s.vB=true:=by kernel_rfl) (ho:(opAt ops i).op=.call { callee:=.builtin .append,args:=#[s0,x],argTypes:=#[t,t] }:=by kernel_rfl) (hd:(opAt ops i).dst=some d:=by kernel_rfl) (hN:Nat.blt d N=true:=by kernel_rfl)
 (ht:P.underlying t=some (.slice e):=by kernel_rfl) (hinfo:(P.info? e).map (fun i=>(i.zero,i.size,i.bytes))=some (some z,k,bytes):=by kernel_rfl) (hs:s.rho s0=.slice A n cap:=by kernel_rfl) (hx:s.rho x=.slice (some ⟨b2,0,none⟩) m c2:=by kernel_rfl):SXi P N S0 w0 ops Q i s Φ:=by
 unfold SXi
 rw [Zcx hsz]
 intro L a w hi
 refine wpList_step (fun K' hK=>?_)
 rw [if_pos (hi.want hw)]
 unfold Oper.wp
 have hns:ZbK (opAt ops i).op=true:=by rw [ho]; rfl
 rw [hi.exec hns hv]
 obtain ⟨inf,hinf,h2⟩:=Option.map_eq_some_iff.1 hinfo
 injection h2 with hz0 h2
 injection h2 with hsize hby
 have hO1:=hO w hi.box.self
 have hB2:=hX w hi.box.self
 have hT:∀ j,A=some ⟨j,0,none⟩→¬ s.own L j∧(w0.heap.size≤j∨S0 j):=fun j hj=>by
  have hn0:n≠0:=fun h=>by rw [hnn h] at hj; cases hj
  have hpos:0 < xs.length:=by rw [hO1.1]; exact Nat.mul_pos (by omega) hk
  refine ⟨hi.notOwn (c:=xs[0]'hpos) (j:=0) (fun w R=>?_),?_⟩
  ·have h3:=(hO w R).own.cells (g:=j) (by rw [hj]; rfl) 0 (xs[0]'hpos) (by simp)
   rw [Lib.add_plain] at h3
   exact h3
  ·exact hbase j hj (hO1.blk hj).1
 obtain ⟨A',cap',w',hrun,hr,hF0,hblk,hne⟩:=Zlb (P:=P) w base t (opAt ops i).type e inf z k bytes ht hinf hz0 hsize hby hz hk hzd A cap n xs hO1 ⟨b2,0,none⟩ m c2 news hl hm0
  (fun j u hj=>by rw [Lib.add_plain,Nat.zero_add]; exact hB2 j u hj) h1 hnd h63 hbytes (hb w hi.mem.ext hi.box.self)
 have hrun2:(execOp s.rho (opAt ops i)).run P w=.ok (.value (.slice A' (n + m) cap')) w':=by simp [execOp,ho,resolve,invoke,builtin,hs,hx,hrun,Result.andThen]
 rw [hrun2,Oper.upon_value,hd]
 have h0:=hi.app0 (d:=d) (Nat.le_of_ble_eq_true hN) (al_v (s:=s) (.slice A' (n + m) cap'))
 have hnb:∀ b',A'=some ⟨b',0,none⟩→¬ s.own L b':=fun b' e1=>by
  rcases hblk b' e1 with h3 | rfl
  ·exact (hT b' h3).1
  ·rintro ⟨c,hc,e⟩
   obtain ⟨q,eq⟩:=Option.isSome_iff_exists.1 hc
   have:=(hi.mem.blk c q.1 q.2 eq).lt
   omega
 exact hK _ _ (K A' cap' ⟨hne,fun j hj=>(hblk j hj).elim Or.inl (fun (e:j=w.heap.size)=>Or.inr (by rw [e]; exact hi.mem.ext.size))⟩ L _ _ (h0.eff4 hF0 hT (fun w1 w2 h2 h3 h4 h5=>⟨hΨ w1 w2 h2 h3 h4,hr.fr h5 hnb⟩)))
theorem Blk.news {e:TypeId} {b:Nat} {news:List Value} (h:Blk e w b news.toArray):∀ j u,news[j]? = some u→w.cell? ⟨b,j,none⟩=some u:=fun j u hj=>by rw [h.cell]; simpa using hj
theorem OwnD.news {m k c n b:Nat} {e:TypeId} {news:List Value} (h:OwnD w m e k (some ⟨b,0,none⟩) c n news):∀ j u,news[j]? = some u→w.cell? ⟨b,j,none⟩=some u:=fun j u hj=>by
 rcases h.2 with ⟨h3,_⟩ | ⟨g,cur,h3,_,h4,_,_,_,_,h6⟩
 ·cases h3
 ·injection h3 with h3
  injection h3 with h3
  subst h3
  rw [h4.cell]
  rw [← h6,List.getElem?_take] at hj
  split at hj
  ·simpa using hj
  ·cases hj
theorem OwnD.ofBlk {m k n b:Nat} {e:TypeId} {xs:List Value} (h:Blk e w b xs.toArray) (hm:m≤b) (hl:xs.length=n * k) (hn:n≤maxLen) (hd:∀ (k:IntKind) (z:Int),Value.int k z ∈ xs→k=.i64):OwnD w m e k (some ⟨b,0,none⟩) n n xs :=
 ⟨hl,Or.inr ⟨b,_,rfl,hm,h,Zcp.list hd,Nat.le_refl _,hn,by simpa using hl,by rw [List.toList_toArray,← hl,List.take_length]⟩⟩
def BoxT (b:Nat) (w w':World) (φ:World→Prop):Prop:=∀ (S:Nat→Prop) (w'':World),(∀ i,S i→i < w.heap.size∧i≠b∧NRB w i)→Fr S w' w''→φ w''
theorem Zlc {i d b:Nat} {α:Type} (f:FuncId) (args:List Value) (sh:α→Value) (Ψ:World→Prop) (φ:α→World→Prop) {c:Value} {j:Nat} (hc:∀ w,Φ w→w.cell? ⟨b,j,none⟩=some c) (hnew:w0.heap.size≤b∨S0 b)
 (hC:∀ w,Fr S0 w0 w→Φ w→Calls P f args.toArray w (fun en w'=>∃ x,en=.returned (sh x)∧Fr (fun i=>i=b) w w'∧BoxT b w w' (φ x)))
 (hΨ:∀ w w',Fr S0 w0 w'→Φ w→Fr (fun i=>i=b) w w'→Ψ w')
 (K:∀ x,SXi P N S0 w0 ops Q (i + 1) (s.put d (.v (sh x))) (fun w=>Ψ w∧φ x w))
 (hsz:Nat.blt i ops.size=true:=by kernel_rfl) (h:ZcN P N ops (opAt ops i) s=some (f,args,d):=by kernel_rfl):SXi P N S0 w0 ops Q i s Φ:=by
 obtain ⟨hw,hq,hd,hn,hv,hk,hN⟩:=Zdi h
 unfold SXi
 rw [Zcx hsz]
 intro L a w hi
 refine wpList_step (fun K' hK=>?_)
 rw [if_pos (hi.want hw)]
 unfold Oper.wp
 rw [hi.exec hn hv,Zfh hq hk,Oper.upon_enter]
 refine Calls.mono (hC w hi.mem.ext hi.box.self) fun en w' h'=>?_
 obtain ⟨x,rfl,hF,hφ⟩:=h'
 simp only [hd]
 have h0:=hi.app0 (d:=d) hN (al_v (s:=s) (sh x))
 have hown:¬ s.own L b:=hi.notOwn (c:=c) (j:=j) hc
 have hlt:∀ r,s.own L r→r < w.heap.size∧r≠b∧NRB w r:=fun r hr=>⟨(hi.own_nrb hr).1,fun e=>hown (e ▸ hr),(hi.own_nrb hr).2⟩
 exact hK _ _ (K x L _ _ (h0.eff3 hF hown hnew (fun w1 w2 h2 h3 h4 h5=>⟨hΨ w1 w2 h2 h3 h4,hφ _ w2 hlt h5⟩)))
end
end Go.Proofs.YtenchljfmfgeoaaGreatDoor

namespace Go.Proofs.YtenchljfmfgeoaaGreatDoor
open Go.RowKit
theorem OwnD.ext {w w':World} {m n c k:Nat} {e:TypeId} {A:Option Addr} {xs:List Value} (h:OwnD w m e k A c n xs) (hF:Ext w w'):OwnD w' m e k A c n xs:=h.fr hF (fun _ _ f=>f)
theorem OwnD.nrb {w:World} {m n c k i:Nat} {e:TypeId} {A:Option Addr} {xs:List Value} (h:OwnD w m e k A c n xs) (hi:A=some ⟨i,0,none⟩):NRB w i:=by
 obtain ⟨_,cur,h1,h2⟩:=h.blk hi
 exact ⟨_,_,h1,h2⟩
theorem Zec {α:Type} [Inhabited α] {enc:α→List Value} {k:Nat} (he:∀ x,(enc x).length=k):∀ (xs:List α) (i j:Nat),i < xs.length→j < k→(xs.flatMap enc)[i * k + j]? = (enc xs[i]!)[j]?
 | [],i,j,h,_=>by cases h
 | x :: xs,0,j,_,hj=>by
   rw [List.flatMap_cons,Nat.zero_mul,Nat.zero_add,List.getElem?_append_left (by rw [he]; exact hj)]; rfl
 | x :: xs,i + 1,j,h,hj=>by
   rw [List.flatMap_cons,List.getElem?_append_right (by rw [he,Nat.succ_mul]; omega),he,Nat.succ_mul,show i * k + k + j - k=i * k + j by omega,Zec he xs i j (by simpa using h) hj]
   simp
theorem OwnD.at {w:World} {m c n k:Nat} {e:TypeId} {A:Option Addr} {xs:List Value} (h:OwnD w m e k A c n xs) {j:Nat} {v:Value} (hj:xs[j]? = some v):∃ b,A=some ⟨b,0,none⟩∧b < w.heap.size∧w.cell? ⟨b,0 + j,none⟩=some v:=by
 rcases h.2 with ⟨_,_,h3⟩ | ⟨g,cur,rfl,h3,h4,_,_,_,_,h6⟩
 ·have:=h.1
  rw [h3,Nat.zero_mul] at this
  rw [List.length_eq_zero_iff.1 this] at hj
  simp at hj
 ·refine ⟨g,rfl,h4.lt,?_⟩
  rw [h4.cell,Nat.zero_add]
  rw [← h6,List.getElem?_take] at hj
  split at hj
  ·simpa using hj
  ·cases hj
theorem OwnD.ne {w:World} {m c n k i:Nat} {e:TypeId} {A:Option Addr} {xs:List Value} (h:OwnD w m e k A c n xs) (hi:i < n):A≠none:=fun e=>by
 rcases h.2 with ⟨_,_,h3⟩ | ⟨g,cur,rfl,_⟩
 ·omega
 ·cases e
section
variable {P:Program} {o:Oper} {ρ:Operand→Value} {w:World} {t e:TypeId} {x:Operand}
theorem ZdO {α:Type} [Inhabited α] {enc:α→List Value} {A:Option Addr} {m c n k j:Nat} {ys:List α} (h:OwnD w m e k A c n (ys.flatMap enc)) (he:∀ x,(enc x).length=k) (hj:j < ys.length) (hk:0 < k:=by decide) (ho:o.op=Op.load t x:=by kernel_rfl) (hx:ρ x=atA A (j * k):=by kernel_rfl) (ha:(teOf P t).map (fun e=>(e.agg,e.size))=some (true,k):=by kernel_rfl) :
 (execOp ρ o).run P w=.ok (.value (.agg (enc ys[j]!).toArray)) w:=by
 obtain ⟨te,hte,h1⟩:=Option.map_eq_some_iff.1 ha
 injection h1 with ha hn
 have hA:∃ g,A=some ⟨g,0,none⟩:=by
  have h4:=Zec he ys j 0 hj hk
  rw [List.getElem?_eq_getElem (l:=enc ys[j]!) (by rw [he]; exact hk)] at h4
  obtain ⟨b,h5,_⟩:=h.at h4
  exact ⟨b,h5⟩
 obtain ⟨g,rfl⟩:=hA
 have:=ZeE (P:=P) (w:=w) hte (g:=g) (off:=0 + j * k) (cs:=enc ys[j]!) (by rw [he]; exact hn.symm) (fun i hi=>by
  rw [he] at hi
  have h4:=Zec he ys j i hj hi
  rw [List.getElem?_eq_getElem (l:=enc ys[j]!) (by rw [he]; exact hi)] at h4
  obtain ⟨b,e1,_,h5⟩:=h.at h4
  injection e1 with e1
  injection e1 with e1
  subst e1
  rw [Nat.zero_add] at h5 ⊢
  rw [h5,List.getElem?_eq_getElem (l:=enc ys[j]!) (by rw [he]; exact hi)]
  rfl) ha
 simp only [execOp,ho,hx,atA,Option.map_some,ZcG,Sem.run_bind,this,Result.andThen_ok,Sem.run_pure]
end
end Go.Proofs.YtenchljfmfgeoaaGreatDoor

namespace Go.Proofs.YtenchljfmfgeoaaGreatDoor
open Go.RowKit
theorem ZoA {α:Type} [Inhabited α] {enc:α→List Value} {k:Nat} (he:∀ x,(enc x).length=k) (hk:0 < k) (x0:α) (z:Array Value) (hz:z.toList=enc x0) (n:Nat):(madeCells z (n * k)).toList=(List.replicate n x0).flatMap enc:=by
 have hzs:z.size=k:=by rw [← he x0,← hz]; simp
 have hl:((List.replicate n x0).flatMap enc).length=n * k:=by
  induction n with
  | zero=>simp
  | succ n ih=>rw [List.replicate_succ,List.flatMap_cons,List.length_append,ih,he,Nat.succ_mul]; omega
 refine List.ext_getElem? (fun i=>?_)
 by_cases hi:i < n * k
 ·have h1:i / k < n:=Nat.div_lt_of_lt_mul (by rwa [Nat.mul_comm])
  have h2:i % k < k:=Nat.mod_lt _ hk
  have h3:=Zec he (List.replicate n x0) (i / k) (i % k) (by simpa using h1) h2
  rw [show i / k * k + i % k=i from by rw [Nat.mul_comm]; exact Nat.div_add_mod i k] at h3
  rw [h3,getElem!_pos _ _ (by simpa using h1),List.getElem_replicate,← hz]
  have h4:i % k < z.size:=by omega
  simp only [madeCells,Array.toList_map,Array.toList_range,List.getElem?_map,List.getElem?_range hi,Option.map_some,hzs]
  rw [getElem!_pos z _ h4,List.getElem?_eq_getElem (by simpa using h4)]
  simp
 ·rw [List.getElem?_eq_none (by simp [madeCells]; omega),List.getElem?_eq_none (by omega)]
theorem ZiW {α:Type} {enc:α→List Value} (h:∀ x,∀ (k:IntKind) (z:Int),Value.int k z ∈ enc x→k=.i64) (l:List α):∀ (k:IntKind) (z:Int),Value.int k z ∈ l.flatMap enc→k=.i64:=fun k z hz=>by
 obtain ⟨x,_,hx⟩:=List.mem_flatMap.1 hz
 exact h x k z hx
theorem ZcA {α:Type} [Inhabited α] {enc:α→List Value} {P:Program} {o:Oper} {ρ:Operand→Value} {w:World} {m0 k n bytes:Nat} {t e:TypeId} {kl kc:IntKind} {l c:Operand} {z:Value} (x0:α) (he:∀ x,(enc x).length=k) (hk:0 < k) (hz:z.cells.toList=enc x0) (hnd:∀ x,∀ (k:IntKind) (z:Int),Value.int k z ∈ enc x→k=.i64)
 (hm:m0≤w.heap.size) (hn:n≤maxLen) (hby:bytes * n≤281474976710656) (ho:o.op=Op.makeSlice t l c:=by kernel_rfl) (ht:P.underlying t=some (.slice e):=by kernel_rfl) (hinfo:(P.info? e).map (fun i=>(i.zero,i.size,i.bytes))=some (some z,k,bytes):=by kernel_rfl)
 (hl:ρ l=.int kl ((n:Nat):Int):=by kernel_rfl) (hc:ρ c=.int kc ((n:Nat):Int):=by kernel_rfl) :
 Does P o ρ w (DoR (fun b:{b:Nat // m0≤b}=>.slice (some ⟨b.1,0,none⟩) n n) (fun b w=>OwnD w m0 e k (some ⟨b.1,0,none⟩) n n ((List.replicate n x0).flatMap enc)) w):=by
 obtain ⟨inf,hinf,h2⟩:=Option.map_eq_some_iff.1 hinfo
 injection h2 with hz0 h2
 injection h2 with hsize hb
 have h63:(n:Int)≤9223372036854775807:=by simp only [maxLen] at hn; omega
 have hb':(inf.bytes:Int) * (n:Int)≤281474976710656:=by
  have h:((inf.bytes * n:Nat):Int)≤281474976710656:=by rw [hb]; omega
  rwa [Int.natCast_mul] at h
 have hr:=run_make (P:=P) w t e inf z ht hinf hz0 kl kc n n (by omega) (Int.le_refl _) hb' h63
 simp only [Int.toNat_natCast,hsize] at hr
 have hrun:(execOp ρ o).run P w=.ok (.value (.slice (some ⟨w.heap.size,0,none⟩) n n)) (w.alloc (.cells (madeCells z.cells (n * k)) e)):=by simp [execOp,ho,hl,hc,hr,Result.andThen]
 have Q:Ext w (w.alloc (.cells (madeCells z.cells (n * k)) e)):=(Fr.refl _ w).alloc _
 refine Or.inl ⟨_,_,hrun,⟨w.heap.size,hm⟩,rfl,Q,fun S hS w'' hF=>?_⟩
 have hB0:Blk e (w.alloc (.cells (madeCells z.cells (n * k)) e)) w.heap.size (madeCells z.cells (n * k)):=Blk.new w e _
 have hB:=hB0.fr hF (fun h=>by have:=(hS _ h).1; omega)
 have hfl:=ZoA he hk x0 z.cells hz n
 have hsz:(madeCells z.cells (n * k)).size=n * k:=size_madeCells _ _
 refine ⟨by rw [← hfl]; simp [hsz],Or.inr ⟨w.heap.size,_,rfl,hm,hB,fun i q y hi=>?_,Nat.le_refl _,hn,hsz,?_⟩⟩
 ·refine ZiW hnd (List.replicate n x0) q y ?_
  rw [← hfl]
  exact List.mem_of_getElem? (by rw [← Array.getElem?_toList] at hi; exact hi)
 ·rw [hfl,List.take_of_length_le]
  rw [← hfl]; simp [hsz]
section
variable {N:Nat} {S0:Nat→Prop} {w0:World} {s:St} {Φ Ψ:World→Prop} {L:Nat→Nat} {a:Act} {w:World} {P:Program} {ops:Array Oper} {Q:Exit→Act→World→Prop}
theorem Zgn {α:Type} {l cs:List α} {off:Nat} (h:off + cs.length≤l.length):(Zbf l off cs).length=l.length:=by
 unfold Zbf
 simp only [List.length_append,List.length_take,List.length_drop]
 omega
theorem ZiX {α:Type} {l cs:List α} {off:Nat} (h:off + cs.length≤l.length) (i:Nat):(Zbf l off cs)[i]? = if i < off then l[i]? else if i < off + cs.length then cs[i - off]? else l[i]? := by
 unfold Zbf
 by_cases h1:i < off
 ·rw [if_pos h1,List.append_assoc,List.getElem?_append_left (by rw [List.length_take]; omega),List.getElem?_take_of_lt h1]
 ·rw [if_neg h1]
  by_cases h2:i < off + cs.length
  ·rw [if_pos h2,List.getElem?_append_left (by rw [List.length_append,List.length_take]; omega),List.getElem?_append_right (by rw [List.length_take]; omega),List.length_take,Nat.min_eq_left (by omega)]
  ·rw [if_neg h2,List.getElem?_append_right (by rw [List.length_append,List.length_take]; omega),List.length_append,List.length_take,Nat.min_eq_left (by omega),List.getElem?_drop]
   congr 1
   omega
theorem Zl4 {α:Type} {l cs:List α} {off n:Nat} (h:off + cs.length≤n) (hn:n≤l.length):(Zbf l off cs).take n=Zbf (l.take n) off cs:=by
 refine List.ext_getElem? (fun i=>?_)
 by_cases hi:i < n
 ·rw [List.getElem?_take_of_lt hi,ZiX (by omega),ZiX (by rw [List.length_take]; omega),List.getElem?_take_of_lt hi]
 ·rw [List.getElem?_eq_none (by rw [List.length_take]; omega),List.getElem?_eq_none (by rw [Zgn (by rw [List.length_take]; omega),List.length_take]; omega)]
theorem Zc0 {α:Type} {enc:α→List Value} {k:Nat} (he:∀ x,(enc x).length=k):∀ (xs:List α) (j:Nat) (x:α),j < xs.length→(xs.set j x).flatMap enc=Zbf (xs.flatMap enc) (j * k) (enc x)
 | [],j,x,h=>by cases h
 | y :: xs,0,x,_=>by
   unfold Zbf
   rw [List.set_cons_zero,List.flatMap_cons,List.flatMap_cons,Nat.zero_mul,List.take_zero,List.nil_append,he,Nat.zero_add,List.drop_append,he,Nat.sub_self,List.drop_zero,List.drop_eq_nil_of_le (by rw [he]; exact Nat.le_refl _),List.nil_append]
 | y :: xs,j + 1,x,h=>by
   rw [List.set_cons_succ,List.flatMap_cons,List.flatMap_cons,Zc0 he xs j x (by simpa using h)]
   unfold Zbf
   have e1:(enc y ++ xs.flatMap enc).take ((j + 1) * k)=enc y ++ (xs.flatMap enc).take (j * k):=by
    rw [Nat.succ_mul,List.take_append,he,List.take_of_length_le (by rw [he]; omega),Nat.add_sub_cancel]
   have e2:(enc y ++ xs.flatMap enc).drop ((j + 1) * k + (enc x).length)=(xs.flatMap enc).drop (j * k + (enc x).length):=by
    rw [Nat.succ_mul,List.drop_append,he,List.drop_eq_nil_of_le (by rw [he]; omega),List.nil_append,he]
    congr 1
    omega
   rw [e1,e2]
   simp only [List.append_assoc]
theorem ZdP {i k n c j:Nat} {t e:TypeId} {x y:Operand} {xs new:List Value} (base b:Nat) (v:Value) (Ψ:World→Prop) (hO:∀ w,Φ w→OwnD w base e k (some ⟨b,0,none⟩) c n xs) (hj:j < n) (hl:new.length=k) (hk:0 < k) (hnew:base≤b→w0.heap.size≤b∨S0 b)
 (h1:∀ c,c ∈ new→c.oneCell'=true) (hnd:∀ (k:IntKind) (z:Int),Value.int k z ∈ new→k=.i64) (hv:v.cells.toList=new)
 (hΨ:∀ w w',Φ w→Fr (fun i=>some (⟨b,0,none⟩:Addr)=some ⟨i,0,none⟩) w w'→Ψ w') (K:SXi P N S0 w0 ops Q (i + 1) s (fun w=>Ψ w∧OwnD w base e k (some ⟨b,0,none⟩) c n (Zbf xs (j * k) new)))
 (hsz:Nat.blt i ops.size=true:=by kernel_rfl) (hw:s.wantB ops (opAt ops i)=some true:=by kernel_rfl) (ho:(opAt ops i).op=.store t x y:=by kernel_rfl) (hd:(opAt ops i).dst=none:=by kernel_rfl) (hs:(teOf P t).map (fun e=>e.size)=some k:=by kernel_rfl)
 (hx:s.eval x=some (.v (.pointer (some ⟨b,0 + j * k,none⟩))):=by kernel_rfl) (hy:s.eval y=some (.v v):=by kernel_rfl):SXi P N S0 w0 ops Q i s Φ:=by
 unfold SXi
 rw [Zcx hsz]
 intro L a w hi
 refine wpList_step (fun K' hK=>?_)
 rw [if_pos (hi.want hw)]
 obtain ⟨te,hte,hte2⟩:=Option.map_eq_some_iff.1 hs
 obtain ⟨hxl,hrow⟩:=hO w hi.box.self
 rcases hrow with ⟨h3,_⟩ | ⟨g,cur,h3,hbg,hB,hnc,hnk,hcm,hcs,htk⟩
 ·cases h3
 injection h3 with h3
 injection h3 with h3
 subst h3
 have hle:j * k + k≤n * k:=by rw [← Nat.succ_mul]; exact Nat.mul_le_mul_right k hj
 have hnc2:n * k≤c * k:=Nat.mul_le_mul_right k hnk
 have hcl:cur.toList.length=c * k:=by simpa using hcs
 have hB':Blk e w b cur.toList.toArray:=by rw [Array.toArray_toList]; exact hB
 obtain ⟨w',hr,hB2,hF⟩:=ZfE (P:=P) hte (g:=b) (bt:=e) (off:=0 + j * k) (cur:=cur.toList) (v:=v) hB' (by rw [hv,hl]; exact hte2.symm) (by rw [hv,hl,hcl]; omega) (fun c hc=>by rw [hv] at hc; exact h1 c hc)
 rw [hv,Nat.zero_add] at hB2
 unfold Oper.wp
 have ex:=hi.eval hx
 have ey:=hi.eval hy
 have hrun:(execOp a.eval (opAt ops i)).run P w=.ok .skip w':=by simp only [execOp,ho,Sem.run_bind,ex,ey,AV.conc,hr,Result.andThen_ok,Sem.run_pure]
 rw [hrun,Oper.upon_skip,hd]
 have hO2:OwnD w' base e k (some ⟨b,0,none⟩) c n (Zbf xs (j * k) new):=by
  refine ⟨by rw [Zgn (by rw [hl,hxl]; exact hle),hxl],Or.inr ⟨b,_,rfl,hbg,hB2,Zcp.list (fun q y hy=>?_),hnk,hcm,by rw [List.size_toArray,Zgn (by rw [hl,hcl]; omega),hcl],?_⟩⟩
  ·unfold Zbf at hy
   rcases List.mem_append.1 hy with hy | hy
   ·rcases List.mem_append.1 hy with hy | hy
    ·exact hnc.mem (List.mem_of_mem_take hy)
    ·exact hnd q y hy
   ·exact hnc.mem (List.mem_of_mem_drop hy)
  ·rw [Zl4 (by rw [hl]; exact hle) (by rw [hcl]; exact hnc2),htk]
 have hpos:0 < xs.length:=by rw [hxl]; have:0 < k * n:=Nat.mul_pos hk (by omega); rw [Nat.mul_comm]; exact this
 have hFb:Fr (fun i=>i=b) w w':=hF
 refine hK _ _ (K L _ _ (hi.eff hFb (hi.notOwn (c:=xs[0]'hpos) (j:=0) (fun w R=>?_)) (hnew hbg) hB.lt (fun w1 w2 k1 k2 k3=>⟨hΨ w1 w2 k1 (k2.mono (fun i _ e=>by rw [e])),?_⟩)))
 ·obtain ⟨b2,e2,_,h4⟩:=(hO w R).at (j:=0) (v:=xs[0]'hpos) (List.getElem?_eq_getElem hpos)
  injection e2 with e2
  injection e2 with e2
  subst e2
  exact h4
 ·obtain ⟨q1,q2⟩:=hO2
  refine ⟨q1,?_⟩
  rcases q2 with ⟨h3,_⟩ | ⟨g,cur2,h3,r1,r2,r3⟩
  ·cases h3
  ·injection h3 with h3
   injection h3 with h3
   subst h3
   exact Or.inr ⟨b,cur2,rfl,r1,k3.trans r2,r3⟩
end
end Go.Proofs.YtenchljfmfgeoaaGreatDoor
