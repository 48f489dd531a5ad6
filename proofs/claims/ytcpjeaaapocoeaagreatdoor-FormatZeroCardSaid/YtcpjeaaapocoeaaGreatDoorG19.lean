/-
 My texts SxK, Sx8, Sx9, Sx12, Sx13, Sx14, Sx15, Sx16, Sx18, Sx19, Sx20, Sx21, Sx22, Sx23, Rw2, Rw3, Sx24, Pd, Wp, Reduce, Frac, Ra, Sx17, Pw, Kar, Dvb, Dvc, Spl, Spl2, Print, Num6, Num7, RStr, Comb, CrtM, Fermat, DecR, Rt, Reduce2, Vl, Fm1 put together.
-/
import Derived.Test.YtcpjeaaapocoeaaGreatDoorG18
import Derived.Test.YtcpjeaaapocoeaaGreatDoorG15
import Derived.Test.YtcpjeaaapocoeaaGreatDoorG17
import Derived.Test.YtcpjeaaapocoeaaGreatDoorG01
import Derived.Deep.LoopGhost
import Derived.Laws.CopyOwn
import Derived.Maps.AppendAt
import Derived.Laws.MakeOwn
import Derived.Deep.RegionWith
import Derived.ArgAppend
import Derived.Test.YtcpjeaaapocoeaaGreatDoorG14
import Derived.Test.YtcpjeaaapocoeaaGreatDoorG13
import Derived.Test.YtcpjeaaapocoeaaGreatDoorG06
import Derived.Test.YtcpjeaaapocoeaaGreatDoorG12
import Derived.Test.YtcpjeaaapocoeaaGreatDoorG03
import Derived.Test.YtcpjeaaapocoeaaGreatDoorG07
import Derived.Deep.RegionLaw
import Derived.Laws.IdiomStrings
import Derived.Test.YtcpjeaaapocoeaaGreatDoorG08
import Derived.Deep.QuietTactic
import Derived.BigQuiet
import Derived.Outline
import Derived.Deep.DeepCutAuto
set_option maxRecDepth 100000
namespace Go.Proofs.YtcpjeaaapocoeaaGreatDoor
open Go.RowKit
section
variable {S:Nat→Prop} {w w' w0:World} {k:IntKind} {A:Option Addr} {xs:List Nat}
theorem Zal.nrb (hk:k≠.i64) (h:Zal k w A xs) (hS:∀ i,S i→NRB w i) (hF:Fr S w w'):Zal k w' A xs:=by
 cases xs with
 | nil=>exact Zal.nil
 | cons x xs =>
   refine h.fr hF (fun ad hA hlt hs=>?_)
   obtain ⟨g,off,e',_,hcl⟩:=h.at (i:=0) (by simp)
   rw [e'] at hA
   injection hA with hA
   subst hA
   obtain ⟨t,cs,hB,hc⟩:=hS _ hs
   rw [hB.cell] at hcl
   exact hk (hc _ _ _ hcl)
theorem Zag.nrb {u:Value} {n:Nat} (h:Zag w u n) (hS:∀ i,S i→NRB w i) (hF:Fr S w w'):Zag w' u n:=by
 obtain ⟨A',xs,c',h1,h2,h3,h4⟩:=h
 exact ⟨A',xs,c',h1,h2,h3.nrb (by decide) hS hF,h4⟩
theorem Zaz.nrb {v:Value} {z:Int} (h:Zaz w v z) (hS:∀ i,S i→NRB w i) (hF:Fr S w w'):Zaz w' v z:=by
 obtain ⟨s',u,n,h1,h2,h3⟩:=h
 exact ⟨s',u,n,h1,h2.nrb hS hF,h3⟩
theorem ZaU.nrb {v:Value} {q:Rat} (h:ZaU w v q) (hS:∀ i,S i→NRB w i) (hF:Fr S w w'):ZaU w' v q:=by
 obtain ⟨s,t,A,B,l,c,l',c',h1,h2,h3⟩:=h
 exact ⟨s,t,A,B,l,c,l',c',h1,h2.nrb hS hF,h3.nrb hS hF⟩
theorem NRB.ext {i:Nat} (h:NRB w i) (he:Ext w w'):NRB w' i:=by
 obtain ⟨t,cs,hB,hc⟩:=h
 exact ⟨t,cs,hB.ext he,hc⟩
theorem boxn {φ:World→Prop} (he:Ext w w') (h:∀ S w'',(∀ i,S i→NRB w' i)→Fr S w' w''→φ w''):BoxN w w' φ:=fun S hS w'' hf=>h S w'' (fun i hi=>(hS i hi).2.ext he) hf
end
abbrev ShI:=Bool × Option Addr × Nat × Nat
abbrev ShQ:=Bool × Option Addr × Nat × Nat × Bool × Option Addr × Nat × Nat
abbrev ShN:=Option Addr × Nat × Nat
def Zgy (x:ShI):Value:=.agg #[.bool x.1, .slice x.2.1 x.2.2.1 x.2.2.2]
def Zfj (x:ShQ):Value:=.agg #[.bool x.1, .slice x.2.1 x.2.2.1 x.2.2.2.1, .bool x.2.2.2.2.1, .slice x.2.2.2.2.2.1 x.2.2.2.2.2.2.1 x.2.2.2.2.2.2.2]
section
variable {w w':World} {e:Ending}
theorem ZfR {z:Int} (h:ZeJ w z e w'):Zba Zgy (fun x w=>Zaz w (Zgy x) z) w e w':=by
 obtain ⟨v,rfl,hI,Q⟩:=h
 obtain ⟨s,A,l,c,rfl⟩:=hI.shp
 exact ⟨(s,A,l,c),rfl,Q,boxn Q (fun S w'' hS hF=>hI.nrb hS hF)⟩
theorem ZaB {v u:Value} (h:e=.returned v∧Ext w w') (hv:v=u):Zba (fun _:Unit=>u) (fun _ _=>True) w e w':=by
 obtain ⟨rfl,Q⟩:=h
 subst hv
 exact ⟨(),rfl,Q,BoxN.pure trivial⟩
end
end Go.Proofs.YtcpjeaaapocoeaaGreatDoor

namespace Go.Proofs.YtcpjeaaapocoeaaGreatDoor
open Go.RowKit
section
variable {N:Nat} {S0:Nat→Prop} {w0:World} {s s':St} {Φ Ψ Φ0:World→Prop} {L:Nat→Nat} {a:Act} {w:World} {P:Program} {ops:Array Oper} {Q:Exit→Act→World→Prop} {o:Oper}
theorem ZaX.of {sl:SlL} {bl:BlL} (h:(sl.map (fun q=>s.sl q.1),bl.map (fun q=>s.bl q.1))=(sl.map (fun q=>some q.2),bl.map (fun q=>some q.2))):ZaX s sl bl:=h
def Zlu (N:Nat) (S0:Nat→Prop) (w0:World) (J:Nat→St→(World→Prop)→Prop) (n:Nat) (a:Act) (w:World):Prop:=∃ n' s' Φ' L',n' < n∧J n' s' Φ'∧Inv N S0 w0 s' Φ' L' a w
theorem ZcR {c:Code} (J:Nat→St→(World→Prop)→Prop) (n0:Nat) (h0:J n0 s Φ)
 (round:∀ n s Φ,J n s Φ→SXc P N S0 w0 (Exit.then (Zlu N S0 w0 J n) Q) c s Φ):SXc P N S0 w0 Q (.loop c) s Φ:=fun L a w hi=>by
 refine wp_loop_ghost (fun n a w=>∃ s Φ L,J n s Φ∧Inv N S0 w0 s Φ L a w) n0 ⟨s,Φ,L,h0,hi⟩ ?_
 rintro n a w ⟨s,Φ,L,hJ,hi⟩
 refine wp_mono (round n s Φ hJ L a w hi) ?_
 intro e a' w' hq
 cases e with
 | normal =>
   obtain ⟨n',s',Φ',L',h1,h2,h3⟩:=hq
   exact ⟨n',h1,s',Φ',L',h2,h3⟩
 | exit id=>exact hq
 | goto l=>exact hq
 | ret=>exact hq
 | panic ch=>exact hq
 | outgrown=>exact hq
theorem Zcb {J:Nat→St→(World→Prop)→Prop} {n:Nat} (n':Nat) (hlt:n' < n) (h:J n' s Φ):SXq N S0 w0 (Exit.then (Zlu N S0 w0 J n) Q .normal) s Φ:=fun _ _ _ hi=>⟨n',s,Φ,_,hlt,h,hi⟩
theorem ZlO {n i:Nat} (d:Nat) {α:Type} [hα:Nonempty α] (sh:α→Value) (φ:α→World→Prop) (hi:Nat.blt i n=true) (hm:cls (opAt ops i).op=2)
 (hw:s.wantB ops (opAt ops i)=some true) (hn:Za0 (opAt ops i).op=true) (hv:(opAt ops i).op.operands.toList.all s.vB=true) (hd:(opAt ops i).dst=some d) (hN:Nat.blt d N=true)
 (hdo:∀ w,Fr S0 w0 w→Φ w→Does P (opAt ops i) s.rho w (DoR sh φ w)) (K:∀ x,StI P N S0 w0 ops Φ0 Q n (i + 1) (s.put d (.v (sh x))) (fun w=>Φ w∧φ x w)):StI P N S0 w0 ops Φ0 Q n i s Φ:=by
 have hi':i < n:=Nat.le_of_ble_eq_true hi
 unfold StI
 rw [show n - i=(n - (i + 1)) + 1 by omega,List.range'_succ]
 exact .does hα sh φ hm hw hn hv hd (Nat.le_of_ble_eq_true hN) hdo K
end
end Go.Proofs.YtcpjeaaapocoeaaGreatDoor

namespace Go.Proofs.YtcpjeaaapocoeaaGreatDoor
open Go.RowKit
theorem Zeh (x:ByteArray):(x.toList == x.toList)=true:=by simp
theorem Zgz {P:Program} {ρ:Operand→Value} {w:World} {t e:TypeId} {n sz:Nat} {z:Value} {parts:Array (Nat × Operand)} {cells:Array Value} (ht:P.underlying t=some (.slice e))
 (hinfo:(P.info? e).map (fun i=>(i.zero,i.size))=some (some z,sz)) (hn:Nat.ble (n * sz) 1000=true) (hn0:Nat.beq (n * sz) 0=false)
 (hf:Instr.fill (fun i=>some (i * sz,sz)) ((List.range (n * sz)).map (fun i=>z.cells[i % z.cells.size]!)).toArray (parts.toList.map fun q=>(q.1,ρ q.2))=some cells) :
 (Instr.buildSlice t n (parts.map fun q:Nat × Operand=>(q.1,ρ q.2))).run P w=.ok (.slice (some ⟨w.heap.size,0,none⟩) n n) (w.alloc (.cells cells e)):=by
 obtain ⟨i,hi,h1⟩:=Option.map_eq_some_iff.1 hinfo
 injection h1 with h1 h2
 have hn':=Nat.le_of_ble_eq_true hn
 have hn1:¬ n * sz=0:=fun h=>by rw [h] at hn0; cases hn0
 have hn2:¬ 2 ^ 24 < n * sz:=by omega
 have e1:(Array.range (n * sz)).map (fun i=>z.cells[i % z.cells.size]!)=((List.range (n * sz)).map (fun i=>z.cells[i % z.cells.size]!)).toArray:=by
  apply Array.ext'; simp
 have e2:(parts.map fun q:Nat × Operand=>(q.1,ρ q.2)).toList=parts.toList.map fun q=>(q.1,ρ q.2):=by simp
 unfold Instr.buildSlice
 simp [underlying,ht,sizeOf,typeInfo,hi,h2,zeroValue,h1,hn1,hn2,e1,hf,newRow,newObj,Result.andThen]
 rfl
theorem ZbF {P:Program} {o:Oper} {ρ:Operand→Value} {w:World} {t e:TypeId} {n sz:Nat} {z:Value} {parts:Array (Nat × Operand)} {cells:Array Value} (ho:o.op=Op.buildSlice t n parts) (ht:P.underlying t=some (.slice e))
 (hinfo:(P.info? e).map (fun i=>(i.zero,i.size))=some (some z,sz)) (hn:Nat.ble (n * sz) 1000=true) (hn0:Nat.beq (n * sz) 0=false)
 (hf:Instr.fill (fun i=>some (i * sz,sz)) ((List.range (n * sz)).map (fun i=>z.cells[i % z.cells.size]!)).toArray (parts.toList.map fun q=>(q.1,ρ q.2))=some cells) :
 Does P o ρ w (DoR (fun b:Nat=>.slice (some ⟨b,0,none⟩) n n) (fun b w=>Blk e w b cells) w):=by
 have hrun:=Zgz (w:=w) ht hinfo hn hn0 hf
 exact Or.inl ⟨_,_,by simp [execOp,ho,hrun,Result.andThen],w.heap.size,rfl,(Fr.refl _ w).alloc _,fun S hS w'' hF=>(Blk.new w e cells).fr hF (fun h=>by have:=(hS _ h).1; omega)⟩
end Go.Proofs.YtcpjeaaapocoeaaGreatDoor

namespace Go.Proofs.YtcpjeaaapocoeaaGreatDoor
open Go.RowKit
open Classical in
theorem Fr.split {A B:Nat→Prop} {w w2:World} (h:Fr (fun i=>A i∨B i) w w2):∃ w1,Fr A w w1∧Fr B w1 w2:=by
 have hg:∀ i,i < w2.heap.size→(w2.heap.mapIdx fun i o=>if A i∨w.heap.size≤i then o else (w.heap[i]?).getD o)[i]? = if A i∨w.heap.size≤i then w2.heap[i]? else w.heap[i]? := by
  intro i hi
  rw [Array.getElem?_mapIdx,Array.getElem?_eq_getElem hi]
  by_cases hc:A i∨w.heap.size≤i
  ·simp [hc]
  ·have hlt:i < w.heap.size:=by
    rcases Nat.lt_or_ge i w.heap.size with h' | h'
    ·exact h'
    ·exact absurd (Or.inr h') hc
   simp only [hc,Option.map_some,if_false,Array.getElem?_eq_getElem hlt,Option.getD_some]
 refine ⟨{ w2 with heap:=w2.heap.mapIdx fun i o=>if A i∨w.heap.size≤i then o else (w.heap[i]?).getD o },⟨h.os,h.tape,h.output,?_,fun i hi ha=>?_⟩,⟨rfl,rfl,rfl,?_,fun i hi hb=>?_⟩⟩
 ·simpa using h.size
 ·have h2:=hg i (Nat.lt_of_lt_of_le hi h.size)
  rw [if_neg (fun hc=>hc.elim ha (fun h'=>by omega))] at h2
  exact h2
 ·simp
 ·have hi2:i < w2.heap.size:=by simpa using hi
  have h2:=hg i hi2
  by_cases hc:A i∨w.heap.size≤i
  ·rw [if_pos hc] at h2; exact h2.symm
  ·rw [if_neg hc] at h2
   have hlt:i < w.heap.size:=by
    rcases Nat.lt_or_ge i w.heap.size with h' | h'
    ·exact h'
    ·exact absurd (Or.inr h') hc
   exact (h.block i hlt (fun h'=>h'.elim (fun ha=>hc (Or.inl ha)) hb)).trans h2.symm
section
variable {N:Nat} {S0:Nat→Prop} {w0:World} {s:St} {Φ Ψ:World→Prop} {L:Nat→Nat} {a:Act} {w:World} {P:Program} {ops:Array Oper} {Q:Exit→Act→World→Prop}
theorem Inv.notOwn (h:Inv N S0 w0 s Φ L a w) {r j:Nat} {c:Value} (hc:∀ w,Φ w→w.cell? ⟨r,j,none⟩=some c):¬ s.own L r:=fun ho=>by
 have h1:=hc w h.box.self
 have key:∀ u:Value,u≠c→False:=fun u hu=>by
  have h2:=hc (w.setCell ⟨r,j,none⟩ u) (h.box _ ((Fr.refl _ _).setCell (p:=⟨r,j,none⟩) (Or.inl ho) u))
  rw [World.cell?_setCell_same _ _ _ h1] at h2
  injection h2 with h2
  exact hu h2
 by_cases e:c=.bool true
 ·exact key (.bool false) (by rw [e]; intro h; cases h)
 ·exact key (.bool true) (fun h=>e h.symm)
theorem Inv.eff (h:Inv N S0 w0 s Φ L a w) {w':World} {r:Nat} (hF:Fr (fun i=>i=r) w w') (hr:¬ s.own L r) (hnew:w0.heap.size≤r∨S0 r) (hlt:r < w.heap.size)
 (hΨ:∀ w1 w2,Φ w1→Fr (fun i=>i=r) w1 w2→w2.heap[r]? = w'.heap[r]? → Ψ w2):Inv N S0 w0 s Ψ L a w':=by
 refine ⟨h.size,h.df,h.sl,⟨fun b t cs e=>(h.mem.blk b t cs e).fr hF (fun e'=>hr ⟨b,by rw [e]; rfl,e'⟩),h.mem.inj,h.mem.old,h.mem.ext.next hF (fun i hi e=>?_),h.mem.slp,h.mem.cel⟩,fun w2 hf=>?_⟩
 ·rcases hnew with h' | h'
  ·omega
  ·rw [e]; exact h'
 ·have h2:Fr (fun i=>s.own L i∨i=r) w w2:=(hF.mono (fun i _ e=>Or.inr e)).trans (hf.mono (fun i _ e=>Or.inl e))
  obtain ⟨w1,k1,k2⟩:=h2.split
  exact hΨ w1 w2 (h.box w1 k1) k2 (hf.block r (Nat.lt_of_lt_of_le hlt hF.size) hr)
end
def atA (A:Option Addr) (i:Nat):Value:=.pointer (A.map (·.add i))
section
variable {P:Program} {o:Oper} {ρ:Operand→Value} {w:World} {t e:TypeId} {x ix:Operand} {k:IntKind} {xs:List Nat}
theorem ZgA {g off:Nat} {c:Value} (hc:w.cell? ⟨g,off,none⟩=some c) (ho:o.op=Op.load t x:=by kernel_rfl) (hx:ρ x=.pointer (some ⟨g,off,none⟩):=by kernel_rfl) (ha:(teOf P t).map (fun e=>e.agg)=some false:=by kernel_rfl) :
 (execOp ρ o).run P w=.ok (.value c) w:=by
 obtain ⟨e,he,h1⟩:=Option.map_eq_some_iff.1 ha
 have:=ZdT (P:=P) (w:=w) he hc h1
 simp only [execOp,ho,hx,Sem.run_bind,this,Result.andThen_ok,Sem.run_pure]
theorem Zla {A:Option Addr} {len cap l:Nat} {lo:Operand} (hle:l≤len) (ho:o.op=Op.slice t x (some lo) none none:=by kernel_rfl) (ht:P.underlying t=some (.slice e):=by kernel_rfl) (hs:(P.info? e).map (fun i=>i.size)=some 1:=by kernel_rfl)
 (hx:ρ x=.slice A len cap:=by kernel_rfl) (hl:ρ lo=.int .i64 ((l:Nat):Int):=by kernel_rfl):(execOp ρ o).run P w=.ok (.value (.slice (if cap=l then A else A.map (·.add l)) (len - l) (cap - l))) w:=by
 obtain ⟨inf,hinf,h1⟩:=Option.map_eq_some_iff.1 hs
 simp [execOp,ho,Instr.sliceAt,Instr.slice,Instr.sliceBounds,Instr.sliceBound,asIntOf,underlying,ht,hx,hl,hle,sizeOf,typeInfo,hinf,h1,Result.andThen]
end
end Go.Proofs.YtcpjeaaapocoeaaGreatDoor

namespace Go.Proofs.YtcpjeaaapocoeaaGreatDoor
open Go.RowKit
def Zei (ops:Array Oper) (i k:Nat):List Nat:=((ops.toList.drop i).take k).filterMap (fun o=>o.dst)
def Zej (l:List Nat) (sl:SlL):SlL:=sl.filter (fun q => !(l.any (Nat.beq q.1)))
def ZhQ (nb:BlL) (bl:BlL):BlL:=bl.filter (fun q => !(nb.any (fun p=>Nat.beq p.1 q.1)))
section
variable {N:Nat} {S0:Nat→Prop} {w0:World} {sl:SlL} {bl:BlL} {Φ Φ0:World→Prop} {P:Program} {ops:Array Oper} {Q:Exit→Act→World→Prop}
theorem xq {i:Nat} (k:Nat) (nw:SlL) (nb:BlL) (K:SXi P N S0 w0 ops Q (i + k) (ofL (nw ++ Zej (Zei ops i k) sl) (nb ++ ZhQ nb bl)) Φ)
 (h:Zgr P N ops i k (ofL sl bl) (nw ++ Zej (Zei ops i k) sl) (nb ++ ZhQ nb bl)=some ((nw ++ Zej (Zei ops i k) sl).map (fun q=>some q.2),(nb ++ ZhQ nb bl).map (fun q=>some q.2)):=by kernel_rfl)
 (h2:wfB (nw ++ Zej (Zei ops i k) sl) (nb ++ ZhQ nb bl)=true:=by kernel_rfl):SXi P N S0 w0 ops Q i (ofL sl bl) Φ:=Zkg k _ _ h h2 K
theorem xqg {n i:Nat} (k:Nat) (nw:SlL) (K:StI P N S0 w0 ops Φ0 Q n (i + k) (ofL (nw ++ Zej (Zei ops i k) sl) bl) Φ)
 (h:Zfi P N ops k i (ofL sl bl) (nw ++ Zej (Zei ops i k) sl)=some ((nw ++ Zej (Zei ops i k) sl).map (fun q=>some q.2),ZbZ bl):=by kernel_rfl) (hk:Nat.ble (i + k) n=true:=by kernel_rfl):StI P N S0 w0 ops Φ0 Q n i (ofL sl bl) Φ:=Zkk k _ _ h hk K
theorem xqc {i:Nat} (f:FuncId) (args:List Value) (d:Nat) {α:Type} (sh:α→Value) (φ:α→World→Prop) (hC:∀ w,Fr S0 w0 w→Φ w→Calls P f args.toArray w (Zba sh φ w)) (K:∀ x,SXi P N S0 w0 ops Q (i + 1) (ofL ((d, .v (sh x)) :: sl) bl) (fun w=>Φ w∧φ x w))
 (hsz:Nat.blt i ops.size=true:=by kernel_rfl) (h:Zbx P N ops (opAt ops i) (ofL sl bl)=some (f,args,d):=by kernel_rfl):SXi P N S0 w0 ops Q i (ofL sl bl) Φ:=Zi5 f args d sh φ hsz h hC K
theorem xqd {n i:Nat} (f:FuncId) (args:List Value) (d:Nat) {α:Type} [hα:Nonempty α] (sh:α→Value) (φ:α→World→Prop) (hC:∀ w,Fr S0 w0 w→Φ w→Calls P f args.toArray w (Zba sh φ w)) (K:∀ x,StI P N S0 w0 ops Φ0 Q n (i + 1) (ofL ((d, .v (sh x)) :: sl) bl) (fun w=>Φ w∧φ x w))
 (hi:Nat.blt i n=true:=by kernel_rfl) (hm:cls (opAt ops i).op=2:=by kernel_rfl) (h:Zbx P N ops (opAt ops i) (ofL sl bl)=some (f,args,d):=by kernel_rfl):StI P N S0 w0 ops Φ0 Q n i (ofL sl bl) Φ:=Zi6 f args d sh φ hi hm h hC K
theorem xqk {i:Nat} (d:Nat) (y:Value) (hx:∀ w,Fr S0 w0 w→Φ w→(execOp (ofL sl bl).rho (opAt ops i)).run P w=.ok (.value y) w) (K:SXi P N S0 w0 ops Q (i + 1) (ofL ((d, .v y) :: sl) bl) Φ)
 (hi:Nat.blt i ops.size=true:=by kernel_rfl) (hs:Za0 (opAt ops i).op=true:=by kernel_rfl) (hw:(ofL sl bl).wantB ops (opAt ops i)=some true:=by kernel_rfl) (hv:(opAt ops i).op.operands.toList.all (ofL sl bl).vB=true:=by kernel_rfl) (hd:(opAt ops i).dst=some d:=by kernel_rfl) (hN:Nat.blt d N=true:=by kernel_rfl):SXi P N S0 w0 ops Q i (ofL sl bl) Φ :=
 ZlM d y hi hs hw hv hd hN hx K
theorem xqj {n i:Nat} (d:Nat) (y:Value) (hx:∀ w,Φ0 w→(execOp (ofL sl bl).rho (opAt ops i)).run P w=.ok (.value y) w) (K:StI P N S0 w0 ops Φ0 Q n (i + 1) (ofL ((d, .v y) :: sl) bl) Φ)
 (hi:Nat.blt i n=true:=by kernel_rfl) (hk:Zgt (opAt ops i).op=true:=by kernel_rfl) (hw:(ofL sl bl).wantB ops (opAt ops i)=some true:=by kernel_rfl) (hv:(opAt ops i).op.operands.toList.all (ofL sl bl).vB=true:=by kernel_rfl) (hd:(opAt ops i).dst=some d:=by kernel_rfl) (hN:Nat.blt d N=true:=by kernel_rfl):StI P N S0 w0 ops Φ0 Q n i (ofL sl bl) Φ :=
 ZlL d y hi hk hw hv hd hN hx K
end
end Go.Proofs.YtcpjeaaapocoeaaGreatDoor

namespace Go.Proofs.YtcpjeaaapocoeaaGreatDoor
open Go.RowKit
section
variable {N:Nat} {S0:Nat→Prop} {w0:World} {s:St} {Φ Ψ:World→Prop} {L:Nat→Nat} {a:Act} {w:World} {P:Program} {ops:Array Oper} {Q:Exit→Act→World→Prop}
end
end Go.Proofs.YtcpjeaaapocoeaaGreatDoor

namespace Go.Proofs.YtcpjeaaapocoeaaGreatDoor
open Go.RowKit
def frz (b g:Nat):AV→AV
 | .v x=>.v x
 | .p b' off=>bif Nat.beq b' b then .v (.pointer (some ⟨g,off,none⟩)) else .p b' off
theorem Zlb (L:Nat→Nat) (b:Nat) (x:AV):(frz b (L b) x).conc L=x.conc L:=by
 cases x with
 | v x=>rfl
 | p b' off =>
   show (bif Nat.beq b' b then AV.v (.pointer (some ⟨L b,off,none⟩)) else .p b' off).conc L=_
   cases h:Nat.beq b' b with
   | true =>
     have e:=Nat.eq_of_beq_eq_true h
     subst e
     rfl
   | false=>rfl
section
variable {N:Nat} {S0:Nat→Prop} {w0:World} {s:St} {Φ:World→Prop} {P:Program} {Q:Exit→Act→World→Prop}
end
end Go.Proofs.YtcpjeaaapocoeaaGreatDoor

namespace Go.Proofs.YtcpjeaaapocoeaaGreatDoor
open Go.RowKit
section
variable {N:Nat} {S0:Nat→Prop} {w0:World} {s:St} {Φ Ψ:World→Prop} {L:Nat→Nat} {a:Act} {w:World} {P:Program} {ops:Array Oper} {Q:Exit→Act→World→Prop}
end
end Go.Proofs.YtcpjeaaapocoeaaGreatDoor

namespace Go.Proofs.YtcpjeaaapocoeaaGreatDoor
open Go.RowKit
section
variable {N:Nat} {S0:Nat→Prop} {w0:World} {s:St} {Φ Ψ:World→Prop} {L:Nat→Nat} {a:Act} {w:World} {P:Program} {ops:Array Oper} {Q:Exit→Act→World→Prop}
theorem Zmo {c:Code} {sl:SlL} {tmps:Array Value} (hN:tmps.size=N) (hs:sl.map (fun q=>tmps[q.1]?.map AV.v)=sl.map (fun q=>some q.2)) (R:Box (fun _=>False) w Φ) (h:SXc P N S0 w Q c (ofL sl []) Φ):c.wp P Q { tmps:=tmps,defers:=[] } w:=by
 refine h (fun _=>0) _ w ⟨hN,rfl,fun i x hx=>?_,⟨fun b t cs e=>(by cases e),fun b c e=>(by cases e),fun b e=>(by cases e),Fr.refl _ _,fun i b off e=>?_,fun b t cs e=>(by cases e)⟩,?_⟩
 ·have h1:=ZbC (f:=fun q:Nat × AV=>tmps[q.1]?.map AV.v) (g:=fun q=>some q.2) hs (ZaO hx)
  obtain ⟨v,hv,rfl⟩:=Option.map_eq_some_iff.1 h1
  exact hv
 ·have h1:=ZbC (f:=fun q:Nat × AV=>tmps[q.1]?.map AV.v) (g:=fun q=>some q.2) hs (ZaO e)
  obtain ⟨v,hv,e'⟩:=Option.map_eq_some_iff.1 h1
  cases e'
 ·intro w' hf'
  exact R w' (hf'.mono (fun i _ h'=>by obtain ⟨b,e,_⟩:=h'; cases e))
end
end Go.Proofs.YtcpjeaaapocoeaaGreatDoor

namespace Go.Proofs.YtcpjeaaapocoeaaGreatDoor
open Go.RowKit
section
variable {N:Nat} {S0:Nat→Prop} {w0:World} {s:St} {Φ Ψ:World→Prop} {L:Nat→Nat} {a:Act} {w:World} {P:Program} {ops:Array Oper} {Q:Exit→Act→World→Prop}
theorem SXc.freezeN {c:Code} (b:Nat) (t:TypeId) (cs:List Value) (sl':Nat→SlL) (bl':BlL) (hbb:s.bl b=some (t,cs.map .v)) (hs:∀ g,(sl' g).map (fun q=>(s.sl q.1).map (frz b g))=(sl' g).map (fun q=>some q.2)) (hb:bl'.map (fun q=>s.bl q.1)=bl'.map (fun q=>some q.2))
 (hn:bl'.all (fun q => !(Nat.beq q.1 b))=true) (hw:∀ g,wfB (sl' g) bl'=true) (h:∀ g,(w0.heap.size≤g∨S0 g)→SXc P N S0 w0 Q c (ofL (sl' g) bl') (fun w=>Φ w∧Blk t w g cs.toArray)):SXc P N S0 w0 Q c s Φ:=by
 intro L a w hi
 refine h (L b) (hi.mem.old b (by rw [hbb]; rfl)) L a w ?_
 have hwf:=hw (L b)
 unfold wfB at hwf
 rw [Bool.and_eq_true] at hwf
 have hb':∀ i x,(ofL (sl' (L b)) bl').bl i=some x→s.bl i=some x:=fun i x hx=>ZbC (f:=fun q:Nat × TypeId × List AV=>s.bl q.1) (g:=fun q=>some q.2) hb (ZaO hx)
 have hne:∀ i x,(ofL (sl' (L b)) bl').bl i=some x→i≠b:=fun i x hx e=>by
  have:=List.all_eq_true.1 hn _ (ZaO hx)
  simp [e] at this
 have hbs:∀ i,((ofL (sl' (L b)) bl').bl i).isSome=true→(s.bl i).isSome=true∧i≠b:=fun i hi'=>by
  obtain ⟨q,e⟩:=Option.isSome_iff_exists.1 hi'
  exact ⟨by rw [hb' i q e]; rfl,hne i q e⟩
 have hbsome:(s.bl b).isSome=true:=by rw [hbb]; rfl
 have hB:=hi.mem.blk b t _ hbb
 refine ⟨hi.size,hi.df,fun i x hx=>?_,⟨fun c t cs e=>hi.mem.blk c t cs (hb' c _ e),fun c d hc hd=>hi.mem.inj c d (hbs c hc).1 (hbs d hd).1,fun c hc=>hi.mem.old c (hbs c hc).1,hi.mem.ext,fun i c off e=>?_,fun c t cs e x hx=>⟨(hi.mem.cel c t cs (hb' c _ e) x hx).1,fun d off e'=>?_⟩⟩,fun w' hf=>⟨hi.box w' (hf.mono (fun i _ hi'=>?_)),?_⟩⟩
 ·have h1:=ZbC (f:=fun q:Nat × AV=>(s.sl q.1).map (frz b (L b))) (g:=fun q=>some q.2) (hs (L b)) (ZaO hx)
  simp only at h1
  obtain ⟨y,hy,e⟩:=Option.map_eq_some_iff.1 h1
  have:=hi.sl i y hy
  rw [this,← e,Zlb]
 ·exact List.all_eq_true.1 hwf.1 _ (ZaO e)
 ·have:=List.all_eq_true.1 (List.all_eq_true.1 hwf.2 _ (ZaO e)) x hx
  rw [e'] at this
  exact this
 ·obtain ⟨c,hc,e⟩:=hi'
  exact ⟨c,(hbs c hc).1,e⟩
 ·have:Blk t w (L b) cs.toArray:=by simpa [List.map_map,Function.comp_def,AV.conc] using hB
  refine this.fr hf (fun ho=>?_)
  obtain ⟨c,hc,e⟩:=ho
  exact (hbs c hc).2 (hi.mem.inj c b (hbs c hc).1 hbsome e)
theorem Fr.row {w:World} {b:Nat} (cs:Array Value):Fr (fun i=>i=b) w (w.setRow b cs):=Fr.setRow (S:=fun i=>i=b) (Fr.refl _ w) (Or.inl rfl) cs
theorem Zlc {i d:Nat} {dT sT e bt:TypeId} {dx sx:Operand} {sp:Option Addr} {n m dc sc:Nat} {cs:List Value} {zs:List Int} (b:Nat) (Ψ:World→Prop) (hm:zs.length=m) (hmn:m≤n) (hn:n≤cs.length) (hpos:0 < cs.length) (hO:∀ w,Φ w→Blk bt w b cs.toArray) (hY:∀ w,Φ w→IRow w sp zs) (hnew:w0.heap.size≤b∨S0 b)
 (hΨ:∀ w w',Φ w→Fr (fun i=>i=b) w w'→Blk bt w' b (zs.map (Value.int .i64) ++ cs.drop m).toArray→Ψ w') (K:SXi P N S0 w0 ops Q (i + 1) s Ψ)
 (hsz:Nat.blt i ops.size=true:=by kernel_rfl) (hg:(opAt ops i).guard=none:=by kernel_rfl) (ho:(opAt ops i).op=.call { callee:=.builtin .copy,args:=#[dx,sx],argTypes:=#[dT,sT] }:=by kernel_rfl) (hd:(opAt ops i).dst=some d:=by kernel_rfl) (hf:(s.sl d).isNone=true:=by kernel_rfl)
 (hu:P.underlying dT=some (.slice e):=by kernel_rfl) (hs:(P.info? e).map (·.size)=some 1:=by kernel_rfl) (hx:s.eval dx=some (.v (.slice (some ⟨b,0,none⟩) n dc)):=by kernel_rfl) (hy:s.eval sx=some (.v (.slice sp m sc)):=by kernel_rfl):SXi P N S0 w0 ops Q i s Φ:=by
 unfold SXi
 rw [Zb8 hsz]
 intro L a w hi
 have ex:=hi.eval hx
 have ey:=hi.eval hy
 have hB:=hO w hi.box.self
 have hZ:=hY w hi.box.self
 have hlt:0 < cs.length:=hpos
 have hown:¬ s.own L b:=hi.notOwn (c:=cs[0]'hlt) (j:=0) (fun w R=>by have:=(hO w R).cell 0; rw [this]; simp [hlt])
 have hsl:s.sl d=none:=by simpa using hf
 have fin:∀ (w':World) (z:Value),Fr (fun i=>i=b) w w'→Blk bt w' b (zs.map (Value.int .i64) ++ cs.drop m).toArray→wpList P ops Q ((ops.toList).drop (i + 1)) (a.put (opAt ops i).dst z) w':=by
  intro w' z hF hB2
  have h1:=hi.eff hF hown hnew hB.lt (fun w1 w2 h1 h2 h3=>hΨ w1 w2 h1 h2 (h3.trans hB2))
  refine K L _ _ ⟨by rw [hd]; simp [Act.put,h1.size],by rw [hd]; exact h1.df,fun j x hj=>?_,h1.mem,h1.box⟩
  have hne:d≠j:=fun e=>by rw [e,hj] at hsl; cases hsl
  have:=h1.sl j x hj
  rw [hd]
  simp [Act.put,Array.getElem?_setIfInBounds_ne hne,this]
 by_cases h0:m=0
 ·have hz0:zs=[]:=List.eq_nil_of_length_eq_zero (by omega)
  refine wpList_copy_nothing hg dx sx dT sT ho e hu hs _ _ n dc m sc ex ey (by rw [h0]; exact Nat.zero_min _) ?_
  refine fin _ _ (Fr.refl _ _) ?_
  rw [hz0,h0]; exact hB
 ·obtain ⟨b2,off2,rfl,_,_⟩:=hZ 0 (by omega)
  refine wpList_copy_own hg dx sx dT sT ho e hu hs b 0 n dc ⟨b2,off2,none⟩ m sc ex ey cs.toArray bt hB (zs.map (Value.int .i64)) (by rw [List.length_map,hm]; exact (Nat.min_eq_left hmn).symm) (fun j v hj=>?_) (by simp; omega) (fun v hv=>by
   obtain ⟨z,_,rfl⟩:=List.mem_map.1 hv; rfl) ?_
  ·rw [List.getElem?_map] at hj
   obtain ⟨z,hz,rfl⟩:=Option.map_eq_some_iff.1 hj
   have hjl:j < zs.length:=by
    rcases Nat.lt_or_ge j zs.length with h | h
    ·exact h
    ·rw [List.getElem?_eq_none h] at hz; cases hz
   obtain ⟨b3,off3,e3,_,hc⟩:=hZ j hjl
   injection e3 with e3; injection e3 with e3 e4; subst e3; subst e4
   rw [Lib.add_plain,hc,show nth zs j=z by rw [nth,hz]; rfl]
  ·refine fin _ _ (Fr.row _) ?_
   have h2:=setRow_heap w b cs.toArray ((cs.toArray.toList.take 0 ++ (zs.map (Value.int .i64) ++ cs.toArray.toList.drop (0 + (zs.map (Value.int .i64)).length))).toArray) bt (0,0) hB
   have e2:cs.toArray.toList.take 0 ++ (zs.map (Value.int .i64) ++ cs.toArray.toList.drop (0 + (zs.map (Value.int .i64)).length))=zs.map (Value.int .i64) ++ cs.drop m:=by simp [hm]
   rw [e2] at h2 ⊢
   exact h2
theorem Zld {zs:List Int} {m:Nat} (hm:zs.length=m) (h6:m≤6) (r:List Value):∃ x0 x1 x2 x3 x4 x5:Int,zs.map (Value.int .i64) ++ ([Value.int .i64 0, .int .i64 0, .int .i64 0, .int .i64 0, .int .i64 0, .int .i64 0] ++ r).drop m=[.int .i64 x0, .int .i64 x1, .int .i64 x2, .int .i64 x3, .int .i64 x4, .int .i64 x5] ++ r:=by
 subst hm
 match zs,h6 with
 | [],_=>exact ⟨0,0,0,0,0,0,rfl⟩
 | [a],_=>exact ⟨a,0,0,0,0,0,rfl⟩
 | [a,b],_=>exact ⟨a,b,0,0,0,0,rfl⟩
 | [a,b,c],_=>exact ⟨a,b,c,0,0,0,rfl⟩
 | [a,b,c,d],_=>exact ⟨a,b,c,d,0,0,rfl⟩
 | [a,b,c,d,e],_=>exact ⟨a,b,c,d,e,0,rfl⟩
 | [a,b,c,d,e,f],_=>exact ⟨a,b,c,d,e,f,rfl⟩
 | a :: b :: c :: d :: e :: f :: g :: l,h=>exact absurd h (by simp)
end
end Go.Proofs.YtcpjeaaapocoeaaGreatDoor

namespace Go.Proofs.YtcpjeaaapocoeaaGreatDoor
open Go.RowKit
section
variable {N:Nat} {S0:Nat→Prop} {w0:World} {s:St} {Φ Ψ:World→Prop} {L:Nat→Nat} {a:Act} {w:World} {P:Program} {ops:Array Oper} {Q:Exit→Act→World→Prop}
theorem ZlP {w:World} {base:Nat} {e:TypeId} {k n cap b:Nat} {cur:List Value} (hB:Blk e w b cur.toArray) (hb:base≤b) (hc:cur.length=cap * k) (hn:n≤cap) (hm:cap≤maxLen):w.ownsRow base e k (.slice (some ⟨b,0,none⟩) n cap) n (cur.take (n * k)):=by
 have h1:n * k≤cap * k:=Nat.mul_le_mul_right k hn
 exact ⟨by rw [List.length_take,hc]; omega,Or.inr ⟨b,cap,cur.toArray,rfl,hb,hB,hn,hm,by simpa using hc,by simp⟩⟩
theorem Inv.eff2 (h:Inv N S0 w0 s Φ L a w) {w':World} {r:Nat} (hF:Fr (fun i=>i=r) w w') (hr:¬ s.own L r) (hnew:w0.heap.size≤r∨S0 r)
 (hΨ:∀ w1 w2,Fr S0 w0 w2→Φ w1→Fr (fun i=>i=r) w1 w2→(∀ j,j < w'.heap.size→¬ s.own L j→w2.heap[j]? = w'.heap[j]?)→Ψ w2):Inv N S0 w0 s Ψ L a w':=by
 refine ⟨h.size,h.df,h.sl,⟨fun b t cs e=>(h.mem.blk b t cs e).fr hF (fun e'=>hr ⟨b,by rw [e]; rfl,e'⟩),h.mem.inj,h.mem.old,h.mem.ext.next hF (fun i hi e=>?_),h.mem.slp,h.mem.cel⟩,fun w2 hf=>?_⟩
 ·rcases hnew with h' | h'
  ·omega
  ·rw [e]; exact h'
 ·have h2:Fr (fun i=>s.own L i∨i=r) w w2:=(hF.mono (fun i _ e=>Or.inr e)).trans (hf.mono (fun i _ e=>Or.inl e))
  obtain ⟨w1,k1,k2⟩:=h2.split
  refine hΨ w1 w2 (h.mem.ext.next h2 (fun i hi ho=>?_)) (h.box w1 k1) k2 (fun j hj hno=>hf.block j hj hno)
  rcases ho with ⟨c,hc,e⟩ | e
  ·rcases h.mem.old c hc with h' | h'
   ·omega
   ·rw [← e]; exact h'
  ·rcases hnew with h' | h'
   ·omega
   ·rw [e]; exact h'
theorem Zko {i d k n m cap bytes:Nat} {t e:TypeId} {s0 x:Operand} {cur news:List Value} {z:Value} (b b2 c2:Nat) (Ψ:World→Prop) (hO:∀ w,Φ w→Blk e w b cur.toArray) (hX:∀ w,Φ w→Blk e w b2 news.toArray) (hl:news.length=m * k) (hk:0 < k) (hz:z.cells.size=k)
 (hcur:cur.length=cap * k) (hn:n≤cap) (hcap:cap≤maxLen) (hpos:0 < cur.length) (hm0:0 < n + m) (hb:w0.heap.size≤b) (h1:∀ u ∈ news,u.oneCell'=true) (h63:n + m≤maxLen) (hbytes:(n + m) * bytes≤140737488355328)
 (hΨ:∀ w w',Fr S0 w0 w'→Φ w→Fr (fun i=>i=b) w w'→Ψ w')
 (K:∀ (b' cap':Nat) (cur':List Value),w0.heap.size≤b'→cur'.length=cap' * k→n + m≤cap'→cap'≤maxLen→cur'.take ((n + m) * k)=cur.take (n * k) ++ news→0 < cur'.length→SXi P N S0 w0 ops Q (i + 1) (s.put d (.v (.slice (some ⟨b',0,none⟩) (n + m) cap'))) (fun w=>Ψ w∧Blk e w b' cur'.toArray))
 (hsz:Nat.blt i ops.size=true:=by kernel_rfl) (hw:s.wantB ops (opAt ops i)=some true:=by kernel_rfl) (hv:(opAt ops i).op.operands.toList.all s.vB=true:=by kernel_rfl) (ho:(opAt ops i).op=.call { callee:=.builtin .append,args:=#[s0,x],argTypes:=#[t,t] }:=by kernel_rfl) (hd:(opAt ops i).dst=some d:=by kernel_rfl) (hN:Nat.blt d N=true:=by kernel_rfl)
 (ht:P.underlying t=some (.slice e):=by kernel_rfl) (hinfo:(P.info? e).map (fun i=>(i.zero,i.size,i.bytes))=some (some z,k,bytes):=by kernel_rfl) (hs:s.rho s0=.slice (some ⟨b,0,none⟩) n cap:=by kernel_rfl) (hx:s.rho x=.slice (some ⟨b2,0,none⟩) m c2:=by kernel_rfl):SXi P N S0 w0 ops Q i s Φ:=by
 unfold SXi
 rw [Zb8 hsz]
 intro L a w hi
 refine wpList_step (fun K' hK=>?_)
 rw [if_pos (hi.want hw)]
 unfold Oper.wp
 have hns:Za0 (opAt ops i).op=true:=by rw [ho]; rfl
 rw [hi.exec hns hv]
 obtain ⟨inf,hinf,h2⟩:=Option.map_eq_some_iff.1 hinfo
 injection h2 with hz0 h2
 injection h2 with hsize hby
 have hB:=hO w hi.box.self
 have hB2:=hX w hi.box.self
 have hown:¬ s.own L b:=hi.notOwn (c:=cur[0]'hpos) (j:=0) (fun w R=>by have:=(hO w R).cell 0; rw [this]; simp [hpos])
 obtain ⟨v',w',hrun,hr,hg,hnil,hblk⟩:=run_append_own_at (P:=P) (w:=w) w0.heap.size t (opAt ops i).type e inf z k bytes ht hinf hz0 hsize hby hz hk (.slice (some ⟨b,0,none⟩) n cap) n (cur.take (n * k)) (ZlP hB hb hcur hn hcap) ⟨b2,0,none⟩ m c2 news hl
  (fun j u hj=>by rw [Lib.add_plain,Nat.zero_add,hB2.cell]; simpa using hj) h1 h63 hbytes hi.mem.ext.size
 have hrun2:(execOp s.rho (opAt ops i)).run P w=.ok (.value v') w':=by simp [execOp,ho,resolve,invoke,builtin,hs,hx,hrun,Result.andThen]
 rw [hrun2,Oper.upon_value,hd]
 obtain ⟨hlen,hr⟩:=hr
 rcases hr with ⟨rfl,h0⟩ | ⟨b',cap',cur',rfl,hb',hh,hn',hc',hs',ht'⟩
 ·omega
 have hF0:Fr (fun i=>i=b) w w':=(Fr.ofGrown hg).mono (fun i _ h=>by
  simp only [Value.ownBlock,Option.some.injEq] at h; exact h.symm)
 have hB':Blk e w' b' cur'.toList.toArray:=by rw [Array.toArray_toList]; exact hh
 have hK1:=K b' cap' cur'.toList hb' (by simpa using hs') hn' hc' (by simpa using ht') (by
  have h3:0 < (n + m) * k:=Nat.mul_pos (by omega) hk
  have h4:(cur'.toList.take ((n + m) * k)).length=(n + m) * k:=by rw [ht']; exact hlen
  rw [List.length_take] at h4
  omega)
 have h0:=hi.app0 (d:=d) (Nat.le_of_ble_eq_true hN) (al_v (s:=s) (.slice (some ⟨b',0,none⟩) (n + m) cap'))
 have hE':Fr S0 w0 w':=hi.mem.ext.next hF0 (fun i hi' e=>by omega)
 simp only [Value.ownBlock,Option.some.injEq] at hblk
 have hnb:¬ s.own L b':=by
  rcases hblk with rfl | rfl
  ·exact hown
  ·rintro ⟨c,hc,e⟩
   obtain ⟨q,eq⟩:=Option.isSome_iff_exists.1 hc
   have:=(hi.mem.blk c q.1 q.2 eq).lt
   omega
 have hlt':b' < w'.heap.size:=hB'.lt
 exact hK _ _ (hK1 L _ _ (h0.eff2 hF0 hown (Or.inl hb) (fun w1 w2 h2 h3 h4 h5=>⟨hΨ w1 w2 h2 h3 h4,(h5 b' hlt' hnb).trans hB'⟩)))
theorem Zmp {i d k cap bytes:Nat} {t e:TypeId} {kl kc:IntKind} {l c:Operand} {z:Value} (hcap:cap≤maxLen) (hbytes:bytes * cap≤281474976710656)
 (K:∀ (b:Nat) (cur:List Value),w0.heap.size≤b→cur.length=cap * k→SXi P N S0 w0 ops Q (i + 1) (s.put d (.v (.slice (some ⟨b,0,none⟩) 0 cap))) (fun w=>Φ w∧Blk e w b cur.toArray))
 (hsz:Nat.blt i ops.size=true:=by kernel_rfl) (hw:s.wantB ops (opAt ops i)=some true:=by kernel_rfl) (hv:(opAt ops i).op.operands.toList.all s.vB=true:=by kernel_rfl) (ho:(opAt ops i).op=Op.makeSlice t l c:=by kernel_rfl) (hd:(opAt ops i).dst=some d:=by kernel_rfl) (hN:Nat.blt d N=true:=by kernel_rfl)
 (ht:P.underlying t=some (.slice e):=by kernel_rfl) (hinfo:(P.info? e).map (fun i=>(i.zero,i.size,i.bytes))=some (some z,k,bytes):=by kernel_rfl) (hl:s.rho l=.int kl 0:=by kernel_rfl) (hc:s.rho c=.int kc cap:=by kernel_rfl):SXi P N S0 w0 ops Q i s Φ:=by
 unfold SXi
 rw [Zb8 hsz]
 intro L a w hi
 refine wpList_step (fun K' hK=>?_)
 rw [if_pos (hi.want hw)]
 unfold Oper.wp
 have hns:Za0 (opAt ops i).op=true:=by rw [ho]; rfl
 rw [hi.exec hns hv]
 obtain ⟨inf,hinf,h2⟩:=Option.map_eq_some_iff.1 hinfo
 injection h2 with hz0 h2
 injection h2 with hsize hby
 obtain ⟨w',hrun,hr,hg⟩:=run_make_own (P:=P) (w:=w) w.heap.size t e inf z k ht hinf hz0 hsize kl kc cap (by rw [hby]; exact hbytes) hcap (Nat.le_refl _)
 have hrun2:(execOp s.rho (opAt ops i)).run P w=.ok (.value (.slice (some ⟨w.heap.size,0,none⟩) 0 cap)) w':=by simp [execOp,ho,hl,hc,hrun,Result.andThen]
 rw [hrun2,Oper.upon_value,hd]
 obtain ⟨hlen,hr⟩:=hr
 rcases hr with ⟨h0,_⟩ | ⟨b',cap',cur',e',hb',hh,hn',hc',hs',ht'⟩
 ·cases h0
 injection e' with e1 _ e3
 injection e1 with e1
 injection e1 with e1
 subst e1 e3
 have R:Ext w w':=(Fr.ofGrown hg).mono (fun i _ h=>by cases h)
 have hB':Blk e w' w.heap.size cur'.toList.toArray:=by rw [Array.toArray_toList]; exact hh
 have h0:=hi.app0 (d:=d) (Nat.le_of_ble_eq_true hN) (al_v (s:=s) (.slice (some ⟨w.heap.size,0,none⟩) 0 cap))
 refine hK _ _ (K w.heap.size cur'.toList hi.mem.ext.size (by simpa using hs') L _ _ ⟨h0.size,h0.df,h0.sl,⟨fun b t cs e=>(h0.mem.blk b t cs e).ext R,h0.mem.inj,h0.mem.old,h0.mem.ext.ext R,h0.mem.slp,h0.mem.cel⟩,fun w2 hf=>⟨h0.box.ext R w2 hf,?_⟩⟩)
 refine hB'.fr hf (fun ho=>?_)
 obtain ⟨b,hb,eb⟩:=ho
 obtain ⟨q,eq⟩:=Option.isSome_iff_exists.1 hb
 have:=(hi.mem.blk b q.1 q.2 eq).lt
 omega
end
end Go.Proofs.YtcpjeaaapocoeaaGreatDoor

namespace Go.Proofs.YtcpjeaaapocoeaaGreatDoor
open Go.RowKit
section
variable {N:Nat} {S0:Nat→Prop} {w0:World} {s:St} {Φ Ψ:World→Prop} {L:Nat→Nat} {a:Act} {w:World} {P:Program} {ops:Array Oper} {Q:Exit→Act→World→Prop}
def SWr (lo g:Nat) (w0:World) (i:Nat):Prop:=i=g∨(lo≤i∧IsU8 w0 i)
theorem WrFr.s0 {lo g:Nat} {w0 w w':World} (Q:Fr (SWr lo g w0) w0 w) (h:WrFr lo g w w'):Fr (SWr lo g w0) w0 w':=WrFr.trans Q h
theorem ZcS {lo g:Nat} {wl w0 w:World} (h0:Ext wl w0) (hlo:wl.heap.size=lo) (hg:lo≤g) (Q:Fr (SWr lo g w0) w0 w):Ext wl w:=by
 subst hlo
 exact Fr.next h0 Q (fun i hi hT=>by rcases hT with e | ⟨e,_⟩<;>omega)
theorem WrIs.fr {lo g:Nat} {l:List UInt8} {S:Nat→Prop} {w w':World} (h:WrIs lo g l w) (hF:Fr S w w') (hg:¬ S g) (h8:∀ i,IsU8 w i→¬ S i):WrIs lo g l w':=by
 have hlt:g < w.heap.size:=by
  obtain ⟨cs,hc⟩:=h.blk
  rcases Nat.lt_or_ge g w.heap.size with h | h
  ·exact h
  ·rw [Array.getElem?_eq_none h] at hc; cases hc
 obtain ⟨p,hp,hB,v,hbk,hown,hne⟩:=h
 refine ⟨p,hp,hB,v,(hF.block g hlt hg).trans hbk,?_,hne⟩
 obtain ⟨h1,h2⟩:=hown
 refine ⟨h1,?_⟩
 rcases h2 with h2 | ⟨k,cap,cur,e,hk,hh,r⟩
 ·exact Or.inl h2
 ·have hkl:k < w.heap.size:=by
   rcases Nat.lt_or_ge k w.heap.size with h | h
   ·exact h
   ·rw [Array.getElem?_eq_none h] at hh; cases hh
  exact Or.inr ⟨k,cap,cur,e,hk,(hF.block k hkl (h8 k ⟨_,_,hh⟩)).trans hh,r⟩
def noWr (bl:BlL):Bool:=bl.all (fun q => !(Nat.beq q.2.1 119) && !(Nat.beq q.2.1 5))
theorem ZfS {i d lo g:Nat} {sl:SlL} {bl:BlL} {l:List UInt8} {v:Value} (Ψ:World→Prop) (f:FuncId) (args:List Value) (hS0:∀ w w',Fr S0 w0 w→WrFr lo g w w'→Fr S0 w0 w') (hno:noWr bl=true)
 (hC:∀ w,Fr S0 w0 w→Φ w→Calls P f args.toArray w (fun en w'=>en=.returned v∧Ψ w'∧WrFr lo g w w'))
 (R:∀ w,Φ w→WrIs lo g l w) (hΨ:∀ (S:Nat→Prop) (w w':World),Ψ w→Fr S w w'→¬ S g→(∀ i,IsU8 w i→¬ S i)→Ψ w')
 (K:SXi P N S0 w0 ops Q (i + 1) ((ofL sl bl).put d (.v v)) Ψ)
 (hsz:Nat.blt i ops.size=true:=by kernel_rfl) (h:Zbx P N ops (opAt ops i) (ofL sl bl)=some (f,args,d):=by kernel_rfl):SXi P N S0 w0 ops Q i (ofL sl bl) Φ:=by
 obtain ⟨hw,hq,hd,hn,hv,hk,hN⟩:=Zb9 h
 unfold SXi
 rw [Zb8 hsz]
 intro L a w hi
 refine wpList_step (fun K' hK=>?_)
 rw [if_pos (hi.want hw)]
 unfold Oper.wp
 rw [hi.exec hn hv,ZeY hq hk,Oper.upon_enter]
 refine Calls.mono (hC w hi.mem.ext hi.box.self) fun en w' h'=>?_
 obtain ⟨rfl,hW,hF⟩:=h'
 simp only [hd]
 have h0:=hi.app0 (d:=d) hN (al_v (s:=ofL sl bl) v)
 obtain ⟨cg,hcg⟩:=(R w hi.box.self).blk
 have hown:∀ b t cs,(ofL sl bl).bl b=some (t,cs)→¬ (L b=g∨(lo≤L b∧IsU8 w (L b))):=fun b t cs e hs=>by
  have hB:w.heap[L b]? = some (.cells _ t (0,0)):=hi.mem.blk b t cs e
  have hq:=List.all_eq_true.1 hno _ (ZaO e)
  simp only [Bool.and_eq_true,Bool.not_eq_true'] at hq
  rcases hs with e | ⟨_,c2,f2,h8⟩
  ·rw [e,hcg] at hB
   injection hB with hB
   injection hB with _ e2 _
   subst e2
   exact absurd hq.1 (by decide)
  ·rw [h8] at hB
   injection hB with hB
   injection hB with _ e2 _
   subst e2
   exact absurd hq.2 (by decide)
 refine hK _ _ (K L _ _ ⟨h0.size,h0.df,h0.sl,⟨fun b t cs e=>(h0.mem.blk b t cs e).fr hF (hown b t cs e),h0.mem.inj,h0.mem.old,?_,h0.mem.slp,h0.mem.cel⟩,fun w2 hf=>?_⟩)
 ·exact hS0 _ _ hi.mem.ext hF
 ·have hB':∀ b t cs,(ofL sl bl).bl b=some (t,cs)→∃ cc,w'.heap[L b]? = some (.cells cc t (0,0)):=fun b t cs e=>⟨_,(h0.mem.blk b t cs e).fr hF (hown b t cs e)⟩
  refine hΨ _ _ _ hW hf (fun ⟨b,hb,e⟩=>?_) (fun i h8 ⟨b,hb,e⟩=>?_)
  ·obtain ⟨⟨t,cs⟩,eb⟩:=Option.isSome_iff_exists.1 hb
   exact hown b t cs eb (Or.inl e)
  ·obtain ⟨⟨t,cs⟩,eb⟩:=Option.isSome_iff_exists.1 hb
   obtain ⟨cc,hcc⟩:=hB' b t cs eb
   obtain ⟨c2,f2,h8⟩:=h8
   have hq:=List.all_eq_true.1 hno _ (ZaO eb)
   simp only [Bool.and_eq_true,Bool.not_eq_true'] at hq
   rw [e,h8] at hcc
   injection hcc with hcc
   injection hcc with _ e2 _
   subst e2
   exact absurd hq.2 (by decide)
theorem ZfT {i d lo g:Nat} {sl:SlL} {bl:BlL} {l l':List UInt8} {v:Value} (f:FuncId) (args:List Value) (hS0:∀ w w',Fr S0 w0 w→WrFr lo g w w'→Fr S0 w0 w') (hno:noWr bl=true)
 (hC:∀ w,Fr S0 w0 w→Φ w→Calls P f args.toArray w (fun en w'=>en=.returned v∧WrIs lo g l' w'∧WrFr lo g w w'))
 (R:∀ w,Φ w→WrIs lo g l w)
 (K:SXi P N S0 w0 ops Q (i + 1) ((ofL sl bl).put d (.v v)) (fun w=>WrIs lo g l' w))
 (hsz:Nat.blt i ops.size=true:=by kernel_rfl) (h:Zbx P N ops (opAt ops i) (ofL sl bl)=some (f,args,d):=by kernel_rfl):SXi P N S0 w0 ops Q i (ofL sl bl) Φ :=
 ZfS (l:=l) (WrIs lo g l') f args hS0 hno hC R (fun _ _ _ hW hf h1 h2=>hW.fr hf h1 h2) K hsz h
end
theorem Ze0 {m0:Nat} {P:Program} {o:Oper} {ρ:Operand→Value} {w:World} {t e:TypeId} {n sz:Nat} {z:Value} {parts:Array (Nat × Operand)} {cells:Array Value} (hm:m0≤w.heap.size) (ho:o.op=Op.buildSlice t n parts) (ht:P.underlying t=some (.slice e))
 (hinfo:(P.info? e).map (fun i=>(i.zero,i.size))=some (some z,sz)) (hn:Nat.ble (n * sz) 1000=true) (hn0:Nat.beq (n * sz) 0=false)
 (hf:Instr.fill (fun i=>some (i * sz,sz)) ((List.range (n * sz)).map (fun i=>z.cells[i % z.cells.size]!)).toArray (parts.toList.map fun q=>(q.1,ρ q.2))=some cells) :
 Does P o ρ w (DoR (fun b:{b:Nat // m0≤b}=>.slice (some ⟨b.1,0,none⟩) n n) (fun b w=>Blk e w b.1 cells) w):=by
 have hrun:=Zgz (w:=w) ht hinfo hn hn0 hf
 exact Or.inl ⟨_,_,by simp [execOp,ho,hrun,Result.andThen],⟨w.heap.size,hm⟩,rfl,(Fr.refl _ w).alloc _,fun S hS w'' hF=>(Blk.new w e cells).fr hF (fun h=>by have:=(hS _ h).1; omega)⟩
theorem Ze1 {w w':World} {en:Ending} {zs:List Int} (h:∃ b,en=.returned (.slice (some ⟨b,0,none⟩) zs.length zs.length)∧w.heap.size≤b∧Blk 9 w' b (Lib.cellsOf (zs.map Zae) zs.length)∧Ext w w') :
 Zba (fun b:Nat=>.slice (some ⟨b,0,none⟩) zs.length zs.length) (fun b w=>Blk 9 w b ((zs.map Zae).map Value.string).toArray) w en w':=by
 obtain ⟨b,rfl,hb,hB,Q⟩:=h
 have hB2:Blk 9 w' b ((zs.map Zae).map Value.string).toArray:=by
  have e:Lib.cellsOf (zs.map Zae) zs.length=((zs.map Zae).map Value.string).toArray:=by
   have:=Lib.cellsOf_full (zs.map Zae)
   rwa [List.length_map] at this
  rw [e] at hB; exact hB
 exact ⟨b,rfl,Q,fun S hS w'' hF=>hB2.fr hF (fun h=>by have:=(hS _ h).1; omega)⟩
theorem SRow.ofStr {w:World} {b:Nat} {ss:List ByteArray} {cur:List Value} (h:Blk 9 w b cur.toArray) (hc:cur.take ss.length=ss.map Value.string):SRow w (some ⟨b,0,none⟩) ss:=fun _=>by
 refine ⟨b,0,_,_,rfl,h,fun i hi=>?_⟩
 rw [Nat.zero_add]
 have h1:(cur.take ss.length)[i]? = (ss.map Value.string)[i]? := by rw [hc]
 rw [List.getElem?_take_of_lt hi,List.getElem?_map,List.getElem?_eq_getElem hi] at h1
 simpa [List.getElem?_eq_getElem hi] using h1
end Go.Proofs.YtcpjeaaapocoeaaGreatDoor

namespace Go.Proofs.YtcpjeaaapocoeaaGreatDoor
open Go.RowKit
section
variable {N:Nat} {S0:Nat→Prop} {w0:World} {s:St} {Φ Φ0:World→Prop} {P:Program} {ops:Array Oper} {Q:Exit→Act→World→Prop}
theorem Strat.append {fin:St→(World→Prop)→Prop} {l2:List Nat}:∀ (l:List Nat) (s:St) (Φ:World→Prop),Strat P N S0 w0 ops Φ0 (fun s Φ=>Strat P N S0 w0 ops Φ0 fin l2 s Φ) l s Φ→Strat P N S0 w0 ops Φ0 fin (l ++ l2) s Φ:=by
 intro l s Φ h
 generalize hf:(fun s Φ=>Strat P N S0 w0 ops Φ0 fin l2 s Φ)=f at h
 induction h with
 | done h=>subst hf; exact h
 | flt h hd hN _ ih=>exact .flt h hd hN ih
 | does hα sh φ hm hw hn hv hd hN hdo _ ih=>exact .does hα sh φ hm hw hn hv hd hN hdo ih
 | sto hm h hd _ ih=>exact .sto hm h hd ih
theorem Strat.fin {f g:St→(World→Prop)→Prop} (hfg:∀ s Φ,f s Φ→g s Φ) {l:List Nat} {s:St} {Φ:World→Prop} (h:Strat P N S0 w0 ops Φ0 f l s Φ):Strat P N S0 w0 ops Φ0 g l s Φ:=by
 induction h with
 | done h=>exact .done (hfg _ _ h)
 | flt h hd hN _ ih=>exact .flt h hd hN ih
 | does hα sh φ hm hw hn hv hd hN hdo _ ih=>exact .does hα sh φ hm hw hn hv hd hN hdo ih
 | sto hm h hd _ ih=>exact .sto hm h hd ih
def okP (R:Nat→Nat→Bool) (ops:Array Oper) (s0:St) (y j:Nat):Bool:=R j y || ((opAt ops y).apart ops (opAt ops j) && (ZbD (opAt ops y).op (opAt ops j).op || (lsB (opAt ops y).op (opAt ops j).op && farB ops s0 (opAt ops y) (opAt ops j))))
theorem ZfU {R:Nat→Nat→Bool} {s0:St} {y j:Nat} {oj:Oper} {listed:Array Bool} (hR:ZdH ops R) (hcl:Zb5 .any ops listed) (hoj:ops[j]? = some oj) (hall:∀ e ∈ oj.after,Region.binds .any e=true→listed.getD e.on false=true) (hyu:listed.getD y true=false)
 (h:okP R ops s0 y j=true):(opAt ops y).apart ops (opAt ops j)=true∧(ZbD (opAt ops y).op (opAt ops j).op=true∨(lsB (opAt ops y).op (opAt ops j).op=true∧farB ops s0 (opAt ops y) (opAt ops j)=true)):=by
 unfold okP at h
 rw [Bool.or_eq_true] at h
 rcases h with h1 | h1
 ·have h2:=hR listed hcl j y h1 (fun o ho=>by
   have:o=oj:=Option.some.inj (ho.symm.trans hoj)
   subst this
   exact hall)
  rw [getD_both hyu] at h2
  cases h2
 ·simpa only [Bool.and_eq_true,Bool.or_eq_true] using h1
theorem ZgB {n:Nat} {listed:Array Bool} (hn:n≤ops.size) (hback:ZcL ops=true) (hsz:listed.size=ops.size) (h:∃ i,i < n∧listed.getD i true=false):Region.ready .any ops listed≠[]:=by
 obtain ⟨x,R',hR'⟩:∃ x R,un n listed=x :: R:=by
  cases e:un n listed with
  | nil=>obtain ⟨i,hi⟩:=h; have:=ZcK.2 hi; rw [e] at this; cases this
  | cons x R=>exact ⟨x,R,rfl⟩
 have hx:=ZcK.1 (by rw [hR']; exact List.mem_cons_self:x ∈ un n listed)
 have hmin:∀ i,i < x→listed.getD i true=true:=fun i hix=>by
  cases h:listed.getD i true with
  | true=>rfl
  | false =>
    have:=ZcK.2 ⟨(by omega:i < n),h⟩
    rw [hR'] at this
    have hs:=ZdG n listed
    rw [hR'] at hs
    rcases List.mem_cons.1 this with e | e
    ·omega
    ·have:=(List.pairwise_cons.1 hs).1 i e; omega
 have hxr:x ∈ Region.ready .any ops listed:=by
  have hxs:x < ops.size:=by omega
  refine mem_ready.2 ⟨hx.2,opAt ops x,Zct hxs,fun e he heb=>?_⟩
  have h1:=List.all_eq_true.1 hback x (List.mem_range.2 hxs)
  rw [Zct hxs] at h1
  have h2':=Array.all_eq_true'.1 h1 e he
  rw [heb] at h2'
  have h2:=Nat.le_of_ble_eq_true h2'
  have h3:=hmin e.on h2
  have h4:e.on < listed.size:=by rw [hsz]; exact Nat.lt_trans h2 hxs
  simp [h4] at h3 ⊢; exact h3
 intro h
 rw [h] at hxr; cases hxr
theorem ZfV {l1 l2:List Nat} {j n:Nat} {listed:Array Bool} (hnd:(l1 ++ j :: l2).Nodup) (hsz:j < listed.size) (hm:∀ i,i ∈ l1 ++ j :: l2 ↔ i < n∧listed.getD i true=false):∀ i,i ∈ l1 ++ l2 ↔ i < n∧(listed.setIfInBounds j true).getD i true=false:=fun i=>by
 have hj:j ∉ l1 ++ l2:=fun h=>by
  rw [List.nodup_append] at hnd
  obtain ⟨_,h2,h3⟩:=hnd
  rcases List.mem_append.1 h with h | h
  ·exact h3 j h j List.mem_cons_self rfl
  ·exact (List.nodup_cons.1 h2).1 h
 by_cases e:i=j
 ·subst e
  have:(listed.setIfInBounds i true).getD i true=true:=by simp [hsz]
  rw [this]
  simp [hj]
 ·rw [getD_set_ne true (Ne.symm e),← hm i]
  simp [e]
theorem ZjB {fin:St→(World→Prop)→Prop} {s0:St} {n:Nat} {R:Nat→Nat→Bool} (hR:ZdH ops R) (hu:Zco ops=true) (hn:n≤ops.size) (hback:ZcL ops=true) (htail:∀ i,i < n→ZbA .any ops n i=true) (hseq:Region.seqB .any ops (ops.size - n) n (ZbH ops n)=true) (hne:∃ w,Φ0 w)
 (hfin:∀ s Φ,fin s Φ→∀ L a w,Inv N S0 w0 s Φ L a w→wpList P ops Q (ops.toList.drop n) a w) :
 ∀ (k:Nat) (listed:Array Bool) (LL:List Nat) (s:St) (Φ:World→Prop) (L:Nat→Nat) (a:Act) (w:World),LL.length=k→listed.size=ops.size→(∀ i,i ∈ LL ↔ i < n∧listed.getD i true=false)→LL.Nodup→LL.Pairwise (fun y j=>okP R ops s0 y j=true)→(∀ i,n≤i→i < ops.size→listed.getD i true=false)→Zb5 .any ops listed →
   BI ops s0 s→(∀ w,Φ w→Φ0 w)→Inv N S0 w0 s Φ L a w→Strat P N S0 w0 ops Φ0 fin LL s Φ→wpAny P .any ops Q (k + (ops.size - n)) listed a w:=by
 intro k
 induction k with
 | zero =>
   intro listed LL s Φ L a w hk hsz hmem hnd hpw htl hcl hBI S hi hS
   obtain rfl:LL=[]:=List.length_eq_zero_iff.1 hk
   have hl:listed=ZbH ops n:=by
    refine Array.ext (by simp [ZbH,hsz]; omega) (fun i h1 h2=>?_)
    have hi':i < ops.size:=by rw [← hsz]; exact h1
    have e:listed.getD i true=listed[i]:=by simp [h1]
    rw [← e]
    by_cases hin:i < n
    ·have:listed.getD i true≠false:=fun h=>by
      have:=(hmem i).2 ⟨hin,h⟩
      cases this
     simp only [ZbH,List.getElem_toArray]
     rw [List.getElem_append_left (by simpa using hin),List.getElem_replicate]
     cases h:listed.getD i true with
     | true=>rfl
     | false=>exact absurd h this
    ·rw [htl i (by omega) hi']
     simp only [ZbH,List.getElem_toArray]
     rw [List.getElem_append_right (by simpa using hin),List.getElem_replicate]
   have hdl:(ops.toList.drop n).length=ops.size - n:=by simp
   cases hS with
   | done hf =>
     have:=wpAny_of_seq (md:=.any) (Q':=Q) (ops.toList.drop n) n listed a w (fun j=>by simp [List.getElem?_drop]) (by rw [hdl,hl]; exact hseq) (hfin _ _ hf L a w hi)
     rw [hdl] at this
     rw [Nat.zero_add]; exact this
 | succ k ih =>
   intro listed LL s Φ L a w hk hsz hmem hnd hpw htl hcl hBI S hi hS
   rw [show k + 1 + (ops.size - n)=(k + (ops.size - n)) + 1 by omega]
   have hex:∃ i,i < n∧listed.getD i true=false:=by
    cases LL with
    | nil=>cases hk
    | cons x l=>exact ⟨x,(hmem x).1 List.mem_cons_self⟩
   refine ⟨fun h=>absurd h (ZgB hn hback hsz hex),fun j hj=>?_⟩
   obtain ⟨i0,hi0,hi1⟩:=hex
   have hjn:j < n:=ZfK (htail i0 hi0) hcl hi1 hj
   obtain ⟨hjun,oj,hoj,hall⟩:=mem_ready.1 hj
   have hjm:j ∈ LL:=(hmem j).2 ⟨hjn,hjun⟩
   obtain ⟨l1,l2,rfl⟩:=List.append_of_mem hjm
   have hap:∀ y,y ∈ l1→y < ops.size∧(opAt ops y).apart ops (opAt ops j)=true∧(ZbD (opAt ops y).op (opAt ops j).op=true∨(lsB (opAt ops y).op (opAt ops j).op=true∧farB ops s0 (opAt ops y) (opAt ops j)=true)):=fun y hy=>by
    have hyu:=(hmem y).1 (List.mem_append_left _ hy)
    exact ⟨by omega,ZfU hR hcl hoj hall hyu.2 ((List.pairwise_append.1 hpw).2.2 y hy j List.mem_cons_self)⟩
   have hS':=Strat.front hu hne l1 l2 s Φ hi.wf hBI hap hS
   refine Strat.exec hu hBI (by omega) hi S hS' (fun s' Φ' L' a' w' hBI' hΦ' hi' K'=>?_)
   have hsub:(l1 ++ l2).Sublist (l1 ++ j :: l2):=List.Sublist.append_left (List.sublist_cons_self j l2) l1
   refine ih (listed.setIfInBounds j true) (l1 ++ l2) s' Φ' L' a' w' ?_ (by simp [hsz]) (ZfV hnd (by omega) hmem) (hnd.sublist hsub) (hpw.sublist hsub) (fun i h1 h2=>?_) (hcl.set hj) hBI' hΦ' hi' K'
   ·simp only [List.length_append,List.length_cons] at hk ⊢
    omega
   ·rw [getD_set_ne true (by omega)]; exact htl i h1 h2
theorem ZgC {fin:St→(World→Prop)→Prop} {s0:St} {n j:Nat} {R:Nat→Nat→Bool} (hR:ZdH ops R) (hu:Zco ops=true) (hn:n≤ops.size) (hback:ZcL ops=true) (htail:∀ i,i < n→ZbA .any ops n i=true) (hseq:Region.seqB .any ops (ops.size - n) n (ZbH ops n)=true) (hne:∃ w,Φ0 w)
 (hfin:∀ s Φ,fin s Φ→∀ L a w,Inv N S0 w0 s Φ L a w→wpList P ops Q (ops.toList.drop n) a w) {listed:Array Bool} {l1 l2:List Nat} {s:St} {Φ:World→Prop} {L:Nat→Nat} {a:Act} {w:World} (hsz:listed.size=ops.size) (hmem:∀ i,i ∈ l1 ++ j :: l2 ↔ i < n∧listed.getD i true=false) (hnd:(l1 ++ j :: l2).Nodup)
 (hp:∀ y,y ∈ l1→okP R ops s0 y j=true) (hpw:(l1 ++ l2).Pairwise (fun y j=>okP R ops s0 y j=true)) (htl:∀ i,n≤i→i < ops.size→listed.getD i true=false) (hcl:Zb5 .any ops listed) (hBI:BI ops s0 s) (S:∀ w,Φ w→Φ0 w) (hi:Inv N S0 w0 s Φ L a w) (hj:j ∈ Region.ready .any ops listed)
 (hS:Strat P N S0 w0 ops Φ0 fin (l1 ++ j :: l2) s Φ):wpOp P ops Q j (fun a w=>wpAny P .any ops Q ((l1 ++ l2).length + (ops.size - n)) (listed.setIfInBounds j true) a w) a w:=by
 obtain ⟨hjun,oj,hoj,hall⟩:=mem_ready.1 hj
 have hjn:=((hmem j).1 (by simp)).1
 have hap:∀ y,y ∈ l1→y < ops.size∧(opAt ops y).apart ops (opAt ops j)=true∧(ZbD (opAt ops y).op (opAt ops j).op=true∨(lsB (opAt ops y).op (opAt ops j).op=true∧farB ops s0 (opAt ops y) (opAt ops j)=true)):=fun y hy=>by
  have hyu:=(hmem y).1 (List.mem_append_left _ hy)
  exact ⟨by omega,ZfU hR hcl hoj hall hyu.2 (hp y hy)⟩
 have hS':=Strat.front hu hne l1 l2 s Φ hi.wf hBI hap hS
 have hsub:(l1 ++ l2).Sublist (l1 ++ j :: l2):=List.Sublist.append_left (List.sublist_cons_self j l2) l1
 exact Strat.exec hu hBI (by omega) hi S hS' (fun s' Φ' L' a' w' hBI' hΦ' hi' K'=>ZjB hR hu hn hback htail hseq hne hfin _ (listed.setIfInBounds j true) (l1 ++ l2) s' Φ' L' a' w' rfl (by simp [hsz]) (ZfV hnd (by omega) hmem) (hnd.sublist hsub) hpw (fun i h1 h2=>by rw [getD_set_ne true (by omega)]; exact htl i h1 h2) (hcl.set hj) hBI' hΦ' hi' K')
theorem ZjC {fin:St→(World→Prop)→Prop} {s0:St} {n x0 y0:Nat} {RR:List Nat} {R:Nat→Nat→Bool} (hR:ZdH ops R) (hu:Zco ops=true) (hn:n≤ops.size) (hback:ZcL ops=true) (htail:∀ i,i < n→ZbA .any ops n i=true) (hseq:Region.seqB .any ops (ops.size - n) n (ZbH ops n)=true) (hne:∃ w,Φ0 w) (hRR:∀ r,r ∈ RR→R r x0=true)
 (hfin:∀ s Φ,fin s Φ→∀ L a w,Inv N S0 w0 s Φ L a w→wpList P ops Q (ops.toList.drop n) a w) :
 ∀ (k:Nat) (listed:Array Bool) (LL:List Nat) (s:St) (Φ:World→Prop) (L:Nat→Nat) (a:Act) (w:World),LL.length=k→listed.size=ops.size→(∀ i,i ∈ LL ++ x0 :: y0 :: RR ↔ i < n∧listed.getD i true=false)→(LL ++ x0 :: y0 :: RR).Nodup→(LL ++ x0 :: RR).Pairwise (fun y j=>okP R ops s0 y j=true)→(LL ++ y0 :: RR).Pairwise (fun y j=>okP R ops s0 y j=true)→(∀ i,n≤i→i < ops.size→listed.getD i true=false)→Zb5 .any ops listed →
   BI ops s0 s→(∀ w,Φ w→Φ0 w)→Inv N S0 w0 s Φ L a w→Strat P N S0 w0 ops Φ0 (fun s Φ=>Strat P N S0 w0 ops Φ0 fin (x0 :: y0 :: RR) s Φ∧Strat P N S0 w0 ops Φ0 fin (y0 :: x0 :: RR) s Φ) LL s Φ→wpAny P .any ops Q (k + 2 + RR.length + (ops.size - n)) listed a w:=by
 intro k
 induction k using Nat.strongRecOn with
 | _ k ih =>
   intro listed LL s Φ L a w hk hsz hmem hnd hp1 hp2 htl hcl hBI S hi hS
   have hA:Strat P N S0 w0 ops Φ0 fin (LL ++ x0 :: y0 :: RR) s Φ:=Strat.append LL s Φ (hS.fin (fun _ _ h=>h.1))
   have hB:Strat P N S0 w0 ops Φ0 fin (LL ++ y0 :: x0 :: RR) s Φ:=Strat.append LL s Φ (hS.fin (fun _ _ h=>h.2))
   rw [show k + 2 + RR.length + (ops.size - n)=(k + 1 + RR.length + (ops.size - n)) + 1 by omega]
   have hex:∃ i,i < n∧listed.getD i true=false:=⟨x0,(hmem x0).1 (by simp)⟩
   refine ⟨fun h=>absurd h (ZgB hn hback hsz hex),fun j hj=>?_⟩
   obtain ⟨i0,hi0,hi1⟩:=hex
   have hjn:j < n:=ZfK (htail i0 hi0) hcl hi1 hj
   obtain ⟨hjun,oj,hoj,hall⟩:=mem_ready.1 hj
   have hjm:j ∈ LL ++ x0 :: y0 :: RR:=(hmem j).2 ⟨hjn,hjun⟩
   have hpx:=List.pairwise_append.1 hp1
   have hpy:=List.pairwise_append.1 hp2
   by_cases hx:j=x0
   ·subst hx
    have:=ZgC hR hu hn hback htail hseq hne hfin (l1:=LL) (l2:=y0 :: RR) (s0:=s0) hsz hmem hnd (fun y hy=>hpx.2.2 y hy j (by simp)) hp2 htl hcl hBI S hi hj hA
    rw [List.length_append,hk,List.length_cons,show k + (RR.length + 1)=k + 1 + RR.length by omega] at this
    exact this
   by_cases hy:j=y0
   ·subst hy
    have hnd2:(LL ++ j :: x0 :: RR).Nodup:=by
     refine (List.Perm.nodup_iff (List.Perm.append_left LL (List.Perm.swap j x0 RR))).1 hnd
    have:=ZgC hR hu hn hback htail hseq hne hfin (l1:=LL) (l2:=x0 :: RR) (s0:=s0) hsz (fun i=>by rw [← hmem i]; simp [or_left_comm]) hnd2 (fun y hy=>hpy.2.2 y hy j (by simp)) hp1 htl hcl hBI S hi hj hB
    rw [List.length_append,hk,List.length_cons,show k + (RR.length + 1)=k + 1 + RR.length by omega] at this
    exact this
   have hjl:j ∈ LL:=by
    have h3:j ∈ LL∨j ∈ RR:=by simpa [hx,hy] using hjm
    refine h3.elim id (fun h=>?_)
    have h2:=hR listed hcl j x0 (hRR j h) (fun o ho=>by
     have:o=oj:=Option.some.inj (ho.symm.trans hoj)
     subst this
     exact hall)
    rw [getD_both ((hmem x0).1 (by simp)).2] at h2
    cases h2
   obtain ⟨l1,l2,rfl⟩:=List.append_of_mem hjl
   rw [List.append_assoc,List.cons_append] at hmem hnd
   have hap:∀ y,y ∈ l1→y < ops.size∧(opAt ops y).apart ops (opAt ops j)=true∧(ZbD (opAt ops y).op (opAt ops j).op=true∨(lsB (opAt ops y).op (opAt ops j).op=true∧farB ops s0 (opAt ops y) (opAt ops j)=true)):=fun y hy=>by
    have hyu:=(hmem y).1 (List.mem_append_left _ hy)
    exact ⟨by omega,ZfU hR hcl hoj hall hyu.2 ((List.pairwise_append.1 hpx.1).2.2 y hy j List.mem_cons_self)⟩
   have hS':=Strat.front hu hne l1 l2 s Φ hi.wf hBI hap hS
   have hsub:(l1 ++ l2).Sublist (l1 ++ j :: l2):=List.Sublist.append_left (List.sublist_cons_self j l2) l1
   have hnd3:(l1 ++ l2 ++ x0 :: y0 :: RR).Nodup:=by
    refine hnd.sublist ?_
    rw [List.append_assoc]
    exact List.Sublist.append_left (List.sublist_cons_self j _) l1
   have hk2:(l1 ++ l2).length + 1=k:=by simp only [List.length_append,List.length_cons] at hk ⊢; omega
   refine Strat.exec hu hBI (by omega) hi S hS' (fun s' Φ' L' a' w' hBI' hΦ' hi' K'=>?_)
   have:=ih (l1 ++ l2).length (by omega) (listed.setIfInBounds j true) (l1 ++ l2) s' Φ' L' a' w' rfl (by simp [hsz]) (by rw [List.append_assoc]; exact ZfV hnd (by omega) hmem) hnd3 (hp1.sublist (List.Sublist.append_right hsub _)) (hp2.sublist (List.Sublist.append_right hsub _)) (fun i h1 h2=>by rw [getD_set_ne true (by omega)]; exact htl i h1 h2) (hcl.set hj) hBI' hΦ' hi' K'
   rwa [show (l1 ++ l2).length + 2 + RR.length + (ops.size - n)=k + 1 + RR.length + (ops.size - n) by omega] at this
def pwB (f:Nat→Nat→Bool):List Nat→Bool
 | []=>true
 | y :: l=>l.all (fun j=>f y j) && pwB f l
theorem Zek {f:Nat→Nat→Bool}:∀ {l:List Nat},pwB f l=true→l.Pairwise (fun y j=>f y j=true)
 | [],_=>.nil
 | y :: l,h=>by
   obtain ⟨h1,h2⟩:=(Bool.and_eq_true _ _).mp h
   exact .cons (fun j hj=>List.all_eq_true.1 h1 j hj) (Zek h2)
def ZjD (n:Nat) (l:List Nat):Bool:=pwB (fun a b => !(Nat.beq a b)) l && (l.all (fun i=>Nat.blt i n) && (List.range n).all (fun i=>l.any (fun j=>Nat.beq i j)))
theorem Zfz {n:Nat} {l:List Nat} (h:ZjD n l=true):l.Nodup :=
 (Zek ((Bool.and_eq_true _ _).mp h).1).imp (fun h e=>by subst e; simp at h)
theorem Zhq {n:Nat} {l:List Nat} (h:ZjD n l=true) (i:Nat):i ∈ l ↔ i < n:=by
 obtain ⟨h1,h2⟩:=(Bool.and_eq_true _ _).mp ((Bool.and_eq_true _ _).mp h).2
 refine ⟨fun hi=>Nat.le_of_ble_eq_true (List.all_eq_true.1 h1 i hi),fun hi=>?_⟩
 obtain ⟨j,hj,e⟩:=List.any_eq_true.1 (List.all_eq_true.1 h2 i (List.mem_range.2 hi))
 rw [Nat.eq_of_beq_eq_true e]; exact hj
def Zij (ops:Array Oper) (s0:St) (n x0 y0:Nat) (LL RR:List Nat):Bool :=
 Nat.ble n ops.size && (Zco ops && ZcL ops && ((List.range n).all (fun i=>ZbA .any ops n i) && (Region.seqB .any ops (ops.size - n) n (ZbH ops n) && (pwB (okP (ZcW .any ops 4) ops s0) (LL ++ x0 :: RR) && (pwB (okP (ZcW .any ops 4) ops s0) (LL ++ y0 :: RR) && (ZjD n (LL ++ x0 :: y0 :: RR) && RR.all (fun r=>ZcW .any ops 4 r x0)))))))
theorem Zle {id:Nat} (n x0 y0:Nat) (LL RR:List Nat) {sl:SlL} {bl:BlL} (hB:Zij ops (ofL sl bl) n x0 y0 LL RR=true) (hI:Zeg ops sl=true) (hm:P.follows .mixedOrders=true)
 (h:Strat P N S0 w0 ops Φ (fun s Φ'=>Strat P N S0 w0 ops Φ (fun s Φ=>SXi P N S0 w0 ops Q n s Φ) (x0 :: y0 :: RR) s Φ'∧Strat P N S0 w0 ops Φ (fun s Φ=>SXi P N S0 w0 ops Q n s Φ) (y0 :: x0 :: RR) s Φ') LL (ofL sl bl) Φ):SXc P N S0 w0 Q (.region id ops true) (ofL sl bl) Φ:=by
 unfold Zij at hB
 simp only [Bool.and_eq_true] at hB
 obtain ⟨h1,⟨h0,h2⟩,h3,h5,h6,h7,h8,h9⟩:=hB
 have hn:=Nat.le_of_ble_eq_true h1
 intro L a w hi
 refine wp_region_any hm ?_
 have hlen:(LL ++ x0 :: y0 :: RR).length=n:=by
  have hp:(LL ++ x0 :: y0 :: RR).Perm (List.range n):=(List.perm_ext_iff_of_nodup (Zfz h8) List.nodup_range).2 (fun i=>by rw [Zhq h8 i,List.mem_range])
  rw [hp.length_eq,List.length_range]
 rw [List.length_append] at hlen
 have:=ZjC (Zfy ops) (Q:=Q) (fin:=fun s Φ=>SXi P N S0 w0 ops Q n s Φ) h0 hn h2 (fun i hi'=>List.all_eq_true.1 h3 i (List.mem_range.2 hi')) h5 ⟨w,hi.box.self⟩ (fun r hr=>List.all_eq_true.1 h9 r hr) (fun s Φ hf L a w hi'=>hf L a w hi') LL.length (Array.replicate ops.size false) LL _ Φ L a w.drew rfl (by simp)
  (fun i=>by
   rw [Zhq h8 i]
   refine ⟨fun h=>⟨h,?_⟩,fun h=>h.1⟩
   simp [show i < ops.size by omega]) (Zfz h8) (Zek h6) (Zek h7) (fun i _ h'=>by simp [h']) (fun j oj _ hl=>by rw [getD_replicate_false] at hl; cases hl) (BI.init hI) (fun _ h=>h) hi.drew h
 rw [show LL.length + 2 + RR.length + (ops.size - n)=ops.size by simp only [List.length_cons] at hlen; omega] at this
 exact this
def ZgD (P:Program) (N:Nat) (ops:Array Oper):List Nat→St→Option St
 | [],s=>some s
 | i :: l,s=>match stpF P N ops (opAt ops i) s with
   | some s'=>ZgD P N ops l s'
   | none=>none
theorem ZfA {fin:St→(World→Prop)→Prop}:∀ (l:List Nat) (s s':St),ZgD P N ops l s=some s'→fin s' Φ→Strat P N S0 w0 ops Φ0 fin l s Φ
 | [],s,s',h,K=>by simp only [ZgD,Option.some.injEq] at h; subst h; exact .done K
 | i :: l,s,s',h,K=>by
   unfold ZgD at h
   split at h
   ·rename_i s1 hs
    exact Zgv hs (ZfA l _ s' h K)
   ·cases h
def Zik (P:Program) (N:Nat) (ops:Array Oper) (l:List Nat) (s:St) (sl:SlL):Option (List (Option AV) × (Nat→Option (TypeId × List AV))) :=
 match ZgD P N ops l s with
 | some s'=>some (sl.map (fun q=>s'.sl q.1),s'.bl)
 | none=>none
theorem Zkp {id:Nat} (n x0 y0:Nat) (LL RR:List Nat) {sl:SlL} {bl:BlL} (nw:SlL) (nb:BlL) (hB:Zij ops (ofL sl bl) n x0 y0 LL RR=true) (hI:Zeg ops sl=true) (hm:P.follows .mixedOrders=true)
 (hr:Zik P N ops LL (ofL sl bl) nw=some (nw.map (fun q=>some q.2),ZbZ nb))
 (hx:Strat P N S0 w0 ops Φ (fun s Φ=>SXi P N S0 w0 ops Q n s Φ) (x0 :: y0 :: RR) (ofL nw nb) Φ) (hy:Strat P N S0 w0 ops Φ (fun s Φ=>SXi P N S0 w0 ops Q n s Φ) (y0 :: x0 :: RR) (ofL nw nb) Φ):SXc P N S0 w0 Q (.region id ops true) (ofL sl bl) Φ:=by
 refine Zle n x0 y0 LL RR hB hI hm ?_
 unfold Zik at hr
 split at hr
 ·rename_i s1 h1
  injection hr with h
  injection h with h2 h3
  have hs:∀ t x,(ofL nw nb).sl t=some x→s1.sl t=some x:=fun t x hx=>ZbC (f:=fun q:Nat × AV=>s1.sl q.1) (g:=fun q=>some q.2) h2 (ZaO hx)
  exact ZfA LL _ _ h1 ⟨Strat.weak hx h3 hs (fun s s' Φ h hb hs=>ZfQ s s' Φ h hb hs),Strat.weak hy h3 hs (fun s s' Φ h hb hs=>ZfQ s s' Φ h hb hs)⟩
 ·cases hr
theorem Zil {fin:St→(World→Prop)→Prop} {i:Nat} {l:List Nat} (f:FuncId) (args:List Value) (d:Nat) {α:Type} [hα:Nonempty α] (sh:α→Value) (φ:α→World→Prop) (hC:∀ w,Fr S0 w0 w→Φ w→Calls P f args.toArray w (Zba sh φ w)) (K:∀ x,Strat P N S0 w0 ops Φ0 fin l (s.put d (.v (sh x))) (fun w=>Φ w∧φ x w))
 (hm:cls (opAt ops i).op=2:=by kernel_rfl) (h:Zbx P N ops (opAt ops i) s=some (f,args,d):=by kernel_rfl):Strat P N S0 w0 ops Φ0 fin (i :: l) s Φ:=by
 obtain ⟨hw,hq,hd,hn,hv,hk,hN⟩:=Zb9 h
 exact .does hα sh φ hm hw hn hv hd hN (fun w hf Q=>ZeZ hq hk (hC w hf Q)) K
theorem Zel {fin:St→(World→Prop)→Prop} {i:Nat} {l:List Nat} (d:Nat) {α:Type} [hα:Nonempty α] (sh:α→Value) (φ:α→World→Prop) (hdo:∀ w,Fr S0 w0 w→Φ w→Does P (opAt ops i) s.rho w (DoR sh φ w)) (K:∀ x,Strat P N S0 w0 ops Φ0 fin l (s.put d (.v (sh x))) (fun w=>Φ w∧φ x w))
 (hm:cls (opAt ops i).op=2:=by kernel_rfl) (hw:s.wantB ops (opAt ops i)=some true:=by kernel_rfl) (hn:Za0 (opAt ops i).op=true:=by kernel_rfl) (hv:(opAt ops i).op.operands.toList.all s.vB=true:=by kernel_rfl) (hd:(opAt ops i).dst=some d:=by kernel_rfl) (hN:Nat.blt d N=true:=by kernel_rfl):Strat P N S0 w0 ops Φ0 fin (i :: l) s Φ :=
 .does hα sh φ hm hw hn hv hd (Nat.le_of_ble_eq_true hN) hdo K
theorem SXi.weak {i:Nat} {Ψ:World→Prop} (sl:SlL) (bl:BlL) (R:∀ w,Φ w→Ψ w) (h:SXi P N S0 w0 ops Q i (ofL sl bl) Ψ) (h1:ZaX s sl bl) (h2:wfB sl bl=true:=by kernel_rfl):SXi P N S0 w0 ops Q i s Φ:=fun L a w hi=>h L a w (hi.weak h1 h2 R)
end
end Go.Proofs.YtcpjeaaapocoeaaGreatDoor

namespace Go.Proofs.YtcpjeaaapocoeaaGreatDoor
open Go.RowKit
section
variable {N:Nat} {S0:Nat→Prop} {w0:World} {s:St} {Φ Ψ:World→Prop} {L:Nat→Nat} {a:Act} {w:World} {P:Program} {ops:Array Oper} {Q:Exit→Act→World→Prop}
theorem Inv.eff3 (h:Inv N S0 w0 s Φ L a w) {w':World} {r:Nat} (hF:Fr (fun i=>i=r) w w') (hr:¬ s.own L r) (hnew:w0.heap.size≤r∨S0 r)
 (hΨ:∀ w1 w2,Fr S0 w0 w2→Φ w1→Fr (fun i=>i=r) w1 w2→Fr (s.own L) w' w2→Ψ w2):Inv N S0 w0 s Ψ L a w':=by
 refine ⟨h.size,h.df,h.sl,⟨fun b t cs e=>(h.mem.blk b t cs e).fr hF (fun e'=>hr ⟨b,by rw [e]; rfl,e'⟩),h.mem.inj,h.mem.old,h.mem.ext.next hF (fun i hi e=>?_),h.mem.slp,h.mem.cel⟩,fun w2 hf=>?_⟩
 ·rcases hnew with h' | h'
  ·omega
  ·rw [e]; exact h'
 ·have h2:Fr (fun i=>s.own L i∨i=r) w w2:=(hF.mono (fun i _ e=>Or.inr e)).trans (hf.mono (fun i _ e=>Or.inl e))
  obtain ⟨w1,k1,k2⟩:=h2.split
  refine hΨ w1 w2 (h.mem.ext.next h2 (fun i hi ho=>?_)) (h.box w1 k1) k2 hf
  rcases ho with ⟨c,hc,e⟩ | e
  ·rcases h.mem.old c hc with h' | h'
   ·omega
   ·rw [← e]; exact h'
  ·rcases hnew with h' | h'
   ·omega
   ·rw [e]; exact h'
def BoxF (b:Nat) (w w':World) (φ:World→Prop):Prop:=∀ (S:Nat→Prop) (w'':World),(∀ i,S i→i < w.heap.size∧i≠b)→Fr S w' w''→φ w''
theorem Zim {i d b:Nat} {α:Type} (f:FuncId) (args:List Value) (sh:α→Value) (Ψ:World→Prop) (φ:α→World→Prop) {c:Value} {j:Nat} (hc:∀ w,Φ w→w.cell? ⟨b,j,none⟩=some c) (hnew:w0.heap.size≤b∨S0 b)
 (hC:∀ w,Fr S0 w0 w→Φ w→Calls P f args.toArray w (fun en w'=>∃ x,en=.returned (sh x)∧Fr (fun i=>i=b) w w'∧BoxF b w w' (φ x)))
 (hΨ:∀ w w',Fr S0 w0 w'→Φ w→Fr (fun i=>i=b) w w'→Ψ w')
 (K:∀ x,SXi P N S0 w0 ops Q (i + 1) (s.put d (.v (sh x))) (fun w=>Ψ w∧φ x w))
 (hsz:Nat.blt i ops.size=true:=by kernel_rfl) (h:Zbx P N ops (opAt ops i) s=some (f,args,d):=by kernel_rfl):SXi P N S0 w0 ops Q i s Φ:=by
 obtain ⟨hw,hq,hd,hn,hv,hk,hN⟩:=Zb9 h
 unfold SXi
 rw [Zb8 hsz]
 intro L a w hi
 refine wpList_step (fun K' hK=>?_)
 rw [if_pos (hi.want hw)]
 unfold Oper.wp
 rw [hi.exec hn hv,ZeY hq hk,Oper.upon_enter]
 refine Calls.mono (hC w hi.mem.ext hi.box.self) fun en w' h'=>?_
 obtain ⟨x,rfl,hF,hφ⟩:=h'
 simp only [hd]
 have h0:=hi.app0 (d:=d) hN (al_v (s:=s) (sh x))
 have hown:¬ s.own L b:=hi.notOwn (c:=c) (j:=j) hc
 have hlt:∀ r,s.own L r→r < w.heap.size∧r≠b:=fun r ⟨k,hk,e⟩=>by
  obtain ⟨q,eq⟩:=Option.isSome_iff_exists.1 hk
  have:=(hi.mem.blk k q.1 q.2 eq).lt
  exact ⟨by omega,fun e2=>hown ⟨k,hk,by rw [e,e2]⟩⟩
 exact hK _ _ (K x L _ _ (h0.eff3 hF hown hnew (fun w1 w2 h2 h3 h4 h5=>⟨hΨ w1 w2 h2 h3 h4,hφ _ w2 hlt h5⟩)))
end
end Go.Proofs.YtcpjeaaapocoeaaGreatDoor

namespace Go.Proofs.YtcpjeaaapocoeaaGreatDoor
open Go.RowKit
theorem SRow.blk {w:World} {c off:Nat} {cells:Array Value} {ss:List ByteArray} (h:Blk 9 w c cells) (hc:∀ i,i < ss.length→cells[off + i]? = some (.string (ss[i]?.getD ⟨#[]⟩))):SRow w (some ⟨c,off,none⟩) ss:=fun _=>⟨c,off,cells,_,rfl,h,hc⟩
theorem Zin {w w1:World} {b c q off:Nat} {s:ByteArray} {cells:Array Value} {ss:List ByteArray} (hc:w.heap.size≤c) (hC:Blk 9 w1 c cells) (hR:RdAt w1 b s q) (h:∀ i,i < ss.length→cells[off + i]? = some (.string (ss[i]?.getD ⟨#[]⟩))):BoxF b w w1 (fun w=>RdAt w b s q∧SRow w (some ⟨c,off,none⟩) ss) :=
 fun S w2 hS hF=>⟨Blk.fr hR hF (fun h=>(hS _ h).2 rfl),SRow.blk (hC.fr hF (fun h=>by have:=(hS _ h).1; omega)) h⟩
set_option maxHeartbeats 4000000 in
theorem Zlf (b:Nat) (s k:ByteArray) (ss:List ByteArray) (p:Nat) (w:World) (hB:RdAt w b s p) (hL:LineAt s p k ss) (hs:s.size≤1048576) :
 Calls Tryz.prog 193 #[.pointer (some ⟨b,0,none⟩), .string k] w fun e w'=>∃ A,e=.returned (.slice A ss.length ss.length)∧Fr (fun i=>i=b) w w'∧BoxF b w w' (fun w=>RdAt w b s (p + (ZaA k ss).length)∧SRow w A ss):=by
 obtain ⟨q,hq⟩:∃ q,p + (ZaA k ss).length=q:=⟨_,rfl⟩
 have hw:=Zkb b s k ss p w hB hL hs
 rw [hq] at hw ⊢
 obtain ⟨n,hn⟩:∃ n,ss.length=n:=⟨_,rfl⟩
 rw [hn] at hw ⊢
 have HN:=zh hn
 clear hB hL hs hq hn
 go_enter Tryz.func193,Tryz.ntmps193
 go_wp2_with fail
 refine hw.mono ?_
 rintro e w1 ⟨c,rfl,hc,hC,hR,hF⟩
 have c0:w1.cell? ⟨c,0,none⟩=some (.string k):=by rw [hC.cell]; rfl
 have Hc:=zh hc
 have HC:=zh hC
 have HR:=zh hR
 have HF:=zh hF
 have hn0:(0:Int)≤(n:Int):=by omega
 clear hw hc hC hR hF
 go_wp2_with fail
 refine (ZaV _ _).mono ?_
 rintro e w2 ⟨rfl,rfl⟩
 go_wp2
 ·go_ret
  exact ⟨_,rfl,HF.out,Zin Hc.out HC.out HR.out (fun i hi=>by have:=HN.out; omega)⟩
 ·go_ret
  exact ⟨_,rfl,HF.out,Zin Hc.out HC.out HR.out (fun i hi=>by rw [Nat.add_comm]; simp [hi])⟩
set_option maxHeartbeats 4000000 in
theorem Zkq (b:Nat) (s k:ByteArray) (ss:List ByteArray) (p:Nat) (m:Int) (w:World) (hB:RdAt w b s p) (hL:LineAt s p k ss) (hs:s.size≤1048576) (hm:((ss.length:Nat):Int)=m) :
 Calls Tryz.prog 141 #[.pointer (some ⟨b,0,none⟩), .string k, .int .i64 m] w fun e w'=>∃ A,e=.returned (.slice A ss.length ss.length)∧Fr (fun i=>i=b) w w'∧BoxF b w w' (fun w=>RdAt w b s (p + (ZaA k ss).length)∧SRow w A ss):=by
 subst hm
 have hw:=Zlf b s k ss p w hB hL hs
 generalize p + (ZaA k ss).length=q at hw ⊢
 obtain ⟨n,hn⟩:∃ n,ss.length=n:=⟨_,rfl⟩
 rw [hn] at hw ⊢
 clear hB hL hs hn
 go_enter Tryz.func141,Tryz.ntmps141
 go_wp2_with fail
 refine hw.mono ?_
 rintro e w1 ⟨A,rfl,hF,hX⟩
 have HF:=zh hF
 have HX:=zh hX
 clear hw hF hX
 go_wp2_with fail
 refine (ZaV _ _).mono ?_
 rintro e w2 ⟨rfl,rfl⟩
 go_wp2
 go_ret
 exact ⟨_,rfl,HF.out,HX.out⟩
set_option maxHeartbeats 4000000 in
theorem ZiQ (p:Value) (z:Int) (h0:0≤z) (h1:z≤1000000000) (w:World) :
 Calls Tryz.prog 148 #[p, .string (Zae z)] w fun e w'=>e=.returned (.int .i64 z)∧Ext w w':=by
 have hsz:(Zae z).size≤18:=by
  show (Lib.itoa z).toArray.size≤18
  rw [List.size_toArray,Zch h0]
  exact ZdE 17 z.toNat (by omega)
 have hat:Lib.atoi (Zae z).data.toList=some z:=Zka h0
 have hc:=Tryz.strconv_Atoi (Zae z) z hsz hat w
 have key:(Zae z=⟨#[48]⟩)∨(∃ d r,Zae z=⟨(UInt8.ofNat (48 + d) :: r).toArray⟩∧0 < d∧d < 10):=by
  by_cases hz:z=0
  ·left; subst hz; unfold Zae; rw [show (0:Int)=((0:Nat):Int) from rfl,Lib.itoa_nonneg,Lib.decDigits_one (by decide)]; rfl
  ·right
   obtain ⟨d,r,e,hd,hp⟩:=Zfv z.toNat
   refine ⟨d,r,?_,hp (by omega),hd⟩
   unfold Zae
   rw [Zch h0,e]
 have HC:=zh hc
 clear hc hat hsz
 rcases key with hk | ⟨d,r,hk,hd0,hd⟩
 ·rw [hk] at HC ⊢
  clear hk
  go_enter Tryz.func148,Tryz.ntmps148
  go_wp2_with fail
  refine (ZaV _ _).mono ?_
  rintro e w1 ⟨rfl,rfl⟩
  go_wp2_with fail
  refine HC.out.mono ?_
  rintro e w2 ⟨rfl,t,ht⟩
  have HE:Hid (Ext w1 w2):=by subst ht; exact zh (Fr.ofBelow (Lib.bytesWorld_below _ _ _))
  clear ht
  go_wp2_with fail
  refine (ZaV _ _).mono ?_
  rintro e w3 ⟨rfl,rfl⟩
  go_wp2
  go_ret
  exact ⟨rfl,HE.out⟩
 ·obtain ⟨x,hx⟩:∃ x,UInt8.ofNat (48 + d)=x:=⟨_,rfl⟩
  have hxn:x.toNat=48 + d:=by rw [← hx,UInt8.toNat_ofNat']; omega
  rw [hx] at hk
  have hx48:(x == 48)=false:=beq_eq_false_iff_ne.2 (fun e=>by rw [e] at hxn; have:(48:UInt8).toNat=48:=rfl; omega)
  have hge:(49:Int)≤(x.toNat:Int):=by omega
  have hle:(x.toNat:Int)≤57:=by omega
  rw [hk] at HC ⊢
  clear hk hx hxn
  go_enter Tryz.func148,Tryz.ntmps148
  go_wp2_with fail
  have hdec:∀ (pr:0 < (⟨(x :: r).toArray⟩:ByteArray).size),decide (((((⟨(x :: r).toArray⟩:ByteArray)[0]'pr).toNat:Nat):Int)≤57)=true:=fun _=>decide_eq_true hle
  rw [hdec]
  refine (ZaV _ _).mono ?_
  rintro e w1 ⟨rfl,rfl⟩
  go_wp2_with fail
  refine HC.out.mono ?_
  rintro e w2 ⟨rfl,t,ht⟩
  have HE:Hid (Ext w1 w2):=by subst ht; exact zh (Fr.ofBelow (Lib.bytesWorld_below _ _ _))
  clear ht
  go_wp2_with fail
  refine (ZaV _ _).mono ?_
  rintro e w3 ⟨rfl,rfl⟩
  go_wp2
  go_ret
  exact ⟨rfl,HE.out⟩
end Go.Proofs.YtcpjeaaapocoeaaGreatDoor

namespace Go.Proofs.YtcpjeaaapocoeaaGreatDoor
open Go.RowKit
def Zbq (zs:List Int):Array Value:=(zs.map (Value.int .i64)).toArray
def Za5 (zs:List Int) (n:Nat):Array Value:=(zs.map (Value.int .i64) ++ List.replicate (n - zs.length) (Value.int .i64 0)).toArray
theorem Zg2 {zs:List Int} {n:Nat} (h:zs.length < n):(Za5 zs n)[zs.length]? = some (.int .i64 0):=by
 unfold Za5
 simp only [List.getElem?_toArray]
 rw [List.getElem?_append_right (by simp),List.length_map,Nat.sub_self,List.getElem?_replicate,if_pos (by omega)]
theorem ZhC {zs:List Int} {n:Nat} (h:zs.length < n) (z:Int):(Za5 zs n).setIfInBounds zs.length (.int .i64 z)=Za5 (zs ++ [z]) n:=by
 unfold Za5
 rw [List.setIfInBounds_toArray,List.set_append_right _ _ (by simp),List.length_map,Nat.sub_self]
 rw [show n - zs.length=(n - (zs.length + 1)) + 1 by omega,List.replicate_succ,List.set_cons_zero,List.map_append,List.length_append]
 simp
theorem Zg3 (zs:List Int):Za5 zs zs.length=Zbq zs:=by
 unfold Za5 Zbq; simp
theorem IRow.cells {w:World} {b:Nat} {zs:List Int} (h:Blk 3 w b (Zbq zs)):IRow w (some ⟨b,0,none⟩) zs:=fun i hi=>by
 refine ⟨b,0,rfl,h.lt,?_⟩
 rw [Nat.zero_add,h.cell]
 unfold Zbq nth
 simp [List.getElem?_eq_getElem hi]
set_option maxHeartbeats 4000000 in
theorem Ze2 (p:Value) (A:Option Addr) (c:Nat) (zs:List Int) (w:World) (hS:SRow w A (zs.map Zae)) (hz:∀ i,i < zs.length→0≤nth zs i∧nth zs i≤1000000000) (hl:zs.length≤1000000) :
 Calls Tryz.prog 140 #[p, .slice A zs.length c] w fun e w'=>∃ b,e=.returned (.slice (some ⟨b,0,none⟩) zs.length zs.length)∧w.heap.size≤b∧Blk 3 w' b (Zbq zs)∧Ext w w':=by
 obtain ⟨n,hn⟩:∃ n,zs.length=n:=⟨_,rfl⟩
 rw [hn]
 have HS:=zh hS
 have HZ:=zh hz
 have HN:=zh hn
 have hmk:=run_make_row' (P:=Tryz.prog) 22 3 (.int .i64 0) 8 Tryz.underlying22 (by kernel_rfl) rfl .i64 .i64 n (by omega) (by omega)
 clear hS hz
 go_enter Tryz.func140,Tryz.ntmps140
 go_wp2
 generalize hwb:World.alloc w _=wb
 obtain ⟨b,hb⟩:∃ b,w.heap.size=b:=⟨_,rfl⟩
 rw [hb]
 have HB:Hid (Blk 3 wb b (Za5 [] n)):=by
  unfold Hid
  rw [← hwb,← hb]
  have e:Za5 [] n=madeCells #[.int .i64 0] n:=by
   rw [ZdV]; unfold Za5 cellsOf; simp
  rw [e]
  exact Blk.new _ _ _
 have HE:Hid (Ext w wb):=hwb ▸ (Fr.refl _ _).alloc _
 have Hb:=zh hb
 clear hmk hwb
 go_loopw [13] (fun v wr=>∃ j:Nat,j≤n∧v=.int .i64 (j:Int)∧Hid (Blk 3 wr b (Za5 (zs.take j) n))∧Hid (Ext w wr)) (fun v _=>n - (intOf v).toNat)
 case atStart=>exact ⟨0,by omega,rfl,HB,HE⟩
 case round =>
  obtain ⟨j,hj,rfl,hB,Q⟩:=hrel
  by_cases hlt:j < n
  ·obtain ⟨bA,off,rfl,hc⟩:=(show SRow wr A (zs.map Zae) from fun h0=>by
    obtain ⟨b2,off,cs,f,e,hcs,h⟩:=HS.out h0
    exact ⟨b2,off,cs,f,e,(Q.out.block b2 (by
     rcases Nat.lt_or_ge b2 w.heap.size with h | h
     ·exact h
     ·rw [Array.getElem?_eq_none h] at hcs; cases hcs) (fun f=>f)).trans hcs,h⟩).at_ (i:=j) (by rw [List.length_map,HN.out]; exact hlt)
   have hzr:=HZ.out j (by rw [HN.out]; exact hlt)
   have hj0:(0:Int)≤(j:Int):=by omega
   have hjn:(j:Int) < (n:Int):=by omega
   have hstep:Hid (zs.take (j + 1)=zs.take j ++ [nth zs j]):=by
    unfold Hid nth
    rw [List.take_succ_eq_append_getElem (by rw [HN.out]; exact hlt),List.getElem?_eq_getElem (by rw [HN.out]; exact hlt)]
    rfl
   have hjl:Hid ((zs.take j).length=j):=by
    unfold Hid; rw [List.length_take,HN.out]; omega
   have hval:(zs.map Zae)[j]?.getD ⟨#[]⟩=Zae (nth zs j):=by
    unfold nth
    rw [List.getElem?_map,List.getElem?_eq_getElem (by rw [HN.out]; exact hlt)]; rfl
   rw [hval] at hc
   obtain ⟨z,hz⟩:∃ z,nth zs j=z:=⟨_,rfl⟩
   rw [hz] at hc hzr hstep
   clear hz hval
   obtain ⟨s,hs⟩:∃ s,Zae z=s:=⟨_,rfl⟩
   rw [hs] at hc
   have HSs:=zh hs
   clear hs
   go_wp2_with fail
   rw [← HSs.out]
   refine (ZiQ _ z hzr.1 hzr.2 _).mono ?_
   rintro e w2 ⟨rfl,hE1⟩
   have hB2:=hB.out.ext hE1
   have hcell:w2.cell? ⟨b,j,none⟩=some (.int .i64 0):=by
    rw [hB2.cell]
    have:=Zg2 (zs:=zs.take j) (n:=n) (by rw [hjl.out]; exact hlt)
    rwa [hjl.out] at this
   have hfrz:=hB2.frozen j
   have HBs:Hid (Blk 3 (w2.setCell ⟨b,j,none⟩ (.int .i64 z)) b (Za5 (zs.take (j + 1)) n)):=by
    have h:=hB2.set_ j (.int .i64 z)
    have h2:=ZhC (zs:=zs.take j) (n:=n) (by rw [hjl.out]; exact hlt) z
    rw [hjl.out] at h2
    rw [h2,← hstep.out] at h
    exact h
   have HEs:Hid (Ext w (w2.setCell ⟨b,j,none⟩ (.int .i64 z))):=(Q.out.trans hE1).setCell (p:=⟨b,j,none⟩) (Or.inr (by rw [Hb.out]; exact Nat.le_refl _)) _
   clear hE1 hB2 hB Q hc
   go_wp2
   go_roundw
   case rel=>exact ⟨j + 1,by omega,by go_num,HBs.out,HEs.out⟩
   case measure=>simp [intOf]; omega
  ·obtain rfl:j=n:=by omega
   have HBn:Hid (Blk 3 wr b (Zbq zs)):=by
    have h:=hB.out
    rw [List.take_of_length_le (by rw [HN.out]; exact Nat.le_refl _)] at h
    rw [← Zg3,HN.out]
    exact h
   have hbl:w.heap.size≤b:=by rw [Hb.out]; exact Nat.le_refl _
   go_wp2
   go_ret
   exact ⟨b,rfl,hbl,HBn.out,Q.out⟩
end Go.Proofs.YtcpjeaaapocoeaaGreatDoor

namespace Go.Proofs.YtcpjeaaapocoeaaGreatDoor
open Go.RowKit
section
variable {N:Nat} {S0:Nat→Prop} {w0:World} {s:St} {Φ Ψ:World→Prop} {L:Nat→Nat} {a:Act} {w:World} {P:Program} {ops:Array Oper} {Q:Exit→Act→World→Prop}
theorem Inv.eff4 (h:Inv N S0 w0 s Φ L a w) {w':World} {T:Nat→Prop} (hF:Fr T w w') (hT:∀ i,T i→¬ s.own L i∧(w0.heap.size≤i∨S0 i))
 (hΨ:∀ w1 w2,Fr S0 w0 w2→Φ w1→Fr T w1 w2→Fr (s.own L) w' w2→Ψ w2):Inv N S0 w0 s Ψ L a w':=by
 refine ⟨h.size,h.df,h.sl,⟨fun b t cs e=>(h.mem.blk b t cs e).fr hF (fun e'=>(hT _ e').1 ⟨b,by rw [e]; rfl,rfl⟩),h.mem.inj,h.mem.old,h.mem.ext.next hF (fun i hi e=>?_),h.mem.slp,h.mem.cel⟩,fun w2 hf=>?_⟩
 ·rcases (hT i e).2 with h' | h'
  ·omega
  ·exact h'
 ·have h2:Fr (fun i=>s.own L i∨T i) w w2:=(hF.mono (fun i _ e=>Or.inr e)).trans (hf.mono (fun i _ e=>Or.inl e))
  obtain ⟨w1,k1,k2⟩:=h2.split
  refine hΨ w1 w2 (h.mem.ext.next h2 (fun i hi ho=>?_)) (h.box w1 k1) k2 hf
  rcases ho with ⟨c,hc,e⟩ | e
  ·rcases h.mem.old c hc with h' | h'
   ·omega
   ·rw [← e]; exact h'
  ·rcases (hT i e).2 with h' | h'
   ·omega
   ·exact h'
theorem ZlQ {base i d k n m cap bytes:Nat} {t e:TypeId} {s0 x:Operand} {xs news:List Value} {z:Value} (hbase:w0.heap.size=base) (A:Option Addr) (b2 c2:Nat) (Ψ:World→Prop) (hO:∀ w,Φ w→w.ownsRow base e k (.slice A n cap) n xs) (hX:∀ w,Φ w→Blk e w b2 news.toArray) (hl:news.length=m * k) (hk:0 < k) (hz:z.cells.size=k)
 (hm0:0 < m) (h1:∀ u ∈ news,u.oneCell'=true) (h63:n + m≤maxLen) (hbytes:(n + m) * bytes≤140737488355328) (hnn:n=0→A=none)
 (hΨ:∀ w w',Fr S0 w0 w'→Φ w→Fr (fun i=>A=some ⟨i,0,none⟩) w w'→Ψ w')
 (K:∀ (A':Option Addr) (cap':Nat),A'≠none→SXi P N S0 w0 ops Q (i + 1) (s.put d (.v (.slice A' (n + m) cap'))) (fun w=>Ψ w∧w.ownsRow base e k (.slice A' (n + m) cap') (n + m) (xs ++ news)))
 (hsz:Nat.blt i ops.size=true:=by kernel_rfl) (hw:s.wantB ops (opAt ops i)=some true:=by kernel_rfl) (hv:(opAt ops i).op.operands.toList.all s.vB=true:=by kernel_rfl) (ho:(opAt ops i).op=.call { callee:=.builtin .append,args:=#[s0,x],argTypes:=#[t,t] }:=by kernel_rfl) (hd:(opAt ops i).dst=some d:=by kernel_rfl) (hN:Nat.blt d N=true:=by kernel_rfl)
 (ht:P.underlying t=some (.slice e):=by kernel_rfl) (hinfo:(P.info? e).map (fun i=>(i.zero,i.size,i.bytes))=some (some z,k,bytes):=by kernel_rfl) (hs:s.rho s0=.slice A n cap:=by kernel_rfl) (hx:s.rho x=.slice (some ⟨b2,0,none⟩) m c2:=by kernel_rfl):SXi P N S0 w0 ops Q i s Φ:=by
 subst hbase
 unfold SXi
 rw [Zb8 hsz]
 intro L a w hi
 refine wpList_step (fun K' hK=>?_)
 rw [if_pos (hi.want hw)]
 unfold Oper.wp
 have hns:Za0 (opAt ops i).op=true:=by rw [ho]; rfl
 rw [hi.exec hns hv]
 obtain ⟨inf,hinf,h2⟩:=Option.map_eq_some_iff.1 hinfo
 injection h2 with hz0 h2
 injection h2 with hsize hby
 have hO1:=hO w hi.box.self
 have hB2:=hX w hi.box.self
 have hT:∀ j,A=some ⟨j,0,none⟩→¬ s.own L j∧(w0.heap.size≤j∨S0 j):=fun j hj=>by
  have hn0:n≠0:=fun h=>by rw [hnn h] at hj; cases hj
  have hpos:0 < xs.length:=by rw [hO1.1]; exact Nat.mul_pos (by omega) hk
  refine ⟨hi.notOwn (c:=xs[0]'hpos) (j:=0) (fun w R=>?_),?_⟩
  ·have h3:=(hO w R).cells (g:=j) (by rw [hj]; rfl) 0 (xs[0]'hpos) (by simp)
   rw [Lib.add_plain] at h3
   exact h3
  ·rcases hO1.2 with ⟨h3,_⟩ | ⟨b,c3,cur,h3,h4,_⟩
   ·rw [hj] at h3; cases h3
   ·rw [hj] at h3
    injection h3 with h3
    injection h3 with h3
    injection h3 with h3
    left; omega
 obtain ⟨v',w',hrun,hr,hg,hnil,hblk⟩:=run_append_own_at (P:=P) (w:=w) w0.heap.size t (opAt ops i).type e inf z k bytes ht hinf hz0 hsize hby hz hk (.slice A n cap) n xs hO1 ⟨b2,0,none⟩ m c2 news hl
  (fun j u hj=>by rw [Lib.add_plain,Nat.zero_add,hB2.cell]; simpa using hj) h1 h63 hbytes hi.mem.ext.size
 have hrun2:(execOp s.rho (opAt ops i)).run P w=.ok (.value v') w':=by simp [execOp,ho,resolve,invoke,builtin,hs,hx,hrun,Result.andThen]
 rw [hrun2,Oper.upon_value,hd]
 have hr0:=hr
 obtain ⟨hlen,hr⟩:=hr
 rcases hr with ⟨rfl,h0⟩ | ⟨b',cap',cur',rfl,hb',hh,hn',hc',hs',ht'⟩
 ·omega
 have hA0:∀ j,(Value.slice A n cap).ownBlock=some j→A=some ⟨j,0,none⟩:=fun j hj=>by
  rcases hO1.2 with ⟨h3,_⟩ | ⟨b,c3,cur,h3,_⟩
  ·rw [h3] at hj; cases hj
  ·injection h3 with h3
   rw [h3] at hj ⊢
   simp only [Value.ownBlock,Option.some.injEq] at hj
   rw [hj]
 have hF0:Fr (fun i=>A=some ⟨i,0,none⟩) w w':=(Fr.ofGrown hg).mono (fun j _ h=>hA0 j h)
 have h0:=hi.app0 (d:=d) (Nat.le_of_ble_eq_true hN) (al_v (s:=s) (.slice (some ⟨b',0,none⟩) (n + m) cap'))
 simp only [Value.ownBlock,Option.some.injEq] at hblk
 have hnb:¬ s.own L b':=by
  rcases hblk with h3 | rfl
  ·exact (hT b' (hA0 b' h3.symm)).1
  ·rintro ⟨c,hc,e⟩
   obtain ⟨q,eq⟩:=Option.isSome_iff_exists.1 hc
   have:=(hi.mem.blk c q.1 q.2 eq).lt
   omega
 have hlt':b' < w'.heap.size:=Blk.lt (show Blk e w' b' cur' from hh)
 exact hK _ _ (K _ cap' (by simp) L _ _ (h0.eff4 hF0 hT (fun w1 w2 h2 h3 h4 h5=>⟨hΨ w1 w2 h2 h3 h4,hlen,Or.inr ⟨b',cap',cur',rfl,hb',(h5.block b' hlt' hnb).trans hh,hn',hc',hs',ht'⟩⟩)))
end
end Go.Proofs.YtcpjeaaapocoeaaGreatDoor

namespace Go.Proofs.YtcpjeaaapocoeaaGreatDoor
open Go.RowKit
structure TermR where
 coef:ByteArray
 A:Option Addr
 cap:Nat
 exps:List Int
instance:Inhabited TermR:=⟨⟨⟨#[]⟩,none,0,[]⟩⟩
def TRow (w:World) (A:Option Addr) (ts:List TermR):Prop:=∀ i,i < ts.length→∃ b off,A=some ⟨b,off,none⟩∧b < w.heap.size∧w.cell? ⟨b,off + i * 2,none⟩=some (.string ts[i]!.coef) ∧
 w.cell? ⟨b,off + i * 2 + 1,none⟩=some (.slice ts[i]!.A ts[i]!.exps.length ts[i]!.cap)∧IRow w ts[i]!.A ts[i]!.exps
theorem TRow.ext {w w':World} {A:Option Addr} {ts:List TermR} (h:TRow w A ts) (hf:Ext w w'):TRow w' A ts:=fun i hi=>by
 obtain ⟨b,off,e,hb,h1,h2,h3⟩:=h i hi
 exact ⟨b,off,e,Nat.lt_of_lt_of_le hb hf.size,(hf.cell (p:=⟨b,off + i * 2,none⟩) hb (fun f=>f)).trans h1,(hf.cell (p:=⟨b,off + i * 2 + 1,none⟩) hb (fun f=>f)).trans h2,h3.ext hf⟩
def expB (e:Int):Bool:=decide (0≤e) && decide (e≤1048576)
def Zc8 (l:List UInt8):Bool:=match Zap l with
 | some q=>decide (q≠0)
 | none=>false
def Zam (v:Int) (t:TermR):Bool:=Zc8 (bytes t.coef) && (decide ((t.exps.length:Int)=v) && t.exps.all expB)
def wfT (v:Int) (ts:List TermR):Nat→Bool
 | 0=>true
 | k + 1=>wfT v ts k && (Zam v ts[k]! && (decide (k=0) || decide (0 < ordF ts[k - 1]!.exps ts[k]!.exps)))
def Zar (v:Int) (ts:List TermR):Bool:=decide (ts.length≤4096) && (decide (0≤v) && (decide (v≤6) && (wfT v ts ts.length && (decide (ts.length=0) || decide ((0:Int)≤degF ts[0]!.exps)))))
theorem Zi7 {zs:List Int} {i:Nat} (h:i < zs.length):nth zs i ∈ zs:=by
 unfold nth; rw [List.getElem?_eq_getElem h]; exact List.getElem_mem h
theorem ZlR {zs:List Int} (h:zs.all expB=true) (i:Nat):0≤nth zs i∧nth zs i≤1048576:=by
 rcases Nat.lt_or_ge i zs.length with hi | hi
 ·have:=List.all_eq_true.1 h _ (Zi7 hi)
  unfold expB at this
  rw [Bool.and_eq_true,decide_eq_true_eq,decide_eq_true_eq] at this
  exact this
 ·unfold nth; rw [List.getElem?_eq_none hi]; simp
theorem Zam.exp {v:Int} {t:TermR} (h:Zam v t=true) (hv:v≤6):Zgi t.exps∧(t.exps.length:Int)=v:=by
 unfold Zam at h
 rw [Bool.and_eq_true,Bool.and_eq_true,decide_eq_true_eq] at h
 exact ⟨⟨by have:=h.2.1; omega,ZlR h.2.2⟩,h.2.1⟩
theorem Zio {zs:List Int} {i:Nat} (hi:i < zs.length) (h:expB (nth zs i)=false):zs.all expB=false:=by
 cases h2:zs.all expB with
 | false=>rfl
 | true=>have:=List.all_eq_true.1 h2 _ (Zi7 hi); rw [h] at this; cases this
theorem ZlS {zs:List Int} (h:∀ i,i < zs.length→expB (nth zs i)=true):zs.all expB=true:=by
 rw [List.all_eq_true]
 intro x hx
 obtain ⟨i,hi,e⟩:=List.mem_iff_getElem.1 hx
 have:=h i hi
 unfold nth at this
 rw [List.getElem?_eq_getElem hi,e] at this
 exact this
theorem Zip {v:Int} {ts:List TermR} {k:Nat} (h:wfT v ts k=false):∀ n,k≤n→wfT v ts n=false:=by
 intro n hn
 induction n with
 | zero=>obtain rfl:k=0:=by omega
         exact h
 | succ n ih =>
   rcases (by omega:k=n + 1∨k≤n) with rfl | h2
   ·exact h
   ·unfold wfT; rw [ih h2,Bool.false_and]
section
variable {P:Program} {o:Oper} {ρ:Operand→Value} {w:World} {t e:TypeId} {x ix:Operand}
theorem IRow.ne {A:Option Addr} {zs:List Int} {i:Nat} (h:IRow w A zs) (hi:i < zs.length):A≠none:=by
 obtain ⟨b,off,rfl,_⟩:=h i hi; simp
theorem TRow.ne {A:Option Addr} {ts:List TermR} {i:Nat} (h:TRow w A ts) (hi:i < ts.length):A≠none:=by
 obtain ⟨b,off,rfl,_⟩:=h i hi; simp
theorem ZbS {A:Option Addr} {len cap i sz:Nat} (hA:A≠none) (h:i < len) (ho:o.op=Op.indexAddr t x ix:=by kernel_rfl) (ht:P.underlying t=some (.slice e):=by kernel_rfl) (hs:(P.info? e).map (fun i=>i.size)=some sz:=by kernel_rfl)
 (hx:ρ x=.slice A len cap:=by kernel_rfl) (hi:ρ ix=.int .i64 ((i:Nat):Int):=by kernel_rfl):(execOp ρ o).run P w=.ok (.value (atA A (i * sz))) w:=by
 obtain ⟨inf,hinf,h1⟩:=Option.map_eq_some_iff.1 hs
 obtain ⟨a,rfl⟩:∃ a,A=some a:=by cases A; exact absurd rfl hA; exact ⟨_,rfl⟩
 have h2:(0:Int)≤(i:Int)∧(i:Int) < (len:Int):=by omega
 simp [execOp,ho,Instr.indexAt,asIntOf,underlying,ht,hx,hi,h,sizeOf,typeInfo,hinf,h1,Result.andThen,atA]
theorem Zd7 {A:Option Addr} {zs:List Int} {j:Nat} (hS:IRow w A zs) (hj:j < zs.length) (ho:o.op=Op.load t x:=by kernel_rfl) (hx:ρ x=atA A (j * 1):=by kernel_rfl) (ha:(teOf P t).map (fun e=>e.agg)=some false:=by kernel_rfl) :
 (execOp ρ o).run P w=.ok (.value (.int .i64 (nth zs j))) w:=by
 obtain ⟨g,off,rfl,_,hc⟩:=hS j hj
 exact ZgA hc ho (by rw [hx,atA,Option.map_some,ZbR,Nat.mul_one]) ha
theorem Zi8 {A:Option Addr} {ts:List TermR} {j:Nat} (hS:TRow w A ts) (hj:j < ts.length) (ho:o.op=Op.load t x:=by kernel_rfl) (hx:ρ x=atA A (j * 2):=by kernel_rfl) (ha:(teOf P t).map (fun e=>(e.agg,e.size))=some (true,2):=by kernel_rfl) :
 (execOp ρ o).run P w=.ok (.value (.agg #[.string ts[j]!.coef, .slice ts[j]!.A ts[j]!.exps.length ts[j]!.cap])) w:=by
 obtain ⟨g,off,rfl,_,h1,h2,_⟩:=hS j hj
 obtain ⟨te,hte,h⟩:=Option.map_eq_some_iff.1 ha
 injection h with ha hn
 have:=Zc6 (P:=P) (w:=w) hte (g:=g) (off:=off + j * 2) (cs:=[.string ts[j]!.coef, .slice ts[j]!.A ts[j]!.exps.length ts[j]!.cap]) hn.symm (fun i hi=>by
  rcases (by simp at hi; omega:i=0∨i=1) with rfl | rfl
  ·exact h1
  ·exact h2) ha
 simp only [execOp,ho,hx,atA,Option.map_some,ZbR,Sem.run_bind,this,Result.andThen_ok,Sem.run_pure]
theorem ZlT {bt:TypeId} {g:Nat} {cs:List Value} (hB:Blk bt w g cs.toArray) (ho:o.op=Op.load t x:=by kernel_rfl) (hx:ρ x=.pointer (some ⟨g,0,none⟩):=by kernel_rfl) (ha:(teOf P t).map (fun e=>(e.agg,e.size))=some (true,cs.length):=by kernel_rfl) :
 (execOp ρ o).run P w=.ok (.value (.agg cs.toArray)) w:=by
 obtain ⟨te,hte,h⟩:=Option.map_eq_some_iff.1 ha
 injection h with ha hn
 have:=Zc6 (P:=P) (w:=w) hte (g:=g) (off:=0) (cs:=cs) hn.symm (fun i hi=>by rw [Nat.zero_add,hB.cell]; simp [hi]) ha
 simp only [execOp,ho,hx,Sem.run_bind,this,Result.andThen_ok,Sem.run_pure]
theorem ZlU {z:Int} (h0:¬ z < 0) (h1:¬ 1048576 < z):expB z=true:=by
 unfold expB; rw [Bool.and_eq_true,decide_eq_true_eq,decide_eq_true_eq]; omega
theorem ZlV {A:Option Addr} {ts:List TermR} {j:Nat} (hS:TRow w A ts) (hj:j < ts.length) (ho:o.op=Op.load t x:=by kernel_rfl) (hx:ρ x=atA A (j * 2 + 1):=by kernel_rfl) (ha:(teOf P t).map (fun e=>e.agg)=some false:=by kernel_rfl) :
 (execOp ρ o).run P w=.ok (.value (.slice ts[j]!.A ts[j]!.exps.length ts[j]!.cap)) w:=by
 obtain ⟨g,off,rfl,_,_,h2,_⟩:=hS j hj
 exact ZgA h2 ho (by rw [hx,atA,Option.map_some,ZbR,Nat.add_assoc]) ha
end
end Go.Proofs.YtcpjeaaapocoeaaGreatDoor

namespace Go.Proofs.YtcpjeaaapocoeaaGreatDoor
open Go.RowKit
def ZaY:ByteArray:=⟨#[112,111,108,121]⟩
def Zc9:ByteArray:=⟨#[116,101,114,109]⟩
def ZaR (t:TermR):List UInt8:=ZaA Zc9 (t.coef :: t.exps.map Zae)
def ZaF (v:Int) (ts:List TermR):List UInt8:=ZaA ZaY [Zae v,Zae (ts.length:Int)] ++ ts.flatMap ZaR
theorem IRow.two {w:World} {b:Nat} {x y:Int} (h:Blk 3 w b #[.int .i64 x, .int .i64 y]):IRow w (some ⟨b,0,none⟩) [x,y]:=fun i hi=>by
 refine ⟨b,0,rfl,h.lt,?_⟩
 rw [Nat.zero_add,h.cell]
 match i,hi with
 | 0,_=>rfl
 | 1,_=>rfl
theorem TRow.exps' {w:World} {A:Option Addr} {ts:List TermR} (h:TRow w A ts) {i:Nat} (hi:i < ts.length):IRow w ts[i]!.A ts[i]!.exps:=by
 obtain ⟨_,_,_,_,_,_,h⟩:=h i hi; exact h
section
variable {N:Nat} {S0:Nat→Prop} {w:World} {Φ:World→Prop} {P:Program}
theorem Zhr (S0:Nat→Prop) {fn:Func} {f:FuncId} {c:Code} {args:List Value} {R:Ending→World→Prop} (hf:P.funcs[f]? = some fn) (hb:fn.body=some c) (hl:Nat.ble args.length fn.ntmps=true) (Q:Box (fun _=>False) w Φ)
 (h:SXc P fn.ntmps S0 w (bodyPost P fn R) c (ofL (Zfg 0 args) []) Φ):Calls P f args.toArray w R:=by
 refine calls_of_wp hf hb (h (fun _=>0) _ w ⟨?_,rfl,fun i x hx=>?_,⟨fun b t cs e=>(by cases e),fun b c e=>(by cases e),fun b e=>(by cases e),Fr.refl _ _,fun i b off e=>?_,fun b t cs e=>(by cases e)⟩,?_⟩)
 ·have:=Nat.le_of_ble_eq_true hl
  simp; omega
 ·obtain ⟨_,v,hv,rfl⟩:=Zdr args 0 i x hx
  have hlt:i < args.length:=by
   rcases Nat.lt_or_ge i args.length with h' | h'
   ·exact h'
   ·rw [List.getElem?_eq_none (by omega)] at hv; cases hv
  simp only [AV.conc]
  rw [Array.getElem?_append_left (by simpa using hlt)]
  simpa using hv
 ·obtain ⟨_,v,hv,e'⟩:=Zdr args 0 i _ e
  cases e'
 ·intro w' hf'
  exact Q w' (hf'.mono (fun i _ h'=>by obtain ⟨b,e,_⟩:=h'; cases e))
end
instance ne_ge (n:Nat):Nonempty {b:Nat // n≤b}:=⟨⟨n,Nat.le_refl n⟩⟩
theorem Zkr {v:Int} {n:Nat} (hv:Zb7 v) (hn:n≤4096):∀ i,i < [v,((n:Nat):Int)].length→Zb7 (nth [v,((n:Nat):Int)] i):=fun i hi=>by
 match i,hi with
 | 0,_=>exact hv
 | 1,_=>exact ⟨by show (-9223372036854775808:Int)≤(n:Int); omega,by show (n:Int)≤9223372036854775807; omega⟩
theorem ZdI {ts:List TermR} {j:Nat} {t:TermR} (hlt:j < ts.length) (ht:ts[j]! = t):(ts.take (j + 1)).flatMap ZaR=(ts.take j).flatMap ZaR ++ ZaR t:=by
 rw [List.take_succ_eq_append_getElem hlt,List.flatMap_append,← ht,getElem!_pos ts j hlt]
 simp
theorem ZhD (ts:List TermR) (j:Nat):((ts.take j).flatMap ZaR).length≤(ts.flatMap ZaR).length:=by
 conv=>rhs; rw [← List.take_append_drop j ts,List.flatMap_append,List.length_append]
 omega
def AppG (lo b n m k:Nat) (cur news:List Value) (q:Nat × Nat × List Value):Prop:=lo≤q.1∧q.2.2.length=q.2.1 * k∧n + m≤q.2.1∧q.2.1≤maxLen∧q.2.2.take ((n + m) * k)=cur ++ news∧(m=0→q=(b,n,cur))
theorem AppG.some {lo b n m k:Nat} {cur news:List Value} (hl:news.length=m * k) (hcur:cur.length=n * k) (hb:lo≤b) (h63:n + m≤maxLen):Nonempty {q:Nat × Nat × List Value // AppG lo b n m k cur news q}:=by
 have e:(cur ++ news).length=(n + m) * k:=by rw [List.length_append,hcur,hl,Nat.add_mul]
 refine ⟨⟨(b,n + m,cur ++ news),hb,e,Nat.le_refl _,h63,?_,fun h=>?_⟩⟩
 ·rw [← e,List.take_length]
 ·subst h
  obtain rfl:news=[]:=List.eq_nil_of_length_eq_zero (by simpa using hl)
  simp
theorem ZdJ {P:Program} {o:Oper} {ρ:Operand→Value} {w:World} {lo k n m bytes:Nat} {t e:TypeId} {s0 x:Operand} {cur news:List Value} {z:Value} (b b2 c2:Nat) (hO:Blk e w b cur.toArray) (hX:Blk e w b2 news.toArray) (hl:news.length=m * k) (hk:0 < k) (hz:z.cells.size=k)
 (hcur:cur.length=n * k) (hb:lo≤b) (hlo:lo≤w.heap.size) (h1:∀ u ∈ news,u.oneCell'=true) (h63:n + m≤maxLen) (hbytes:(n + m) * bytes≤140737488355328)
 (ho:o.op=.call { callee:=.builtin .append,args:=#[s0,x],argTypes:=#[t,t] }:=by kernel_rfl) (ht:P.underlying t=some (.slice e):=by kernel_rfl) (hinfo:(P.info? e).map (fun i=>(i.zero,i.size,i.bytes))=some (some z,k,bytes):=by kernel_rfl) (hs:ρ s0=.slice (some ⟨b,0,none⟩) n n:=by kernel_rfl) (hx:ρ x=.slice (some ⟨b2,0,none⟩) m c2:=by kernel_rfl) :
 Does P o ρ w (DoR (fun q:{q:Nat × Nat × List Value // AppG lo b n m k cur news q}=>.slice (some ⟨q.1.1,0,none⟩) (n + m) q.1.2.1) (fun q w=>m=0∨Blk e w q.1.1 q.1.2.2.toArray) w):=by
 obtain ⟨inf,hinf,h2⟩:=Option.map_eq_some_iff.1 hinfo
 injection h2 with hz0 h2
 injection h2 with hsize hby
 rcases Nat.eq_zero_or_pos m with hm | hm
 ·obtain rfl:news=[]:=List.eq_nil_of_length_eq_zero (by rw [hl,hm,Nat.zero_mul])
  have hrun:=run_append_room_cells (P:=P) w t o.type e inf ht hinf b 0 n n ⟨b2,0,none⟩ m c2 [] (by rw [hm]; simp) (fun j u hj=>by simp at hj) (fun u hu=>by cases hu) (by omega) (fun j hj=>by cases hj) (fun j hj=>by cases hj)
  have e:w.setCells b (0 + n * inf.size) []=w:=rfl
  rw [e] at hrun
  refine Or.inl ⟨_,w,by simp [execOp,ho,resolve,invoke,builtin,hs,hx,hrun,Result.andThen]; rfl,⟨(b,n,cur),hb,hcur,(show n + m≤n by omega),(show n≤maxLen by omega),?_,fun _=>rfl⟩,by rfl,Fr.refl _ w,fun S hS w'' hF=>Or.inl hm⟩
  rw [hm,Nat.add_zero,← hcur,List.take_length,List.append_nil]
 ·obtain ⟨v',w',hrun,⟨hlen,hr⟩,hg⟩:=run_append_arg_grows (P:=P) w t o.type e inf z k bytes ht hinf hz0 hsize hby hz hk ⟨b,0,none⟩ n n cur hcur (fun j u hj=>by rw [Lib.add_plain,Nat.zero_add,hO.cell]; simpa using hj) ⟨b2,0,none⟩ m c2 news hl (fun j u hj=>by rw [Lib.add_plain,Nat.zero_add,hX.cell]; simpa using hj) (by omega) h63 hbytes
  rcases hr with ⟨rfl,h0⟩ | ⟨b',cap',cur',rfl,hb',hh,hn',hc',hs',ht'⟩
  ·omega
  have hB':Blk e w' b' cur'.toList.toArray:=by rw [Array.toArray_toList]; exact hh
  refine Or.inl ⟨_,w',by simp [execOp,ho,resolve,invoke,builtin,hs,hx,hrun,Result.andThen]; rfl,⟨(b',cap',cur'.toList),by omega,by simpa using hs',hn',hc',by simpa using ht',fun h=>by omega⟩,by rfl,(Fr.ofGrown hg).mono (fun i _ h=>by cases h),fun S hS w'' hF=>Or.inr (hB'.fr hF (fun h=>by have:=(hS _ h).1; omega))⟩
theorem Zi9 {b n m:Nat} {cur:List Value} {q:Nat × Nat × List Value} {e:TypeId} {w:World} (hG:m=0→q=(b,n,cur)) (h:m=0∨Blk e w q.1 q.2.2.toArray) (hO:Blk e w b cur.toArray):Blk e w q.1 q.2.2.toArray:=by
 rcases h with h | h
 ·rw [hG h]; exact hO
 ·exact h
theorem Ziq {lo g b' cap':Nat} {l:List UInt8} {v:Int} {ts:List TermR} {j:Nat} {t:TermR} {w:World} {cur':List Value} (hW:WrIs lo g (l ++ ZaA ZaY [Zae v,Zae ((ts.length:Nat):Int)] ++ (ts.take j).flatMap ZaR) w) (hB:Blk 9 w b' cur'.toArray)
 (htk:cur'.take ((1 + t.exps.length) * 1)=[Value.string t.coef].take (1 * 1) ++ (t.exps.map Zae).map Value.string) (hlt:j < ts.length) (ht:ts[j]! = t) (hx:t.exps.length≤6) (hl:(l ++ ZaF v ts).length≤1048576) :
 Calls Tryz.prog 109 #[.pointer (some ⟨g,0,none⟩), .string Zc9, .slice (some ⟨b',0,none⟩) (1 + t.exps.length) cap'] w fun e w'=>e=.returned (.tuple #[])∧WrIs lo g (l ++ ZaA ZaY [Zae v,Zae ((ts.length:Nat):Int)] ++ (ts.take j).flatMap ZaR ++ ZaR t) w'∧WrFr lo g w w':=by
 have hlen:(t.coef :: t.exps.map Zae).length=1 + t.exps.length:=by simp; omega
 have hS:SRow w (some ⟨b',0,none⟩) (t.coef :: t.exps.map Zae):=SRow.ofStr hB (by rw [hlen]; simpa using htk)
 have h1:=ZhD ts (j + 1)
 rw [ZdI hlt ht,List.length_append] at h1
 have h2:=hl
 unfold ZaF at h2
 rw [List.length_append,List.length_append] at h2
 rw [← hlen]
 exact Zh8 lo g _ Zc9 _ cap' _ w hW hS (by rw [List.length_append,List.length_append]; omega) (show (ZaR t).length≤70368744177664 by omega) (by omega)
theorem Zks (wl:World) (lo g:Nat) (l:List UInt8) (A:Option Addr) (c:Nat) (ts:List TermR) (v:Int) (w:World) (hlo:wl.heap.size=lo) (hgl:lo≤g) (hg:Glob wl) (hT:TRow wl A ts) (h0:Ext wl w) (hW:WrIs lo g l w) (hv:Zb7 v) (hx:∀ i,i < ts.length→ts[i]!.exps.length≤6∧∀ j,j < ts[i]!.exps.length→Zb7 (nth ts[i]!.exps j)) (hn:ts.length≤4096) (hl:(l ++ ZaF v ts).length≤1048576) :
 Calls Tryz.prog 64 #[.pointer (some ⟨g,0,none⟩), .agg #[.int .i64 v, .slice A ts.length c]] w (fun e w'=>e=.returned (.tuple #[])∧WrIs lo g (l ++ ZaF v ts) w'∧Fr (SWr lo g w) w w'):=by
 have hl1:l.length≤1048576:=by rw [List.length_append] at hl; omega
 have hl2:(ZaA ZaY [Zae v,Zae ((ts.length:Nat):Int)]).length≤1048576:=by unfold ZaF at hl; rw [List.length_append,List.length_append] at hl; omega
 refine Zhr (SWr lo g w) (Φ:=fun w=>WrIs lo g (l) w) Tryz.func64 rfl (by kernel_rfl) (fun w' hf=>WrIs.fr hW hf (fun f=>f) (fun _ _ f=>f)) ?_
 refine Zad (Zab (xq 1 [(3, .p 3 0)] [(3,43,[.v (.int .i64 v), .v (.slice A ts.length c)])] ?_))
 refine xe (Zaa (Zad (Zab (xq 6 [(6, .v (.pointer (some ⟨g,0,none⟩))),(8, .v (.int .i64 v)),(11, .v (.int .i64 ((ts.length:Nat):Int)))] [] ?_))))
 refine Zcy (d:=12) (fun zb:Nat=>.slice (some ⟨zb,0,none⟩) 2 2) (fun zb zw=>Blk 3 zw zb #[.int .i64 v, .int .i64 ((ts.length:Nat):Int)]) (by kernel_rfl) (by kernel_rfl) (by kernel_rfl) (by kernel_rfl) (by kernel_rfl) (by kernel_rfl) (fun w R Q=>ZbF (t:=22) (e:=3) (n:=2) (sz:=1) (z:=.int .i64 0) (parts:=#[(0,Operand.tmp 8),(1,Operand.tmp 11)]) (by kernel_rfl) (by kernel_rfl) (by kernel_rfl) (by kernel_rfl) (by kernel_rfl) (by kernel_rfl)) (fun b10=>?_)
 refine xr 0 [(0, .v (.pointer (some ⟨g,0,none⟩))),(3, .p 3 0),(6, .v (.pointer (some ⟨g,0,none⟩))),eS1 12 (some ⟨b10,0,none⟩) 2 2] [(3,43,[.v (.int .i64 v), .v (.slice A ts.length c)])] ?_
 refine xqc 110 [.slice (some ⟨b10,0,none⟩) 2 2] 13 (fun b:Nat=>.slice (some ⟨b,0,none⟩) 2 2) _ (fun w R Q=>(ZfO (some ⟨b10,0,none⟩) 2 [v,((ts.length:Nat):Int)] _ (hg.ext (ZcS h0 hlo hgl R)) (IRow.two Q.2) (Zkr hv hn) (by simp)).mono (fun _ _=>Ze1)) (fun b11=>?_)
 refine ZfT (d:=14) (lo:=lo) (g:=g) (l:=l) (l':=l ++ ZaA ZaY [Zae v,Zae ((ts.length:Nat):Int)]) (v:=.tuple #[]) 109 [.pointer (some ⟨g,0,none⟩), .string ZaY, .slice (some ⟨b11,0,none⟩) 2 2] (fun _ _ h k=>WrFr.s0 h k) (by kernel_rfl) (fun w R Q=>Zh8 lo g l ZaY (some ⟨b11,0,none⟩) 2 [Zae v,Zae ((ts.length:Nat):Int)] _ Q.1.1 (SRow.ofStr Q.2 rfl) hl1 (by omega) (by simp)) (fun w Q=>Q.1.1) ?_
 refine xr 0 [(0, .v (.pointer (some ⟨g,0,none⟩))),(3, .p 3 0)] [(3,43,[.v (.int .i64 v), .v (.slice A ts.length c)])] ?_
 refine xe (Zaa (Zad (Zab (xq 4 [eS1 16 A ts.length c,(17, .v (.int .i64 ((ts.length:Nat):Int))),(18, .v (.int .i64 0))] [] ?_))))
 refine xe (Zaa (Za8 ?_))
 refine SXc.weak [(0, .v (.pointer (some ⟨g,0,none⟩))),(16, .v (.slice A ts.length c)),(17, .v (.int .i64 ((ts.length:Nat):Int))),(18, .v (.int .i64 ((0:Nat):Int)))] [] (Ψ:=fun w=>WrIs lo g (l ++ ZaA ZaY [Zae v,Zae ((ts.length:Nat):Int)] ++ (ts.take 0).flatMap ZaR) w) (ZaX.of (by kernel_rfl)) (by kernel_rfl) (fun w Q=>(by rw [List.take_zero,List.flatMap_nil,List.append_nil]; exact Q)) ?_
 refine ZcR (fun nn ss ff=>∃ (j:Nat),ss=ofL [(0, .v (.pointer (some ⟨g,0,none⟩))),(16, .v (.slice A ts.length c)),(17, .v (.int .i64 ((ts.length:Nat):Int))),(18, .v (.int .i64 ((j:Nat):Int)))] []∧ff=(fun w=>WrIs lo g (l ++ ZaA ZaY [Zae v,Zae ((ts.length:Nat):Int)] ++ (ts.take j).flatMap ZaR) w)∧(j≤ts.length)∧nn=(1 + (ts.length - j))) ((1 + (ts.length - 0))) ⟨0,rfl,rfl,(Nat.zero_le _),rfl⟩ ?_
 rintro nn ss ff ⟨j,rfl,rfl,hj,rfl⟩
 refine Zad (Zab (xq 1 [(19, .v (.bool (decide (((j:Nat):Int) < ((ts.length:Nat):Int)))))] [] ?_))
 refine xe (Zaa (Zad ?_))
 refine Zcz ((decide (((j:Nat):Int) < ((ts.length:Nat):Int)))) (by kernel_rfl) (fun hb12=>?_) (fun hb12=>?_)
 ·have hlt:j < ts.length:=by have:=of_decide_eq_true hb12; omega
  refine ZaK (Zaa (Zad (Za8 (Zad (Zab ?_)))))
  refine xqk 20 (atA A (j * 2)) (fun w R Q=>ZbS (t:=41) (e:=53) (sz:=2) (x:=.tmp 16) (ix:=.tmp 18) (len:=ts.length) (cap:=c) (i:=j) ((hT.ext (ZcS h0 hlo hgl R)).ne hlt) hlt) ?_
  obtain ⟨t,ht⟩:∃ x,ts[j]! = x:=⟨_,rfl⟩
  have hxt:=hx j hlt
  rw [ht] at hxt
  refine xqk 21 (.agg #[.string t.coef, .slice t.A t.exps.length t.cap]) (fun w R Q=>by rw [← ht]; exact Zi8 (t:=53) (x:=.tmp 20) (ts:=ts) (j:=j) (hT.ext (ZcS h0 hlo hgl R)) hlt) ?_
  refine xq 2 [(5, .p 5 0)] [(5,53,[.v (.string t.coef), .v (.slice t.A t.exps.length t.cap)])] ?_
  refine xe (Zaa ?_)
  refine Zkp 8 3 6 [0,1,2,4,5] [7] [(0, .v (.pointer (some ⟨g,0,none⟩))),eS1 16 A ts.length c,(17, .v (.int .i64 ((ts.length:Nat):Int))),(18, .v (.int .i64 ((j:Nat):Int))),(22, .v (.pointer (some ⟨g,0,none⟩))),(24, .v (.string t.coef)),eS1 27 t.A t.exps.length t.cap] [(5,53,[.v (.string t.coef), .v (.slice t.A t.exps.length t.cap)])] (by kernel_rfl) (by kernel_rfl) ZaD (by kernel_rfl) ?_ ?_
  ·refine Zel 25 (fun zb:{b:Nat // w.heap.size≤b}=>.slice (some ⟨zb.1,0,none⟩) 1 1) (fun zb zw=>Blk 9 zw zb.1 #[.string t.coef]) (fun w R Q=>Ze0 (m0:=_) R.size (t:=59) (e:=9) (n:=1) (sz:=1) (z:=.string ⟨#[]⟩) (parts:=#[(0, .tmp 24)]) (by kernel_rfl) (by kernel_rfl) (by kernel_rfl) (by kernel_rfl) (by kernel_rfl) (by kernel_rfl)) (fun bb=>?_)
   obtain ⟨bs,hbs⟩:=bb
   refine Zil 110 [.slice t.A t.exps.length t.cap] 28 (fun b:Nat=>.slice (some ⟨b,0,none⟩) t.exps.length t.exps.length) _ (fun w R Q=>(ZfO t.A t.cap t.exps _ (hg.ext (ZcS h0 hlo hgl R)) (ht ▸ (hT.ext (ZcS h0 hlo hgl R)).exps' hlt) hxt.2 (by have:=hxt.1; omega)).mono (fun _ _=>Ze1)) (fun b14=>?_)
   haveI:=AppG.some (lo:=w.heap.size) (b:=bs) (n:=1) (m:=t.exps.length) (k:=1) (cur:=[Value.string t.coef]) (news:=((t.exps.map Zae).map Value.string)) (by simp) rfl hbs (by have:=hxt.1; simp only [maxLen]; omega)
   refine Zel 29 (fun q:{q:Nat × Nat × List Value // AppG w.heap.size bs 1 t.exps.length 1 [Value.string t.coef] ((t.exps.map Zae).map Value.string) q}=>.slice (some ⟨q.1.1,0,none⟩) (1 + t.exps.length) q.1.2.1) (fun q w=>t.exps.length=0∨Blk 9 w q.1.1 q.1.2.2.toArray) (fun w R Q=>ZdJ (z:=.string ⟨#[]⟩) (bytes:=16) (t:=59) (s0:=.tmp 25) (x:=.tmp 28) bs b14 t.exps.length Q.1.2 Q.2 (by simp) (by decide) rfl rfl hbs R.size (fun u hu=>by obtain ⟨q,_,rfl⟩:=List.mem_map.1 hu; rfl) (by have:=hxt.1; simp only [maxLen]; omega) (by have:=hxt.1; omega)) (fun qq=>?_)
   obtain ⟨⟨b',cap',cur'⟩,hb',hcur',hkc',hcm',htk',h0'⟩:=qq
   refine .done (SXi.weak (Ψ:=fun w=>WrIs lo g (l ++ ZaA ZaY [Zae v,Zae ((ts.length:Nat):Int)] ++ (ts.take j).flatMap ZaR) w∧Blk 9 w b' cur'.toArray) [(0, .v (.pointer (some ⟨g,0,none⟩))),eS1 16 A ts.length c,(17, .v (.int .i64 ((ts.length:Nat):Int))),(18, .v (.int .i64 ((j:Nat):Int))),(22, .v (.pointer (some ⟨g,0,none⟩))),eS1 29 (some ⟨b',0,none⟩) (1 + t.exps.length) cap'] [] (fun w Q=>⟨Q.1.1.1,Zi9 h0' Q.2 Q.1.1.2⟩) ?_ (ZaX.of (by kernel_rfl)))
   refine ZfT (d:=30) (lo:=lo) (g:=g) (l:=l ++ ZaA ZaY [Zae v,Zae ((ts.length:Nat):Int)] ++ (ts.take j).flatMap ZaR) (l':=l ++ ZaA ZaY [Zae v,Zae ((ts.length:Nat):Int)] ++ (ts.take j).flatMap ZaR ++ ZaR t) (v:=.tuple #[]) 109 [.pointer (some ⟨g,0,none⟩), .string Zc9, .slice (some ⟨b',0,none⟩) (1 + t.exps.length) cap'] (fun _ _ h k=>WrFr.s0 h k) (by kernel_rfl) (fun w R Q=>Ziq (ts:=ts) (j:=j) Q.1 Q.2 htk' hlt ht hxt.1 hl) (fun w Q=>Q.1) ?_
   refine xr 0 [(0, .v (.pointer (some ⟨g,0,none⟩))),eS1 16 A ts.length c,(17, .v (.int .i64 ((ts.length:Nat):Int))),(18, .v (.int .i64 ((j:Nat):Int)))] [] ?_
   refine xe (Zc3 (Zaa (Zab (xq 1 [(31, .v (.int .i64 (IntKind.i64.wrap (((j:Nat):Int) + 1))))] [] ?_))))
   rw [(show IntKind.i64.wrap (((j:Nat):Int) + 1)=((j + 1:Nat):Int) from by rw [IntKind.wrap_i64]; omega)]
   refine xq 1 [(18, .v (.int .i64 ((j + 1:Nat):Int)))] [] ?_
   refine xe ?_
   refine SXq.weak [(0, .v (.pointer (some ⟨g,0,none⟩))),(16, .v (.slice A ts.length c)),(17, .v (.int .i64 ((ts.length:Nat):Int))),(18, .v (.int .i64 (((j + 1):Nat):Int)))] [] (Ψ:=fun w=>WrIs lo g (l ++ ZaA ZaY [Zae v,Zae ((ts.length:Nat):Int)] ++ (ts.take (j + 1)).flatMap ZaR) w) (ZaX.of (by kernel_rfl)) (by kernel_rfl) (fun w Q=>(by rw [ZdI hlt ht,← List.append_assoc]; exact Q)) ?_
   exact Zcb ((1 + (ts.length - (j + 1)))) (by omega) ⟨(j + 1),rfl,rfl,hlt,rfl⟩
  ·refine Zil 110 [.slice t.A t.exps.length t.cap] 28 (fun b:Nat=>.slice (some ⟨b,0,none⟩) t.exps.length t.exps.length) _ (fun w R Q=>(ZfO t.A t.cap t.exps _ (hg.ext (ZcS h0 hlo hgl R)) (ht ▸ (hT.ext (ZcS h0 hlo hgl R)).exps' hlt) hxt.2 (by have:=hxt.1; omega)).mono (fun _ _=>Ze1)) (fun b14=>?_)
   refine Zel 25 (fun zb:{b:Nat // w.heap.size≤b}=>.slice (some ⟨zb.1,0,none⟩) 1 1) (fun zb zw=>Blk 9 zw zb.1 #[.string t.coef]) (fun w R Q=>Ze0 (m0:=_) R.size (t:=59) (e:=9) (n:=1) (sz:=1) (z:=.string ⟨#[]⟩) (parts:=#[(0, .tmp 24)]) (by kernel_rfl) (by kernel_rfl) (by kernel_rfl) (by kernel_rfl) (by kernel_rfl) (by kernel_rfl)) (fun bb=>?_)
   obtain ⟨bs,hbs⟩:=bb
   haveI:=AppG.some (lo:=w.heap.size) (b:=bs) (n:=1) (m:=t.exps.length) (k:=1) (cur:=[Value.string t.coef]) (news:=((t.exps.map Zae).map Value.string)) (by simp) rfl hbs (by have:=hxt.1; simp only [maxLen]; omega)
   refine Zel 29 (fun q:{q:Nat × Nat × List Value // AppG w.heap.size bs 1 t.exps.length 1 [Value.string t.coef] ((t.exps.map Zae).map Value.string) q}=>.slice (some ⟨q.1.1,0,none⟩) (1 + t.exps.length) q.1.2.1) (fun q w=>t.exps.length=0∨Blk 9 w q.1.1 q.1.2.2.toArray) (fun w R Q=>ZdJ (z:=.string ⟨#[]⟩) (bytes:=16) (t:=59) (s0:=.tmp 25) (x:=.tmp 28) bs b14 t.exps.length Q.2 Q.1.2 (by simp) (by decide) rfl rfl hbs R.size (fun u hu=>by obtain ⟨q,_,rfl⟩:=List.mem_map.1 hu; rfl) (by have:=hxt.1; simp only [maxLen]; omega) (by have:=hxt.1; omega)) (fun qq=>?_)
   obtain ⟨⟨b',cap',cur'⟩,hb',hcur',hkc',hcm',htk',h0'⟩:=qq
   refine .done (SXi.weak (Ψ:=fun w=>WrIs lo g (l ++ ZaA ZaY [Zae v,Zae ((ts.length:Nat):Int)] ++ (ts.take j).flatMap ZaR) w∧Blk 9 w b' cur'.toArray) [(0, .v (.pointer (some ⟨g,0,none⟩))),eS1 16 A ts.length c,(17, .v (.int .i64 ((ts.length:Nat):Int))),(18, .v (.int .i64 ((j:Nat):Int))),(22, .v (.pointer (some ⟨g,0,none⟩))),eS1 29 (some ⟨b',0,none⟩) (1 + t.exps.length) cap'] [] (fun w Q=>⟨Q.1.1.1,Zi9 h0' Q.2 Q.1.2⟩) ?_ (ZaX.of (by kernel_rfl)))
   refine ZfT (d:=30) (lo:=lo) (g:=g) (l:=l ++ ZaA ZaY [Zae v,Zae ((ts.length:Nat):Int)] ++ (ts.take j).flatMap ZaR) (l':=l ++ ZaA ZaY [Zae v,Zae ((ts.length:Nat):Int)] ++ (ts.take j).flatMap ZaR ++ ZaR t) (v:=.tuple #[]) 109 [.pointer (some ⟨g,0,none⟩), .string Zc9, .slice (some ⟨b',0,none⟩) (1 + t.exps.length) cap'] (fun _ _ h k=>WrFr.s0 h k) (by kernel_rfl) (fun w R Q=>Ziq (ts:=ts) (j:=j) Q.1 Q.2 htk' hlt ht hxt.1 hl) (fun w Q=>Q.1) ?_
   refine xr 0 [(0, .v (.pointer (some ⟨g,0,none⟩))),eS1 16 A ts.length c,(17, .v (.int .i64 ((ts.length:Nat):Int))),(18, .v (.int .i64 ((j:Nat):Int)))] [] ?_
   refine xe (Zc3 (Zaa (Zab (xq 1 [(31, .v (.int .i64 (IntKind.i64.wrap (((j:Nat):Int) + 1))))] [] ?_))))
   rw [(show IntKind.i64.wrap (((j:Nat):Int) + 1)=((j + 1:Nat):Int) from by rw [IntKind.wrap_i64]; omega)]
   refine xq 1 [(18, .v (.int .i64 ((j + 1:Nat):Int)))] [] ?_
   refine xe ?_
   refine SXq.weak [(0, .v (.pointer (some ⟨g,0,none⟩))),(16, .v (.slice A ts.length c)),(17, .v (.int .i64 ((ts.length:Nat):Int))),(18, .v (.int .i64 (((j + 1):Nat):Int)))] [] (Ψ:=fun w=>WrIs lo g (l ++ ZaA ZaY [Zae v,Zae ((ts.length:Nat):Int)] ++ (ts.take (j + 1)).flatMap ZaR) w) (ZaX.of (by kernel_rfl)) (by kernel_rfl) (fun w Q=>(by rw [ZdI hlt ht,← List.append_assoc]; exact Q)) ?_
   exact Zcb ((1 + (ts.length - (j + 1)))) (by omega) ⟨(j + 1),rfl,rfl,hlt,rfl⟩
 ·have hge:ts.length≤j:=by have:=of_decide_eq_false hb12; omega
  refine ZcQ (ZaE (ZaE (Zdq ?_)))
  refine ZlN (v:=.tuple #[]) (by kernel_rfl) (fun w' R Q=>?_)
  exact ⟨rfl,by have h:=Q; rw [List.take_of_length_le hge,List.append_assoc] at h; exact h,R⟩
end Go.Proofs.YtcpjeaaapocoeaaGreatDoor

namespace Go.Proofs.YtcpjeaaapocoeaaGreatDoor
open Go.RowKit
end Go.Proofs.YtcpjeaaapocoeaaGreatDoor

namespace Go.Proofs.YtcpjeaaapocoeaaGreatDoor
open Go.RowKit
theorem Zlh {x y:Int} (hy:0 < y):(Rat.divInt x y).num=x.tdiv (Int.gcd x y:Int)∧((Rat.divInt x y).den:Int)=y.tdiv (Int.gcd x y:Int):=by
 have hd1:(Int.gcd x y:Int) ∣ x:=Int.gcd_dvd_left _ _
 have hd2:(Int.gcd x y:Int) ∣ y:=Int.gcd_dvd_right _ _
 rw [Rat.num_divInt,Rat.den_divInt,if_neg (by omega),Int.sign_eq_one_of_pos hy,Int.one_mul,Int.gcd_comm y x,Int.tdiv_eq_ediv_of_dvd hd1,Int.tdiv_eq_ediv_of_dvd hd2]
 refine ⟨rfl,?_⟩
 rw [Int.natCast_ediv]
 congr 1
 omega
theorem Zir {x y:Int} (hy:0 < y) (h:((Int.gcd x y:Nat):Int)=1):(Rat.divInt x y).num=x∧((Rat.divInt x y).den:Int)=y:=by
 have:=Zlh (x:=x) hy
 rwa [h,Int.tdiv_one,Int.tdiv_one] at this
end Go.Proofs.YtcpjeaaapocoeaaGreatDoor

namespace Go.Proofs.YtcpjeaaapocoeaaGreatDoor
open Go.RowKit
theorem ZcZ (a:Value) (q:Rat) (w:World) (ha:ZaU w a q) :
 Calls Tryz.prog 131 #[a] w (RetV w (.bool (decide (q.num=0)))):=by
 obtain ⟨s0,A0,l0,c0,t0,B0,m0,d0,rfl⟩:=ha.shp
 refine Za9 (Φ:=fun w=>ZaU w (.agg #[.bool s0, .slice A0 l0 c0, .bool t0, .slice B0 m0 d0]) (q)) Tryz.func131 rfl (by kernel_rfl) (fun w' hf=>ha.ext hf) ?_
 refine Zad (Zab (xr 2 [(1, .p 1 0),(2, .v (.bool false))] [bR4 1 142 s0 A0 l0 c0 t0 B0 m0 d0] ?_))
 refine xe (Zaa (Zad (Zab (xr 2 [(2, .v (.bool false)),eI2 4 s0 A0 l0 c0] [] ?_))))
 refine xc 55 [vI2 s0 A0 l0 c0] 5 (fun _:Unit=>.bool (decide (q.num=0))) _ (fun w R Q=>(Zjt _ (q.num) _ Q.num).mono (fun _ _ h=>ZaB h rfl)) (fun xx=>?_)
 refine xr 1 [(2, .v (.bool (decide (q.num=0))))] [] ?_
 refine xe (Zaa (Zau ?_))
 refine Zaq (v:=.bool (decide (q.num=0))) (by kernel_rfl) (fun w' R Q=>?_)
 exact ⟨rfl,R⟩
end Go.Proofs.YtcpjeaaapocoeaaGreatDoor

namespace Go.Proofs.YtcpjeaaapocoeaaGreatDoor
open Go.RowKit
section
variable {P:Program} {N:Nat} {S0:Nat→Prop} {w0:World} {ops:Array Oper} {Q:Exit→Act→World→Prop} {s:St} {Φ:World→Prop}
end
section
variable {P:Program} {o:Oper} {ρ:Operand→Value} {w:World} {t e:TypeId} {x:Operand}
end
/-! ### adding a number to a row from a place on -/
end Go.Proofs.YtcpjeaaapocoeaaGreatDoor

namespace Go.Proofs.YtcpjeaaapocoeaaGreatDoor
open Go.RowKit
end Go.Proofs.YtcpjeaaapocoeaaGreatDoor

namespace Go.Proofs.YtcpjeaaapocoeaaGreatDoor
open Go.RowKit
instance {b:Nat} {A A2:Option Addr}:Nonempty {q:ShN // ∀ a,q.1=some a→b < a.block∨q.1=A∨q.1=A2}:=⟨⟨(none,0,0),fun a h=>by cases h⟩⟩
section
variable {P:Program} {o:Oper} {ρ:Operand→Value} {w:World}
end
end Go.Proofs.YtcpjeaaapocoeaaGreatDoor

namespace Go.Proofs.YtcpjeaaapocoeaaGreatDoor
open Go.RowKit
section
variable {P:Program} {N:Nat} {S0:Nat→Prop} {w0:World} {ops:Array Oper} {Q:Exit→Act→World→Prop} {s:St} {Φ:World→Prop}
end
end Go.Proofs.YtcpjeaaapocoeaaGreatDoor

namespace Go.Proofs.YtcpjeaaapocoeaaGreatDoor
open Go.RowKit
end Go.Proofs.YtcpjeaaapocoeaaGreatDoor

namespace Go.Proofs.YtcpjeaaapocoeaaGreatDoor
open Go.RowKit Go.Sort
end Go.Proofs.YtcpjeaaapocoeaaGreatDoor

namespace Go.Proofs.YtcpjeaaapocoeaaGreatDoor
open Go.RowKit Go.Sort
end Go.Proofs.YtcpjeaaapocoeaaGreatDoor

namespace Go.Proofs.YtcpjeaaapocoeaaGreatDoor
open Go.RowKit Go.Sort
end Go.Proofs.YtcpjeaaapocoeaaGreatDoor

namespace Go.Proofs.YtcpjeaaapocoeaaGreatDoor
open Go.RowKit
end Go.Proofs.YtcpjeaaapocoeaaGreatDoor

namespace Go.Proofs.YtcpjeaaapocoeaaGreatDoor
open Go.RowKit
end Go.Proofs.YtcpjeaaapocoeaaGreatDoor

namespace Go.Proofs.YtcpjeaaapocoeaaGreatDoor
open Go.RowKit
def Zby (q:Rat):List UInt8:=if q.den=1 then Lib.itoa q.num else Lib.itoa q.num ++ [47] ++ Lib.itoa (q.den:Int)
end Go.Proofs.YtcpjeaaapocoeaaGreatDoor

namespace Go.Proofs.YtcpjeaaapocoeaaGreatDoor
open Go.RowKit
end Go.Proofs.YtcpjeaaapocoeaaGreatDoor

namespace Go.Proofs.YtcpjeaaapocoeaaGreatDoor
open Go.RowKit
theorem Zfk {x:Int} (h:0≤x):Lib.itoa x=Lib.decDigits x.natAbs:=by
 unfold Lib.itoa
 rw [if_neg (by omega)]
 congr 1; omega
end Go.Proofs.YtcpjeaaapocoeaaGreatDoor

namespace Go.Proofs.YtcpjeaaapocoeaaGreatDoor
end Go.Proofs.YtcpjeaaapocoeaaGreatDoor

namespace Go.Proofs.YtcpjeaaapocoeaaGreatDoor
open Go.RowKit
theorem Zem {n:Nat} (h:10≤n):Lib.decDigits n=Lib.decDigits (n / 10) ++ [UInt8.ofNat (48 + n % 10)]:=by
 rw [Lib.decDigits,dif_neg (by omega)]
theorem Zdg {n:Nat} (h:n < 10):Lib.decDigits n=[UInt8.ofNat (48 + n)]:=Lib.decDigits_one h
theorem Zc0 {n:Nat} (h:n < 10):(UInt8.ofNat (48 + n)).toNat=48 + n:=by
 rw [UInt8.toNat_ofNat']; omega
theorem ZfB {n:Nat} (h:n < 10):Zaj (UInt8.ofNat (48 + n))=true:=by
 unfold Zaj; rw [Zc0 h]; simp; omega
theorem Zdh:∀ n,(Lib.decDigits n).all Zaj=true:=by
 intro n
 induction n using Nat.strongRecOn with
 | _ n ih =>
   rcases Nat.lt_or_ge n 10 with h | h
   ·rw [Zdg h,List.all_cons,ZfB h]; rfl
   ·rw [Zem h,List.all_append,ih (n / 10) (by omega),List.all_cons,ZfB (Nat.mod_lt n (by omega:0 < 10))]; rfl
theorem Zfl:∀ n,Zac (Lib.decDigits n)=n:=by
 intro n
 induction n using Nat.strongRecOn with
 | _ n ih =>
   rcases Nat.lt_or_ge n 10 with h | h
   ·rw [Zdg h]; simp only [Zac,List.foldl_cons,List.foldl_nil]; rw [Zc0 h]; omega
   ·rw [Zem h,ZcX,ih (n / 10) (by omega),Zc0 (Nat.mod_lt n (by omega:0 < 10))]; omega
theorem ZcT:∀ n,0 < n→(Lib.decDigits n).head? ≠ some 48:=by
 intro n
 induction n using Nat.strongRecOn with
 | _ n ih =>
   intro h0
   rcases Nat.lt_or_ge n 10 with h | h
   ·rw [Zdg h]
    intro e
    simp only [List.head?_cons,Option.some.injEq] at e
    have:=congrArg UInt8.toNat e
    rw [Zc0 h] at this
    simp at this; omega
   ·have h1:=ih (n / 10) (by omega) (by omega)
    rw [Zem h,List.head?_append]
    cases hc:(Lib.decDigits (n / 10)).head? with
    | none=>exact absurd (List.head?_eq_none_iff.1 hc) (Zbd _)
    | some c=>rw [hc] at h1; exact h1
theorem Zc4 {p:UInt8→Bool} {l:List UInt8} (h:l.all p=true):l.takeWhile p=l∧l.dropWhile p=[]:=by
 induction l with
 | nil=>exact ⟨rfl,rfl⟩
 | cons x xs ih =>
   simp only [List.all_cons,Bool.and_eq_true] at h
   obtain ⟨h1,h2⟩:=ih h.2
   rw [List.takeWhile_cons,List.dropWhile_cons,h.1]
   simp [h1,h2]
theorem ZjE {l:List UInt8} (h:l.all Zaj=true):ZaQ l=(false,l):=by
 unfold ZaQ
 rw [if_neg]
 intro e
 cases l with
 | nil=>cases e
 | cons x xs =>
   simp only [List.head?_cons,Option.some.injEq] at e
   subst e
   simp only [List.all_cons,Bool.and_eq_true] at h
   exact absurd h.1 (by decide)
theorem Zku (n:Nat):Zat (Lib.decDigits n)=(false,Lib.decDigits n,[],true):=by
 obtain ⟨h1,h2⟩:=Zc4 (Zdh n)
 unfold Zat
 rw [ZjE (Zdh n)]
 simp only []
 rw [h1,h2]
 rcases Nat.eq_zero_or_pos n with h0 | h0
 ·subst h0; rw [Zdg (by omega)]; rfl
 ·have hne:Lib.decDigits n≠[48]:=fun e=>ZcT n h0 (by rw [e]; rfl)
  rw [if_neg hne,if_neg (fun e=>e.elim (Zbd n) (ZcT n h0)),if_pos rfl]
theorem Zkv {n:Nat} (h:0 < n):Zat ([45] ++ Lib.decDigits n)=(true,Lib.decDigits n,[],true):=by
 obtain ⟨h1,h2⟩:=Zc4 (Zdh n)
 unfold Zat
 have e:ZaQ ([45] ++ Lib.decDigits n)=(true,Lib.decDigits n):=rfl
 rw [e]
 simp only []
 rw [h1,h2]
 have hne:Lib.decDigits n≠[48]:=fun e=>ZcT n h (by rw [e]; rfl)
 rw [if_neg hne,if_neg (fun e=>e.elim (Zbd n) (ZcT n h)),if_pos rfl]
theorem itoa_neg {z:Int} (h:z < 0):Lib.itoa z=[45] ++ Lib.decDigits z.natAbs:=by
 unfold Lib.itoa
 rw [if_pos h]
 rfl
theorem ZjF (z:Int):Zat (Lib.itoa z)=(decide (z < 0),Lib.decDigits z.natAbs,[],true):=by
 by_cases h:z < 0
 ·rw [itoa_neg h,Zkv (by omega),decide_eq_true h]
 ·rw [Zfk (by omega),Zku,decide_eq_false h]
theorem Zkw (z:Int):Zap (Lib.itoa z)=some (z:Rat):=by
 unfold Zap
 rw [ZjF]
 simp only []
 rw [if_pos trivial,Zfl]
 congr 2
 unfold sg
 split
 ·rename_i h; have:=of_decide_eq_true h; omega
 ·rename_i h; have:¬ z < 0:=fun k=>h (decide_eq_true k); omega
end Go.Proofs.YtcpjeaaapocoeaaGreatDoor

namespace Go.Proofs.YtcpjeaaapocoeaaGreatDoor
open Go.RowKit
theorem ZgE {c:UInt8} (h:Zaj c=true):UInt8.ofNat (48 + (c.toNat - 48))=c:=by
 have:=Zdm h
 apply UInt8.toNat.inj
 rw [UInt8.toNat_ofNat']
 have:=c.toNat_lt
 omega
theorem Zkx:∀ (k:Nat) (l:List UInt8),l.length=k→l.all Zaj=true→l≠[]→l.head? ≠ some 48→Lib.decDigits (Zac l)=l:=by
 intro k
 induction k with
 | zero=>intro l hl _ h0; exact absurd (List.length_eq_zero_iff.1 hl) h0
 | succ k ih =>
   intro l hl hd h0 h48
   obtain ⟨l',c,rfl⟩:∃ l' c,l=l' ++ [c]:=by
    rcases List.eq_nil_or_concat l with h | ⟨l',c,h⟩
    ·exact absurd h h0
    ·exact ⟨l',c,by simpa using h⟩
   rw [List.all_append,Bool.and_eq_true] at hd
   have hc:Zaj c=true:=by simpa using hd.2
   have hcb:=Zdm hc
   rw [ZcX]
   by_cases hl0:l'=[]
   ·subst hl0
    have e:Zac []=0:=rfl
    rw [e,Nat.mul_zero,Nat.zero_add,Zdg (by omega),ZgE hc]; rfl
   ·have hh:l'.head? ≠ some 48:=by
     rw [List.head?_append] at h48
     cases hx:l'.head? with
     | none=>exact absurd (List.head?_eq_none_iff.1 hx) hl0
     | some x=>rw [hx] at h48; exact h48
    have h1:=ih l' (by simp at hl; exact hl) hd.1 hl0 hh
    have hp:=(Zec hd.1 hl0 hh).1
    rw [Zem (by omega),show (10 * Zac l' + (c.toNat - 48)) / 10=Zac l' by omega,show (10 * Zac l' + (c.toNat - 48)) % 10=c.toNat - 48 by omega,h1,ZgE hc]
theorem ZiS (n:Nat):(Lib.decDigits n).head? ≠ some 45:=by
 intro e
 cases h:Lib.decDigits n with
 | nil=>exact Zbd n h
 | cons x xs =>
   rw [h] at e
   simp only [List.head?_cons,Option.some.injEq] at e
   subst e
   have:=Zdh n
   rw [h] at this
   simp only [List.all_cons,Bool.and_eq_true] at this
   exact absurd this.1 (by decide)
theorem Zg4 {p:UInt8→Bool} {l r:List UInt8} {c:UInt8} (h:l.all p=true) (hc:p c=false):(l ++ c :: r).takeWhile p=l∧(l ++ c :: r).dropWhile p=c :: r:=by
 induction l with
 | nil=>simp [hc]
 | cons x xs ih =>
   simp only [List.all_cons,Bool.and_eq_true] at h
   obtain ⟨h1,h2⟩:=ih h.2
   rw [List.cons_append,List.takeWhile_cons,List.dropWhile_cons,h.1]
   simp [h1,h2]
theorem ZiT (z:Int) (r:List UInt8):ZaQ (Lib.itoa z ++ r)=(decide (z < 0),Lib.decDigits z.natAbs ++ r):=by
 by_cases h:z < 0
 ·rw [itoa_neg h,decide_eq_true h]
  unfold ZaQ
  rw [if_pos (by simp)]
  rfl
 ·rw [Zfk (by omega),decide_eq_false h]
  unfold ZaQ
  rw [if_neg]
  intro e
  rw [List.head?_append] at e
  cases hx:(Lib.decDigits z.natAbs).head? with
  | none=>exact absurd (List.head?_eq_none_iff.1 hx) (Zbd _)
  | some c =>
    rw [hx] at e
    exact ZiS _ (hx.trans e)
theorem Zmq (z:Int):sg (decide (z < 0)) z.natAbs=z:=by
 unfold sg
 split
 ·rename_i h; have:=of_decide_eq_true h; omega
 ·rename_i h; have:¬ z < 0:=fun k=>h (decide_eq_true k); omega
theorem ZjG {q:Rat} (h:q.den=1):((q.num:Int):Rat)=q:=by
 apply Rat.ext<;>simp [h]
theorem Zmr {q:Rat} (h:q.den≠1):q.num≠0:=by
 intro e
 have:=q.reduced
 rw [e] at this
 simp [Nat.Coprime] at this
 exact h this
theorem ZfW (n:Nat):Lib.itoa (n:Int)=Lib.decDigits n:=by
 rw [Zfk (by omega),Int.natAbs_natCast]
theorem ZjH {q:Rat} (h:q.den≠1):Zat (Zby q)=(decide (q.num < 0),Lib.decDigits q.num.natAbs,Lib.decDigits q.den,true):=by
 have hn:=Zmr h
 have hd:=q.den_nz
 unfold Zby
 rw [if_neg h,ZfW,List.append_assoc]
 unfold Zat
 rw [ZiT]
 simp only []
 obtain ⟨h1,h2⟩:=Zg4 (p:=Zaj) (r:=Lib.decDigits q.den) (c:=47) (Zdh q.num.natAbs) (by decide)
 have e:Lib.decDigits q.num.natAbs ++ ([47] ++ Lib.decDigits q.den)=Lib.decDigits q.num.natAbs ++ 47 :: Lib.decDigits q.den:=rfl
 rw [e,h1,h2]
 have hh:=ZcT q.num.natAbs (by omega)
 rw [if_neg (fun e=>hh (by rw [e]; rfl)),if_neg (fun e=>e.elim (Zbd _) hh),if_neg (by simp),if_neg (by simp)]
 simp only [List.tail_cons]
 obtain ⟨h3,h4⟩:=Zc4 (Zdh q.den)
 rw [h3,h4]
 have hh2:=ZcT q.den (by omega)
 have h49:Lib.decDigits q.den≠[49]:=fun e=>by
  have:=Zfl q.den
  rw [e] at this
  exact h (by rw [← this]; rfl)
 have hne:=Zbd q.den
 simp [hh2,h49,hne]
theorem Zky (q:Rat):Zap (Zby q)=some q:=by
 by_cases h:q.den=1
 ·unfold Zby
  rw [if_pos h,Zkw,ZjG h]
 ·unfold Zap
  rw [ZjH h]
  simp only []
  rw [if_neg (Zbd _),Zfl,Zfl,if_pos q.reduced,Zmq,Rat.mkRat_self]
theorem Zhs {neg:Bool} {a:Nat} (h:a=0→neg=false):(sg neg a < 0 ↔ neg=true)∧(sg neg a).natAbs=a:=by
 cases neg with
 | false=>simp [sg]
 | true =>
   have:a≠0:=fun e=>by cases h e
   simp [sg]; omega
theorem Zja {neg:Bool} {a:Nat} (h:a=0→neg=false):Lib.itoa (sg neg a)=(if neg then [45] else []) ++ Lib.decDigits a:=by
 obtain ⟨h1,h2⟩:=Zhs h
 cases neg with
 | false=>rw [Zfk (by simp [sg]),h2]; rfl
 | true=>rw [itoa_neg (h1.2 rfl),h2]; rfl
theorem ZiU {l r:List UInt8} {neg:Bool} (h:ZaQ l=(neg,r)):l=(if neg then [45] else []) ++ r:=by
 unfold ZaQ at h
 split at h
 ·rename_i hh
  injection h with h1 h2
  subst h1 h2
  cases l with
  | nil=>cases hh
  | cons x xs=>simp at hh; subst hh; rfl
 ·injection h with h1 h2
  subst h1 h2
  rfl
theorem Zit {l:List UInt8} {q:Rat} (h:Zap l=some q):Zby q=l:=by
 unfold Zap at h
 cases hs:Zat l with
 | mk neg r =>
   obtain ⟨num,den,ok⟩:=r
   rw [hs] at h
   cases ok with
   | false=>cases h
   | true =>
     simp only [] at h
     have hdg:=Zbw hs
     obtain ⟨s1,s2⟩:=Zed hs
     cases hu:ZaQ l with
     | mk neg' t =>
       have hl:=ZiU hu
       have htw:t.takeWhile Zaj ++ t.dropWhile Zaj=t:=List.takeWhile_append_dropWhile
       unfold Zat at hs
       rw [hu] at hs
       simp only [] at hs
       split at hs
       ·-- zero
        rename_i h48
        injection hs with e1 hs; injection hs with e2 hs; injection hs with e3 e4
        subst e1 e2 e3
        simp at e4
        rw [if_pos rfl,h48] at h
        have hv:Zac [48]=0:=rfl
        rw [hv] at h
        injection h with h
        rw [e4.1] at h hl
        rw [← h,hl,← htw,h48,e4.2]
        simp only [sg]
        unfold Zby
        rw [if_pos (by simp)]
        have:Lib.itoa ((0:Nat):Int)=[48]:=by rw [ZfW,Zdg (by omega)]; rfl
        simpa using this
       split at hs
       ·injection hs with _ hs; injection hs with _ hs; injection hs with _ hs; cases hs
       rename_i hn
       have hn1:t.takeWhile Zaj≠[]:=fun e=>hn (Or.inl e)
       have hn2:(t.takeWhile Zaj).head? ≠ some 48:=fun e=>hn (Or.inr e)
       have hdn:=Zkx _ _ rfl (Za4 (p:=Zaj) t) hn1 hn2
       split at hs
       ·rename_i hr
        injection hs with e1 hs; injection hs with e2 hs; injection hs with e3 _
        subst e1 e2 e3
        rw [if_pos rfl] at h
        injection h with h
        rw [← h]
        unfold Zby
        rw [if_pos (by simp)]
        have hnum:(((sg neg' (Zac (t.takeWhile Zaj)):Int)):Rat).num=sg neg' (Zac (t.takeWhile Zaj)):=rfl
        rw [hnum,Zja (fun e=>(s2 e).1),hdn,hl]
        rw [hr,List.append_nil] at htw
        rw [htw]
       split at hs
       ·injection hs with _ hs; injection hs with _ hs; injection hs with _ hs; cases hs
       ·rename_i hr h47
        injection hs with e1 hs; injection hs with e2 hs; injection hs with e3 e4
        subst e1 e2
        rw [e3] at e4
        simp at e4
        obtain ⟨⟨⟨k1,k2⟩,k3⟩,k4⟩:=e4
        rw [if_neg k2] at h
        split at h
        ·rename_i hg
         injection h with h
         have h2:=s1 k2
         have hq:q.num=sg neg' (Zac (t.takeWhile Zaj))∧q.den=Zac den:=by
          have:=Zir (x:=sg neg' (Zac (t.takeWhile Zaj))) (y:=(Zac den:Int)) (by omega) (by
           unfold Int.gcd
           rw [(Zhs (fun e=>(s2 e).1)).2,Int.natAbs_natCast,hg]; rfl)
          rw [Rat.divInt_ofNat,h] at this
          exact ⟨this.1,by have:=this.2; omega⟩
         unfold Zby
         rw [if_neg (by rw [hq.2]; omega),hq.1,hq.2,Zja (fun e=>(s2 e).1),hdn,ZfW,Zkx _ _ rfl hdg.2.1 k2 k3,hl]
         have htail:t.dropWhile Zaj=47 :: den:=by
          cases hx:t.dropWhile Zaj with
          | nil=>exact absurd hx hr
          | cons c r =>
            rw [hx] at h47 k1 e3
            simp at h47 k1 e3
            subst h47
            have:=List.takeWhile_append_dropWhile (p:=Zaj) (l:=r)
            rw [e3,k1,List.append_nil] at this
            rw [this]
         rw [htail] at htw
         rw [List.append_assoc,List.append_assoc]
         congr 1
        ·cases h
theorem ZfX {l:List UInt8} {q:Rat}:Zap l=some q ↔ Zby q=l :=
 ⟨Zit,fun h=>by rw [← h]; exact Zky q⟩
end Go.Proofs.YtcpjeaaapocoeaaGreatDoor

namespace Go.Proofs.YtcpjeaaapocoeaaGreatDoor
open Go.RowKit
theorem ZgF {l:List UInt8} (hd:l.all Zaj=true) (hl:l.length≤570):wl (Zac l)≤30:=by
 rw [Zb4]
 have h1:=Zbn l hd
 obtain ⟨k,hk⟩:∃ k,k=30:=⟨_,rfl⟩
 have h2:10 ^ l.length≤10 ^ (19 * k):=Nat.pow_le_pow_right (by omega) (by omega)
 rw [← hk]
 rw [Nat.pow_mul] at h2
 have h3:(10 ^ 19) ^ k≤W64 ^ k:=Nat.pow_le_pow_left (by rw [Zai]; decide) k
 exact Nat.lt_of_lt_of_le h1 (Nat.le_trans h2 h3)
theorem ZeQ.of_len {l:List UInt8} (h:l.length≤570):ZeQ l:=by
 refine ⟨h,fun neg num den hs _=>?_⟩
 obtain ⟨d1,d2,d3⟩:=Zbw hs
 have w1:=ZgF d1 (by omega)
 have w2:=ZgF d2 (by omega)
 have hn:(sg neg (Zac num)).natAbs=Zac num:=by unfold sg; split<;>omega
 exact ZdC.words (by rw [hn]; omega) (by rw [Int.natAbs_natCast]; omega)
end Go.Proofs.YtcpjeaaapocoeaaGreatDoor

namespace Go.Proofs.YtcpjeaaapocoeaaGreatDoor
open Go.RowKit
theorem ZjL {w w':World} {e:Ending} {l:List UInt8} (h:ZfY w l e w'):Zba (fun x:Int × Int × Bool=>.tuple #[.agg #[.int .i64 x.1, .int .i64 x.2.1], .bool x.2.2]) (fun x _=>Zdi l x.1 x.2.1 x.2.2) w e w':=by
 obtain ⟨a,b,ok,rfl,hS,Q⟩:=h
 exact ⟨(a,b,ok),rfl,Q,BoxN.pure hS⟩
abbrev ShSp:=Bool × ByteArray × ByteArray × Bool
theorem ZjM {w w':World} {e:Ending} {s:ByteArray} (h:ZfN s w e w'):Zba (fun x:ShSp=>.tuple #[.agg #[.bool x.1, .string x.2.1, .string x.2.2.1], .bool x.2.2.2]) (fun x _=>Zat (bytes s)=(x.1,bytes x.2.1,bytes x.2.2.1,x.2.2.2)) w e w':=by
 obtain ⟨neg,t,d,ok,rfl,hS,Q⟩:=h
 exact ⟨(neg,t,d,ok),rfl,Q,BoxN.pure hS⟩
theorem Zl7 {x:ByteArray} (h:bytes x=[]):(x.toList == (⟨#[]⟩:ByteArray).toList)=true:=by
 rw [Lib.toList_data,Lib.toList_data,show x.data.toList=[] from h]; rfl
theorem Zl8 {x:ByteArray} (h:¬ bytes x=[]):(x.toList == (⟨#[]⟩:ByteArray).toList)=false:=by
 rw [Lib.toList_data,Lib.toList_data]
 exact beq_eq_false_iff_ne.2 h
theorem ZkA {l:List UInt8} {neg:Bool} {t d:List UInt8} (h:Zat l=(neg,t,d,false)):Zap l=none:=by unfold Zap; rw [h]
theorem ZkB {l:List UInt8} {neg:Bool} {t d:List UInt8} (h:Zat l=(neg,t,d,true)) (hd:d=[]):(Zap l).isSome=true:=by unfold Zap; rw [h]; simp [hd]
theorem ZkC {l:List UInt8} {neg:Bool} {t d:List UInt8} (h:Zat l=(neg,t,d,true)) (hd:¬ d=[]):(Zap l).isSome=decide (((Int.gcd (Zac t:Int) (Zac d:Int):Nat):Int)=1):=by
 unfold Zap
 rw [h]
 have e:Int.gcd (Zac t:Int) (Zac d:Int)=Nat.gcd (Zac t) (Zac d):=rfl
 rw [e]
 simp only [if_neg hd]
 by_cases hg:Nat.gcd (Zac t) (Zac d)=1
 ·rw [if_pos hg,hg]; rfl
 ·rw [if_neg hg]; simp; omega
theorem ZjN {l:List UInt8} {a b:Int} (h:Zdi l a b true):(Zap l).isSome=true:=by
 rcases h with ⟨_,q,h,_⟩ | ⟨h,_⟩
 ·rw [h]; rfl
 ·cases h
theorem ZkD (s:ByteArray) (w:World) (hg:Glob w) (hs:(bytes s).length≤570) :
 Calls Tryz.prog 187 #[.string s] w (RetV w (.bool (Zap (bytes s)).isSome)):=by
 have hs8:s.size≤1099511627776:=by rw [Zaf] at hs; omega
 refine Za9 (Φ:=fun w=>Glob w) Tryz.func187 rfl (by kernel_rfl) (fun w' hf=>hg.ext hf) ?_
 refine Zad (Zab (xr 1 [(0, .v (.string s)),(2, .v (.bool false))] [] ?_))
 refine xe (Zaa (Zad (Zad (Zab (xr 1 [(0, .v (.string s)),(2, .v (.bool false)),(8, .v (.string s))] [] ?_)))))
 refine xc 233 [.string s] 9 (fun x:Int × Int × Bool=>.tuple #[.agg #[.int .i64 x.1, .int .i64 x.2.1], .bool x.2.2]) _ (fun w R Q=>(ZhE s _ hs8).mono (fun _ _=>ZjL)) (fun xx=>?_)
 obtain ⟨sa,sb,xok⟩:=xx
 rcases xok with _ | _
 ·refine xr 6 [(0, .v (.string s)),(2, .v (.bool false)),(4, .v (.bool false))] [] ?_
  refine xe (Zaa (Zad (Zab (xr 1 [(0, .v (.string s)),(2, .v (.bool false)),(12, .v (.bool false))] [] ?_))))
  refine xe (Zaa (xb (ZaK (Zaa (Zad (Zab (xr 1 [(2, .v (.bool false)),(14, .v (.string s))] [] ?_)))))))
  refine xc 280 [.string s] 15 (fun x:ShSp=>.tuple #[.agg #[.bool x.1, .string x.2.1, .string x.2.2.1], .bool x.2.2.2]) _ (fun w R Q=>(ZeP s _ hs8).mono (fun _ _=>ZjM)) (fun xx=>?_)
  obtain ⟨xneg,xt,sd,yok⟩:=xx
  rcases yok with _ | _
  ·refine xr 6 [(2, .v (.bool false)),(5, .p 5 0),(6, .v (.bool false))] [(5,360,[.v (.bool xneg), .v (.string xt), .v (.string sd)])] ?_
   refine xe (Zaa (Zad (Zad ?_)))
   refine SXc.know (p:=Zat (bytes s)=(xneg,bytes xt,bytes sd,false)) (fun w _ Q=>Q.2) (fun HK=>?_)
   refine Zab (xr 7 [(2, .v (.bool false)),(5, .p 5 0),(6, .v (.bool false)),(24, .v (.bool true))] [(5,360,[.v (.bool xneg), .v (.string xt), .v (.string sd)])] ?_)
   refine xe (Zaa (xa (Zad (Zab (xr 2 [(2, .v (.bool false)),(5, .p 5 0)] [(5,360,[.v (.bool xneg), .v (.string xt), .v (.string sd)])] ?_)))))
   refine xe (Zaa (Zau (Zak ?_)))
   refine Zaq (v:=.bool false) (by kernel_rfl) (fun w' R Q=>?_)
   exact ⟨by rw [ZkA HK]; rfl,R⟩
  ·refine xr 6 [(2, .v (.bool false)),(5, .p 5 0),(6, .v (.bool true))] [(5,360,[.v (.bool xneg), .v (.string xt), .v (.string sd)])] ?_
   refine xe (Zaa (Zad (Zad ?_)))
   refine SXc.know (p:=Zat (bytes s)=(xneg,bytes xt,bytes sd,true)) (fun w _ Q=>Q.2) (fun HK=>?_)
   by_cases hd:bytes sd=[]
   ·refine Zab (xr 6 [(2, .v (.bool false)),(5, .p 5 0),(6, .v (.bool true)),(20, .v (.bool false)),(23, .v (.bool ((sd:ByteArray).toList == (⟨#[]⟩:ByteArray).toList)))] [(5,360,[.v (.bool xneg), .v (.string xt), .v (.string sd)])] ?_)
    rw [Zl7 hd]
    refine xr 1 [(2, .v (.bool false)),(5, .p 5 0),(6, .v (.bool true)),(24, .v (.bool true))] [(5,360,[.v (.bool xneg), .v (.string xt), .v (.string sd)])] ?_
    refine xe (Zaa (xa (Zad (Zab (xr 2 [(2, .v (.bool true)),(5, .p 5 0)] [(5,360,[.v (.bool xneg), .v (.string xt), .v (.string sd)])] ?_)))))
    refine xe (Zaa (Zau (Zak ?_)))
    refine Zaq (v:=.bool true) (by kernel_rfl) (fun w' R Q=>?_)
    exact ⟨by rw [ZkB HK hd],R⟩
   ·refine Zab (xr 6 [(2, .v (.bool false)),(5, .p 5 0),(6, .v (.bool true)),(20, .v (.bool false)),(23, .v (.bool ((sd:ByteArray).toList == (⟨#[]⟩:ByteArray).toList)))] [(5,360,[.v (.bool xneg), .v (.string xt), .v (.string sd)])] ?_)
    rw [Zl8 hd]
    refine xr 1 [(2, .v (.bool false)),(5, .p 5 0),(6, .v (.bool true)),(24, .v (.bool false))] [(5,360,[.v (.bool xneg), .v (.string xt), .v (.string sd)])] ?_
    refine xe (Zaa (xb (ZaK (Zaa (Zad ?_)))))
    obtain ⟨hdigxt,hdigsd,hll⟩:=Zbw HK
    have hprsxt:ZbP xt.size:=by unfold ZbP; rw [← Zaf]; omega
    have hprssd:ZbP sd.size:=by unfold ZbP; rw [← Zaf]; omega
    have hwt:wl ((Zac (bytes xt):Nat):Int).natAbs≤79:=by rw [Int.natAbs_natCast]; exact Nat.le_trans (ZgF hdigxt (by omega)) (by decide)
    have hwd:wl ((Zac (bytes sd):Nat):Int).natAbs≤79:=by rw [Int.natAbs_natCast]; exact Nat.le_trans (ZgF hdigsd (by omega)) (by decide)
    have hft:Fits ((Zac (bytes xt):Nat):Int):=by unfold Fits; omega
    have hfd:Fits ((Zac (bytes sd):Nat):Int):=by unfold Fits; omega
    refine Zfh 9 (by kernel_rfl) (by kernel_rfl) ZaD ?_
    refine xf 2 [(2, .v (.bool false)),(5, .p 5 0),(27, .v (.string xt))] [(5,360,[.v (.bool xneg), .v (.string xt), .v (.string sd)])] ?_
    refine xd 52 [.string xt] 28 Zgy _ (fun w R Q=>(Zb6 xt _ hdigxt hprsxt).mono (fun _ _=>ZfR)) (fun xx=>?_)
    obtain ⟨s10,A10,l10,c10⟩:=xx
    refine xf 2 [(2, .v (.bool false)),eI2 28 s10 A10 l10 c10,(30, .v (.string sd))] [(5,360,[.v (.bool xneg), .v (.string xt), .v (.string sd)])] ?_
    refine xd 52 [.string sd] 31 Zgy _ (fun w R Q=>(Zb6 sd _ hdigsd hprssd).mono (fun _ _=>ZfR)) (fun xx=>?_)
    obtain ⟨s11,A11,l11,c11⟩:=xx
    refine xf 0 [(2, .v (.bool false)),eI2 28 s10 A10 l10 c10,eI2 31 s11 A11 l11 c11] [(5,360,[.v (.bool xneg), .v (.string xt), .v (.string sd)])] ?_
    refine xd 121 [vI2 s10 A10 l10 c10,vI2 s11 A11 l11 c11] 32 Zgy _ (fun w R Q=>(ZgU _ _ ((Zac (bytes xt):Int)) ((Zac (bytes sd):Int)) _ Q.1.1.1.1 Q.1.2 Q.2 hft hfd (ZdC.words hwt hwd)).mono (fun _ _=>ZfR)) (fun xx=>?_)
    obtain ⟨s12,A12,l12,c12⟩:=xx
    refine xf 0 [(2, .v (.bool false)),eI2 32 s12 A12 l12 c12] [(5,360,[.v (.bool xneg), .v (.string xt), .v (.string sd)])] ?_
    refine xd 120 [vI2 s12 A12 l12 c12] 33 (fun _:Unit=>.bool (decide ((((Int.gcd ((Zac (bytes xt):Int)) ((Zac (bytes sd):Int)):Nat):Int))=1))) _ (fun w R Q=>(ZeK _ (((Int.gcd ((Zac (bytes xt):Int)) ((Zac (bytes sd):Int)):Nat):Int)) _ Q.2).mono (fun _ _ h=>ZaB h rfl)) (fun xx=>?_)
    refine xf 1 [(2, .v (.bool (decide ((((Int.gcd ((Zac (bytes xt):Int)) ((Zac (bytes sd):Int)):Nat):Int))=1))))] [(5,360,[.v (.bool xneg), .v (.string xt), .v (.string sd)])] ?_
    refine xz (xe (Zaa (Zau ?_)))
    refine Zaq (v:=.bool (decide ((((Int.gcd ((Zac (bytes xt):Int)) ((Zac (bytes sd):Int)):Nat):Int))=1))) (by kernel_rfl) (fun w' R Q=>?_)
    exact ⟨by rw [ZkC HK hd],R⟩
 ·refine xr 6 [(0, .v (.string s)),(2, .v (.bool false)),(4, .v (.bool true))] [] ?_
  refine xe (Zaa (Zad (Zab (xr 1 [(0, .v (.string s)),(2, .v (.bool false)),(12, .v (.bool true))] [] ?_))))
  refine xe (Zaa (xa (Zad (Zab (xr 1 [(0, .v (.string s)),(2, .v (.bool true))] [] ?_)))))
  refine xe (Zaa (Zau (Zak ?_)))
  refine Zaq (v:=.bool true) (by kernel_rfl) (fun w' R Q=>?_)
  exact ⟨by rw [ZjN Q.2],R⟩
end Go.Proofs.YtcpjeaaapocoeaaGreatDoor

namespace Go.Proofs.YtcpjeaaapocoeaaGreatDoor
open Go.RowKit
theorem res2 {fn:Func} {tmps:Array Value} {w:World} {p q:Nat} {T:TypeId} {zs:List Value} {e:Int} (hr:fn.results=#[ResultVar.cell 4 T,ResultVar.cell 5 30]) (h4:tmps[4]? = some (.pointer (some ⟨p,0,none⟩))) (h5:tmps[5]? = some (.pointer (some ⟨q,0,none⟩)))
 (hp:Blk T w p zs.toArray) (hq:Blk 30 w q #[.int .i64 e]) (hT:(teOf Tryz.prog T).map (fun e=>(e.agg,e.size))=some (true,zs.length)):(results fn tmps).run Tryz.prog w=.ok (.tuple #[.agg zs.toArray, .int .i64 e]) w:=by
 obtain ⟨te,hte,h1⟩:=Option.map_eq_some_iff.1 hT
 injection h1 with ha hn
 have Q:(teOf Tryz.prog 30).map (fun e=>e.agg)=some false:=by kernel_rfl
 obtain ⟨ee,hee,hea⟩:=Option.map_eq_some_iff.1 Q
 have l1:=Zc6 (P:=Tryz.prog) (w:=w) hte (g:=p) (off:=0) (cs:=zs) hn.symm (fun j hj=>by rw [Nat.zero_add,hp.cell]; simp [hj]) ha
 have l2:=ZdT (P:=Tryz.prog) (w:=w) hee (g:=q) (off:=0) (c:=.int .i64 e) (by rw [hq.cell]; rfl) hea
 simp only [Instr.loadAt,Instr.sureAddr,Sem.run_bind,Sem.run_pure,Result.andThen_ok] at l1 l2
 rw [Zgx,hr,Array.mapM_eq_mapM_toList]
 simp [Zd6,h4,h5,asAddr,l1,l2,Result.andThen_ok]
end Go.Proofs.YtcpjeaaapocoeaaGreatDoor
