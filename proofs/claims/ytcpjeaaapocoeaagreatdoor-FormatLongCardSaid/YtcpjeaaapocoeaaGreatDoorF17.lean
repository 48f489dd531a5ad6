/-
 My texts Gen, Small, Rat2, SxK, Sx8, Sx9, Sx12, Sx13, Sx14, Sx15, Sx16, Sx18, Mo, Sx19, Sx20, Bu, Wl, In, Sx21, Sx22, Pd, Wp, Reduce, Frac, Ra, Sx17, Pw, Kar, Dvb, Dvc, Spl, Spl2, Print, Num6, Num7, RStr, Comb, CrtM, Fermat, DecR, Rt, Reduce2, Fm0, Fm1, Fm2 put together.
-/
import Derived.Test.YtcpjeaaapocoeaaGreatDoorF12
import Derived.Test.YtcpjeaaapocoeaaGreatDoorF14
import Derived.Test.YtcpjeaaapocoeaaGreatDoorF16
import Derived.Outline
import Derived.Test.YtcpjeaaapocoeaaGreatDoorF13
import Derived.Test.YtcpjeaaapocoeaaGreatDoorF01
import Derived.Deep.LoopGhost
import Derived.Test.YtcpjeaaapocoeaaGreatDoorF08
import Derived.Deep.DeepCutAuto
import Derived.Deep.RegionHeld3
import Derived.Laws.CopyOwn
import Derived.Maps.AppendAt
import Derived.Laws.MakeOwn
import Derived.Lib.Builder
import Derived.Shelf.Strings.Builder1
import Derived.Lib.Split
import Derived.Deep.RegionWith
import Derived.ArgAppend
import Derived.Test.YtcpjeaaapocoeaaGreatDoorF15
import Derived.Test.YtcpjeaaapocoeaaGreatDoorF06
import Derived.Test.YtcpjeaaapocoeaaGreatDoorF03
import Derived.Test.YtcpjeaaapocoeaaGreatDoorF07
import Derived.Deep.RegionLaw
import Derived.Laws.IdiomStrings
import Derived.Deep.QuietTactic
import Derived.BigQuiet
import Derived.Recover
import Derived.Defers
set_option maxRecDepth 100000
namespace Go.Proofs.YtcpjeaaapocoeaaGreatDoor
open Go.RowKit
theorem Zbh:Tryz.prog.follows .mixedOrders=true:=by kernel_rfl
theorem ZaN.shp {w:World} {v:Value} {q:Rat} (h:ZaN w v q):∃ (s:Bool) (A:Option Addr) (l c:Nat) (t:Bool) (B:Option Addr) (l' c':Nat),v=.agg #[.bool s, .slice A l c, .bool t, .slice B l' c']:=by
 obtain ⟨s,t,A,B,l,c,l',c',h,_⟩:=h
 exact ⟨s,A,l,c,t,B,l',c',h⟩
theorem ZjY {a b c d a' b' c' d':Value} (h:Value.agg #[a,b,c,d]=.agg #[a',b',c',d']):a=a'∧b=b'∧c=c'∧d=d':=by
 injection h with h
 simpa using h
theorem ZaN.num {w:World} {a b c d:Value} {q:Rat} (h:ZaN w (.agg #[a,b,c,d]) q):Zay w (.agg #[a,b]) q.num:=by
 obtain ⟨s,t,A,B,l,c,l',c',h,h1,h2⟩:=h
 obtain ⟨rfl,rfl,rfl,rfl⟩:=ZjY h
 exact h1
theorem Zgr {t0:TypeId} {w wb:World} {c0:Array Value} (h:w.alloc (.cells c0 t0)=wb):Blk t0 wb w.heap.size c0∧Ext w wb:=by
 subst h; exact ⟨Blk.new _ _ _,(Fr.refl _ _).alloc _⟩
theorem ZkG {t0 t1:TypeId} {w wb:World} {c0 c1:Array Value} (h:(w.alloc (.cells c0 t0)).alloc (.cells c1 t1)=wb):Blk t0 wb w.heap.size c0∧Blk t1 wb (w.heap.size + 1) c1∧Ext w wb:=by
 obtain ⟨b0,e0⟩:=Zgr (w:=w) (c0:=c0) (t0:=t0) rfl
 have e:(w.alloc (.cells c0 t0)).heap.size=w.heap.size + 1:=by simp
 obtain ⟨b1,e1⟩:=Zgr h
 rw [e] at b1
 exact ⟨b0.ext e1,b1,e0.trans e1⟩
theorem Zif {t0 t1 t2:TypeId} {w wb:World} {c0 c1 c2:Array Value} (h:((w.alloc (.cells c0 t0)).alloc (.cells c1 t1)).alloc (.cells c2 t2)=wb):Blk t0 wb w.heap.size c0∧Blk t1 wb (w.heap.size + 1) c1∧Blk t2 wb (w.heap.size + 1 + 1) c2∧Ext w wb:=by
 obtain ⟨b0,b1,e0⟩:=ZkG (w:=w) (c0:=c0) (t0:=t0) (c1:=c1) (t1:=t1) rfl
 have e:((w.alloc (.cells c0 t0)).alloc (.cells c1 t1)).heap.size=w.heap.size + 1 + 1:=by simp
 obtain ⟨b2,e2⟩:=Zgr h
 rw [e] at b2
 exact ⟨b0.ext e2,b1.ext e2,b2,e0.trans e2⟩
section
variable {ops:Array Oper} {S:World→Prop} {o:Oper} {a:Act} {p:Operand} {g off:Nat} {x y z u v:Value}
end
end Go.Proofs.YtcpjeaaapocoeaaGreatDoor

namespace Go.Proofs.YtcpjeaaapocoeaaGreatDoor
open Go.RowKit
end Go.Proofs.YtcpjeaaapocoeaaGreatDoor

namespace Go.Proofs.YtcpjeaaapocoeaaGreatDoor
open Go.RowKit
end Go.Proofs.YtcpjeaaapocoeaaGreatDoor

namespace Go.Proofs.YtcpjeaaapocoeaaGreatDoor
open Go.RowKit
section
variable {S:Nat→Prop} {w w' w0:World} {k:IntKind} {A:Option Addr} {xs:List Nat}
theorem Zai.nrb (hk:k≠.i64) (h:Zai k w A xs) (hS:∀ i,S i→NRB w i) (hF:Fr S w w'):Zai k w' A xs:=by
 cases xs with
 | nil=>exact Zai.nil
 | cons x xs =>
   refine h.fr hF (fun ad hA hlt hs=>?_)
   obtain ⟨g,off,e',_,hcl⟩:=h.at (i:=0) (by simp)
   rw [e'] at hA
   injection hA with hA
   subst hA
   obtain ⟨t,cs,hB,hc⟩:=hS _ hs
   rw [hB.cell] at hcl
   exact hk (hc _ _ _ hcl)
theorem Zae.nrb {u:Value} {n:Nat} (h:Zae w u n) (hS:∀ i,S i→NRB w i) (hF:Fr S w w'):Zae w' u n:=by
 obtain ⟨A',xs,c',h1,h2,h3,h4⟩:=h
 exact ⟨A',xs,c',h1,h2,h3.nrb (by decide) hS hF,h4⟩
theorem Zay.nrb {v:Value} {z:Int} (h:Zay w v z) (hS:∀ i,S i→NRB w i) (hF:Fr S w w'):Zay w' v z:=by
 obtain ⟨s',u,n,h1,h2,h3⟩:=h
 exact ⟨s',u,n,h1,h2.nrb hS hF,h3⟩
theorem ZaN.nrb {v:Value} {q:Rat} (h:ZaN w v q) (hS:∀ i,S i→NRB w i) (hF:Fr S w w'):ZaN w' v q:=by
 obtain ⟨s,t,A,B,l,c,l',c',h1,h2,h3⟩:=h
 exact ⟨s,t,A,B,l,c,l',c',h1,h2.nrb hS hF,h3.nrb hS hF⟩
theorem NRB.ext {i:Nat} (h:NRB w i) (he:Ext w w'):NRB w' i:=by
 obtain ⟨t,cs,hB,hc⟩:=h
 exact ⟨t,cs,hB.ext he,hc⟩
theorem boxn {φ:World→Prop} (he:Ext w w') (h:∀ S w'',(∀ i,S i→NRB w' i)→Fr S w' w''→φ w''):BoxN w w' φ:=fun S hS w'' hf=>h S w'' (fun i hi=>(hS i hi).2.ext he) hf
end
abbrev ShQ:=Bool × Option Addr × Nat × Nat × Bool × Option Addr × Nat × Nat
abbrev ShN:=Option Addr × Nat × Nat
def ZeJ (x:ShQ):Value:=.agg #[.bool x.1, .slice x.2.1 x.2.2.1 x.2.2.2.1, .bool x.2.2.2.2.1, .slice x.2.2.2.2.2.1 x.2.2.2.2.2.2.1 x.2.2.2.2.2.2.2]
section
variable {w w':World} {e:Ending}
theorem ZaD {v u:Value} (h:e=.returned v∧Ext w w') (hv:v=u):ZbQ (fun _:Unit=>u) (fun _ _=>True) w e w':=by
 obtain ⟨rfl,Q⟩:=h
 subst hv
 exact ⟨(),rfl,Q,BoxN.pure trivial⟩
end
end Go.Proofs.YtcpjeaaapocoeaaGreatDoor

namespace Go.Proofs.YtcpjeaaapocoeaaGreatDoor
open Go.RowKit
section
variable {N:Nat} {S0:Nat→Prop} {w0:World} {s s':St} {Φ Ψ Φ0:World→Prop} {L:Nat→Nat} {a:Act} {w:World} {P:Program} {ops:Array Oper} {Q:Exit→Act→World→Prop} {o:Oper}
theorem Za7.of {sl:SlL} {bl:BlL} (h:(sl.map (fun q=>s.sl q.1),bl.map (fun q=>s.bl q.1))=(sl.map (fun q=>some q.2),bl.map (fun q=>some q.2))):Za7 s sl bl:=h
def Zkk (N:Nat) (S0:Nat→Prop) (w0:World) (J:Nat→St→(World→Prop)→Prop) (n:Nat) (a:Act) (w:World):Prop:=∃ n' s' Φ' L',n' < n∧J n' s' Φ'∧Inv N S0 w0 s' Φ' L' a w
theorem ZeK {c:Code} (J:Nat→St→(World→Prop)→Prop) (n0:Nat) (h0:J n0 s Φ)
 (round:∀ n s Φ,J n s Φ→SXc P N S0 w0 (Exit.then (Zkk N S0 w0 J n) Q) c s Φ):SXc P N S0 w0 Q (.loop c) s Φ:=fun L a w hi=>by
 refine wp_loop_ghost (fun n a w=>∃ s Φ L,J n s Φ∧Inv N S0 w0 s Φ L a w) n0 ⟨s,Φ,L,h0,hi⟩ ?_
 rintro n a w ⟨s,Φ,L,hJ,hi⟩
 refine wp_mono (round n s Φ hJ L a w hi) ?_
 intro e a' w' hq
 cases e with
 | normal =>
   obtain ⟨n',s',Φ',L',h1,h2,h3⟩:=hq
   exact ⟨n',h1,s',Φ',L',h2,h3⟩
 | exit id=>exact hq
 | goto l=>exact hq
 | ret=>exact hq
 | panic ch=>exact hq
 | outgrown=>exact hq
theorem ZcE {J:Nat→St→(World→Prop)→Prop} {n:Nat} (n':Nat) (hlt:n' < n) (h:J n' s Φ):SXq N S0 w0 (Exit.then (Zkk N S0 w0 J n) Q .normal) s Φ:=fun _ _ _ hi=>⟨n',s,Φ,_,hlt,h,hi⟩
end
end Go.Proofs.YtcpjeaaapocoeaaGreatDoor

namespace Go.Proofs.YtcpjeaaapocoeaaGreatDoor
open Go.RowKit
theorem ZjZ (x:ByteArray):(x.toList == x.toList)=true:=by simp
theorem ZfV {P:Program} {ρ:Operand→Value} {w:World} {t e:TypeId} {n sz:Nat} {z:Value} {parts:Array (Nat × Operand)} {cells:Array Value} (ht:P.underlying t=some (.slice e))
 (hinfo:(P.info? e).map (fun i=>(i.zero,i.size))=some (some z,sz)) (hn:Nat.ble (n * sz) 1000=true) (hn0:Nat.beq (n * sz) 0=false)
 (hf:Instr.fill (fun i=>some (i * sz,sz)) ((List.range (n * sz)).map (fun i=>z.cells[i % z.cells.size]!)).toArray (parts.toList.map fun q=>(q.1,ρ q.2))=some cells) :
 (Instr.buildSlice t n (parts.map fun q:Nat × Operand=>(q.1,ρ q.2))).run P w=.ok (.slice (some ⟨w.heap.size,0,none⟩) n n) (w.alloc (.cells cells e)):=by
 obtain ⟨i,hi,h1⟩:=Option.map_eq_some_iff.1 hinfo
 injection h1 with h1 h2
 have hn':=Nat.le_of_ble_eq_true hn
 have hn1:¬ n * sz=0:=fun h=>by rw [h] at hn0; cases hn0
 have hn2:¬ 2 ^ 24 < n * sz:=by omega
 have e1:(Array.range (n * sz)).map (fun i=>z.cells[i % z.cells.size]!)=((List.range (n * sz)).map (fun i=>z.cells[i % z.cells.size]!)).toArray:=by
  apply Array.ext'; simp
 have e2:(parts.map fun q:Nat × Operand=>(q.1,ρ q.2)).toList=parts.toList.map fun q=>(q.1,ρ q.2):=by simp
 unfold Instr.buildSlice
 simp [underlying,ht,sizeOf,typeInfo,hi,h2,zeroValue,h1,hn1,hn2,e1,hf,newRow,newObj,Result.andThen]
 rfl
theorem ZbP {P:Program} {o:Oper} {ρ:Operand→Value} {w:World} {t e:TypeId} {n sz:Nat} {z:Value} {parts:Array (Nat × Operand)} {cells:Array Value} (ho:o.op=Op.buildSlice t n parts) (ht:P.underlying t=some (.slice e))
 (hinfo:(P.info? e).map (fun i=>(i.zero,i.size))=some (some z,sz)) (hn:Nat.ble (n * sz) 1000=true) (hn0:Nat.beq (n * sz) 0=false)
 (hf:Instr.fill (fun i=>some (i * sz,sz)) ((List.range (n * sz)).map (fun i=>z.cells[i % z.cells.size]!)).toArray (parts.toList.map fun q=>(q.1,ρ q.2))=some cells) :
 Does P o ρ w (DoR (fun b:Nat=>.slice (some ⟨b,0,none⟩) n n) (fun b w=>Blk e w b cells) w):=by
 have hrun:=ZfV (w:=w) ht hinfo hn hn0 hf
 exact Or.inl ⟨_,_,by simp [execOp,ho,hrun,Result.andThen],w.heap.size,rfl,(Fr.refl _ w).alloc _,fun S hS w'' hF=>(Blk.new w e cells).fr hF (fun h=>by have:=(hS _ h).1; omega)⟩
end Go.Proofs.YtcpjeaaapocoeaaGreatDoor

namespace Go.Proofs.YtcpjeaaapocoeaaGreatDoor
open Go.RowKit
open Classical in
theorem Fr.split {A B:Nat→Prop} {w w2:World} (h:Fr (fun i=>A i∨B i) w w2):∃ w1,Fr A w w1∧Fr B w1 w2:=by
 have hg:∀ i,i < w2.heap.size→(w2.heap.mapIdx fun i o=>if A i∨w.heap.size≤i then o else (w.heap[i]?).getD o)[i]? = if A i∨w.heap.size≤i then w2.heap[i]? else w.heap[i]? := by
  intro i hi
  rw [Array.getElem?_mapIdx,Array.getElem?_eq_getElem hi]
  by_cases hc:A i∨w.heap.size≤i
  ·simp [hc]
  ·have hlt:i < w.heap.size:=by
    rcases Nat.lt_or_ge i w.heap.size with h' | h'
    ·exact h'
    ·exact absurd (Or.inr h') hc
   simp only [hc,Option.map_some,if_false,Array.getElem?_eq_getElem hlt,Option.getD_some]
 refine ⟨{ w2 with heap:=w2.heap.mapIdx fun i o=>if A i∨w.heap.size≤i then o else (w.heap[i]?).getD o },⟨h.os,h.tape,h.output,?_,fun i hi ha=>?_⟩,⟨rfl,rfl,rfl,?_,fun i hi hb=>?_⟩⟩
 ·simpa using h.size
 ·have h2:=hg i (Nat.lt_of_lt_of_le hi h.size)
  rw [if_neg (fun hc=>hc.elim ha (fun h'=>by omega))] at h2
  exact h2
 ·simp
 ·have hi2:i < w2.heap.size:=by simpa using hi
  have h2:=hg i hi2
  by_cases hc:A i∨w.heap.size≤i
  ·rw [if_pos hc] at h2; exact h2.symm
  ·rw [if_neg hc] at h2
   have hlt:i < w.heap.size:=by
    rcases Nat.lt_or_ge i w.heap.size with h' | h'
    ·exact h'
    ·exact absurd (Or.inr h') hc
   exact (h.block i hlt (fun h'=>h'.elim (fun ha=>hc (Or.inl ha)) hb)).trans h2.symm
theorem Own.same {k:IntKind} {t:TypeId} {w w':World} {b:Nat} {xs:List Nat} (h:Own k t w b xs) (e:w'.heap[b]? = w.heap[b]?):Own k t w' b xs:=by
 obtain ⟨tail,h1,h2⟩:=h
 exact ⟨tail,h1,e.trans h2⟩
section
variable {N:Nat} {S0:Nat→Prop} {w0:World} {s:St} {Φ Ψ:World→Prop} {L:Nat→Nat} {a:Act} {w:World} {P:Program} {ops:Array Oper} {Q:Exit→Act→World→Prop}
theorem Inv.notOwn (h:Inv N S0 w0 s Φ L a w) {r j:Nat} {c:Value} (hc:∀ w,Φ w→w.cell? ⟨r,j,none⟩=some c):¬ s.own L r:=fun ho=>by
 have h1:=hc w h.box.self
 have key:∀ u:Value,u≠c→False:=fun u hu=>by
  have h2:=hc (w.setCell ⟨r,j,none⟩ u) (h.box _ ((Fr.refl _ _).setCell (p:=⟨r,j,none⟩) (Or.inl ho) u))
  rw [World.cell?_setCell_same _ _ _ h1] at h2
  injection h2 with h2
  exact hu h2
 by_cases e:c=.bool true
 ·exact key (.bool false) (by rw [e]; intro h; cases h)
 ·exact key (.bool true) (fun h=>e h.symm)
theorem Inv.eff (h:Inv N S0 w0 s Φ L a w) {w':World} {r:Nat} (hF:Fr (fun i=>i=r) w w') (hr:¬ s.own L r) (hnew:w0.heap.size≤r∨S0 r) (hlt:r < w.heap.size)
 (hΨ:∀ w1 w2,Φ w1→Fr (fun i=>i=r) w1 w2→w2.heap[r]? = w'.heap[r]? → Ψ w2):Inv N S0 w0 s Ψ L a w':=by
 refine ⟨h.size,h.df,h.sl,⟨fun b t cs e=>(h.mem.blk b t cs e).fr hF (fun e'=>hr ⟨b,by rw [e]; rfl,e'⟩),h.mem.inj,h.mem.old,h.mem.ext.next hF (fun i hi e=>?_),h.mem.slp,h.mem.cel⟩,fun w2 hf=>?_⟩
 ·rcases hnew with h' | h'
  ·omega
  ·rw [e]; exact h'
 ·have h2:Fr (fun i=>s.own L i∨i=r) w w2:=(hF.mono (fun i _ e=>Or.inr e)).trans (hf.mono (fun i _ e=>Or.inl e))
  obtain ⟨w1,k1,k2⟩:=h2.split
  exact hΨ w1 w2 (h.box w1 k1) k2 (hf.block r (Nat.lt_of_lt_of_le hlt hF.size) hr)
theorem ZfW {α:Type} (l:List α) (j:Nat) (c:α) (h:j < l.length):ZaZ l j [c]=l.set j c:=by
 unfold ZaZ
 rw [List.set_eq_take_append_cons_drop,if_pos h]
 simp
theorem ZhC {t e:TypeId} {k:IntKind} {b j:Nat} {xs:List Nat} (hs:(teOf P t).map (fun e=>e.size)=some 1) (hO:Own k e w b xs) (hj:j < xs.length) (v:Nat) :
 ∃ w',(Instr.storeAt t (.pointer (some ⟨b,j,none⟩)) (.int k (v:Int))).run P w=.ok () w'∧Own k e w' b (xs.set j v)∧Fr (fun i=>i=b) w w':=by
 obtain ⟨te,hte,h1⟩:=Option.map_eq_some_iff.1 hs
 obtain ⟨tail,ht,hO⟩:=hO
 obtain ⟨w',hr,hB,hF⟩:=ZcJ (P:=P) hte (g:=b) (bt:=e) (off:=j) (cur:=(xs.map fun x:Nat=>Value.int k (x:Int)) ++ tail) (v:=.int k (v:Int)) hO (by rw [h1]; rfl) (by simp [Value.cells]; omega) (fun c hc=>by simp [Value.cells] at hc; rw [hc]; rfl)
 refine ⟨w',hr,⟨tail,ht,?_⟩,hF⟩
 have e2:ZaZ ((xs.map fun x:Nat=>Value.int k (x:Int)) ++ tail) j (Value.cells (.int k (v:Int))).toList=((xs.set j v).map fun x:Nat=>Value.int k (x:Int)) ++ tail:=by
  rw [show (Value.cells (.int k (v:Int))).toList=[.int k (v:Int)] from rfl,ZfW _ _ _ (by simp; omega),List.set_append_left _ _ (by simpa using hj),List.map_set]
 rw [e2] at hB
 exact hB
theorem Zlg {i:Nat} {t e:TypeId} {k:IntKind} {x y:Operand} {xs:List Nat} (b j v:Nat) (Ψ:World→Prop) (hO:∀ w,Φ w→Own k e w b xs) (hj:j < xs.length) (hnew:w0.heap.size≤b∨S0 b)
 (hΨ:∀ w w',Φ w→Fr (fun i=>i=b) w w'→Own k e w' b (xs.set j v)→Ψ w') (K:SXi P N S0 w0 ops Q (i + 1) s Ψ)
 (hsz:Nat.blt i ops.size=true:=by kernel_rfl) (hw:s.wantB ops (opAt ops i)=some true:=by kernel_rfl) (ho:(opAt ops i).op=.store t x y:=by kernel_rfl) (hd:(opAt ops i).dst=none:=by kernel_rfl) (hs:(teOf P t).map (fun e=>e.size)=some 1:=by kernel_rfl)
 (hx:s.eval x=some (.v (.pointer (some ⟨b,j,none⟩))):=by kernel_rfl) (hy:s.eval y=some (.v (.int k (v:Int))):=by kernel_rfl):SXi P N S0 w0 ops Q i s Φ:=by
 unfold SXi
 rw [Zbr hsz]
 intro L a w hi
 refine wpList_step (fun K' hK=>?_)
 rw [if_pos (hi.want hw)]
 have hO1:=hO w hi.box.self
 obtain ⟨w',hr,hO2,hF⟩:=ZhC (P:=P) hs hO1 hj v
 unfold Oper.wp
 have ex:=hi.eval hx
 have ey:=hi.eval hy
 have hrun:(execOp a.eval (opAt ops i)).run P w=.ok .skip w':=by simp only [execOp,ho,Sem.run_bind,ex,ey,AV.conc,hr,Result.andThen_ok,Sem.run_pure]
 rw [hrun,Oper.upon_skip,hd]
 refine hK _ _ (K L _ _ (hi.eff hF (hi.notOwn (fun w R=>(hO w R).cell hj)) hnew hO1.lt (fun w1 w2 h1 h2 h3=>hΨ w1 w2 h1 h2 (hO2.same h3))))
theorem Zlp {i d:Nat} {t e:TypeId} {k kl kc:IntKind} {l c:Operand} (n bytes:Nat) (hn:n≤35184372088832) (hby:bytes≤8)
 (K:∀ b,w0.heap.size≤b→(∀ r,(∀ w,Φ w→r < w.heap.size)→r < b)→SXi P N S0 w0 ops Q (i + 1) (s.put d (.v (.slice (some ⟨b,0,none⟩) n n))) (fun w=>Box (fun j=>b≤j) w Φ∧Own k e w b (List.replicate n 0)))
 (hsz:Nat.blt i ops.size=true:=by kernel_rfl) (hw:s.wantB ops (opAt ops i)=some true:=by kernel_rfl) (hv:(opAt ops i).op.operands.toList.all s.vB=true:=by kernel_rfl) (ho:(opAt ops i).op=Op.makeSlice t l c:=by kernel_rfl) (hd:(opAt ops i).dst=some d:=by kernel_rfl) (hN:Nat.blt d N=true:=by kernel_rfl)
 (ht:P.underlying t=some (.slice e):=by kernel_rfl) (hinfo:(P.info? e).map (fun i=>(i.zero,i.size,i.bytes))=some (some (.int k 0),1,bytes):=by kernel_rfl) (hl:s.rho l=.int kl n:=by kernel_rfl) (hc:s.rho c=.int kc n:=by kernel_rfl):SXi P N S0 w0 ops Q i s Φ:=by
 unfold SXi
 rw [Zbr hsz]
 intro L a w hi
 refine wpList_step (fun K' hK=>?_)
 rw [if_pos (hi.want hw)]
 unfold Oper.wp
 have hns:ZaQ (opAt ops i).op=true:=by rw [ho]; rfl
 have hbn:bytes * n≤8 * n:=Nat.mul_le_mul_right n hby
 rw [hi.exec hns hv]
 have hrun:=run_make_row' (P:=P) t e (.int k 0) bytes ht hinfo rfl kl kc n (by omega) (by omega) w
 rw [Zdw] at hrun
 have hrun2:(execOp s.rho (opAt ops i)).run P w=.ok (.value (.slice (some ⟨w.heap.size,0,none⟩) n n)) (w.alloc (.cells (cellsOf k (List.replicate n 0) []) e)):=by simp [execOp,ho,hl,hc,hrun,Result.andThen]
 rw [hrun2,Oper.upon_value,hd]
 have R:Ext w (w.alloc (.cells (cellsOf k (List.replicate n 0) []) e)):=(Fr.refl _ w).alloc _
 have h0:=hi.app0 (d:=d) (Nat.le_of_ble_eq_true hN) (al_v (s:=s) (.slice (some ⟨w.heap.size,0,none⟩) n n))
 have hO:=Own.new w e k (List.replicate n 0) []
 refine hK _ _ (K w.heap.size hi.mem.ext.size (fun r h=>h w hi.box.self) L _ _ ⟨h0.size,h0.df,h0.sl,⟨fun b t cs e=>(h0.mem.blk b t cs e).ext R,h0.mem.inj,h0.mem.old,h0.mem.ext.ext R,h0.mem.slp,h0.mem.cel⟩,fun w2 hf=>⟨fun w3 hf3=>?_,?_⟩⟩)
 ·refine hi.box w3 ⟨hf3.os.trans (hf.os.trans R.os),hf3.tape.trans (hf.tape.trans R.tape),hf3.output.trans (hf.output.trans R.output),Nat.le_trans R.size (Nat.le_trans hf.size hf3.size),fun j hj hno=>?_⟩
  have h1:=R.block j hj (fun f=>f)
  have h2:=hf.block j (Nat.lt_of_lt_of_le hj R.size) hno
  have h3:=hf3.block j (Nat.lt_of_lt_of_le hj (Nat.le_trans R.size hf.size)) (by omega)
  exact h3.trans (h2.trans h1)
 ·refine hO.fr hf (fun ho=>?_)
  obtain ⟨b,hb,eb⟩:=ho
  obtain ⟨q,eq⟩:=Option.isSome_iff_exists.1 hb
  have:=(hi.mem.blk b q.1 q.2 eq).lt
  omega
end
def atA (A:Option Addr) (i:Nat):Value:=.pointer (A.map (·.add i))
section
variable {P:Program} {o:Oper} {ρ:Operand→Value} {w:World} {t e:TypeId} {x ix:Operand} {k:IntKind} {xs:List Nat}
theorem Zj0 {A:Option Addr} {len cap i:Nat} (hA:A≠none) (h:i < len) (ho:o.op=Op.indexAddr t x ix:=by kernel_rfl) (ht:P.underlying t=some (.slice e):=by kernel_rfl) (hs:(P.info? e).map (fun i=>i.size)=some 1:=by kernel_rfl)
 (hx:ρ x=.slice A len cap:=by kernel_rfl) (hi:ρ ix=.int .i64 ((i:Nat):Int):=by kernel_rfl):(execOp ρ o).run P w=.ok (.value (atA A i)) w:=by
 obtain ⟨inf,hinf,h1⟩:=Option.map_eq_some_iff.1 hs
 obtain ⟨a,rfl⟩:∃ a,A=some a:=by cases A; exact absurd rfl hA; exact ⟨_,rfl⟩
 have h2:(0:Int)≤(i:Int)∧(i:Int) < (len:Int):=by omega
 simp [execOp,ho,Instr.indexAt,asIntOf,underlying,ht,hx,hi,h,sizeOf,typeInfo,hinf,h1,Result.andThen,atA]
theorem Zj1 {g off len cap i:Nat} (h:i < len) (ho:o.op=Op.indexAddr t x ix:=by kernel_rfl) (ht:P.underlying t=some (.slice e):=by kernel_rfl) (hs:(P.info? e).map (fun i=>i.size)=some 1:=by kernel_rfl)
 (hx:ρ x=.slice (some ⟨g,off,none⟩) len cap:=by kernel_rfl) (hi:ρ ix=.int .i64 ((i:Nat):Int):=by kernel_rfl):(execOp ρ o).run P w=.ok (.value (.pointer (some ⟨g,off + i,none⟩))) w:=by
 rw [Zj0 (A:=some ⟨g,off,none⟩) (by simp) h ho ht hs hx hi,atA,Option.map_some,ZbG]
theorem Zj2 {g len cap i:Nat} (h:i < len) (ho:o.op=Op.indexAddr t x ix:=by kernel_rfl) (ht:P.underlying t=some (.slice e):=by kernel_rfl) (hs:(P.info? e).map (fun i=>i.size)=some 1:=by kernel_rfl)
 (hx:ρ x=.slice (some ⟨g,0,none⟩) len cap:=by kernel_rfl) (hi:ρ ix=.int .i64 ((i:Nat):Int):=by kernel_rfl):(execOp ρ o).run P w=.ok (.value (.pointer (some ⟨g,i,none⟩))) w:=by
 have:=Zj1 (w:=w) h ho ht hs hx hi
 rwa [Nat.zero_add] at this
theorem Zjl {g off:Nat} {c:Value} (hc:w.cell? ⟨g,off,none⟩=some c) (ho:o.op=Op.load t x:=by kernel_rfl) (hx:ρ x=.pointer (some ⟨g,off,none⟩):=by kernel_rfl) (ha:(teOf P t).map (fun e=>e.agg)=some false:=by kernel_rfl) :
 (execOp ρ o).run P w=.ok (.value c) w:=by
 obtain ⟨e,he,h1⟩:=Option.map_eq_some_iff.1 ha
 have:=Zdq (P:=P) (w:=w) he hc h1
 simp only [execOp,ho,hx,Sem.run_bind,this,Result.andThen_ok,Sem.run_pure]
end
end Go.Proofs.YtcpjeaaapocoeaaGreatDoor

namespace Go.Proofs.YtcpjeaaapocoeaaGreatDoor
open Go.RowKit
def ZdT (ops:Array Oper) (i k:Nat):List Nat:=((ops.toList.drop i).take k).filterMap (fun o=>o.dst)
def ZdU (l:List Nat) (sl:SlL):SlL:=sl.filter (fun q => !(l.any (Nat.beq q.1)))
def Zhd (nb:BlL) (bl:BlL):BlL:=bl.filter (fun q => !(nb.any (fun p=>Nat.beq p.1 q.1)))
section
variable {N:Nat} {S0:Nat→Prop} {w0:World} {sl:SlL} {bl:BlL} {Φ Φ0:World→Prop} {P:Program} {ops:Array Oper} {Q:Exit→Act→World→Prop}
theorem xq {i:Nat} (k:Nat) (nw:SlL) (nb:BlL) (K:SXi P N S0 w0 ops Q (i + k) (ofL (nw ++ ZdU (ZdT ops i k) sl) (nb ++ Zhd nb bl)) Φ)
 (h:ZfF P N ops i k (ofL sl bl) (nw ++ ZdU (ZdT ops i k) sl) (nb ++ Zhd nb bl)=some ((nw ++ ZdU (ZdT ops i k) sl).map (fun q=>some q.2),(nb ++ Zhd nb bl).map (fun q=>some q.2)):=by kernel_rfl)
 (h2:wfB (nw ++ ZdU (ZdT ops i k) sl) (nb ++ Zhd nb bl)=true:=by kernel_rfl):SXi P N S0 w0 ops Q i (ofL sl bl) Φ:=Zi5 k _ _ h h2 K
theorem xqg {n i:Nat} (k:Nat) (nw:SlL) (K:StI P N S0 w0 ops Φ0 Q n (i + k) (ofL (nw ++ ZdU (ZdT ops i k) sl) bl) Φ)
 (h:Zgi P N ops k i (ofL sl bl) (nw ++ ZdU (ZdT ops i k) sl)=some ((nw ++ ZdU (ZdT ops i k) sl).map (fun q=>some q.2),Zb5 bl):=by kernel_rfl) (hk:Nat.ble (i + k) n=true:=by kernel_rfl):StI P N S0 w0 ops Φ0 Q n i (ofL sl bl) Φ:=Zld k _ _ h hk K
theorem xqc {i:Nat} (f:FuncId) (args:List Value) (d:Nat) {α:Type} (sh:α→Value) (φ:α→World→Prop) (hC:∀ w,Fr S0 w0 w→Φ w→Calls P f args.toArray w (ZbQ sh φ w)) (K:∀ x,SXi P N S0 w0 ops Q (i + 1) (ofL ((d, .v (sh x)) :: sl) bl) (fun w=>Φ w∧φ x w))
 (hsz:Nat.blt i ops.size=true:=by kernel_rfl) (h:ZbM P N ops (opAt ops i) (ofL sl bl)=some (f,args,d):=by kernel_rfl):SXi P N S0 w0 ops Q i (ofL sl bl) Φ:=Zia f args d sh φ hsz h hC K
theorem xqd {n i:Nat} (f:FuncId) (args:List Value) (d:Nat) {α:Type} [hα:Nonempty α] (sh:α→Value) (φ:α→World→Prop) (hC:∀ w,Fr S0 w0 w→Φ w→Calls P f args.toArray w (ZbQ sh φ w)) (K:∀ x,StI P N S0 w0 ops Φ0 Q n (i + 1) (ofL ((d, .v (sh x)) :: sl) bl) (fun w=>Φ w∧φ x w))
 (hi:Nat.blt i n=true:=by kernel_rfl) (hm:cls (opAt ops i).op=2:=by kernel_rfl) (h:ZbM P N ops (opAt ops i) (ofL sl bl)=some (f,args,d):=by kernel_rfl):StI P N S0 w0 ops Φ0 Q n i (ofL sl bl) Φ:=ZkA f args d sh φ hi hm h hC K
theorem xqk {i:Nat} (d:Nat) (y:Value) (hx:∀ w,Fr S0 w0 w→Φ w→(execOp (ofL sl bl).rho (opAt ops i)).run P w=.ok (.value y) w) (K:SXi P N S0 w0 ops Q (i + 1) (ofL ((d, .v y) :: sl) bl) Φ)
 (hi:Nat.blt i ops.size=true:=by kernel_rfl) (hs:ZaQ (opAt ops i).op=true:=by kernel_rfl) (hw:(ofL sl bl).wantB ops (opAt ops i)=some true:=by kernel_rfl) (hv:(opAt ops i).op.operands.toList.all (ofL sl bl).vB=true:=by kernel_rfl) (hd:(opAt ops i).dst=some d:=by kernel_rfl) (hN:Nat.blt d N=true:=by kernel_rfl):SXi P N S0 w0 ops Q i (ofL sl bl) Φ :=
 ZkC d y hi hs hw hv hd hN hx K
theorem xqj {n i:Nat} (d:Nat) (y:Value) (hx:∀ w,Φ0 w→(execOp (ofL sl bl).rho (opAt ops i)).run P w=.ok (.value y) w) (K:StI P N S0 w0 ops Φ0 Q n (i + 1) (ofL ((d, .v y) :: sl) bl) Φ)
 (hi:Nat.blt i n=true:=by kernel_rfl) (hk:ZfH (opAt ops i).op=true:=by kernel_rfl) (hw:(ofL sl bl).wantB ops (opAt ops i)=some true:=by kernel_rfl) (hv:(opAt ops i).op.operands.toList.all (ofL sl bl).vB=true:=by kernel_rfl) (hd:(opAt ops i).dst=some d:=by kernel_rfl) (hN:Nat.blt d N=true:=by kernel_rfl):StI P N S0 w0 ops Φ0 Q n i (ofL sl bl) Φ :=
 ZkB d y hi hk hw hv hd hN hx K
end
end Go.Proofs.YtcpjeaaapocoeaaGreatDoor

namespace Go.Proofs.YtcpjeaaapocoeaaGreatDoor
open Go.RowKit
section
variable {N:Nat} {S0:Nat→Prop} {w0:World} {s:St} {Φ Ψ:World→Prop} {L:Nat→Nat} {a:Act} {w:World} {P:Program} {ops:Array Oper} {Q:Exit→Act→World→Prop}
end
end Go.Proofs.YtcpjeaaapocoeaaGreatDoor

namespace Go.Proofs.YtcpjeaaapocoeaaGreatDoor
open Go.RowKit
def frz (b g:Nat):AV→AV
 | .v x=>.v x
 | .p b' off=>bif Nat.beq b' b then .v (.pointer (some ⟨g,off,none⟩)) else .p b' off
theorem Zj3 (L:Nat→Nat) (b:Nat) (x:AV):(frz b (L b) x).conc L=x.conc L:=by
 cases x with
 | v x=>rfl
 | p b' off =>
   show (bif Nat.beq b' b then AV.v (.pointer (some ⟨L b,off,none⟩)) else .p b' off).conc L=_
   cases h:Nat.beq b' b with
   | true =>
     have e:=Nat.eq_of_beq_eq_true h
     subst e
     rfl
   | false=>rfl
section
variable {N:Nat} {S0:Nat→Prop} {w0:World} {s:St} {Φ:World→Prop} {P:Program} {Q:Exit→Act→World→Prop}
end
end Go.Proofs.YtcpjeaaapocoeaaGreatDoor

namespace Go.Proofs.YtcpjeaaapocoeaaGreatDoor
open Go.RowKit
section
variable {N:Nat} {S0:Nat→Prop} {w0:World} {s:St} {Φ Ψ:World→Prop} {L:Nat→Nat} {a:Act} {w:World} {P:Program} {ops:Array Oper} {Q:Exit→Act→World→Prop}
theorem ZeL {i:Nat} {t bt:TypeId} {x y:Operand} {cs:List Value} (b off:Nat) (v:Value) (Ψ:World→Prop) (hO:∀ w,Φ w→Blk bt w b cs.toArray) (hj:off < cs.length) (hnew:w0.heap.size≤b∨S0 b) (h1:v.oneCell'=true) (hv:v.cells.toList=[v])
 (hΨ:∀ w w',Φ w→Fr (fun i=>i=b) w w'→Ψ w') (K:SXi P N S0 w0 ops Q (i + 1) s (fun w=>Ψ w∧Blk bt w b (cs.set off v).toArray))
 (hsz:Nat.blt i ops.size=true:=by kernel_rfl) (hw:s.wantB ops (opAt ops i)=some true:=by kernel_rfl) (ho:(opAt ops i).op=.store t x y:=by kernel_rfl) (hd:(opAt ops i).dst=none:=by kernel_rfl) (hs:(teOf P t).map (fun e=>e.size)=some 1:=by kernel_rfl)
 (hx:s.eval x=some (.v (.pointer (some ⟨b,off,none⟩))):=by kernel_rfl) (hy:s.eval y=some (.v v):=by kernel_rfl):SXi P N S0 w0 ops Q i s Φ:=by
 unfold SXi
 rw [Zbr hsz]
 intro L a w hi
 refine wpList_step (fun K' hK=>?_)
 rw [if_pos (hi.want hw)]
 obtain ⟨te,hte,he⟩:=Option.map_eq_some_iff.1 hs
 have hB:=hO w hi.box.self
 obtain ⟨w',hr,hB2,hF⟩:=ZcJ (P:=P) hte (g:=b) (bt:=bt) (off:=off) (cur:=cs) (v:=v) hB (by rw [hv]; exact he.symm) (by rw [hv]; simp; omega) (fun c hc=>by rw [hv] at hc; simp at hc; rw [hc]; exact h1)
 rw [hv,ZfW _ _ _ hj] at hB2
 unfold Oper.wp
 have ex:=hi.eval hx
 have ey:=hi.eval hy
 have hrun:(execOp a.eval (opAt ops i)).run P w=.ok .skip w':=by simp only [execOp,ho,Sem.run_bind,ex,ey,AV.conc,hr,Result.andThen_ok,Sem.run_pure]
 rw [hrun,Oper.upon_skip,hd]
 refine hK _ _ (K L _ _ (hi.eff hF (hi.notOwn (c:=cs[off]'hj) (j:=off) (fun w R=>by have:=(hO w R).cell off; rw [this]; simp [hj])) hnew hB.lt (fun w1 w2 k1 k2 k3=>⟨hΨ w1 w2 k1 k2,k3.trans hB2⟩)))
end
end Go.Proofs.YtcpjeaaapocoeaaGreatDoor

namespace Go.Proofs.YtcpjeaaapocoeaaGreatDoor
open Go.RowKit
section
variable {N:Nat} {S0:Nat→Prop} {w0:World} {s:St} {Φ Ψ:World→Prop} {L:Nat→Nat} {a:Act} {w:World} {P:Program} {ops:Array Oper} {Q:Exit→Act→World→Prop}
theorem Zig {i:Nat} {t bt:TypeId} {x y:Operand} {cs new:List Value} (b off:Nat) (v:Value) (Ψ:World→Prop) (hO:∀ w,Φ w→Blk bt w b cs.toArray) (hj:off + new.length≤cs.length) (h0:0 < new.length) (hnew:w0.heap.size≤b∨S0 b) (h1:∀ c,c ∈ new→c.oneCell'=true) (hv:v.cells.toList=new)
 (hΨ:∀ w w',Φ w→Fr (fun i=>i=b) w w'→Ψ w') (K:SXi P N S0 w0 ops Q (i + 1) s (fun w=>Ψ w∧Blk bt w b (ZaZ cs off new).toArray))
 (hsz:Nat.blt i ops.size=true:=by kernel_rfl) (hw:s.wantB ops (opAt ops i)=some true:=by kernel_rfl) (ho:(opAt ops i).op=.store t x y:=by kernel_rfl) (hd:(opAt ops i).dst=none:=by kernel_rfl) (hs:(teOf P t).map (fun e=>e.size)=some new.length:=by kernel_rfl)
 (hx:s.eval x=some (.v (.pointer (some ⟨b,off,none⟩))):=by kernel_rfl) (hy:s.eval y=some (.v v):=by kernel_rfl):SXi P N S0 w0 ops Q i s Φ:=by
 unfold SXi
 rw [Zbr hsz]
 intro L a w hi
 refine wpList_step (fun K' hK=>?_)
 rw [if_pos (hi.want hw)]
 obtain ⟨te,hte,he⟩:=Option.map_eq_some_iff.1 hs
 have hB:=hO w hi.box.self
 obtain ⟨w',hr,hB2,hF⟩:=ZcJ (P:=P) hte (g:=b) (bt:=bt) (off:=off) (cur:=cs) (v:=v) hB (by rw [hv]; exact he.symm) (by rw [hv]; exact hj) (fun c hc=>by rw [hv] at hc; exact h1 c hc)
 rw [hv] at hB2
 unfold Oper.wp
 have ex:=hi.eval hx
 have ey:=hi.eval hy
 have hrun:(execOp a.eval (opAt ops i)).run P w=.ok .skip w':=by simp only [execOp,ho,Sem.run_bind,ex,ey,AV.conc,hr,Result.andThen_ok,Sem.run_pure]
 rw [hrun,Oper.upon_skip,hd]
 have hlt:off < cs.length:=by omega
 refine hK _ _ (K L _ _ (hi.eff hF (hi.notOwn (c:=cs[off]'hlt) (j:=off) (fun w R=>by have:=(hO w R).cell off; rw [this]; simp [hlt])) hnew hB.lt (fun w1 w2 k1 k2 k3=>⟨hΨ w1 w2 k1 k2,k3.trans hB2⟩)))
theorem Zjm {c:Code} {sl:SlL} {tmps:Array Value} (hN:tmps.size=N) (hs:sl.map (fun q=>tmps[q.1]?.map AV.v)=sl.map (fun q=>some q.2)) (R:Box (fun _=>False) w Φ) (h:SXc P N S0 w Q c (ofL sl []) Φ):c.wp P Q { tmps:=tmps,defers:=[] } w:=by
 refine h (fun _=>0) _ w ⟨hN,rfl,fun i x hx=>?_,⟨fun b t cs e=>(by cases e),fun b c e=>(by cases e),fun b e=>(by cases e),Fr.refl _ _,fun i b off e=>?_,fun b t cs e=>(by cases e)⟩,?_⟩
 ·have h1:=Zbq (f:=fun q:Nat × AV=>tmps[q.1]?.map AV.v) (g:=fun q=>some q.2) hs (ZaI hx)
  obtain ⟨v,hv,rfl⟩:=Option.map_eq_some_iff.1 h1
  exact hv
 ·have h1:=Zbq (f:=fun q:Nat × AV=>tmps[q.1]?.map AV.v) (g:=fun q=>some q.2) hs (ZaI e)
  obtain ⟨v,hv,e'⟩:=Option.map_eq_some_iff.1 h1
  cases e'
 ·intro w' hf'
  exact R w' (hf'.mono (fun i _ h'=>by obtain ⟨b,e,_⟩:=h'; cases e))
end
end Go.Proofs.YtcpjeaaapocoeaaGreatDoor

namespace Go.Proofs.YtcpjeaaapocoeaaGreatDoor
open Go.RowKit
abbrev nth (zs:List Int) (i:Nat):Int:=zs[i]?.getD 0
def IRow (w:World) (A:Option Addr) (zs:List Int):Prop:=∀ i,i < zs.length→∃ b off,A=some ⟨b,off,none⟩∧b < w.heap.size∧w.cell? ⟨b,off + i,none⟩=some (.int .i64 (nth zs i))
theorem IRow.ext {w w':World} {A:Option Addr} {zs:List Int} (h:IRow w A zs) (hf:Ext w w'):IRow w' A zs:=fun i hi=>by
 obtain ⟨b,off,e,hb,hc⟩:=h i hi
 exact ⟨b,off,e,Nat.lt_of_lt_of_le hb hf.size,(hf.cell (p:=⟨b,off + i,none⟩) hb (fun f=>f)).trans hc⟩
def sumT (zs:List Int):Nat→Int
 | 0=>0
 | k + 1=>sumT zs k + nth zs k
def ZfX (zs:List Int):Prop:=zs.length≤6∧∀ i,0≤nth zs i∧nth zs i≤1048576
theorem Zih {zs:List Int} (h:∀ i,0≤nth zs i∧nth zs i≤1048576) (k:Nat):0≤sumT zs k∧sumT zs k≤1048576 * k:=by
 induction k with
 | zero=>simp [sumT]
 | succ k ih=>have:=h k; unfold sumT; omega
def cmpF (a b:Int):Int:=if a < b then -1 else if b < a then 1 else 0
def ordL (zs ys:List Int):Nat→Int
 | 0=>0
 | k + 1=>if nth zs k=nth ys k then ordL zs ys k else cmpF (nth ys k) (nth zs k)
def ordF (zs ys:List Int):Int:=if sumT zs zs.length=sumT ys ys.length then ordL zs ys zs.length else cmpF (sumT zs zs.length) (sumT ys ys.length)
def degT (zs:List Int):Nat→Int
 | 0=>0
 | k + 1=>if degT zs k < 0 then -1 else if nth zs k < 0∨24 - degT zs k < nth zs k then -1 else degT zs k + nth zs k
def degF (zs:List Int):Int:=if 6 < zs.length then -1 else degT zs zs.length
theorem Zjn (a:Int) (w:World):Calls Tryz.prog 385 #[.int .i64 a] w fun e w'=>e=.returned (.bool false)∧w'=w:=by
 go_enter Tryz.func385,Tryz.ntmps385
 go_wp2
 go_ret
 exact ⟨by simp,rfl⟩
theorem Zdu (a b:Int) (w:World):Calls Tryz.prog 357 #[.int .i64 a, .int .i64 b] w fun e w'=>e=.returned (.int .i64 (cmpF a b))∧w'=w:=by
 obtain ⟨r,hr⟩:∃ r,cmpF a b=r:=⟨_,rfl⟩
 rw [hr]
 have HR:=zh hr
 clear hr
 go_enter Tryz.func357,Tryz.ntmps357
 go_wp2_with (go_at_call 385; refine (Zjn _ _).mono ?_; rintro e w' ⟨rfl,rfl⟩)
 all_goals
  go_ret
  have h:=HR.out
  unfold cmpF at h
  (repeat' split at h)<;>first | (subst h; exact ⟨rfl,rfl⟩) | omega
set_option maxHeartbeats 1000000 in
theorem ZiH (A:Option Addr) (c:Nat) (zs:List Int) (w:World) (hA:IRow w A zs) (hl:zs.length≤9223372036854775807):Calls Tryz.prog 320 #[.slice A zs.length c] w fun e w'=>e=.returned (.int .i64 (degF zs))∧w'=w:=by
 obtain ⟨n,hn⟩:∃ n,zs.length=n:=⟨_,rfl⟩
 unfold degF
 have HA:=zh hA
 have HN:=zh hn
 rw [hn]
 clear hA
 go_enter Tryz.func320,Tryz.ntmps320
 by_cases h6:6 < n
 ·rw [if_pos h6]
  have h6':(6:Int) < (n:Int):=by omega
  go_wp2
  go_ret
  exact ⟨rfl,rfl⟩
 ·rw [if_neg h6]
  have h6':(n:Int)≤6:=by omega
  go_wp2
  go_loop [3,11] (fun v3 v11=>∃ (k:Nat),k≤n∧v11=.int .i64 (k:Int)∧v3=.int .i64 (degT zs k)∧0≤degT zs k∧degT zs k≤24) (fun _ v=>n - (intOf v).toNat)
  case atStart=>exact ⟨0,by omega,rfl,rfl,by simp [degT],by simp [degT]⟩
  case round =>
   obtain ⟨k,hk,rfl,rfl,d0,d24⟩:=hrel
   obtain ⟨d,hd⟩:∃ d,degT zs k=d:=⟨_,rfl⟩
   rw [hd] at d0 d24 ⊢
   by_cases hlt:k < n
   ·obtain ⟨b,off,rfl,_,hc⟩:=HA.out k (by rw [HN.out]; exact hlt)
    obtain ⟨z,hz⟩:∃ z,nth zs k=z:=⟨_,rfl⟩
    rw [hz] at hc
    have hstep:Hid (degT zs (k + 1)=if d < 0 then -1 else if z < 0∨24 - d < z then -1 else d + z):=by
     unfold Hid; rw [← hd,← hz]; rfl
    have hdn:¬ d < 0:=by omega
    have hk1:(0:Int)≤(k:Int):=by omega
    have hk2:(k:Int) < (n:Int):=by omega
    have w1:IntKind.i64.wrap (24 - d)=24 - d:=IntWalk.i64_in _ (by omega)
    by_cases hz0:z < 0∨24 - d < z
    ·have HL:Hid (degT zs n = -1):=by
      have h1:=hstep.out
      rw [if_neg hdn,if_pos hz0] at h1
      have key:∀ m,degT zs (k + 1 + m) = -1:=fun m=>by
       induction m with
       | zero=>exact h1
       | succ m ih=>show (if degT zs (k + 1 + m) < 0 then _ else _)=_; rw [ih]; rfl
      have:=key (n - (k + 1))
      rwa [show k + 1 + (n - (k + 1))=n by omega] at this
     by_cases hz1:z < 0
     ·go_wp2
      go_ret
      exact ⟨by rw [HL.out]; rfl,rfl⟩
     ·have hz2:24 - d < z:=by omega
      go_wp2
      go_ret
      exact ⟨by rw [HL.out]; rfl,rfl⟩
    ·have w2:IntKind.i64.wrap (d + z)=d + z:=IntWalk.i64_in _ (by omega)
     have hz1:¬ z < 0:=by omega
     have hz2:¬ 24 - d < z:=by omega
     have HS:Hid (degT zs (k + 1)=d + z):=by
      have h1:=hstep.out
      rwa [if_neg hdn,if_neg hz0] at h1
     clear hd hz hstep hz0
     go_wp2
     go_round
     case rel=>exact ⟨k + 1,by omega,by go_num,by rw [HS.out],by rw [HS.out]; omega,by rw [HS.out]; omega⟩
     case measure=>simp [intOf]; omega
   ·obtain rfl:k=n:=by omega
    go_wp2
    go_ret
    exact ⟨rfl,rfl⟩
theorem ZfY (A:Option Addr) (c:Nat) (zs:List Int) (w:World) (hA:IRow w A zs) (hl:zs.length≤9223372036854775807):Calls Tryz.prog 246 #[.slice A zs.length c] w fun e w'=>e=.returned (.bool (decide (0≤degF zs)))∧w'=w:=by
 have H:=zh (ZiH A c zs w hA hl)
 clear hA
 go_enter Tryz.func246,Tryz.ntmps246
 go_wp2_with fail
 refine H.out.mono ?_
 rintro e w1 ⟨rfl,rfl⟩
 go_wp2
 go_ret
 exact ⟨rfl,rfl⟩
set_option maxHeartbeats 2000000 in
theorem ZgQ (A B:Option Addr) (c c2:Nat) (zs ys:List Int) (w:World) (hA:IRow w A zs) (hB:IRow w B ys) (hl:zs.length=ys.length) (hz:ZfX zs) (hy:ZfX ys) :
 Calls Tryz.prog 319 #[.slice A zs.length c, .slice B ys.length c2] w fun e w'=>e=.returned (.int .i64 (ordF zs ys))∧Ext w w':=by
 obtain ⟨n,hn⟩:∃ n,zs.length=n:=⟨_,rfl⟩
 have h6:=hz.1
 have HA:=zh hA
 have HB:=zh hB
 have HN:=zh hn
 have HL:=zh hl
 have HZ:=zh hz
 have HY:=zh hy
 obtain ⟨r,hr⟩:∃ r,ordF zs ys=r:=⟨_,rfl⟩
 have HR0:Hid (r=if sumT zs n=sumT ys n then ordL zs ys n else cmpF (sumT zs n) (sumT ys n)):=by
  unfold Hid; rw [← hr]; unfold ordF; rw [← hl,hn]
 rw [hr,← hl,hn]
 rw [hn] at h6
 clear hr
 clear hA hB hn hl hz hy
 go_enter Tryz.func319,Tryz.ntmps319
 go_wp2
 go_loop [5,6,12] (fun v5 v6 v12=>∃ (k:Nat),k≤n∧v12=.int .i64 (k:Int)∧v5=.int .i64 (sumT zs k)∧v6=.int .i64 (sumT ys k)) (fun _ _ v=>n - (intOf v).toNat)
 case atStart=>exact ⟨0,by omega,rfl,rfl,rfl⟩
 case round =>
  obtain ⟨k,hk,rfl,h5,h6v⟩:=hrel
  obtain ⟨s,hs⟩:∃ s,sumT zs k=s:=⟨_,rfl⟩
  obtain ⟨t,ht⟩:∃ t,sumT ys k=t:=⟨_,rfl⟩
  have s1:=Zih HZ.out.2 k
  have t1:=Zih HY.out.2 k
  rw [hs] at s1 h5
  rw [ht] at t1 h6v
  subst h5 h6v
  by_cases hlt:k < n
  ·obtain ⟨b,off,rfl,_,hc⟩:=HA.out k (by rw [HN.out]; exact hlt)
   obtain ⟨b2,off2,rfl,_,hc2⟩:=HB.out k (by rw [← HL.out,HN.out]; exact hlt)
   have z1:=HZ.out.2 k
   have y1:=HY.out.2 k
   have HS:Hid (sumT zs (k + 1)=s + nth zs k):=by unfold Hid; rw [← hs]; rfl
   have HT:Hid (sumT ys (k + 1)=t + nth ys k):=by unfold Hid; rw [← ht]; rfl
   obtain ⟨z,hz⟩:∃ z,nth zs k=z:=⟨_,rfl⟩
   obtain ⟨y,hy⟩:∃ y,nth ys k=y:=⟨_,rfl⟩
   rw [hz] at hc z1 HS
   rw [hy] at hc2 y1 HT
   have hk1:(0:Int)≤(k:Int):=by omega
   have hk2:(k:Int) < (n:Int):=by omega
   have w1:IntKind.i64.wrap (s + z)=s + z:=IntWalk.i64_in _ (by omega)
   have w2:IntKind.i64.wrap (t + y)=t + y:=IntWalk.i64_in _ (by omega)
   clear hs ht hz hy
   go_wp2
   go_round
   case rel=>exact ⟨k + 1,by omega,by go_num,by rw [HS.out],by rw [HT.out]⟩
   case measure=>simp [intOf]; omega
  ·obtain rfl:k=n:=by omega
   have HST:Hid (sumT zs k=s∧sumT ys k=t):=⟨hs,ht⟩
   clear hs ht
   by_cases hst:s=t
   ·have hst2:(s != t)=false:=by simp; exact hst
    have hk6:(k:Int)≤6:=by omega
    go_wp2
    go_loopw [9] (fun v9 wr=>∃ (m:Nat),m≤k∧v9=.int .i64 ((m:Int) - 1)∧Hid (ordL zs ys k=ordL zs ys m)∧Hid (Ext w wr)) (fun v _=>(intOf v + 1).toNat)
    case atStart=>exact ⟨k,Nat.le_refl _,rfl,rfl,Fr.refl _ _⟩
    case round =>
     obtain ⟨m,hm,rfl,hO,Q⟩:=hrel
     rcases m with _ | j
     ·rw [show ((0:Nat):Int) - 1 = -1 from rfl]
      have HR:Hid (r=0):=by
       unfold Hid
       rw [HR0.out,if_pos (by rw [HST.out.1,HST.out.2]; exact hst),hO.out]; rfl
      clear hm hO
      go_wp2
      go_ret
      exact ⟨by rw [HR.out]; rfl,Q.out⟩
     ·rw [show ((j + 1:Nat):Int) - 1=(j:Int) by omega]
      obtain ⟨b,off,rfl,hb,hc⟩:=HA.out.ext Q.out j (by rw [HN.out]; omega)
      obtain ⟨b2,off2,rfl,hb2,hc2⟩:=HB.out.ext Q.out j (by rw [← HL.out,HN.out]; omega)
      have HSt:Hid (ordL zs ys (j + 1)=if nth zs j=nth ys j then ordL zs ys j else cmpF (nth ys j) (nth zs j)):=rfl
      obtain ⟨z,hz⟩:∃ z,nth zs j=z:=⟨_,rfl⟩
      obtain ⟨y,hy⟩:∃ y,nth ys j=y:=⟨_,rfl⟩
      rw [hz] at hc HSt
      rw [hy] at hc2 HSt
      have hj1:(0:Int)≤(j:Int):=by omega
      have hj2:(j:Int) < (k:Int):=by omega
      clear hz hy
      by_cases hzy:z=y
      ·have hzy2:(z != y)=false:=by simp; exact hzy
       have HO2:Hid (ordL zs ys k=ordL zs ys j):=by
        unfold Hid; rw [hO.out,HSt.out,if_pos hzy]
       clear hO HSt
       go_wp2
       go_region_held3 (fun w'=>w'.cell? ⟨b,off + j,none⟩=some (.int .i64 z)∧w'.cell? ⟨b2,off2 + j,none⟩=some (.int .i64 y))
        (first | exact ⟨hc,hc2⟩)
        (first | (exact fun h=>h))
       have HE2:Hid (Ext w wr.drew):=Q.out.drew
       generalize wr.drew=wd at *
       clear hc hc2 hb hb2 Q hzy hzy2
       go_wp2
       go_roundw
       case rel=>exact ⟨j,by omega,by go_num,HO2.out,HE2.out⟩
       case measure=>simp [intOf]
      ·have hzy2:(z != y)=true:=by simp; exact hzy
       have HR:Hid (r=cmpF y z):=by
        unfold Hid
        rw [HR0.out,if_pos (by rw [HST.out.1,HST.out.2]; exact hst),hO.out,HSt.out,if_neg hzy]
       clear hO HSt
       go_wp2
       go_region_held3 (fun w'=>w'.cell? ⟨b,off + j,none⟩=some (.int .i64 z)∧w'.cell? ⟨b2,off2 + j,none⟩=some (.int .i64 y))
        (first | exact ⟨hc,hc2⟩)
        (first | (go_at_call 357; refine (Zdu _ _ _).mono ?_; rintro e w' ⟨rfl,rfl⟩))
       have hcd:wr.drew.cell? ⟨b,off + j,none⟩=some (.int .i64 z):=hc
       have hcd2:wr.drew.cell? ⟨b2,off2 + j,none⟩=some (.int .i64 y):=hc2
       have HE2:Hid (Ext w wr.drew):=Q.out.drew
       generalize wr.drew=wd at *
       clear hc hc2 hb hb2 Q
       have hc:=hcd
       have hc2:=hcd2
       clear hcd hcd2
       go_wp2
       go_region_held3 (fun w'=>w'.cell? ⟨b,off + j,none⟩=some (.int .i64 z)∧w'.cell? ⟨b2,off2 + j,none⟩=some (.int .i64 y))
        (first | exact ⟨hc,hc2⟩)
        (first | (go_at_call 357; refine (Zdu _ _ _).mono ?_; rintro e w' ⟨rfl,rfl⟩))
       have HE3:Hid (Ext w wd.drew):=HE2.out.drew
       generalize wd.drew=we at *
       clear hc hc2
       go_wp2
       go_ret
       exact ⟨by rw [HR.out]; rfl,HE3.out⟩
   ·have hst2:(s != t)=true:=by simp; exact hst
    have HR:Hid (r=cmpF s t):=by
     unfold Hid
     rw [HR0.out,if_neg (by rw [HST.out.1,HST.out.2]; exact hst),HST.out.1,HST.out.2]
    go_wp2_with (go_at_call 357; refine (Zdu _ _ _).mono ?_; rintro e w' ⟨rfl,rfl⟩)
    go_ret
    exact ⟨by rw [HR.out]; rfl,Fr.refl _ _⟩
end Go.Proofs.YtcpjeaaapocoeaaGreatDoor

namespace Go.Proofs.YtcpjeaaapocoeaaGreatDoor
open Go.RowKit
section
variable {N:Nat} {S0:Nat→Prop} {w0:World} {s:St} {Φ Ψ:World→Prop} {L:Nat→Nat} {a:Act} {w:World} {P:Program} {ops:Array Oper} {Q:Exit→Act→World→Prop}
theorem SXc.freezeN {c:Code} (b:Nat) (t:TypeId) (cs:List Value) (sl':Nat→SlL) (bl':BlL) (hbb:s.bl b=some (t,cs.map .v)) (hs:∀ g,(sl' g).map (fun q=>(s.sl q.1).map (frz b g))=(sl' g).map (fun q=>some q.2)) (hb:bl'.map (fun q=>s.bl q.1)=bl'.map (fun q=>some q.2))
 (hn:bl'.all (fun q => !(Nat.beq q.1 b))=true) (hw:∀ g,wfB (sl' g) bl'=true) (h:∀ g,(w0.heap.size≤g∨S0 g)→SXc P N S0 w0 Q c (ofL (sl' g) bl') (fun w=>Φ w∧Blk t w g cs.toArray)):SXc P N S0 w0 Q c s Φ:=by
 intro L a w hi
 refine h (L b) (hi.mem.old b (by rw [hbb]; rfl)) L a w ?_
 have hwf:=hw (L b)
 unfold wfB at hwf
 rw [Bool.and_eq_true] at hwf
 have hb':∀ i x,(ofL (sl' (L b)) bl').bl i=some x→s.bl i=some x:=fun i x hx=>Zbq (f:=fun q:Nat × TypeId × List AV=>s.bl q.1) (g:=fun q=>some q.2) hb (ZaI hx)
 have hne:∀ i x,(ofL (sl' (L b)) bl').bl i=some x→i≠b:=fun i x hx e=>by
  have:=List.all_eq_true.1 hn _ (ZaI hx)
  simp [e] at this
 have hbs:∀ i,((ofL (sl' (L b)) bl').bl i).isSome=true→(s.bl i).isSome=true∧i≠b:=fun i hi'=>by
  obtain ⟨q,e⟩:=Option.isSome_iff_exists.1 hi'
  exact ⟨by rw [hb' i q e]; rfl,hne i q e⟩
 have hbsome:(s.bl b).isSome=true:=by rw [hbb]; rfl
 have hB:=hi.mem.blk b t _ hbb
 refine ⟨hi.size,hi.df,fun i x hx=>?_,⟨fun c t cs e=>hi.mem.blk c t cs (hb' c _ e),fun c d hc hd=>hi.mem.inj c d (hbs c hc).1 (hbs d hd).1,fun c hc=>hi.mem.old c (hbs c hc).1,hi.mem.ext,fun i c off e=>?_,fun c t cs e x hx=>⟨(hi.mem.cel c t cs (hb' c _ e) x hx).1,fun d off e'=>?_⟩⟩,fun w' hf=>⟨hi.box w' (hf.mono (fun i _ hi'=>?_)),?_⟩⟩
 ·have h1:=Zbq (f:=fun q:Nat × AV=>(s.sl q.1).map (frz b (L b))) (g:=fun q=>some q.2) (hs (L b)) (ZaI hx)
  simp only at h1
  obtain ⟨y,hy,e⟩:=Option.map_eq_some_iff.1 h1
  have:=hi.sl i y hy
  rw [this,← e,Zj3]
 ·exact List.all_eq_true.1 hwf.1 _ (ZaI e)
 ·have:=List.all_eq_true.1 (List.all_eq_true.1 hwf.2 _ (ZaI e)) x hx
  rw [e'] at this
  exact this
 ·obtain ⟨c,hc,e⟩:=hi'
  exact ⟨c,(hbs c hc).1,e⟩
 ·have:Blk t w (L b) cs.toArray:=by simpa [List.map_map,Function.comp_def,AV.conc] using hB
  refine this.fr hf (fun ho=>?_)
  obtain ⟨c,hc,e⟩:=ho
  exact (hbs c hc).2 (hi.mem.inj c b (hbs c hc).1 hbsome e)
theorem Fr.row {w:World} {b:Nat} (cs:Array Value):Fr (fun i=>i=b) w (w.setRow b cs):=Fr.setRow (S:=fun i=>i=b) (Fr.refl _ w) (Or.inl rfl) cs
theorem Zj4 {i d:Nat} {dT sT e bt:TypeId} {dx sx:Operand} {sp:Option Addr} {n m dc sc:Nat} {cs:List Value} {zs:List Int} (b:Nat) (Ψ:World→Prop) (hm:zs.length=m) (hmn:m≤n) (hn:n≤cs.length) (hpos:0 < cs.length) (hO:∀ w,Φ w→Blk bt w b cs.toArray) (hY:∀ w,Φ w→IRow w sp zs) (hnew:w0.heap.size≤b∨S0 b)
 (hΨ:∀ w w',Φ w→Fr (fun i=>i=b) w w'→Blk bt w' b (zs.map (Value.int .i64) ++ cs.drop m).toArray→Ψ w') (K:SXi P N S0 w0 ops Q (i + 1) s Ψ)
 (hsz:Nat.blt i ops.size=true:=by kernel_rfl) (hg:(opAt ops i).guard=none:=by kernel_rfl) (ho:(opAt ops i).op=.call { callee:=.builtin .copy,args:=#[dx,sx],argTypes:=#[dT,sT] }:=by kernel_rfl) (hd:(opAt ops i).dst=some d:=by kernel_rfl) (hf:(s.sl d).isNone=true:=by kernel_rfl)
 (hu:P.underlying dT=some (.slice e):=by kernel_rfl) (hs:(P.info? e).map (·.size)=some 1:=by kernel_rfl) (hx:s.eval dx=some (.v (.slice (some ⟨b,0,none⟩) n dc)):=by kernel_rfl) (hy:s.eval sx=some (.v (.slice sp m sc)):=by kernel_rfl):SXi P N S0 w0 ops Q i s Φ:=by
 unfold SXi
 rw [Zbr hsz]
 intro L a w hi
 have ex:=hi.eval hx
 have ey:=hi.eval hy
 have hB:=hO w hi.box.self
 have hZ:=hY w hi.box.self
 have hlt:0 < cs.length:=hpos
 have hown:¬ s.own L b:=hi.notOwn (c:=cs[0]'hlt) (j:=0) (fun w R=>by have:=(hO w R).cell 0; rw [this]; simp [hlt])
 have hsl:s.sl d=none:=by simpa using hf
 have fin:∀ (w':World) (z:Value),Fr (fun i=>i=b) w w'→Blk bt w' b (zs.map (Value.int .i64) ++ cs.drop m).toArray→wpList P ops Q ((ops.toList).drop (i + 1)) (a.put (opAt ops i).dst z) w':=by
  intro w' z hF hB2
  have h1:=hi.eff hF hown hnew hB.lt (fun w1 w2 h1 h2 h3=>hΨ w1 w2 h1 h2 (h3.trans hB2))
  refine K L _ _ ⟨by rw [hd]; simp [Act.put,h1.size],by rw [hd]; exact h1.df,fun j x hj=>?_,h1.mem,h1.box⟩
  have hne:d≠j:=fun e=>by rw [e,hj] at hsl; cases hsl
  have:=h1.sl j x hj
  rw [hd]
  simp [Act.put,Array.getElem?_setIfInBounds_ne hne,this]
 by_cases h0:m=0
 ·have hz0:zs=[]:=List.eq_nil_of_length_eq_zero (by omega)
  refine wpList_copy_nothing hg dx sx dT sT ho e hu hs _ _ n dc m sc ex ey (by rw [h0]; exact Nat.zero_min _) ?_
  refine fin _ _ (Fr.refl _ _) ?_
  rw [hz0,h0]; exact hB
 ·obtain ⟨b2,off2,rfl,_,_⟩:=hZ 0 (by omega)
  refine wpList_copy_own hg dx sx dT sT ho e hu hs b 0 n dc ⟨b2,off2,none⟩ m sc ex ey cs.toArray bt hB (zs.map (Value.int .i64)) (by rw [List.length_map,hm]; exact (Nat.min_eq_left hmn).symm) (fun j v hj=>?_) (by simp; omega) (fun v hv=>by
   obtain ⟨z,_,rfl⟩:=List.mem_map.1 hv; rfl) ?_
  ·rw [List.getElem?_map] at hj
   obtain ⟨z,hz,rfl⟩:=Option.map_eq_some_iff.1 hj
   have hjl:j < zs.length:=by
    rcases Nat.lt_or_ge j zs.length with h | h
    ·exact h
    ·rw [List.getElem?_eq_none h] at hz; cases hz
   obtain ⟨b3,off3,e3,_,hc⟩:=hZ j hjl
   injection e3 with e3; injection e3 with e3 e4; subst e3; subst e4
   rw [Lib.add_plain,hc,show nth zs j=z by rw [nth,hz]; rfl]
  ·refine fin _ _ (Fr.row _) ?_
   have h2:=setRow_heap w b cs.toArray ((cs.toArray.toList.take 0 ++ (zs.map (Value.int .i64) ++ cs.toArray.toList.drop (0 + (zs.map (Value.int .i64)).length))).toArray) bt (0,0) hB
   have e2:cs.toArray.toList.take 0 ++ (zs.map (Value.int .i64) ++ cs.toArray.toList.drop (0 + (zs.map (Value.int .i64)).length))=zs.map (Value.int .i64) ++ cs.drop m:=by simp [hm]
   rw [e2] at h2 ⊢
   exact h2
theorem Zj5 {zs:List Int} {m:Nat} (hm:zs.length=m) (h6:m≤6) (r:List Value):∃ x0 x1 x2 x3 x4 x5:Int,zs.map (Value.int .i64) ++ ([Value.int .i64 0, .int .i64 0, .int .i64 0, .int .i64 0, .int .i64 0, .int .i64 0] ++ r).drop m=[.int .i64 x0, .int .i64 x1, .int .i64 x2, .int .i64 x3, .int .i64 x4, .int .i64 x5] ++ r:=by
 subst hm
 match zs,h6 with
 | [],_=>exact ⟨0,0,0,0,0,0,rfl⟩
 | [a],_=>exact ⟨a,0,0,0,0,0,rfl⟩
 | [a,b],_=>exact ⟨a,b,0,0,0,0,rfl⟩
 | [a,b,c],_=>exact ⟨a,b,c,0,0,0,rfl⟩
 | [a,b,c,d],_=>exact ⟨a,b,c,d,0,0,rfl⟩
 | [a,b,c,d,e],_=>exact ⟨a,b,c,d,e,0,rfl⟩
 | [a,b,c,d,e,f],_=>exact ⟨a,b,c,d,e,f,rfl⟩
 | a :: b :: c :: d :: e :: f :: g :: l,h=>exact absurd h (by simp)
end
end Go.Proofs.YtcpjeaaapocoeaaGreatDoor

namespace Go.Proofs.YtcpjeaaapocoeaaGreatDoor
open Go.RowKit
section
variable {N:Nat} {S0:Nat→Prop} {w0:World} {s:St} {Φ Ψ:World→Prop} {L:Nat→Nat} {a:Act} {w:World} {P:Program} {ops:Array Oper} {Q:Exit→Act→World→Prop}
theorem ZkH {w:World} {base:Nat} {e:TypeId} {k n cap b:Nat} {cur:List Value} (hB:Blk e w b cur.toArray) (hb:base≤b) (hc:cur.length=cap * k) (hn:n≤cap) (hm:cap≤maxLen):w.ownsRow base e k (.slice (some ⟨b,0,none⟩) n cap) n (cur.take (n * k)):=by
 have h1:n * k≤cap * k:=Nat.mul_le_mul_right k hn
 exact ⟨by rw [List.length_take,hc]; omega,Or.inr ⟨b,cap,cur.toArray,rfl,hb,hB,hn,hm,by simpa using hc,by simp⟩⟩
theorem Inv.eff2 (h:Inv N S0 w0 s Φ L a w) {w':World} {r:Nat} (hF:Fr (fun i=>i=r) w w') (hr:¬ s.own L r) (hnew:w0.heap.size≤r∨S0 r)
 (hΨ:∀ w1 w2,Fr S0 w0 w2→Φ w1→Fr (fun i=>i=r) w1 w2→(∀ j,j < w'.heap.size→¬ s.own L j→w2.heap[j]? = w'.heap[j]?)→Ψ w2):Inv N S0 w0 s Ψ L a w':=by
 refine ⟨h.size,h.df,h.sl,⟨fun b t cs e=>(h.mem.blk b t cs e).fr hF (fun e'=>hr ⟨b,by rw [e]; rfl,e'⟩),h.mem.inj,h.mem.old,h.mem.ext.next hF (fun i hi e=>?_),h.mem.slp,h.mem.cel⟩,fun w2 hf=>?_⟩
 ·rcases hnew with h' | h'
  ·omega
  ·rw [e]; exact h'
 ·have h2:Fr (fun i=>s.own L i∨i=r) w w2:=(hF.mono (fun i _ e=>Or.inr e)).trans (hf.mono (fun i _ e=>Or.inl e))
  obtain ⟨w1,k1,k2⟩:=h2.split
  refine hΨ w1 w2 (h.mem.ext.next h2 (fun i hi ho=>?_)) (h.box w1 k1) k2 (fun j hj hno=>hf.block j hj hno)
  rcases ho with ⟨c,hc,e⟩ | e
  ·rcases h.mem.old c hc with h' | h'
   ·omega
   ·rw [← e]; exact h'
  ·rcases hnew with h' | h'
   ·omega
   ·rw [e]; exact h'
theorem Zjo {i d k n m cap bytes:Nat} {t e:TypeId} {s0 x:Operand} {cur news:List Value} {z:Value} (b b2 c2:Nat) (Ψ:World→Prop) (hO:∀ w,Φ w→Blk e w b cur.toArray) (hX:∀ w,Φ w→Blk e w b2 news.toArray) (hl:news.length=m * k) (hk:0 < k) (hz:z.cells.size=k)
 (hcur:cur.length=cap * k) (hn:n≤cap) (hcap:cap≤maxLen) (hpos:0 < cur.length) (hm0:0 < n + m) (hb:w0.heap.size≤b) (h1:∀ u ∈ news,u.oneCell'=true) (h63:n + m≤maxLen) (hbytes:(n + m) * bytes≤140737488355328)
 (hΨ:∀ w w',Fr S0 w0 w'→Φ w→Fr (fun i=>i=b) w w'→Ψ w')
 (K:∀ (b' cap':Nat) (cur':List Value),w0.heap.size≤b'→cur'.length=cap' * k→n + m≤cap'→cap'≤maxLen→cur'.take ((n + m) * k)=cur.take (n * k) ++ news→0 < cur'.length→SXi P N S0 w0 ops Q (i + 1) (s.put d (.v (.slice (some ⟨b',0,none⟩) (n + m) cap'))) (fun w=>Ψ w∧Blk e w b' cur'.toArray))
 (hsz:Nat.blt i ops.size=true:=by kernel_rfl) (hw:s.wantB ops (opAt ops i)=some true:=by kernel_rfl) (hv:(opAt ops i).op.operands.toList.all s.vB=true:=by kernel_rfl) (ho:(opAt ops i).op=.call { callee:=.builtin .append,args:=#[s0,x],argTypes:=#[t,t] }:=by kernel_rfl) (hd:(opAt ops i).dst=some d:=by kernel_rfl) (hN:Nat.blt d N=true:=by kernel_rfl)
 (ht:P.underlying t=some (.slice e):=by kernel_rfl) (hinfo:(P.info? e).map (fun i=>(i.zero,i.size,i.bytes))=some (some z,k,bytes):=by kernel_rfl) (hs:s.rho s0=.slice (some ⟨b,0,none⟩) n cap:=by kernel_rfl) (hx:s.rho x=.slice (some ⟨b2,0,none⟩) m c2:=by kernel_rfl):SXi P N S0 w0 ops Q i s Φ:=by
 unfold SXi
 rw [Zbr hsz]
 intro L a w hi
 refine wpList_step (fun K' hK=>?_)
 rw [if_pos (hi.want hw)]
 unfold Oper.wp
 have hns:ZaQ (opAt ops i).op=true:=by rw [ho]; rfl
 rw [hi.exec hns hv]
 obtain ⟨inf,hinf,h2⟩:=Option.map_eq_some_iff.1 hinfo
 injection h2 with hz0 h2
 injection h2 with hsize hby
 have hB:=hO w hi.box.self
 have hB2:=hX w hi.box.self
 have hown:¬ s.own L b:=hi.notOwn (c:=cur[0]'hpos) (j:=0) (fun w R=>by have:=(hO w R).cell 0; rw [this]; simp [hpos])
 obtain ⟨v',w',hrun,hr,hg,hnil,hblk⟩:=run_append_own_at (P:=P) (w:=w) w0.heap.size t (opAt ops i).type e inf z k bytes ht hinf hz0 hsize hby hz hk (.slice (some ⟨b,0,none⟩) n cap) n (cur.take (n * k)) (ZkH hB hb hcur hn hcap) ⟨b2,0,none⟩ m c2 news hl
  (fun j u hj=>by rw [Lib.add_plain,Nat.zero_add,hB2.cell]; simpa using hj) h1 h63 hbytes hi.mem.ext.size
 have hrun2:(execOp s.rho (opAt ops i)).run P w=.ok (.value v') w':=by simp [execOp,ho,resolve,invoke,builtin,hs,hx,hrun,Result.andThen]
 rw [hrun2,Oper.upon_value,hd]
 obtain ⟨hlen,hr⟩:=hr
 rcases hr with ⟨rfl,h0⟩ | ⟨b',cap',cur',rfl,hb',hh,hn',hc',hs',ht'⟩
 ·omega
 have hF0:Fr (fun i=>i=b) w w':=(Fr.ofGrown hg).mono (fun i _ h=>by
  simp only [Value.ownBlock,Option.some.injEq] at h; exact h.symm)
 have hB':Blk e w' b' cur'.toList.toArray:=by rw [Array.toArray_toList]; exact hh
 have hK1:=K b' cap' cur'.toList hb' (by simpa using hs') hn' hc' (by simpa using ht') (by
  have h3:0 < (n + m) * k:=Nat.mul_pos (by omega) hk
  have h4:(cur'.toList.take ((n + m) * k)).length=(n + m) * k:=by rw [ht']; exact hlen
  rw [List.length_take] at h4
  omega)
 have h0:=hi.app0 (d:=d) (Nat.le_of_ble_eq_true hN) (al_v (s:=s) (.slice (some ⟨b',0,none⟩) (n + m) cap'))
 have hE':Fr S0 w0 w':=hi.mem.ext.next hF0 (fun i hi' e=>by omega)
 simp only [Value.ownBlock,Option.some.injEq] at hblk
 have hnb:¬ s.own L b':=by
  rcases hblk with rfl | rfl
  ·exact hown
  ·rintro ⟨c,hc,e⟩
   obtain ⟨q,eq⟩:=Option.isSome_iff_exists.1 hc
   have:=(hi.mem.blk c q.1 q.2 eq).lt
   omega
 have hlt':b' < w'.heap.size:=hB'.lt
 exact hK _ _ (hK1 L _ _ (h0.eff2 hF0 hown (Or.inl hb) (fun w1 w2 h2 h3 h4 h5=>⟨hΨ w1 w2 h2 h3 h4,(h5 b' hlt' hnb).trans hB'⟩)))
theorem Zlh {i d k cap bytes:Nat} {t e:TypeId} {kl kc:IntKind} {l c:Operand} {z:Value} (hcap:cap≤maxLen) (hbytes:bytes * cap≤281474976710656)
 (K:∀ (b:Nat) (cur:List Value),w0.heap.size≤b→cur.length=cap * k→SXi P N S0 w0 ops Q (i + 1) (s.put d (.v (.slice (some ⟨b,0,none⟩) 0 cap))) (fun w=>Φ w∧Blk e w b cur.toArray))
 (hsz:Nat.blt i ops.size=true:=by kernel_rfl) (hw:s.wantB ops (opAt ops i)=some true:=by kernel_rfl) (hv:(opAt ops i).op.operands.toList.all s.vB=true:=by kernel_rfl) (ho:(opAt ops i).op=Op.makeSlice t l c:=by kernel_rfl) (hd:(opAt ops i).dst=some d:=by kernel_rfl) (hN:Nat.blt d N=true:=by kernel_rfl)
 (ht:P.underlying t=some (.slice e):=by kernel_rfl) (hinfo:(P.info? e).map (fun i=>(i.zero,i.size,i.bytes))=some (some z,k,bytes):=by kernel_rfl) (hl:s.rho l=.int kl 0:=by kernel_rfl) (hc:s.rho c=.int kc cap:=by kernel_rfl):SXi P N S0 w0 ops Q i s Φ:=by
 unfold SXi
 rw [Zbr hsz]
 intro L a w hi
 refine wpList_step (fun K' hK=>?_)
 rw [if_pos (hi.want hw)]
 unfold Oper.wp
 have hns:ZaQ (opAt ops i).op=true:=by rw [ho]; rfl
 rw [hi.exec hns hv]
 obtain ⟨inf,hinf,h2⟩:=Option.map_eq_some_iff.1 hinfo
 injection h2 with hz0 h2
 injection h2 with hsize hby
 obtain ⟨w',hrun,hr,hg⟩:=run_make_own (P:=P) (w:=w) w.heap.size t e inf z k ht hinf hz0 hsize kl kc cap (by rw [hby]; exact hbytes) hcap (Nat.le_refl _)
 have hrun2:(execOp s.rho (opAt ops i)).run P w=.ok (.value (.slice (some ⟨w.heap.size,0,none⟩) 0 cap)) w':=by simp [execOp,ho,hl,hc,hrun,Result.andThen]
 rw [hrun2,Oper.upon_value,hd]
 obtain ⟨hlen,hr⟩:=hr
 rcases hr with ⟨h0,_⟩ | ⟨b',cap',cur',e',hb',hh,hn',hc',hs',ht'⟩
 ·cases h0
 injection e' with e1 _ e3
 injection e1 with e1
 injection e1 with e1
 subst e1 e3
 have R:Ext w w':=(Fr.ofGrown hg).mono (fun i _ h=>by cases h)
 have hB':Blk e w' w.heap.size cur'.toList.toArray:=by rw [Array.toArray_toList]; exact hh
 have h0:=hi.app0 (d:=d) (Nat.le_of_ble_eq_true hN) (al_v (s:=s) (.slice (some ⟨w.heap.size,0,none⟩) 0 cap))
 refine hK _ _ (K w.heap.size cur'.toList hi.mem.ext.size (by simpa using hs') L _ _ ⟨h0.size,h0.df,h0.sl,⟨fun b t cs e=>(h0.mem.blk b t cs e).ext R,h0.mem.inj,h0.mem.old,h0.mem.ext.ext R,h0.mem.slp,h0.mem.cel⟩,fun w2 hf=>⟨h0.box.ext R w2 hf,?_⟩⟩)
 refine hB'.fr hf (fun ho=>?_)
 obtain ⟨b,hb,eb⟩:=ho
 obtain ⟨q,eq⟩:=Option.isSome_iff_exists.1 hb
 have:=(hi.mem.blk b q.1 q.2 eq).lt
 omega
end
end Go.Proofs.YtcpjeaaapocoeaaGreatDoor

namespace Go.Proofs.YtcpjeaaapocoeaaGreatDoor
open Go.RowKit Go.Lib
abbrev WrAt (lo b:Nat) (p:Value) (bs:List Value) (w:World):Prop:=Lib.BuilderAt 119 5 lo b p bs w
def WrIs (lo b:Nat) (l:List UInt8) (w:World):Prop:=∃ p,(p=.pointer none∨p=.pointer (some ⟨b,0,none⟩))∧WrAt lo b p (Lib.byteCells l) w
def IsU8 (w:World) (i:Nat):Prop:=∃ cs f,w.heap[i]? = some (.cells cs 5 f)
def WrFr (lo b:Nat) (w w':World):Prop:=Fr (fun i=>i=b∨(lo≤i∧IsU8 w i)) w w'
theorem WrFr.refl (lo b:Nat) (w:World):WrFr lo b w w:=Fr.refl _ _
theorem WrFr.back {lo b:Nat} {w w':World} (h:WrFr lo b w w') {i:Nat} (hi:i < w.heap.size) (hlo:lo≤i) (h8:IsU8 w' i):i=b∨(lo≤i∧IsU8 w i):=by
 by_cases hs:i=b∨(lo≤i∧IsU8 w i)
 ·exact hs
 ·obtain ⟨cs,f,hc⟩:=h8
  exact Or.inr ⟨hlo,cs,f,(h.block i hi hs).symm.trans hc⟩
theorem WrFr.trans {lo b:Nat} {w w' w'':World} (h:WrFr lo b w w') (k:WrFr lo b w' w''):WrFr lo b w w'' :=
 Fr.next h k (fun _ hi hT=>hT.elim Or.inl (fun h8=>h.back hi h8.1 h8.2))
theorem WrFr.old {b:Nat} {w0 w w':World} (Q:Ext w0 w) (hb:w0.heap.size≤b) (h:WrFr w0.heap.size b w w'):Ext w0 w' :=
 Fr.next Q h (fun i hi hT=>by rcases hT with e | ⟨e,_⟩<;>omega)
theorem Zgs (b:Nat) (w:World) (h0:w.cell? ⟨b,0,none⟩=some (.pointer (some ⟨b,0,none⟩))) :
 Calls Tryz.prog 295 #[.pointer (some ⟨b,0,none⟩)] w fun e w'=>e=.returned (.tuple #[])∧w'=w:=by
 obtain ⟨j,hj,hjs⟩:=Option.map_eq_some_iff.1 (show (Tryz.prog.info? 117).map (·.size)=some 2 by kernel_rfl)
 go_enter Tryz.func295,Tryz.ntmps295
 go_wp2
 rw [Lib.run_neq_ptr_same w _ Tryz.underlying115 hj]
 go_wp2
 go_end0
 exact ⟨rfl,rfl⟩
theorem ZfZ (b:Nat) (w:World) (h0:w.cell? ⟨b,0,none⟩=some (.pointer none)) (hsh:w.shape? b=some (119,2)) (hfz:w.frozen? ⟨b,0,none⟩=false) :
 Calls Tryz.prog 295 #[.pointer (some ⟨b,0,none⟩)] w fun e w'=>e=.returned (.tuple #[])∧w'=w.setCell ⟨b,0,none⟩ (.pointer (some ⟨b,0,none⟩)):=by
 obtain ⟨j,hj,hjs⟩:=Option.map_eq_some_iff.1 (show (Tryz.prog.info? 117).map (·.size)=some 2 by kernel_rfl)
 go_enter Tryz.func295,Tryz.ntmps295
 go_wp2
 rw [Lib.run_to_unsafe w ⟨b,0,none⟩ Tryz.underlying115 Tryz.underlying418 hj (by rw [hjs]; decide) hsh (Nat.zero_lt_succ 1)]
 simp only [Result.andThen]
 rw [Oper.upon_value]
 go_wp2
 rw [run_callFunc_extern Tryz.func348 (by kernel_rfl) (by kernel_rfl) (by kernel_rfl) (e:=Extern.AbiNoEscape.same) (by kernel_rfl)]
 rw [Lib.run_noEscape]
 simp only [Result.andThen]
 rw [Oper.upon_value]
 go_wp2
 rw [Lib.run_from_unsafe w ⟨b,0,none⟩ Tryz.underlying418 Tryz.underlying115 hj hsh (by kernel_rfl)]
 simp only [Result.andThen]
 rw [Oper.upon_value]
 go_wp2
 go_end0
 exact ⟨rfl,rfl⟩
theorem WrFr.setB {lo b:Nat} {w w':World} (h:WrFr lo b w w') (o:Nat) (u:Value):WrFr lo b w (w'.setCell ⟨b,o,none⟩ u):=Fr.setCell h (Or.inl (Or.inl rfl)) u
theorem Zd6 (lo b:Nat) (l:List UInt8) (w:World) (h:WrIs lo b l w) :
 Calls Tryz.prog 295 #[.pointer (some ⟨b,0,none⟩)] w fun e w'=>e=.returned (.tuple #[])∧WrAt lo b (.pointer (some ⟨b,0,none⟩)) (Lib.byteCells l) w'∧WrFr lo b w w':=by
 obtain ⟨p,rfl | rfl,h⟩:=h
 ·refine (ZfZ b w h.cell0 h.shape h.frozen0).mono ?_
  rintro e w' ⟨rfl,rfl⟩
  exact ⟨rfl,h.used _,(WrFr.refl lo b w).setB 0 _⟩
 ·refine (Zgs b w h.cell0).mono ?_
  rintro e w' ⟨rfl,rfl⟩
  exact ⟨rfl,h,WrFr.refl lo b w'⟩
theorem Zda (a b:List UInt8):Lib.byteCells (a ++ b)=Lib.byteCells a ++ Lib.byteCells b:=by simp [Lib.byteCells]
theorem WrFr.alloc {lo b:Nat} {w w':World} (h:WrFr lo b w w') (o:Obj):WrFr lo b w (w'.alloc o):=Fr.alloc h o
theorem neB5:(119:TypeId)≠5:=by decide
theorem WrFr.grown {lo b:Nat} {w w1 w2:World} {v:Value} {bs:List Value} (h:WrFr lo b w w1) (hA:∃ n,w1.ownsRow lo 5 1 v n bs) (hg:w1.grownBy w2 v.ownBlock):WrFr lo b w w2:=by
 obtain ⟨n,_,hA⟩:=hA
 refine Fr.next h (Fr.ofGrown hg) (fun i hi ei=>?_)
 rcases hA with ⟨rfl,_⟩ | ⟨g,cap,cur,rfl,hlg,hh,_⟩
 ·cases ei
 ·simp only [Value.ownBlock,Option.some.injEq] at ei
  subst ei
  exact h.back hi hlg ⟨cur,_,hh⟩
set_option maxHeartbeats 2000000 in
theorem Zdm (lo b:Nat) (l:List UInt8) (s:ByteArray) (w:World) (h:WrIs lo b l w) (hlen:l.length + s.size≤140737488355328) :
 Calls Tryz.prog 222 #[.pointer (some ⟨b,0,none⟩), .string s] w fun e w'=>e=.returned (.tuple #[.int .i64 s.size, .nilIface])∧WrIs lo b (l ++ bytes s) w'∧WrFr lo b w w':=by
 obtain ⟨i0,hi,hz0,hz1,hz2⟩:=info_parts (show (Tryz.prog.info? 5).map (fun i=>(i.zero,i.size,i.bytes))=some (some (.int .u8 0),1,1) by kernel_rfl)
 have e240:∀ args w,(callFunc 295 args).run Tryz.prog w=.ok (.enter 295 args) w:=enters_of Tryz.func295 (by kernel_rfl) rfl
 go_enter Tryz.func222,Tryz.ntmps222
 go_wp2_with (go_at_call 295; refine (Zd6 lo b l _ h).mono ?_)
 rintro e w1 ⟨rfl,h1,hb1⟩
 obtain ⟨hB,v,hbk,hown,hne⟩:=h1
 have c0:w1.cell? ⟨b,0,none⟩=some (.pointer (some ⟨b,0,none⟩)):=by rw [Lib.cell_of_heap hbk]; rfl
 have c1:w1.cell? ⟨b,1,none⟩=some v:=by rw [Lib.cell_of_heap hbk]; rfl
 have hll:(Lib.byteCells l).length=l.length:=Lib.byteCells_length l
 go_wp2_with (at_builtin; refine Lib.wpList_append_own_string _ rfl _ _ 37 9 rfl lo 5 i0 Tryz.underlying37 Tryz.underlying9 hi hz0 hz1 hz2 _ _ _ rfl hown s rfl ?c3 ?c4 ?c5 ?_)
 case c3=>unfold maxLen; omega
 case c4=>omega
 case c5 =>
  have h':b < w1.heap.size:=by
   rcases Nat.lt_or_ge b w1.heap.size with h' | h'
   ·exact h'
   ·simp [Array.getElem?_eq_none h'] at hbk
  first | omega | (simp; omega)
 intro v' w2 hown' hgrow _
 have hlt:b < w1.heap.size:=by
  rcases Nat.lt_or_ge b w1.heap.size with h' | h'
  ·exact h'
  ·simp [Array.getElem?_eq_none h'] at hbk
 have hb2:w2.heap[b]? = some (.cells #[.pointer (some ⟨b,0,none⟩),v] 119 (0,0)):=by
  rw [hgrow.block b hlt (fun e=>hne e.symm)]
  exact hbk
 have d0:w2.cell? ⟨b,0,none⟩=some (.pointer (some ⟨b,0,none⟩)):=by rw [Lib.cell_of_heap hb2]; rfl
 have d1:w2.cell? ⟨b,1,none⟩=some v:=by rw [Lib.cell_of_heap hb2]; rfl
 have f1:w2.frozen? ⟨b,1,none⟩=false:=Lib.frozen_of_heap hb2 1
 obtain ⟨ao,n',cap,rfl⟩:∃ ao n' cap,v'=.slice ao n' cap:=by
  rcases hown'.2 with ⟨hv,_⟩ | ⟨g,cap,cur,hv,_⟩
  ·exact ⟨_,_,_,hv⟩
  ·exact ⟨_,_,_,hv⟩
 have HF:=zh (hb1.grown ⟨_,hown⟩ hgrow)
 go_wp2
 go_ret2
 refine ⟨rfl,⟨_,Or.inr rfl,?_⟩,HF.out.setB 1 _⟩
 have:=Lib.BuilderAt.put (T:=119) (e:=5) hB hb2 (bs':=Lib.byteCells l ++ Lib.strCells s) (by rw [List.length_append,Lib.strCells_length,Lib.byteCells_length]; exact hown') neB5
 rw [Zda]
 exact this
set_option maxHeartbeats 2000000 in
theorem Zd7 (lo b:Nat) (l:List UInt8) (c:UInt8) (w:World) (h:WrIs lo b l w) (hlen:l.length + 1≤140737488355328) :
 Calls Tryz.prog 223 #[.pointer (some ⟨b,0,none⟩), .int .u8 (c.toNat:Int)] w fun e w'=>e=.returned .nilIface∧WrIs lo b (l ++ [c]) w'∧WrFr lo b w w':=by
 obtain ⟨i0,hi,hz0,hz1,hz2⟩:=info_parts (show (Tryz.prog.info? 5).map (fun i=>(i.zero,i.size,i.bytes))=some (some (.int .u8 0),1,1) by kernel_rfl)
 have e240:∀ args w,(callFunc 295 args).run Tryz.prog w=.ok (.enter 295 args) w:=enters_of Tryz.func295 (by kernel_rfl) rfl
 obtain ⟨cz,hcz⟩:∃ cz:Int,(c.toNat:Int)=cz:=⟨_,rfl⟩
 have Hcz:=zh hcz
 rw [hcz]
 clear hcz
 go_enter Tryz.func223,Tryz.ntmps223
 go_wp2_with (go_at_call 295; refine (Zd6 lo b l _ h).mono ?_)
 rintro e w1 ⟨rfl,h1,hb1⟩
 obtain ⟨hB,v,hbk,hown,hne⟩:=h1
 have c0:w1.cell? ⟨b,0,none⟩=some (.pointer (some ⟨b,0,none⟩)):=by rw [Lib.cell_of_heap hbk]; rfl
 have c1:w1.cell? ⟨b,1,none⟩=some v:=by rw [Lib.cell_of_heap hbk]; rfl
 have hll:(Lib.byteCells l).length=l.length:=Lib.byteCells_length l
 go_wp2_with (at_builtin; refine wpList_append_own _ rfl _ _ 37 rfl lo 5 i0 (.int .u8 0) 1 1 Tryz.underlying37 hi hz0 hz1 hz2 rfl (by decide) _ _ _ rfl (hown.alloc _) ⟨w1.heap.size,0,none⟩ 1 1 [.int .u8 cz] rfl rfl ?c1 ?c2 ?c3 ?c4 ?c5 ?_)
 case c1 =>
  intro j u hj
  match j,hj with
  | 0,hj=>simp at hj; subst hj; simp [Addr.add]
 case c2=>intro u hu; simp at hu; subst hu; rfl
 case c3=>unfold maxLen; omega
 case c4=>omega
 case c5 =>
  have h':b < w1.heap.size:=by
   rcases Nat.lt_or_ge b w1.heap.size with h' | h'
   ·exact h'
   ·simp [Array.getElem?_eq_none h'] at hbk
  first | omega | (simp; omega)
 intro v' w2 hown' hgrow _
 have hlt:b < w1.heap.size:=by
  rcases Nat.lt_or_ge b w1.heap.size with h' | h'
  ·exact h'
  ·simp [Array.getElem?_eq_none h'] at hbk
 have hb2:w2.heap[b]? = some (.cells #[.pointer (some ⟨b,0,none⟩),v] 119 (0,0)):=by
  rw [hgrow.block b (by simp; omega) (fun e=>hne e.symm),Lib.alloc_old w1 _ b hlt]
  exact hbk
 have d0:w2.cell? ⟨b,0,none⟩=some (.pointer (some ⟨b,0,none⟩)):=by rw [Lib.cell_of_heap hb2]; rfl
 have d1:w2.cell? ⟨b,1,none⟩=some v:=by rw [Lib.cell_of_heap hb2]; rfl
 have f1:w2.frozen? ⟨b,1,none⟩=false:=Lib.frozen_of_heap hb2 1
 obtain ⟨g,cap,rfl⟩:∃ g cap,v'=.slice (some ⟨g,0,none⟩) (l.length + 1) cap:=by
  rcases hown'.2 with ⟨_,h0⟩ | ⟨g,cap,cur,hv,_⟩
  ·omega
  ·exact ⟨g,cap,hv⟩
 have HF:=zh ((hb1.alloc _).grown ⟨_,hown.alloc _⟩ hgrow)
 go_wp2
 go_ret
 refine ⟨rfl,⟨_,Or.inr rfl,?_⟩,HF.out.setB 1 _⟩
 have:=Lib.BuilderAt.put (T:=119) (e:=5) hB hb2 (bs':=Lib.byteCells l ++ [.int .u8 cz]) (by rw [List.length_append,Lib.byteCells_length]; exact hown') neB5
 rw [Zda]
 show WrAt lo b _ (Lib.byteCells l ++ [.int .u8 (c.toNat:Int)]) _
 rw [Hcz.out]
 exact this
set_option maxHeartbeats 1000000 in
theorem Zii (lo b:Nat) (l:List UInt8) (w:World) (h:WrIs lo b l w) :
 Calls Tryz.prog 112 #[.pointer (some ⟨b,0,none⟩)] w fun e w'=>e=.returned (.int .i64 (l.length:Int))∧w'=w:=by
 obtain ⟨p,_,hB,v,hbk,hown,hne⟩:=h
 obtain ⟨ao,cap,rfl⟩:∃ ao cap,v=.slice ao l.length cap:=by
  rw [Lib.byteCells_length] at hown
  rcases hown.2 with ⟨hv,h0⟩ | ⟨g,cap,cur,hv,_⟩
  ·exact ⟨none,0,by rw [hv,h0]⟩
  ·exact ⟨_,_,hv⟩
 have c1:w.cell? ⟨b,1,none⟩=some (.slice ao l.length cap):=by rw [Lib.cell_of_heap hbk]; rfl
 clear hown hne hbk
 go_enter Tryz.func112,Tryz.ntmps112
 go_wp2
 go_ret
 exact ⟨rfl,rfl⟩
set_option maxHeartbeats 1000000 in
theorem Zjp (lo b:Nat) (l:List UInt8) (w:World) (h:WrIs lo b l w) (h0:l≠[]) :
 Calls Tryz.prog 113 #[.pointer (some ⟨b,0,none⟩)] w fun e w'=>e=.returned (.string ⟨l.toArray⟩)∧WrFr lo b w w':=by
 obtain ⟨p,_,hB,v,hbk,hown,hne⟩:=h
 have hl0:l.length≠0:=by simpa using h0
 rw [Lib.byteCells_length] at hown
 obtain ⟨g,cap,cur,rfl,hbg,hg,hnc,hcm,hcs,htake⟩:∃ g cap cur,v=.slice (some ⟨g,0,none⟩) l.length cap∧lo≤g∧w.heap[g]? = some (.cells cur 5 (0,0))∧l.length≤cap∧cap≤maxLen∧cur.size=cap * 1∧cur.toList.take (l.length * 1)=Lib.byteCells l:=by
  rcases hown.2 with ⟨_,hz⟩ | ⟨g,cap,cur,hv,r⟩
  ·exact absurd hz hl0
  ·exact ⟨g,cap,cur,hv,r⟩
 have c1:w.drew.cell? ⟨b,1,none⟩=some (.slice (some ⟨g,0,none⟩) l.length cap):=by
  have:w.drew.heap[b]? = some (.cells #[p, .slice (some ⟨g,0,none⟩) l.length cap] 119 (0,0)):=hbk
  rw [Lib.cell_of_heap this]; rfl
 have hSD:(Builtin.unsafeSliceData_ #[37] 309 #[.slice (some ⟨g,0,none⟩) l.length cap]).run Tryz.prog w.drew=.ok (.pointer (some ⟨g,0,none⟩)) w.drew :=
  Lib.run_unsafeSliceData_row _ _ _ _ _ _ (by omega)
 have hUS:(Builtin.unsafeString_ #[309,3] 9 #[.pointer (some ⟨g,0,none⟩), .int .i64 l.length]).run Tryz.prog w.drew=.ok (.string ⟨l.toArray⟩) (w.drew.freeze ⟨g,0,none⟩ l.length):=by
  refine Lib.run_unsafeString_row w.drew 309 3 9 5 Tryz.underlying309 (by kernel_rfl) g cur.size (by have hg':w.drew.heap[g]? = some (.cells cur 5 (0,0)):=hg; simp [World.shape?,hg']) l h0 (by omega) (by unfold maxLen at hcm; omega) ?_
  intro j x hx
  have:=hown.cells (g:=g) rfl j (.int .u8 x.toNat) (by simp [Lib.byteCells,hx])
  exact this
 have HF:Hid (WrFr lo b w (w.drew.freeze ⟨g,0,none⟩ l.length)):=by
  unfold Hid World.freeze
  rw [if_neg hl0]
  refine ⟨rfl,rfl,rfl,by simp,fun i hi hs=>?_⟩
  have hne2:g≠i:=by
   rintro rfl
   exact hs (Or.inr ⟨hbg,cur,_,hg⟩)
  simp only [Array.getElem?_modify]
  rw [if_neg hne2]
  rfl
 clear hown hne hbk hg htake
 go_enter Tryz.func113,Tryz.ntmps113
 go_wp2
 go_region
 all_goals (go_wp2; go_ret; exact ⟨rfl,HF.out⟩)
end Go.Proofs.YtcpjeaaapocoeaaGreatDoor

namespace Go.Proofs.YtcpjeaaapocoeaaGreatDoor
open Go.RowKit
def SRow (w:World) (A:Option Addr) (ss:List ByteArray):Prop:=ss≠[]→∃ b off cs f,A=some ⟨b,off,none⟩∧w.heap[b]? = some (.cells cs 9 f)∧∀ i,i < ss.length→cs[off + i]? = some (.string (ss[i]?.getD ⟨#[]⟩))
theorem WrIs.blk {lo g:Nat} {l:List UInt8} {w:World} (h:WrIs lo g l w):∃ cs,w.heap[g]? = some (.cells cs 119 (0,0)):=by
 obtain ⟨p,_,_,v,hbk,_⟩:=h
 exact ⟨_,hbk⟩
theorem SRow.wr {w w':World} {A:Option Addr} {ss:List ByteArray} {lo g:Nat} {l:List UInt8} (h:SRow w A ss) (hg:WrIs lo g l w) (hF:WrFr lo g w w'):SRow w' A ss:=fun h0=>by
 obtain ⟨b,off,cs,f,e,hb,hc⟩:=h h0
 obtain ⟨cg,hcg⟩:=hg.blk
 have hlt:b < w.heap.size:=by
  rcases Nat.lt_or_ge b w.heap.size with h | h
  ·exact h
  ·rw [Array.getElem?_eq_none h] at hb; cases hb
 refine ⟨b,off,cs,f,e,(hF.block b hlt (fun hs=>?_)).trans hb,hc⟩
 rcases hs with e | ⟨_,c2,f2,h8⟩
 ·subst e
  rw [hb] at hcg
  injection hcg with hcg
  injection hcg with _ e _
  exact absurd e (by decide)
 ·rw [hb] at h8
  injection h8 with h8
  injection h8 with _ e _
  exact absurd e (by decide)
theorem SRow.at_ {w:World} {A:Option Addr} {ss:List ByteArray} (h:SRow w A ss) {i:Nat} (hi:i < ss.length):∃ b off,A=some ⟨b,off,none⟩∧w.cell? ⟨b,off + i,none⟩=some (.string (ss[i]?.getD ⟨#[]⟩)):=by
 obtain ⟨b,off,cs,f,e,hb,hc⟩:=h (fun e=>by rw [e] at hi; simp at hi)
 exact ⟨b,off,e,by rw [cell_of_row w b (off + i) cs _ f hb]; exact hc i hi⟩
def ZaS (ss:List ByteArray):List UInt8:=ss.flatMap (fun s=>32 :: bytes s)
def ZaT (k:ByteArray) (ss:List ByteArray):List UInt8:=bytes k ++ ZaS ss ++ [10]
theorem Zdv {ss:List ByteArray} {j:Nat} (h:j < ss.length):ZaS (ss.take (j + 1))=ZaS (ss.take j) ++ [32] ++ bytes (ss[j]?.getD ⟨#[]⟩):=by
 unfold ZaS
 rw [List.take_succ_eq_append_getElem h,List.flatMap_append,List.getElem?_eq_getElem h]
 simp
theorem Zeq {ss:List ByteArray} (j:Nat):(ZaS (ss.take j)).length≤(ZaS ss).length:=by
 conv=>rhs; rw [← List.take_append_drop j ss]
 unfold ZaS
 rw [List.flatMap_append,List.length_append]
 omega
set_option maxHeartbeats 4000000 in
theorem ZhD (lo g:Nat) (l:List UInt8) (k:ByteArray) (A:Option Addr) (cap:Nat) (ss:List ByteArray) (w:World) (h:WrIs lo g l w) (hS:SRow w A ss) (hl:l.length≤1048576) (hk:(ZaT k ss).length≤70368744177664) (hss:ss.length≤9223372036854775807) :
 Calls Tryz.prog 109 #[.pointer (some ⟨g,0,none⟩), .string k, .slice A ss.length cap] w fun e w'=>e=.returned (.tuple #[])∧WrIs lo g (l ++ ZaT k ss) w'∧WrFr lo g w w':=by
 obtain ⟨n,hn⟩:∃ n,ss.length=n:=⟨_,rfl⟩
 rw [hn]
 have hlk:(ZaT k ss).length=(bytes k).length + (ZaS ss).length + 1:=by unfold ZaT; rw [List.length_append,List.length_append]; rfl
 have hks:(bytes k).length=k.size:=Zah k
 have HS:=zh hS
 have HW:=zh h
 have HN:=zh hn
 have HK:=zh hk
 have HLK:=zh hlk
 have HKS:=zh hks
 have hlI:(l.length:Int)≤1048576:=by omega
 clear hS h hk hlk hks
 go_enter Tryz.func109,Tryz.ntmps109
 go_wp2_with (go_at_call 112; refine (Zii lo g l _ HW.out).mono ?_; rintro e w' ⟨rfl,rfl⟩)
 refine (Zdm lo g l k _ HW.out (by have:=HLK.out; have:=HK.out; have:=HKS.out; omega)).mono ?_
 rintro e w1 ⟨rfl,hW1,hF1⟩
 have HW1:=zh hW1
 have HF1:=zh hF1
 have HS1:=zh (HS.out.wr HW.out hF1)
 clear hW1 hF1
 go_wp2_with fail
 go_loopw [20] (fun v wr=>∃ j:Nat,j≤n∧v=.int .i64 (j:Int)∧Hid (WrIs lo g (l ++ bytes k ++ ZaS (ss.take j)) wr)∧Hid (WrFr lo g w' wr)∧Hid (SRow wr A ss)) (fun v _=>n - (intOf v).toNat)
 case atStart=>exact ⟨0,by omega,rfl,by unfold Hid; rw [List.take_zero,show ZaS []=[] from rfl,List.append_nil]; exact HW1.out,HF1,HS1⟩
 case round =>
  obtain ⟨j,hj,rfl,hWj,hFj,hSj⟩:=hrel
  have hlen:(l ++ bytes k ++ ZaS (ss.take j)).length≤140737488355000:=by
   have:=HLK.out; have:=HK.out; have:=Zeq (ss:=ss) j
   rw [List.length_append,List.length_append]; omega
  by_cases hlt:j < n
  ·obtain ⟨b,off,rfl,hc⟩:=hSj.out.at_ (i:=j) (by rw [HN.out]; exact hlt)
   obtain ⟨s,hs⟩:∃ s,ss[j]?.getD ⟨#[]⟩=s:=⟨_,rfl⟩
   rw [hs] at hc
   have hstep:Hid (l ++ bytes k ++ ZaS (ss.take (j + 1))=l ++ bytes k ++ ZaS (ss.take j) ++ [32] ++ bytes s):=by
    unfold Hid; rw [Zdv (by rw [HN.out]; exact hlt),hs]; simp only [List.append_assoc]
   have hsl:(bytes s).length≤70368744177664:=by
    have h1:=Zeq (ss:=ss) (j + 1)
    rw [Zdv (by rw [HN.out]; exact hlt),hs,List.length_append] at h1
    have:=HLK.out; have:=HK.out
    omega
   have hj0:(0:Int)≤(j:Int):=by omega
   have hjn:(j:Int) < (n:Int):=by omega
   have hssz:s.size≤70368744177664:=by rw [Zah] at hsl; exact hsl
   have hlen2:l.length + (bytes k).length + (ZaS (ss.take j)).length + (bytes s).length≤140737488355000:=by
    have h1:=Zeq (ss:=ss) (j + 1)
    rw [Zdv (by rw [HN.out]; exact hlt),hs,List.length_append,List.length_append] at h1
    have:=HLK.out; have:=HK.out
    omega
   have HL2:=zh hlen2
   clear hs hsl hlen2
   go_wp2_with (go_at_call 223; refine (Zd7 lo g _ 32 _ hWj.out (by omega)).mono ?_)
   rintro e w2 ⟨rfl,hW2,hF2⟩
   have HW2:=zh hW2
   have HF2:=zh hF2
   have HS2:=zh (hSj.out.wr hWj.out hF2)
   clear hW2 hF2
   go_wp2_with (go_at_call 222; refine (Zdm lo g _ s _ HW2.out (by
    have:=HL2.out; rw [Zah s] at this
    simp only [List.length_append,List.length_cons,List.length_nil]; omega)).mono ?_)
   rintro e w3 ⟨rfl,hW3,hF3⟩
   have HW3:Hid (WrIs lo g (l ++ bytes k ++ ZaS (ss.take (j + 1))) w3):=by unfold Hid; rw [hstep.out]; exact hW3
   have HF3:Hid (WrFr lo g w' w3):=(hFj.out.trans HF2.out).trans hF3
   have HS3:=zh (HS2.out.wr HW2.out hF3)
   clear hW3 hF3
   go_wp2
   go_roundw
   case rel=>exact ⟨j + 1,by omega,by go_num,HW3.out,HF3.out,HS3.out⟩
   case measure=>simp [intOf]; omega
  ·obtain rfl:j=n:=by omega
   have HWn:Hid (WrIs lo g (l ++ bytes k ++ ZaS ss) wr):=by
    have h:=hWj.out
    rw [List.take_of_length_le (by rw [HN.out]; exact Nat.le_refl _)] at h
    exact h
   have hln:(l ++ bytes k ++ ZaS ss).length + 1≤140737488355328:=by
    have:=HLK.out; have:=HK.out
    rw [List.length_append,List.length_append]; omega
   clear hWj hlen
   go_wp2_with (go_at_call 223; refine (Zd7 lo g _ 10 _ HWn.out hln).mono ?_)
   rintro e w2 ⟨rfl,hW2,hF2⟩
   have HW2:Hid (WrIs lo g (l ++ ZaT k ss) w2):=by
    unfold Hid ZaT
    rw [show l ++ (bytes k ++ ZaS ss ++ [10])=l ++ bytes k ++ ZaS ss ++ [10] by simp only [List.append_assoc]]
    exact hW2
   have HF2:Hid (WrFr lo g w' w2):=hFj.out.trans hF2
   clear hW2 hF2
   go_wp2
   go_end0
   exact ⟨rfl,HW2.out,HF2.out⟩
end Go.Proofs.YtcpjeaaapocoeaaGreatDoor

namespace Go.Proofs.YtcpjeaaapocoeaaGreatDoor
open Go.RowKit
def ZbZ (z:Int):Prop := -9223372036854775808≤z∧z≤9223372036854775807
def Zaj (z:Int):ByteArray:=⟨(Lib.itoa z).toArray⟩
set_option maxHeartbeats 4000000 in
theorem Zfg (A:Option Addr) (c:Nat) (zs:List Int) (w:World) (hg:Glob w) (hI:IRow w A zs) (hz:∀ i,i < zs.length→ZbZ (nth zs i)) (hl:zs.length≤1000000) :
 Calls Tryz.prog 110 #[.slice A zs.length c] w fun e w'=>∃ b,e=.returned (.slice (some ⟨b,0,none⟩) zs.length zs.length)∧w.heap.size≤b∧Blk 9 w' b (Lib.cellsOf (zs.map Zaj) zs.length)∧Ext w w':=by
 obtain ⟨n,hn⟩:∃ n,zs.length=n:=⟨_,rfl⟩
 rw [hn]
 have HG:=zh hg
 have HI:=zh hI
 have HZ:=zh hz
 have HN:=zh hn
 have hmk:=run_make_row' (P:=Tryz.prog) 59 9 (.string ByteArray.empty) 16 Tryz.underlying59 (by kernel_rfl) rfl .i64 .i64 n (by omega) (by omega)
 clear hg hI hz
 go_enter Tryz.func110,Tryz.ntmps110
 go_wp2
 generalize hwb:World.alloc w _=wb
 obtain ⟨b,hb⟩:∃ b,w.heap.size=b:=⟨_,rfl⟩
 rw [hb]
 have HB:Hid (Blk 9 wb b (Lib.cellsOf [] n)):=by
  unfold Hid; rw [← hwb,← hb,Lib.cellsOf_nil]; exact Blk.new _ _ _
 have HE:Hid (Ext w wb):=hwb ▸ (Fr.refl _ _).alloc _
 have Hb:=zh hb
 clear hmk hwb
 go_loopw [11] (fun v wr=>∃ j:Nat,j≤n∧v=.int .i64 (j:Int)∧Hid (Blk 9 wr b (Lib.cellsOf ((zs.take j).map Zaj) n))∧Hid (Ext w wr)) (fun v _=>n - (intOf v).toNat)
 case atStart=>exact ⟨0,by omega,rfl,HB,HE⟩
 case round =>
  obtain ⟨j,hj,rfl,hB,Q⟩:=hrel
  by_cases hlt:j < n
  ·obtain ⟨bA,off,rfl,_,hc⟩:=HI.out.ext Q.out j (by rw [HN.out]; exact hlt)
   have hzr:=HZ.out j (by rw [HN.out]; exact hlt)
   have hj0:(0:Int)≤(j:Int):=by omega
   have hjn:(j:Int) < (n:Int):=by omega
   have hstep:Hid ((zs.take (j + 1)).map Zaj=(zs.take j).map Zaj ++ [Zaj (nth zs j)]):=by
    unfold Hid nth
    rw [List.take_succ_eq_append_getElem (by rw [HN.out]; exact hlt),List.map_append,List.getElem?_eq_getElem (by rw [HN.out]; exact hlt)]
    rfl
   have hjl:Hid (((zs.take j).map Zaj).length=j):=by
    unfold Hid; rw [List.length_map,List.length_take,HN.out]; omega
   obtain ⟨z,hz⟩:∃ z,nth zs j=z:=⟨_,rfl⟩
   rw [hz] at hc hzr hstep
   clear hz
   go_wp2_with fail
   refine (Tryz.strconv_Itoa z hzr.1 hzr.2 _ (HG.out.ext Q.out).1).mono ?_
   rintro e w2 ⟨rfl,kk,os,eo⟩
   have hE1:Ext wr w2:=by rw [eo]; exact Fr.ofBelow (Lib.below_grow _ wr (Nat.le_refl _) kk os)
   have hB2:=hB.out.ext hE1
   have hcell:w2.cell? ⟨b,j,none⟩=some (.string ByteArray.empty):=by
    rw [hB2.cell]
    have:=Lib.cellsOf_next (done:=(zs.take j).map Zaj) (N:=n) (by rw [hjl.out]; exact hlt)
    rwa [hjl.out] at this
   have hfrz:=hB2.frozen j
   have HBs:Hid (Blk 9 (w2.setCell ⟨b,j,none⟩ (.string (Zaj z))) b (Lib.cellsOf ((zs.take (j + 1)).map Zaj) n)):=by
    have h:=hB2.set_ j (.string (Zaj z))
    have h2:=Lib.cellsOf_set (done:=(zs.take j).map Zaj) (N:=n) (by rw [hjl.out]; exact hlt) (Zaj z)
    rw [hjl.out] at h2
    rw [h2,← hstep.out] at h
    exact h
   have HEs:Hid (Ext w (w2.setCell ⟨b,j,none⟩ (.string (Zaj z)))):=(Q.out.trans hE1).setCell (p:=⟨b,j,none⟩) (Or.inr (by rw [Hb.out]; exact Nat.le_refl _)) _
   change Hid (Blk 9 (w2.setCell ⟨b,j,none⟩ (.string ⟨(Lib.itoa z).toArray⟩)) b _) at HBs
   change Hid (Ext w (w2.setCell ⟨b,j,none⟩ (.string ⟨(Lib.itoa z).toArray⟩))) at HEs
   clear hE1 hB2 eo hB Q hc
   go_wp2
   go_roundw
   case rel=>exact ⟨j + 1,by omega,by go_num,HBs.out,HEs.out⟩
   case measure=>simp [intOf]; omega
  ·obtain rfl:j=n:=by omega
   have HBn:Hid (Blk 9 wr b (Lib.cellsOf (zs.map Zaj) j)):=by
    have h:=hB.out
    rw [List.take_of_length_le (by rw [HN.out]; exact Nat.le_refl _)] at h
    exact h
   have hbl:w.heap.size≤b:=by rw [Hb.out]; exact Nat.le_refl _
   go_wp2
   go_ret
   exact ⟨b,rfl,hbl,HBn.out,Q.out⟩
end Go.Proofs.YtcpjeaaapocoeaaGreatDoor

namespace Go.Proofs.YtcpjeaaapocoeaaGreatDoor
open Go.RowKit
section
variable {N:Nat} {S0:Nat→Prop} {w0:World} {s:St} {Φ Ψ:World→Prop} {L:Nat→Nat} {a:Act} {w:World} {P:Program} {ops:Array Oper} {Q:Exit→Act→World→Prop}
def SWr (lo g:Nat) (w0:World) (i:Nat):Prop:=i=g∨(lo≤i∧IsU8 w0 i)
theorem WrFr.s0 {lo g:Nat} {w0 w w':World} (Q:Fr (SWr lo g w0) w0 w) (h:WrFr lo g w w'):Fr (SWr lo g w0) w0 w':=WrFr.trans Q h
theorem ZcF {lo g:Nat} {wl w0 w:World} (h0:Ext wl w0) (hlo:wl.heap.size=lo) (hg:lo≤g) (Q:Fr (SWr lo g w0) w0 w):Ext wl w:=by
 subst hlo
 exact Fr.next h0 Q (fun i hi hT=>by rcases hT with e | ⟨e,_⟩<;>omega)
theorem WrIs.fr {lo g:Nat} {l:List UInt8} {S:Nat→Prop} {w w':World} (h:WrIs lo g l w) (hF:Fr S w w') (hg:¬ S g) (h8:∀ i,IsU8 w i→¬ S i):WrIs lo g l w':=by
 have hlt:g < w.heap.size:=by
  obtain ⟨cs,hc⟩:=h.blk
  rcases Nat.lt_or_ge g w.heap.size with h | h
  ·exact h
  ·rw [Array.getElem?_eq_none h] at hc; cases hc
 obtain ⟨p,hp,hB,v,hbk,hown,hne⟩:=h
 refine ⟨p,hp,hB,v,(hF.block g hlt hg).trans hbk,?_,hne⟩
 obtain ⟨h1,h2⟩:=hown
 refine ⟨h1,?_⟩
 rcases h2 with h2 | ⟨k,cap,cur,e,hk,hh,r⟩
 ·exact Or.inl h2
 ·have hkl:k < w.heap.size:=by
   rcases Nat.lt_or_ge k w.heap.size with h | h
   ·exact h
   ·rw [Array.getElem?_eq_none h] at hh; cases hh
  exact Or.inr ⟨k,cap,cur,e,hk,(hF.block k hkl (h8 k ⟨_,_,hh⟩)).trans hh,r⟩
def noWr (bl:BlL):Bool:=bl.all (fun q => !(Nat.beq q.2.1 119) && !(Nat.beq q.2.1 5))
theorem Zfh {i d lo g:Nat} {sl:SlL} {bl:BlL} {l:List UInt8} {v:Value} (Ψ:World→Prop) (f:FuncId) (args:List Value) (hS0:∀ w w',Fr S0 w0 w→WrFr lo g w w'→Fr S0 w0 w') (hno:noWr bl=true)
 (hC:∀ w,Fr S0 w0 w→Φ w→Calls P f args.toArray w (fun en w'=>en=.returned v∧Ψ w'∧WrFr lo g w w'))
 (R:∀ w,Φ w→WrIs lo g l w) (hΨ:∀ (S:Nat→Prop) (w w':World),Ψ w→Fr S w w'→¬ S g→(∀ i,IsU8 w i→¬ S i)→Ψ w')
 (K:SXi P N S0 w0 ops Q (i + 1) ((ofL sl bl).put d (.v v)) Ψ)
 (hsz:Nat.blt i ops.size=true:=by kernel_rfl) (h:ZbM P N ops (opAt ops i) (ofL sl bl)=some (f,args,d):=by kernel_rfl):SXi P N S0 w0 ops Q i (ofL sl bl) Φ:=by
 obtain ⟨hw,hq,hd,hn,hv,hk,hN⟩:=Zcu h
 unfold SXi
 rw [Zbr hsz]
 intro L a w hi
 refine wpList_step (fun K' hK=>?_)
 rw [if_pos (hi.want hw)]
 unfold Oper.wp
 rw [hi.exec hn hv,ZgG hq hk,Oper.upon_enter]
 refine Calls.mono (hC w hi.mem.ext hi.box.self) fun en w' h'=>?_
 obtain ⟨rfl,hW,hF⟩:=h'
 simp only [hd]
 have h0:=hi.app0 (d:=d) hN (al_v (s:=ofL sl bl) v)
 obtain ⟨cg,hcg⟩:=(R w hi.box.self).blk
 have hown:∀ b t cs,(ofL sl bl).bl b=some (t,cs)→¬ (L b=g∨(lo≤L b∧IsU8 w (L b))):=fun b t cs e hs=>by
  have hB:w.heap[L b]? = some (.cells _ t (0,0)):=hi.mem.blk b t cs e
  have hq:=List.all_eq_true.1 hno _ (ZaI e)
  simp only [Bool.and_eq_true,Bool.not_eq_true'] at hq
  rcases hs with e | ⟨_,c2,f2,h8⟩
  ·rw [e,hcg] at hB
   injection hB with hB
   injection hB with _ e2 _
   subst e2
   exact absurd hq.1 (by decide)
  ·rw [h8] at hB
   injection hB with hB
   injection hB with _ e2 _
   subst e2
   exact absurd hq.2 (by decide)
 refine hK _ _ (K L _ _ ⟨h0.size,h0.df,h0.sl,⟨fun b t cs e=>(h0.mem.blk b t cs e).fr hF (hown b t cs e),h0.mem.inj,h0.mem.old,?_,h0.mem.slp,h0.mem.cel⟩,fun w2 hf=>?_⟩)
 ·exact hS0 _ _ hi.mem.ext hF
 ·have hB':∀ b t cs,(ofL sl bl).bl b=some (t,cs)→∃ cc,w'.heap[L b]? = some (.cells cc t (0,0)):=fun b t cs e=>⟨_,(h0.mem.blk b t cs e).fr hF (hown b t cs e)⟩
  refine hΨ _ _ _ hW hf (fun ⟨b,hb,e⟩=>?_) (fun i h8 ⟨b,hb,e⟩=>?_)
  ·obtain ⟨⟨t,cs⟩,eb⟩:=Option.isSome_iff_exists.1 hb
   exact hown b t cs eb (Or.inl e)
  ·obtain ⟨⟨t,cs⟩,eb⟩:=Option.isSome_iff_exists.1 hb
   obtain ⟨cc,hcc⟩:=hB' b t cs eb
   obtain ⟨c2,f2,h8⟩:=h8
   have hq:=List.all_eq_true.1 hno _ (ZaI eb)
   simp only [Bool.and_eq_true,Bool.not_eq_true'] at hq
   rw [e,h8] at hcc
   injection hcc with hcc
   injection hcc with _ e2 _
   subst e2
   exact absurd hq.2 (by decide)
theorem Zfi {i d lo g:Nat} {sl:SlL} {bl:BlL} {l l':List UInt8} {v:Value} (f:FuncId) (args:List Value) (hS0:∀ w w',Fr S0 w0 w→WrFr lo g w w'→Fr S0 w0 w') (hno:noWr bl=true)
 (hC:∀ w,Fr S0 w0 w→Φ w→Calls P f args.toArray w (fun en w'=>en=.returned v∧WrIs lo g l' w'∧WrFr lo g w w'))
 (R:∀ w,Φ w→WrIs lo g l w)
 (K:SXi P N S0 w0 ops Q (i + 1) ((ofL sl bl).put d (.v v)) (fun w=>WrIs lo g l' w))
 (hsz:Nat.blt i ops.size=true:=by kernel_rfl) (h:ZbM P N ops (opAt ops i) (ofL sl bl)=some (f,args,d):=by kernel_rfl):SXi P N S0 w0 ops Q i (ofL sl bl) Φ :=
 Zfh (l:=l) (WrIs lo g l') f args hS0 hno hC R (fun _ _ _ hW hf h1 h2=>hW.fr hf h1 h2) K hsz h
end
theorem Zer {m0:Nat} {P:Program} {o:Oper} {ρ:Operand→Value} {w:World} {t e:TypeId} {n sz:Nat} {z:Value} {parts:Array (Nat × Operand)} {cells:Array Value} (hm:m0≤w.heap.size) (ho:o.op=Op.buildSlice t n parts) (ht:P.underlying t=some (.slice e))
 (hinfo:(P.info? e).map (fun i=>(i.zero,i.size))=some (some z,sz)) (hn:Nat.ble (n * sz) 1000=true) (hn0:Nat.beq (n * sz) 0=false)
 (hf:Instr.fill (fun i=>some (i * sz,sz)) ((List.range (n * sz)).map (fun i=>z.cells[i % z.cells.size]!)).toArray (parts.toList.map fun q=>(q.1,ρ q.2))=some cells) :
 Does P o ρ w (DoR (fun b:{b:Nat // m0≤b}=>.slice (some ⟨b.1,0,none⟩) n n) (fun b w=>Blk e w b.1 cells) w):=by
 have hrun:=ZfV (w:=w) ht hinfo hn hn0 hf
 exact Or.inl ⟨_,_,by simp [execOp,ho,hrun,Result.andThen],⟨w.heap.size,hm⟩,rfl,(Fr.refl _ w).alloc _,fun S hS w'' hF=>(Blk.new w e cells).fr hF (fun h=>by have:=(hS _ h).1; omega)⟩
theorem Zes {w w':World} {en:Ending} {zs:List Int} (h:∃ b,en=.returned (.slice (some ⟨b,0,none⟩) zs.length zs.length)∧w.heap.size≤b∧Blk 9 w' b (Lib.cellsOf (zs.map Zaj) zs.length)∧Ext w w') :
 ZbQ (fun b:Nat=>.slice (some ⟨b,0,none⟩) zs.length zs.length) (fun b w=>Blk 9 w b ((zs.map Zaj).map Value.string).toArray) w en w':=by
 obtain ⟨b,rfl,hb,hB,Q⟩:=h
 have hB2:Blk 9 w' b ((zs.map Zaj).map Value.string).toArray:=by
  have e:Lib.cellsOf (zs.map Zaj) zs.length=((zs.map Zaj).map Value.string).toArray:=by
   have:=Lib.cellsOf_full (zs.map Zaj)
   rwa [List.length_map] at this
  rw [e] at hB; exact hB
 exact ⟨b,rfl,Q,fun S hS w'' hF=>hB2.fr hF (fun h=>by have:=(hS _ h).1; omega)⟩
theorem SRow.ofStr {w:World} {b:Nat} {ss:List ByteArray} {cur:List Value} (h:Blk 9 w b cur.toArray) (hc:cur.take ss.length=ss.map Value.string):SRow w (some ⟨b,0,none⟩) ss:=fun _=>by
 refine ⟨b,0,_,_,rfl,h,fun i hi=>?_⟩
 rw [Nat.zero_add]
 have h1:(cur.take ss.length)[i]? = (ss.map Value.string)[i]? := by rw [hc]
 rw [List.getElem?_take_of_lt hi,List.getElem?_map,List.getElem?_eq_getElem hi] at h1
 simpa [List.getElem?_eq_getElem hi] using h1
end Go.Proofs.YtcpjeaaapocoeaaGreatDoor

namespace Go.Proofs.YtcpjeaaapocoeaaGreatDoor
open Go.RowKit
section
variable {N:Nat} {S0:Nat→Prop} {w0:World} {s:St} {Φ Φ0:World→Prop} {P:Program} {ops:Array Oper} {Q:Exit→Act→World→Prop}
theorem Strat.append {fin:St→(World→Prop)→Prop} {l2:List Nat}:∀ (l:List Nat) (s:St) (Φ:World→Prop),Strat P N S0 w0 ops Φ0 (fun s Φ=>Strat P N S0 w0 ops Φ0 fin l2 s Φ) l s Φ→Strat P N S0 w0 ops Φ0 fin (l ++ l2) s Φ:=by
 intro l s Φ h
 generalize hf:(fun s Φ=>Strat P N S0 w0 ops Φ0 fin l2 s Φ)=f at h
 induction h with
 | done h=>subst hf; exact h
 | flt h hd hN _ ih=>exact .flt h hd hN ih
 | does hα sh φ hm hw hn hv hd hN hdo _ ih=>exact .does hα sh φ hm hw hn hv hd hN hdo ih
 | sto hm h hd _ ih=>exact .sto hm h hd ih
theorem Strat.fin {f g:St→(World→Prop)→Prop} (hfg:∀ s Φ,f s Φ→g s Φ) {l:List Nat} {s:St} {Φ:World→Prop} (h:Strat P N S0 w0 ops Φ0 f l s Φ):Strat P N S0 w0 ops Φ0 g l s Φ:=by
 induction h with
 | done h=>exact .done (hfg _ _ h)
 | flt h hd hN _ ih=>exact .flt h hd hN ih
 | does hα sh φ hm hw hn hv hd hN hdo _ ih=>exact .does hα sh φ hm hw hn hv hd hN hdo ih
 | sto hm h hd _ ih=>exact .sto hm h hd ih
def okP (R:Nat→Nat→Bool) (ops:Array Oper) (s0:St) (y j:Nat):Bool:=R j y || ((opAt ops y).apart ops (opAt ops j) && (Zbt (opAt ops y).op (opAt ops j).op || (lsB (opAt ops y).op (opAt ops j).op && farB ops s0 (opAt ops y) (opAt ops j))))
theorem Zfj {R:Nat→Nat→Bool} {s0:St} {y j:Nat} {oj:Oper} {listed:Array Bool} (hR:Zdk ops R) (hcl:ZbW .any ops listed) (hoj:ops[j]? = some oj) (hall:∀ e ∈ oj.after,Region.binds .any e=true→listed.getD e.on false=true) (hyu:listed.getD y true=false)
 (h:okP R ops s0 y j=true):(opAt ops y).apart ops (opAt ops j)=true∧(Zbt (opAt ops y).op (opAt ops j).op=true∨(lsB (opAt ops y).op (opAt ops j).op=true∧farB ops s0 (opAt ops y) (opAt ops j)=true)):=by
 unfold okP at h
 rw [Bool.or_eq_true] at h
 rcases h with h1 | h1
 ·have h2:=hR listed hcl j y h1 (fun o ho=>by
   have:o=oj:=Option.some.inj (ho.symm.trans hoj)
   subst this
   exact hall)
  rw [getD_both hyu] at h2
  cases h2
 ·simpa only [Bool.and_eq_true,Bool.or_eq_true] using h1
theorem Zf0 {n:Nat} {listed:Array Bool} (hn:n≤ops.size) (hback:Zcw ops=true) (hsz:listed.size=ops.size) (h:∃ i,i < n∧listed.getD i true=false):Region.ready .any ops listed≠[]:=by
 obtain ⟨x,R',hR'⟩:∃ x R,un n listed=x :: R:=by
  cases e:un n listed with
  | nil=>obtain ⟨i,hi⟩:=h; have:=Zcv.2 hi; rw [e] at this; cases this
  | cons x R=>exact ⟨x,R,rfl⟩
 have hx:=Zcv.1 (by rw [hR']; exact List.mem_cons_self:x ∈ un n listed)
 have hmin:∀ i,i < x→listed.getD i true=true:=fun i hix=>by
  cases h:listed.getD i true with
  | true=>rfl
  | false =>
    have:=Zcv.2 ⟨(by omega:i < n),h⟩
    rw [hR'] at this
    have hs:=Zdj n listed
    rw [hR'] at hs
    rcases List.mem_cons.1 this with e | e
    ·omega
    ·have:=(List.pairwise_cons.1 hs).1 i e; omega
 have hxr:x ∈ Region.ready .any ops listed:=by
  have hxs:x < ops.size:=by omega
  refine mem_ready.2 ⟨hx.2,opAt ops x,Zcg hxs,fun e he heb=>?_⟩
  have h1:=List.all_eq_true.1 hback x (List.mem_range.2 hxs)
  rw [Zcg hxs] at h1
  have h2':=Array.all_eq_true'.1 h1 e he
  rw [heb] at h2'
  have h2:=Nat.le_of_ble_eq_true h2'
  have h3:=hmin e.on h2
  have h4:e.on < listed.size:=by rw [hsz]; exact Nat.lt_trans h2 hxs
  simp [h4] at h3 ⊢; exact h3
 intro h
 rw [h] at hxr; cases hxr
theorem Zfk {l1 l2:List Nat} {j n:Nat} {listed:Array Bool} (hnd:(l1 ++ j :: l2).Nodup) (hsz:j < listed.size) (hm:∀ i,i ∈ l1 ++ j :: l2 ↔ i < n∧listed.getD i true=false):∀ i,i ∈ l1 ++ l2 ↔ i < n∧(listed.setIfInBounds j true).getD i true=false:=fun i=>by
 have hj:j ∉ l1 ++ l2:=fun h=>by
  rw [List.nodup_append] at hnd
  obtain ⟨_,h2,h3⟩:=hnd
  rcases List.mem_append.1 h with h | h
  ·exact h3 j h j List.mem_cons_self rfl
  ·exact (List.nodup_cons.1 h2).1 h
 by_cases e:i=j
 ·subst e
  have:(listed.setIfInBounds i true).getD i true=true:=by simp [hsz]
  rw [this]
  simp [hj]
 ·rw [getD_set_ne true (Ne.symm e),← hm i]
  simp [e]
theorem ZiI {fin:St→(World→Prop)→Prop} {s0:St} {n:Nat} {R:Nat→Nat→Bool} (hR:Zdk ops R) (hu:Zcb ops=true) (hn:n≤ops.size) (hback:Zcw ops=true) (htail:∀ i,i < n→Zbs .any ops n i=true) (hseq:Region.seqB .any ops (ops.size - n) n (Zbx ops n)=true) (hne:∃ w,Φ0 w)
 (hfin:∀ s Φ,fin s Φ→∀ L a w,Inv N S0 w0 s Φ L a w→wpList P ops Q (ops.toList.drop n) a w) :
 ∀ (k:Nat) (listed:Array Bool) (LL:List Nat) (s:St) (Φ:World→Prop) (L:Nat→Nat) (a:Act) (w:World),LL.length=k→listed.size=ops.size→(∀ i,i ∈ LL ↔ i < n∧listed.getD i true=false)→LL.Nodup→LL.Pairwise (fun y j=>okP R ops s0 y j=true)→(∀ i,n≤i→i < ops.size→listed.getD i true=false)→ZbW .any ops listed →
   BI ops s0 s→(∀ w,Φ w→Φ0 w)→Inv N S0 w0 s Φ L a w→Strat P N S0 w0 ops Φ0 fin LL s Φ→wpAny P .any ops Q (k + (ops.size - n)) listed a w:=by
 intro k
 induction k with
 | zero =>
   intro listed LL s Φ L a w hk hsz hmem hnd hpw htl hcl hBI S hi hS
   obtain rfl:LL=[]:=List.length_eq_zero_iff.1 hk
   have hl:listed=Zbx ops n:=by
    refine Array.ext (by simp [Zbx,hsz]; omega) (fun i h1 h2=>?_)
    have hi':i < ops.size:=by rw [← hsz]; exact h1
    have e:listed.getD i true=listed[i]:=by simp [h1]
    rw [← e]
    by_cases hin:i < n
    ·have:listed.getD i true≠false:=fun h=>by
      have:=(hmem i).2 ⟨hin,h⟩
      cases this
     simp only [Zbx,List.getElem_toArray]
     rw [List.getElem_append_left (by simpa using hin),List.getElem_replicate]
     cases h:listed.getD i true with
     | true=>rfl
     | false=>exact absurd h this
    ·rw [htl i (by omega) hi']
     simp only [Zbx,List.getElem_toArray]
     rw [List.getElem_append_right (by simpa using hin),List.getElem_replicate]
   have hdl:(ops.toList.drop n).length=ops.size - n:=by simp
   cases hS with
   | done hf =>
     have:=wpAny_of_seq (md:=.any) (Q':=Q) (ops.toList.drop n) n listed a w (fun j=>by simp [List.getElem?_drop]) (by rw [hdl,hl]; exact hseq) (hfin _ _ hf L a w hi)
     rw [hdl] at this
     rw [Nat.zero_add]; exact this
 | succ k ih =>
   intro listed LL s Φ L a w hk hsz hmem hnd hpw htl hcl hBI S hi hS
   rw [show k + 1 + (ops.size - n)=(k + (ops.size - n)) + 1 by omega]
   have hex:∃ i,i < n∧listed.getD i true=false:=by
    cases LL with
    | nil=>cases hk
    | cons x l=>exact ⟨x,(hmem x).1 List.mem_cons_self⟩
   refine ⟨fun h=>absurd h (Zf0 hn hback hsz hex),fun j hj=>?_⟩
   obtain ⟨i0,hi0,hi1⟩:=hex
   have hjn:j < n:=Zfb (htail i0 hi0) hcl hi1 hj
   obtain ⟨hjun,oj,hoj,hall⟩:=mem_ready.1 hj
   have hjm:j ∈ LL:=(hmem j).2 ⟨hjn,hjun⟩
   obtain ⟨l1,l2,rfl⟩:=List.append_of_mem hjm
   have hap:∀ y,y ∈ l1→y < ops.size∧(opAt ops y).apart ops (opAt ops j)=true∧(Zbt (opAt ops y).op (opAt ops j).op=true∨(lsB (opAt ops y).op (opAt ops j).op=true∧farB ops s0 (opAt ops y) (opAt ops j)=true)):=fun y hy=>by
    have hyu:=(hmem y).1 (List.mem_append_left _ hy)
    exact ⟨by omega,Zfj hR hcl hoj hall hyu.2 ((List.pairwise_append.1 hpw).2.2 y hy j List.mem_cons_self)⟩
   have hS':=Strat.front hu hne l1 l2 s Φ hi.wf hBI hap hS
   refine Strat.exec hu hBI (by omega) hi S hS' (fun s' Φ' L' a' w' hBI' hΦ' hi' K'=>?_)
   have hsub:(l1 ++ l2).Sublist (l1 ++ j :: l2):=List.Sublist.append_left (List.sublist_cons_self j l2) l1
   refine ih (listed.setIfInBounds j true) (l1 ++ l2) s' Φ' L' a' w' ?_ (by simp [hsz]) (Zfk hnd (by omega) hmem) (hnd.sublist hsub) (hpw.sublist hsub) (fun i h1 h2=>?_) (hcl.set hj) hBI' hΦ' hi' K'
   ·simp only [List.length_append,List.length_cons] at hk ⊢
    omega
   ·rw [getD_set_ne true (by omega)]; exact htl i h1 h2
theorem Zf1 {fin:St→(World→Prop)→Prop} {s0:St} {n j:Nat} {R:Nat→Nat→Bool} (hR:Zdk ops R) (hu:Zcb ops=true) (hn:n≤ops.size) (hback:Zcw ops=true) (htail:∀ i,i < n→Zbs .any ops n i=true) (hseq:Region.seqB .any ops (ops.size - n) n (Zbx ops n)=true) (hne:∃ w,Φ0 w)
 (hfin:∀ s Φ,fin s Φ→∀ L a w,Inv N S0 w0 s Φ L a w→wpList P ops Q (ops.toList.drop n) a w) {listed:Array Bool} {l1 l2:List Nat} {s:St} {Φ:World→Prop} {L:Nat→Nat} {a:Act} {w:World} (hsz:listed.size=ops.size) (hmem:∀ i,i ∈ l1 ++ j :: l2 ↔ i < n∧listed.getD i true=false) (hnd:(l1 ++ j :: l2).Nodup)
 (hp:∀ y,y ∈ l1→okP R ops s0 y j=true) (hpw:(l1 ++ l2).Pairwise (fun y j=>okP R ops s0 y j=true)) (htl:∀ i,n≤i→i < ops.size→listed.getD i true=false) (hcl:ZbW .any ops listed) (hBI:BI ops s0 s) (S:∀ w,Φ w→Φ0 w) (hi:Inv N S0 w0 s Φ L a w) (hj:j ∈ Region.ready .any ops listed)
 (hS:Strat P N S0 w0 ops Φ0 fin (l1 ++ j :: l2) s Φ):wpOp P ops Q j (fun a w=>wpAny P .any ops Q ((l1 ++ l2).length + (ops.size - n)) (listed.setIfInBounds j true) a w) a w:=by
 obtain ⟨hjun,oj,hoj,hall⟩:=mem_ready.1 hj
 have hjn:=((hmem j).1 (by simp)).1
 have hap:∀ y,y ∈ l1→y < ops.size∧(opAt ops y).apart ops (opAt ops j)=true∧(Zbt (opAt ops y).op (opAt ops j).op=true∨(lsB (opAt ops y).op (opAt ops j).op=true∧farB ops s0 (opAt ops y) (opAt ops j)=true)):=fun y hy=>by
  have hyu:=(hmem y).1 (List.mem_append_left _ hy)
  exact ⟨by omega,Zfj hR hcl hoj hall hyu.2 (hp y hy)⟩
 have hS':=Strat.front hu hne l1 l2 s Φ hi.wf hBI hap hS
 have hsub:(l1 ++ l2).Sublist (l1 ++ j :: l2):=List.Sublist.append_left (List.sublist_cons_self j l2) l1
 exact Strat.exec hu hBI (by omega) hi S hS' (fun s' Φ' L' a' w' hBI' hΦ' hi' K'=>ZiI hR hu hn hback htail hseq hne hfin _ (listed.setIfInBounds j true) (l1 ++ l2) s' Φ' L' a' w' rfl (by simp [hsz]) (Zfk hnd (by omega) hmem) (hnd.sublist hsub) hpw (fun i h1 h2=>by rw [getD_set_ne true (by omega)]; exact htl i h1 h2) (hcl.set hj) hBI' hΦ' hi' K')
theorem ZiJ {fin:St→(World→Prop)→Prop} {s0:St} {n x0 y0:Nat} {RR:List Nat} {R:Nat→Nat→Bool} (hR:Zdk ops R) (hu:Zcb ops=true) (hn:n≤ops.size) (hback:Zcw ops=true) (htail:∀ i,i < n→Zbs .any ops n i=true) (hseq:Region.seqB .any ops (ops.size - n) n (Zbx ops n)=true) (hne:∃ w,Φ0 w) (hRR:∀ r,r ∈ RR→R r x0=true)
 (hfin:∀ s Φ,fin s Φ→∀ L a w,Inv N S0 w0 s Φ L a w→wpList P ops Q (ops.toList.drop n) a w) :
 ∀ (k:Nat) (listed:Array Bool) (LL:List Nat) (s:St) (Φ:World→Prop) (L:Nat→Nat) (a:Act) (w:World),LL.length=k→listed.size=ops.size→(∀ i,i ∈ LL ++ x0 :: y0 :: RR ↔ i < n∧listed.getD i true=false)→(LL ++ x0 :: y0 :: RR).Nodup→(LL ++ x0 :: RR).Pairwise (fun y j=>okP R ops s0 y j=true)→(LL ++ y0 :: RR).Pairwise (fun y j=>okP R ops s0 y j=true)→(∀ i,n≤i→i < ops.size→listed.getD i true=false)→ZbW .any ops listed →
   BI ops s0 s→(∀ w,Φ w→Φ0 w)→Inv N S0 w0 s Φ L a w→Strat P N S0 w0 ops Φ0 (fun s Φ=>Strat P N S0 w0 ops Φ0 fin (x0 :: y0 :: RR) s Φ∧Strat P N S0 w0 ops Φ0 fin (y0 :: x0 :: RR) s Φ) LL s Φ→wpAny P .any ops Q (k + 2 + RR.length + (ops.size - n)) listed a w:=by
 intro k
 induction k using Nat.strongRecOn with
 | _ k ih =>
   intro listed LL s Φ L a w hk hsz hmem hnd hp1 hp2 htl hcl hBI S hi hS
   have hA:Strat P N S0 w0 ops Φ0 fin (LL ++ x0 :: y0 :: RR) s Φ:=Strat.append LL s Φ (hS.fin (fun _ _ h=>h.1))
   have hB:Strat P N S0 w0 ops Φ0 fin (LL ++ y0 :: x0 :: RR) s Φ:=Strat.append LL s Φ (hS.fin (fun _ _ h=>h.2))
   rw [show k + 2 + RR.length + (ops.size - n)=(k + 1 + RR.length + (ops.size - n)) + 1 by omega]
   have hex:∃ i,i < n∧listed.getD i true=false:=⟨x0,(hmem x0).1 (by simp)⟩
   refine ⟨fun h=>absurd h (Zf0 hn hback hsz hex),fun j hj=>?_⟩
   obtain ⟨i0,hi0,hi1⟩:=hex
   have hjn:j < n:=Zfb (htail i0 hi0) hcl hi1 hj
   obtain ⟨hjun,oj,hoj,hall⟩:=mem_ready.1 hj
   have hjm:j ∈ LL ++ x0 :: y0 :: RR:=(hmem j).2 ⟨hjn,hjun⟩
   have hpx:=List.pairwise_append.1 hp1
   have hpy:=List.pairwise_append.1 hp2
   by_cases hx:j=x0
   ·subst hx
    have:=Zf1 hR hu hn hback htail hseq hne hfin (l1:=LL) (l2:=y0 :: RR) (s0:=s0) hsz hmem hnd (fun y hy=>hpx.2.2 y hy j (by simp)) hp2 htl hcl hBI S hi hj hA
    rw [List.length_append,hk,List.length_cons,show k + (RR.length + 1)=k + 1 + RR.length by omega] at this
    exact this
   by_cases hy:j=y0
   ·subst hy
    have hnd2:(LL ++ j :: x0 :: RR).Nodup:=by
     refine (List.Perm.nodup_iff (List.Perm.append_left LL (List.Perm.swap j x0 RR))).1 hnd
    have:=Zf1 hR hu hn hback htail hseq hne hfin (l1:=LL) (l2:=x0 :: RR) (s0:=s0) hsz (fun i=>by rw [← hmem i]; simp [or_left_comm]) hnd2 (fun y hy=>hpy.2.2 y hy j (by simp)) hp1 htl hcl hBI S hi hj hB
    rw [List.length_append,hk,List.length_cons,show k + (RR.length + 1)=k + 1 + RR.length by omega] at this
    exact this
   have hjl:j ∈ LL:=by
    have h3:j ∈ LL∨j ∈ RR:=by simpa [hx,hy] using hjm
    refine h3.elim id (fun h=>?_)
    have h2:=hR listed hcl j x0 (hRR j h) (fun o ho=>by
     have:o=oj:=Option.some.inj (ho.symm.trans hoj)
     subst this
     exact hall)
    rw [getD_both ((hmem x0).1 (by simp)).2] at h2
    cases h2
   obtain ⟨l1,l2,rfl⟩:=List.append_of_mem hjl
   rw [List.append_assoc,List.cons_append] at hmem hnd
   have hap:∀ y,y ∈ l1→y < ops.size∧(opAt ops y).apart ops (opAt ops j)=true∧(Zbt (opAt ops y).op (opAt ops j).op=true∨(lsB (opAt ops y).op (opAt ops j).op=true∧farB ops s0 (opAt ops y) (opAt ops j)=true)):=fun y hy=>by
    have hyu:=(hmem y).1 (List.mem_append_left _ hy)
    exact ⟨by omega,Zfj hR hcl hoj hall hyu.2 ((List.pairwise_append.1 hpx.1).2.2 y hy j List.mem_cons_self)⟩
   have hS':=Strat.front hu hne l1 l2 s Φ hi.wf hBI hap hS
   have hsub:(l1 ++ l2).Sublist (l1 ++ j :: l2):=List.Sublist.append_left (List.sublist_cons_self j l2) l1
   have hnd3:(l1 ++ l2 ++ x0 :: y0 :: RR).Nodup:=by
    refine hnd.sublist ?_
    rw [List.append_assoc]
    exact List.Sublist.append_left (List.sublist_cons_self j _) l1
   have hk2:(l1 ++ l2).length + 1=k:=by simp only [List.length_append,List.length_cons] at hk ⊢; omega
   refine Strat.exec hu hBI (by omega) hi S hS' (fun s' Φ' L' a' w' hBI' hΦ' hi' K'=>?_)
   have:=ih (l1 ++ l2).length (by omega) (listed.setIfInBounds j true) (l1 ++ l2) s' Φ' L' a' w' rfl (by simp [hsz]) (by rw [List.append_assoc]; exact Zfk hnd (by omega) hmem) hnd3 (hp1.sublist (List.Sublist.append_right hsub _)) (hp2.sublist (List.Sublist.append_right hsub _)) (fun i h1 h2=>by rw [getD_set_ne true (by omega)]; exact htl i h1 h2) (hcl.set hj) hBI' hΦ' hi' K'
   rwa [show (l1 ++ l2).length + 2 + RR.length + (ops.size - n)=k + 1 + RR.length + (ops.size - n) by omega] at this
def pwB (f:Nat→Nat→Bool):List Nat→Bool
 | []=>true
 | y :: l=>l.all (fun j=>f y j) && pwB f l
theorem ZdV {f:Nat→Nat→Bool}:∀ {l:List Nat},pwB f l=true→l.Pairwise (fun y j=>f y j=true)
 | [],_=>.nil
 | y :: l,h=>by
   obtain ⟨h1,h2⟩:=(Bool.and_eq_true _ _).mp h
   exact .cons (fun j hj=>List.all_eq_true.1 h1 j hj) (ZdV h2)
def ZiK (n:Nat) (l:List Nat):Bool:=pwB (fun a b => !(Nat.beq a b)) l && (l.all (fun i=>Nat.blt i n) && (List.range n).all (fun i=>l.any (fun j=>Nat.beq i j)))
theorem ZeZ {n:Nat} {l:List Nat} (h:ZiK n l=true):l.Nodup :=
 (ZdV ((Bool.and_eq_true _ _).mp h).1).imp (fun h e=>by subst e; simp at h)
theorem ZgR {n:Nat} {l:List Nat} (h:ZiK n l=true) (i:Nat):i ∈ l ↔ i < n:=by
 obtain ⟨h1,h2⟩:=(Bool.and_eq_true _ _).mp ((Bool.and_eq_true _ _).mp h).2
 refine ⟨fun hi=>Nat.le_of_ble_eq_true (List.all_eq_true.1 h1 i hi),fun hi=>?_⟩
 obtain ⟨j,hj,e⟩:=List.any_eq_true.1 (List.all_eq_true.1 h2 i (List.mem_range.2 hi))
 rw [Nat.eq_of_beq_eq_true e]; exact hj
def ZhE (ops:Array Oper) (s0:St) (n x0 y0:Nat) (LL RR:List Nat):Bool :=
 Nat.ble n ops.size && (Zcb ops && Zcw ops && ((List.range n).all (fun i=>Zbs .any ops n i) && (Region.seqB .any ops (ops.size - n) n (Zbx ops n) && (pwB (okP (ZcL .any ops 4) ops s0) (LL ++ x0 :: RR) && (pwB (okP (ZcL .any ops 4) ops s0) (LL ++ y0 :: RR) && (ZiK n (LL ++ x0 :: y0 :: RR) && RR.all (fun r=>ZcL .any ops 4 r x0)))))))
theorem Zj6 {id:Nat} (n x0 y0:Nat) (LL RR:List Nat) {sl:SlL} {bl:BlL} (hB:ZhE ops (ofL sl bl) n x0 y0 LL RR=true) (hI:ZdO ops sl=true) (hm:P.follows .mixedOrders=true)
 (h:Strat P N S0 w0 ops Φ (fun s Φ'=>Strat P N S0 w0 ops Φ (fun s Φ=>SXi P N S0 w0 ops Q n s Φ) (x0 :: y0 :: RR) s Φ'∧Strat P N S0 w0 ops Φ (fun s Φ=>SXi P N S0 w0 ops Q n s Φ) (y0 :: x0 :: RR) s Φ') LL (ofL sl bl) Φ):SXc P N S0 w0 Q (.region id ops true) (ofL sl bl) Φ:=by
 unfold ZhE at hB
 simp only [Bool.and_eq_true] at hB
 obtain ⟨h1,⟨h0,h2⟩,h3,h5,h6,h7,h8,h9⟩:=hB
 have hn:=Nat.le_of_ble_eq_true h1
 intro L a w hi
 refine wp_region_any hm ?_
 have hlen:(LL ++ x0 :: y0 :: RR).length=n:=by
  have hp:(LL ++ x0 :: y0 :: RR).Perm (List.range n):=(List.perm_ext_iff_of_nodup (ZeZ h8) List.nodup_range).2 (fun i=>by rw [ZgR h8 i,List.mem_range])
  rw [hp.length_eq,List.length_range]
 rw [List.length_append] at hlen
 have:=ZiJ (ZeW ops) (Q:=Q) (fin:=fun s Φ=>SXi P N S0 w0 ops Q n s Φ) h0 hn h2 (fun i hi'=>List.all_eq_true.1 h3 i (List.mem_range.2 hi')) h5 ⟨w,hi.box.self⟩ (fun r hr=>List.all_eq_true.1 h9 r hr) (fun s Φ hf L a w hi'=>hf L a w hi') LL.length (Array.replicate ops.size false) LL _ Φ L a w.drew rfl (by simp)
  (fun i=>by
   rw [ZgR h8 i]
   refine ⟨fun h=>⟨h,?_⟩,fun h=>h.1⟩
   simp [show i < ops.size by omega]) (ZeZ h8) (ZdV h6) (ZdV h7) (fun i _ h'=>by simp [h']) (fun j oj _ hl=>by rw [getD_replicate_false] at hl; cases hl) (BI.init hI) (fun _ h=>h) hi.drew h
 rw [show LL.length + 2 + RR.length + (ops.size - n)=ops.size by simp only [List.length_cons] at hlen; omega] at this
 exact this
def Zf2 (P:Program) (N:Nat) (ops:Array Oper):List Nat→St→Option St
 | [],s=>some s
 | i :: l,s=>match stpF P N ops (opAt ops i) s with
   | some s'=>Zf2 P N ops l s'
   | none=>none
theorem Ze0 {fin:St→(World→Prop)→Prop}:∀ (l:List Nat) (s s':St),Zf2 P N ops l s=some s'→fin s' Φ→Strat P N S0 w0 ops Φ0 fin l s Φ
 | [],s,s',h,K=>by simp only [Zf2,Option.some.injEq] at h; subst h; exact .done K
 | i :: l,s,s',h,K=>by
   unfold Zf2 at h
   split at h
   ·rename_i s1 hs
    exact ZfJ hs (Ze0 l _ s' h K)
   ·cases h
def ZhF (P:Program) (N:Nat) (ops:Array Oper) (l:List Nat) (s:St) (sl:SlL):Option (List (Option AV) × (Nat→Option (TypeId × List AV))) :=
 match Zf2 P N ops l s with
 | some s'=>some (sl.map (fun q=>s'.sl q.1),s'.bl)
 | none=>none
theorem Zjq {id:Nat} (n x0 y0:Nat) (LL RR:List Nat) {sl:SlL} {bl:BlL} (nw:SlL) (nb:BlL) (hB:ZhE ops (ofL sl bl) n x0 y0 LL RR=true) (hI:ZdO ops sl=true) (hm:P.follows .mixedOrders=true)
 (hr:ZhF P N ops LL (ofL sl bl) nw=some (nw.map (fun q=>some q.2),Zb5 nb))
 (hx:Strat P N S0 w0 ops Φ (fun s Φ=>SXi P N S0 w0 ops Q n s Φ) (x0 :: y0 :: RR) (ofL nw nb) Φ) (hy:Strat P N S0 w0 ops Φ (fun s Φ=>SXi P N S0 w0 ops Q n s Φ) (y0 :: x0 :: RR) (ofL nw nb) Φ):SXc P N S0 w0 Q (.region id ops true) (ofL sl bl) Φ:=by
 refine Zj6 n x0 y0 LL RR hB hI hm ?_
 unfold ZhF at hr
 split at hr
 ·rename_i s1 h1
  injection hr with h
  injection h with h2 h3
  have hs:∀ t x,(ofL nw nb).sl t=some x→s1.sl t=some x:=fun t x hx=>Zbq (f:=fun q:Nat × AV=>s1.sl q.1) (g:=fun q=>some q.2) h2 (ZaI hx)
  exact Ze0 LL _ _ h1 ⟨Strat.weak hx h3 hs (fun s s' Φ h hb hs=>Zfd s s' Φ h hb hs),Strat.weak hy h3 hs (fun s s' Φ h hb hs=>Zfd s s' Φ h hb hs)⟩
 ·cases hr
theorem ZhG {fin:St→(World→Prop)→Prop} {i:Nat} {l:List Nat} (f:FuncId) (args:List Value) (d:Nat) {α:Type} [hα:Nonempty α] (sh:α→Value) (φ:α→World→Prop) (hC:∀ w,Fr S0 w0 w→Φ w→Calls P f args.toArray w (ZbQ sh φ w)) (K:∀ x,Strat P N S0 w0 ops Φ0 fin l (s.put d (.v (sh x))) (fun w=>Φ w∧φ x w))
 (hm:cls (opAt ops i).op=2:=by kernel_rfl) (h:ZbM P N ops (opAt ops i) s=some (f,args,d):=by kernel_rfl):Strat P N S0 w0 ops Φ0 fin (i :: l) s Φ:=by
 obtain ⟨hw,hq,hd,hn,hv,hk,hN⟩:=Zcu h
 exact .does hα sh φ hm hw hn hv hd hN (fun w hf Q=>Zej hq hk (hC w hf Q)) K
theorem ZdW {fin:St→(World→Prop)→Prop} {i:Nat} {l:List Nat} (d:Nat) {α:Type} [hα:Nonempty α] (sh:α→Value) (φ:α→World→Prop) (hdo:∀ w,Fr S0 w0 w→Φ w→Does P (opAt ops i) s.rho w (DoR sh φ w)) (K:∀ x,Strat P N S0 w0 ops Φ0 fin l (s.put d (.v (sh x))) (fun w=>Φ w∧φ x w))
 (hm:cls (opAt ops i).op=2:=by kernel_rfl) (hw:s.wantB ops (opAt ops i)=some true:=by kernel_rfl) (hn:ZaQ (opAt ops i).op=true:=by kernel_rfl) (hv:(opAt ops i).op.operands.toList.all s.vB=true:=by kernel_rfl) (hd:(opAt ops i).dst=some d:=by kernel_rfl) (hN:Nat.blt d N=true:=by kernel_rfl):Strat P N S0 w0 ops Φ0 fin (i :: l) s Φ :=
 .does hα sh φ hm hw hn hv hd (Nat.le_of_ble_eq_true hN) hdo K
theorem SXi.weak {i:Nat} {Ψ:World→Prop} (sl:SlL) (bl:BlL) (R:∀ w,Φ w→Ψ w) (h:SXi P N S0 w0 ops Q i (ofL sl bl) Ψ) (h1:Za7 s sl bl) (h2:wfB sl bl=true:=by kernel_rfl):SXi P N S0 w0 ops Q i s Φ:=fun L a w hi=>h L a w (hi.weak h1 h2 R)
end
end Go.Proofs.YtcpjeaaapocoeaaGreatDoor

namespace Go.Proofs.YtcpjeaaapocoeaaGreatDoor
open Go.RowKit
structure TermR where
 coef:ByteArray
 A:Option Addr
 cap:Nat
 exps:List Int
instance:Inhabited TermR:=⟨⟨⟨#[]⟩,none,0,[]⟩⟩
def TRow (w:World) (A:Option Addr) (ts:List TermR):Prop:=∀ i,i < ts.length→∃ b off,A=some ⟨b,off,none⟩∧b < w.heap.size∧w.cell? ⟨b,off + i * 2,none⟩=some (.string ts[i]!.coef) ∧
 w.cell? ⟨b,off + i * 2 + 1,none⟩=some (.slice ts[i]!.A ts[i]!.exps.length ts[i]!.cap)∧IRow w ts[i]!.A ts[i]!.exps
theorem TRow.ext {w w':World} {A:Option Addr} {ts:List TermR} (h:TRow w A ts) (hf:Ext w w'):TRow w' A ts:=fun i hi=>by
 obtain ⟨b,off,e,hb,h1,h2,h3⟩:=h i hi
 exact ⟨b,off,e,Nat.lt_of_lt_of_le hb hf.size,(hf.cell (p:=⟨b,off + i * 2,none⟩) hb (fun f=>f)).trans h1,(hf.cell (p:=⟨b,off + i * 2 + 1,none⟩) hb (fun f=>f)).trans h2,h3.ext hf⟩
def expB (e:Int):Bool:=decide (0≤e) && decide (e≤1048576)
def Zdn (l:List UInt8):Bool:=match Zaz l with
 | some q=>decide (q≠0)
 | none=>false
def Zav (v:Int) (t:TermR):Bool:=Zdn (bytes t.coef) && (decide ((t.exps.length:Int)=v) && t.exps.all expB)
def wfT (v:Int) (ts:List TermR):Nat→Bool
 | 0=>true
 | k + 1=>wfT v ts k && (Zav v ts[k]! && (decide (k=0) || decide (0 < ordF ts[k - 1]!.exps ts[k]!.exps)))
def ZaG (v:Int) (ts:List TermR):Bool:=decide (ts.length≤4096) && (decide (0≤v) && (decide (v≤6) && (wfT v ts ts.length && (decide (ts.length=0) || decide ((0:Int)≤degF ts[0]!.exps)))))
theorem Zij {zs:List Int} {i:Nat} (h:i < zs.length):nth zs i ∈ zs:=by
 unfold nth; rw [List.getElem?_eq_getElem h]; exact List.getElem_mem h
theorem ZkI {zs:List Int} (h:zs.all expB=true) (i:Nat):0≤nth zs i∧nth zs i≤1048576:=by
 rcases Nat.lt_or_ge i zs.length with hi | hi
 ·have:=List.all_eq_true.1 h _ (Zij hi)
  unfold expB at this
  rw [Bool.and_eq_true,decide_eq_true_eq,decide_eq_true_eq] at this
  exact this
 ·unfold nth; rw [List.getElem?_eq_none hi]; simp
theorem Zav.exp {v:Int} {t:TermR} (h:Zav v t=true) (hv:v≤6):ZfX t.exps∧(t.exps.length:Int)=v:=by
 unfold Zav at h
 rw [Bool.and_eq_true,Bool.and_eq_true,decide_eq_true_eq] at h
 exact ⟨⟨by have:=h.2.1; omega,ZkI h.2.2⟩,h.2.1⟩
theorem ZhH {zs:List Int} {i:Nat} (hi:i < zs.length) (h:expB (nth zs i)=false):zs.all expB=false:=by
 cases h2:zs.all expB with
 | false=>rfl
 | true=>have:=List.all_eq_true.1 h2 _ (Zij hi); rw [h] at this; cases this
theorem ZkJ {zs:List Int} (h:∀ i,i < zs.length→expB (nth zs i)=true):zs.all expB=true:=by
 rw [List.all_eq_true]
 intro x hx
 obtain ⟨i,hi,e⟩:=List.mem_iff_getElem.1 hx
 have:=h i hi
 unfold nth at this
 rw [List.getElem?_eq_getElem hi,e] at this
 exact this
theorem ZhI {v:Int} {ts:List TermR} {k:Nat} (h:wfT v ts k=false):∀ n,k≤n→wfT v ts n=false:=by
 intro n hn
 induction n with
 | zero=>obtain rfl:k=0:=by omega
         exact h
 | succ n ih =>
   rcases (by omega:k=n + 1∨k≤n) with rfl | h2
   ·exact h
   ·unfold wfT; rw [ih h2,Bool.false_and]
section
variable {P:Program} {o:Oper} {ρ:Operand→Value} {w:World} {t e:TypeId} {x ix:Operand}
theorem IRow.ne {A:Option Addr} {zs:List Int} {i:Nat} (h:IRow w A zs) (hi:i < zs.length):A≠none:=by
 obtain ⟨b,off,rfl,_⟩:=h i hi; simp
theorem TRow.ne {A:Option Addr} {ts:List TermR} {i:Nat} (h:TRow w A ts) (hi:i < ts.length):A≠none:=by
 obtain ⟨b,off,rfl,_⟩:=h i hi; simp
theorem ZdX {A:Option Addr} {len cap i sz:Nat} (hA:A≠none) (h:i < len) (ho:o.op=Op.indexAddr t x ix:=by kernel_rfl) (ht:P.underlying t=some (.slice e):=by kernel_rfl) (hs:(P.info? e).map (fun i=>i.size)=some sz:=by kernel_rfl)
 (hx:ρ x=.slice A len cap:=by kernel_rfl) (hi:ρ ix=.int .i64 ((i:Nat):Int):=by kernel_rfl):(execOp ρ o).run P w=.ok (.value (atA A (i * sz))) w:=by
 obtain ⟨inf,hinf,h1⟩:=Option.map_eq_some_iff.1 hs
 obtain ⟨a,rfl⟩:∃ a,A=some a:=by cases A; exact absurd rfl hA; exact ⟨_,rfl⟩
 have h2:(0:Int)≤(i:Int)∧(i:Int) < (len:Int):=by omega
 simp [execOp,ho,Instr.indexAt,asIntOf,underlying,ht,hx,hi,h,sizeOf,typeInfo,hinf,h1,Result.andThen,atA]
theorem ZkK {A:Option Addr} {zs:List Int} {j:Nat} (hS:IRow w A zs) (hj:j < zs.length) (ho:o.op=Op.load t x:=by kernel_rfl) (hx:ρ x=atA A (j * 1):=by kernel_rfl) (ha:(teOf P t).map (fun e=>e.agg)=some false:=by kernel_rfl) :
 (execOp ρ o).run P w=.ok (.value (.int .i64 (nth zs j))) w:=by
 obtain ⟨g,off,rfl,_,hc⟩:=hS j hj
 exact Zjl hc ho (by rw [hx,atA,Option.map_some,ZbG,Nat.mul_one]) ha
theorem Zik {A:Option Addr} {ts:List TermR} {j:Nat} (hS:TRow w A ts) (hj:j < ts.length) (ho:o.op=Op.load t x:=by kernel_rfl) (hx:ρ x=atA A (j * 2):=by kernel_rfl) (ha:(teOf P t).map (fun e=>(e.agg,e.size))=some (true,2):=by kernel_rfl) :
 (execOp ρ o).run P w=.ok (.value (.agg #[.string ts[j]!.coef, .slice ts[j]!.A ts[j]!.exps.length ts[j]!.cap])) w:=by
 obtain ⟨g,off,rfl,_,h1,h2,_⟩:=hS j hj
 obtain ⟨te,hte,h⟩:=Option.map_eq_some_iff.1 ha
 injection h with ha hn
 have:=ZcS (P:=P) (w:=w) hte (g:=g) (off:=off + j * 2) (cs:=[.string ts[j]!.coef, .slice ts[j]!.A ts[j]!.exps.length ts[j]!.cap]) hn.symm (fun i hi=>by
  rcases (by simp at hi; omega:i=0∨i=1) with rfl | rfl
  ·exact h1
  ·exact h2) ha
 simp only [execOp,ho,hx,atA,Option.map_some,ZbG,Sem.run_bind,this,Result.andThen_ok,Sem.run_pure]
theorem ZkL {bt:TypeId} {g:Nat} {cs:List Value} (hB:Blk bt w g cs.toArray) (ho:o.op=Op.load t x:=by kernel_rfl) (hx:ρ x=.pointer (some ⟨g,0,none⟩):=by kernel_rfl) (ha:(teOf P t).map (fun e=>(e.agg,e.size))=some (true,cs.length):=by kernel_rfl) :
 (execOp ρ o).run P w=.ok (.value (.agg cs.toArray)) w:=by
 obtain ⟨te,hte,h⟩:=Option.map_eq_some_iff.1 ha
 injection h with ha hn
 have:=ZcS (P:=P) (w:=w) hte (g:=g) (off:=0) (cs:=cs) hn.symm (fun i hi=>by rw [Nat.zero_add,hB.cell]; simp [hi]) ha
 simp only [execOp,ho,hx,Sem.run_bind,this,Result.andThen_ok,Sem.run_pure]
theorem ZkM {z:Int} (h0:¬ z < 0) (h1:¬ 1048576 < z):expB z=true:=by
 unfold expB; rw [Bool.and_eq_true,decide_eq_true_eq,decide_eq_true_eq]; omega
theorem ZkN {A:Option Addr} {ts:List TermR} {j:Nat} (hS:TRow w A ts) (hj:j < ts.length) (ho:o.op=Op.load t x:=by kernel_rfl) (hx:ρ x=atA A (j * 2 + 1):=by kernel_rfl) (ha:(teOf P t).map (fun e=>e.agg)=some false:=by kernel_rfl) :
 (execOp ρ o).run P w=.ok (.value (.slice ts[j]!.A ts[j]!.exps.length ts[j]!.cap)) w:=by
 obtain ⟨g,off,rfl,_,_,h2,_⟩:=hS j hj
 exact Zjl h2 ho (by rw [hx,atA,Option.map_some,ZbG,Nat.add_assoc]) ha
end
end Go.Proofs.YtcpjeaaapocoeaaGreatDoor

namespace Go.Proofs.YtcpjeaaapocoeaaGreatDoor
open Go.RowKit
def Zbu:ByteArray:=⟨#[112,111,108,121]⟩
def Zf3:ByteArray:=⟨#[116,101,114,109]⟩
def ZaU (t:TermR):List UInt8:=ZaT Zf3 (t.coef :: t.exps.map Zaj)
def Zbv (v:Int) (ts:List TermR):List UInt8:=ZaT Zbu [Zaj v,Zaj (ts.length:Int)] ++ ts.flatMap ZaU
theorem IRow.two {w:World} {b:Nat} {x y:Int} (h:Blk 3 w b #[.int .i64 x, .int .i64 y]):IRow w (some ⟨b,0,none⟩) [x,y]:=fun i hi=>by
 refine ⟨b,0,rfl,h.lt,?_⟩
 rw [Nat.zero_add,h.cell]
 match i,hi with
 | 0,_=>rfl
 | 1,_=>rfl
theorem TRow.exps' {w:World} {A:Option Addr} {ts:List TermR} (h:TRow w A ts) {i:Nat} (hi:i < ts.length):IRow w ts[i]!.A ts[i]!.exps:=by
 obtain ⟨_,_,_,_,_,_,h⟩:=h i hi; exact h
section
variable {N:Nat} {S0:Nat→Prop} {w:World} {Φ:World→Prop} {P:Program}
theorem Zjr (S0:Nat→Prop) {fn:Func} {f:FuncId} {c:Code} {args:List Value} {R:Ending→World→Prop} (hf:P.funcs[f]? = some fn) (hb:fn.body=some c) (hl:Nat.ble args.length fn.ntmps=true) (Q:Box (fun _=>False) w Φ)
 (h:SXc P fn.ntmps S0 w (bodyPost P fn R) c (ofL (ZeD 0 args) []) Φ):Calls P f args.toArray w R:=by
 refine calls_of_wp hf hb (h (fun _=>0) _ w ⟨?_,rfl,fun i x hx=>?_,⟨fun b t cs e=>(by cases e),fun b c e=>(by cases e),fun b e=>(by cases e),Fr.refl _ _,fun i b off e=>?_,fun b t cs e=>(by cases e)⟩,?_⟩)
 ·have:=Nat.le_of_ble_eq_true hl
  simp; omega
 ·obtain ⟨_,v,hv,rfl⟩:=Zc5 args 0 i x hx
  have hlt:i < args.length:=by
   rcases Nat.lt_or_ge i args.length with h' | h'
   ·exact h'
   ·rw [List.getElem?_eq_none (by omega)] at hv; cases hv
  simp only [AV.conc]
  rw [Array.getElem?_append_left (by simpa using hlt)]
  simpa using hv
 ·obtain ⟨_,v,hv,e'⟩:=Zc5 args 0 i _ e
  cases e'
 ·intro w' hf'
  exact Q w' (hf'.mono (fun i _ h'=>by obtain ⟨b,e,_⟩:=h'; cases e))
end
instance ne_ge (n:Nat):Nonempty {b:Nat // n≤b}:=⟨⟨n,Nat.le_refl n⟩⟩
theorem Zjs {v:Int} {n:Nat} (hv:ZbZ v) (hn:n≤4096):∀ i,i < [v,((n:Nat):Int)].length→ZbZ (nth [v,((n:Nat):Int)] i):=fun i hi=>by
 match i,hi with
 | 0,_=>exact hv
 | 1,_=>exact ⟨by show (-9223372036854775808:Int)≤(n:Int); omega,by show (n:Int)≤9223372036854775807; omega⟩
theorem Zet {ts:List TermR} {j:Nat} {t:TermR} (hlt:j < ts.length) (ht:ts[j]! = t):(ts.take (j + 1)).flatMap ZaU=(ts.take j).flatMap ZaU ++ ZaU t:=by
 rw [List.take_succ_eq_append_getElem hlt,List.flatMap_append,← ht,getElem!_pos ts j hlt]
 simp
theorem Zg1 (ts:List TermR) (j:Nat):((ts.take j).flatMap ZaU).length≤(ts.flatMap ZaU).length:=by
 conv=>rhs; rw [← List.take_append_drop j ts,List.flatMap_append,List.length_append]
 omega
def AppG (lo b n m k:Nat) (cur news:List Value) (q:Nat × Nat × List Value):Prop:=lo≤q.1∧q.2.2.length=q.2.1 * k∧n + m≤q.2.1∧q.2.1≤maxLen∧q.2.2.take ((n + m) * k)=cur ++ news∧(m=0→q=(b,n,cur))
theorem AppG.some {lo b n m k:Nat} {cur news:List Value} (hl:news.length=m * k) (hcur:cur.length=n * k) (hb:lo≤b) (h63:n + m≤maxLen):Nonempty {q:Nat × Nat × List Value // AppG lo b n m k cur news q}:=by
 have e:(cur ++ news).length=(n + m) * k:=by rw [List.length_append,hcur,hl,Nat.add_mul]
 refine ⟨⟨(b,n + m,cur ++ news),hb,e,Nat.le_refl _,h63,?_,fun h=>?_⟩⟩
 ·rw [← e,List.take_length]
 ·subst h
  obtain rfl:news=[]:=List.eq_nil_of_length_eq_zero (by simpa using hl)
  simp
theorem Zdo {P:Program} {o:Oper} {ρ:Operand→Value} {w:World} {lo k n m bytes:Nat} {t e:TypeId} {s0 x:Operand} {cur news:List Value} {z:Value} (b b2 c2:Nat) (hO:Blk e w b cur.toArray) (hX:Blk e w b2 news.toArray) (hl:news.length=m * k) (hk:0 < k) (hz:z.cells.size=k)
 (hcur:cur.length=n * k) (hb:lo≤b) (hlo:lo≤w.heap.size) (h1:∀ u ∈ news,u.oneCell'=true) (h63:n + m≤maxLen) (hbytes:(n + m) * bytes≤140737488355328)
 (ho:o.op=.call { callee:=.builtin .append,args:=#[s0,x],argTypes:=#[t,t] }:=by kernel_rfl) (ht:P.underlying t=some (.slice e):=by kernel_rfl) (hinfo:(P.info? e).map (fun i=>(i.zero,i.size,i.bytes))=some (some z,k,bytes):=by kernel_rfl) (hs:ρ s0=.slice (some ⟨b,0,none⟩) n n:=by kernel_rfl) (hx:ρ x=.slice (some ⟨b2,0,none⟩) m c2:=by kernel_rfl) :
 Does P o ρ w (DoR (fun q:{q:Nat × Nat × List Value // AppG lo b n m k cur news q}=>.slice (some ⟨q.1.1,0,none⟩) (n + m) q.1.2.1) (fun q w=>m=0∨Blk e w q.1.1 q.1.2.2.toArray) w):=by
 obtain ⟨inf,hinf,h2⟩:=Option.map_eq_some_iff.1 hinfo
 injection h2 with hz0 h2
 injection h2 with hsize hby
 rcases Nat.eq_zero_or_pos m with hm | hm
 ·obtain rfl:news=[]:=List.eq_nil_of_length_eq_zero (by rw [hl,hm,Nat.zero_mul])
  have hrun:=run_append_room_cells (P:=P) w t o.type e inf ht hinf b 0 n n ⟨b2,0,none⟩ m c2 [] (by rw [hm]; simp) (fun j u hj=>by simp at hj) (fun u hu=>by cases hu) (by omega) (fun j hj=>by cases hj) (fun j hj=>by cases hj)
  have e:w.setCells b (0 + n * inf.size) []=w:=rfl
  rw [e] at hrun
  refine Or.inl ⟨_,w,by simp [execOp,ho,resolve,invoke,builtin,hs,hx,hrun,Result.andThen]; rfl,⟨(b,n,cur),hb,hcur,(show n + m≤n by omega),(show n≤maxLen by omega),?_,fun _=>rfl⟩,by rfl,Fr.refl _ w,fun S hS w'' hF=>Or.inl hm⟩
  rw [hm,Nat.add_zero,← hcur,List.take_length,List.append_nil]
 ·obtain ⟨v',w',hrun,⟨hlen,hr⟩,hg⟩:=run_append_arg_grows (P:=P) w t o.type e inf z k bytes ht hinf hz0 hsize hby hz hk ⟨b,0,none⟩ n n cur hcur (fun j u hj=>by rw [Lib.add_plain,Nat.zero_add,hO.cell]; simpa using hj) ⟨b2,0,none⟩ m c2 news hl (fun j u hj=>by rw [Lib.add_plain,Nat.zero_add,hX.cell]; simpa using hj) (by omega) h63 hbytes
  rcases hr with ⟨rfl,h0⟩ | ⟨b',cap',cur',rfl,hb',hh,hn',hc',hs',ht'⟩
  ·omega
  have hB':Blk e w' b' cur'.toList.toArray:=by rw [Array.toArray_toList]; exact hh
  refine Or.inl ⟨_,w',by simp [execOp,ho,resolve,invoke,builtin,hs,hx,hrun,Result.andThen]; rfl,⟨(b',cap',cur'.toList),by omega,by simpa using hs',hn',hc',by simpa using ht',fun h=>by omega⟩,by rfl,(Fr.ofGrown hg).mono (fun i _ h=>by cases h),fun S hS w'' hF=>Or.inr (hB'.fr hF (fun h=>by have:=(hS _ h).1; omega))⟩
theorem Zil {b n m:Nat} {cur:List Value} {q:Nat × Nat × List Value} {e:TypeId} {w:World} (hG:m=0→q=(b,n,cur)) (h:m=0∨Blk e w q.1 q.2.2.toArray) (hO:Blk e w b cur.toArray):Blk e w q.1 q.2.2.toArray:=by
 rcases h with h | h
 ·rw [hG h]; exact hO
 ·exact h
theorem ZhJ {lo g b' cap':Nat} {l:List UInt8} {v:Int} {ts:List TermR} {j:Nat} {t:TermR} {w:World} {cur':List Value} (hW:WrIs lo g (l ++ ZaT Zbu [Zaj v,Zaj ((ts.length:Nat):Int)] ++ (ts.take j).flatMap ZaU) w) (hB:Blk 9 w b' cur'.toArray)
 (htk:cur'.take ((1 + t.exps.length) * 1)=[Value.string t.coef].take (1 * 1) ++ (t.exps.map Zaj).map Value.string) (hlt:j < ts.length) (ht:ts[j]! = t) (hx:t.exps.length≤6) (hl:(l ++ Zbv v ts).length≤1048576) :
 Calls Tryz.prog 109 #[.pointer (some ⟨g,0,none⟩), .string Zf3, .slice (some ⟨b',0,none⟩) (1 + t.exps.length) cap'] w fun e w'=>e=.returned (.tuple #[])∧WrIs lo g (l ++ ZaT Zbu [Zaj v,Zaj ((ts.length:Nat):Int)] ++ (ts.take j).flatMap ZaU ++ ZaU t) w'∧WrFr lo g w w':=by
 have hlen:(t.coef :: t.exps.map Zaj).length=1 + t.exps.length:=by simp; omega
 have hS:SRow w (some ⟨b',0,none⟩) (t.coef :: t.exps.map Zaj):=SRow.ofStr hB (by rw [hlen]; simpa using htk)
 have h1:=Zg1 ts (j + 1)
 rw [Zet hlt ht,List.length_append] at h1
 have h2:=hl
 unfold Zbv at h2
 rw [List.length_append,List.length_append] at h2
 rw [← hlen]
 exact ZhD lo g _ Zf3 _ cap' _ w hW hS (by rw [List.length_append,List.length_append]; omega) (show (ZaU t).length≤70368744177664 by omega) (by omega)
theorem Zjt (wl:World) (lo g:Nat) (l:List UInt8) (A:Option Addr) (c:Nat) (ts:List TermR) (v:Int) (w:World) (hlo:wl.heap.size=lo) (hgl:lo≤g) (hg:Glob wl) (hT:TRow wl A ts) (h0:Ext wl w) (hW:WrIs lo g l w) (hv:ZbZ v) (hx:∀ i,i < ts.length→ts[i]!.exps.length≤6∧∀ j,j < ts[i]!.exps.length→ZbZ (nth ts[i]!.exps j)) (hn:ts.length≤4096) (hl:(l ++ Zbv v ts).length≤1048576) :
 Calls Tryz.prog 64 #[.pointer (some ⟨g,0,none⟩), .agg #[.int .i64 v, .slice A ts.length c]] w (fun e w'=>e=.returned (.tuple #[])∧WrIs lo g (l ++ Zbv v ts) w'∧Fr (SWr lo g w) w w'):=by
 have hl1:l.length≤1048576:=by rw [List.length_append] at hl; omega
 have hl2:(ZaT Zbu [Zaj v,Zaj ((ts.length:Nat):Int)]).length≤1048576:=by unfold Zbv at hl; rw [List.length_append,List.length_append] at hl; omega
 refine Zjr (SWr lo g w) (Φ:=fun w=>WrIs lo g (l) w) Tryz.func64 rfl (by kernel_rfl) (fun w' hf=>WrIs.fr hW hf (fun f=>f) (fun _ _ f=>f)) ?_
 refine Zac (Zaa (xq 1 [(3, .p 3 0)] [(3,43,[.v (.int .i64 v), .v (.slice A ts.length c)])] ?_))
 refine xe (Zab (Zac (Zaa (xq 6 [(6, .v (.pointer (some ⟨g,0,none⟩))),(8, .v (.int .i64 v)),(11, .v (.int .i64 ((ts.length:Nat):Int)))] [] ?_))))
 refine Zcj (d:=12) (fun zb:Nat=>.slice (some ⟨zb,0,none⟩) 2 2) (fun zb zw=>Blk 3 zw zb #[.int .i64 v, .int .i64 ((ts.length:Nat):Int)]) (by kernel_rfl) (by kernel_rfl) (by kernel_rfl) (by kernel_rfl) (by kernel_rfl) (by kernel_rfl) (fun w R Q=>ZbP (t:=22) (e:=3) (n:=2) (sz:=1) (z:=.int .i64 0) (parts:=#[(0,Operand.tmp 8),(1,Operand.tmp 11)]) (by kernel_rfl) (by kernel_rfl) (by kernel_rfl) (by kernel_rfl) (by kernel_rfl) (by kernel_rfl)) (fun b10=>?_)
 refine xr 0 [(0, .v (.pointer (some ⟨g,0,none⟩))),(3, .p 3 0),(6, .v (.pointer (some ⟨g,0,none⟩))),eS1 12 (some ⟨b10,0,none⟩) 2 2] [(3,43,[.v (.int .i64 v), .v (.slice A ts.length c)])] ?_
 refine xqc 110 [.slice (some ⟨b10,0,none⟩) 2 2] 13 (fun b:Nat=>.slice (some ⟨b,0,none⟩) 2 2) _ (fun w R Q=>(Zfg (some ⟨b10,0,none⟩) 2 [v,((ts.length:Nat):Int)] _ (hg.ext (ZcF h0 hlo hgl R)) (IRow.two Q.2) (Zjs hv hn) (by simp)).mono (fun _ _=>Zes)) (fun b11=>?_)
 refine Zfi (d:=14) (lo:=lo) (g:=g) (l:=l) (l':=l ++ ZaT Zbu [Zaj v,Zaj ((ts.length:Nat):Int)]) (v:=.tuple #[]) 109 [.pointer (some ⟨g,0,none⟩), .string Zbu, .slice (some ⟨b11,0,none⟩) 2 2] (fun _ _ h k=>WrFr.s0 h k) (by kernel_rfl) (fun w R Q=>ZhD lo g l Zbu (some ⟨b11,0,none⟩) 2 [Zaj v,Zaj ((ts.length:Nat):Int)] _ Q.1.1 (SRow.ofStr Q.2 rfl) hl1 (by omega) (by simp)) (fun w Q=>Q.1.1) ?_
 refine xr 0 [(0, .v (.pointer (some ⟨g,0,none⟩))),(3, .p 3 0)] [(3,43,[.v (.int .i64 v), .v (.slice A ts.length c)])] ?_
 refine xe (Zab (Zac (Zaa (xq 4 [eS1 16 A ts.length c,(17, .v (.int .i64 ((ts.length:Nat):Int))),(18, .v (.int .i64 0))] [] ?_))))
 refine xe (Zab (ZbY ?_))
 refine SXc.weak [(0, .v (.pointer (some ⟨g,0,none⟩))),(16, .v (.slice A ts.length c)),(17, .v (.int .i64 ((ts.length:Nat):Int))),(18, .v (.int .i64 ((0:Nat):Int)))] [] (Ψ:=fun w=>WrIs lo g (l ++ ZaT Zbu [Zaj v,Zaj ((ts.length:Nat):Int)] ++ (ts.take 0).flatMap ZaU) w) (Za7.of (by kernel_rfl)) (by kernel_rfl) (fun w Q=>(by rw [List.take_zero,List.flatMap_nil,List.append_nil]; exact Q)) ?_
 refine ZeK (fun nn ss ff=>∃ (j:Nat),ss=ofL [(0, .v (.pointer (some ⟨g,0,none⟩))),(16, .v (.slice A ts.length c)),(17, .v (.int .i64 ((ts.length:Nat):Int))),(18, .v (.int .i64 ((j:Nat):Int)))] []∧ff=(fun w=>WrIs lo g (l ++ ZaT Zbu [Zaj v,Zaj ((ts.length:Nat):Int)] ++ (ts.take j).flatMap ZaU) w)∧(j≤ts.length)∧nn=(1 + (ts.length - j))) ((1 + (ts.length - 0))) ⟨0,rfl,rfl,(Nat.zero_le _),rfl⟩ ?_
 rintro nn ss ff ⟨j,rfl,rfl,hj,rfl⟩
 refine Zac (Zaa (xq 1 [(19, .v (.bool (decide (((j:Nat):Int) < ((ts.length:Nat):Int)))))] [] ?_))
 refine xe (Zab (Zac ?_))
 refine ZcY ((decide (((j:Nat):Int) < ((ts.length:Nat):Int)))) (by kernel_rfl) (fun hb12=>?_) (fun hb12=>?_)
 ·have hlt:j < ts.length:=by have:=of_decide_eq_true hb12; omega
  refine Za8 (Zab (Zac (ZbY (Zac (Zaa ?_)))))
  refine xqk 20 (atA A (j * 2)) (fun w R Q=>ZdX (t:=41) (e:=53) (sz:=2) (x:=.tmp 16) (ix:=.tmp 18) (len:=ts.length) (cap:=c) (i:=j) ((hT.ext (ZcF h0 hlo hgl R)).ne hlt) hlt) ?_
  obtain ⟨t,ht⟩:∃ x,ts[j]! = x:=⟨_,rfl⟩
  have hxt:=hx j hlt
  rw [ht] at hxt
  refine xqk 21 (.agg #[.string t.coef, .slice t.A t.exps.length t.cap]) (fun w R Q=>by rw [← ht]; exact Zik (t:=53) (x:=.tmp 20) (ts:=ts) (j:=j) (hT.ext (ZcF h0 hlo hgl R)) hlt) ?_
  refine xq 2 [(5, .p 5 0)] [(5,53,[.v (.string t.coef), .v (.slice t.A t.exps.length t.cap)])] ?_
  refine xe (Zab ?_)
  refine Zjq 8 3 6 [0,1,2,4,5] [7] [(0, .v (.pointer (some ⟨g,0,none⟩))),eS1 16 A ts.length c,(17, .v (.int .i64 ((ts.length:Nat):Int))),(18, .v (.int .i64 ((j:Nat):Int))),(22, .v (.pointer (some ⟨g,0,none⟩))),(24, .v (.string t.coef)),eS1 27 t.A t.exps.length t.cap] [(5,53,[.v (.string t.coef), .v (.slice t.A t.exps.length t.cap)])] (by kernel_rfl) (by kernel_rfl) Zbh (by kernel_rfl) ?_ ?_
  ·refine ZdW 25 (fun zb:{b:Nat // w.heap.size≤b}=>.slice (some ⟨zb.1,0,none⟩) 1 1) (fun zb zw=>Blk 9 zw zb.1 #[.string t.coef]) (fun w R Q=>Zer (m0:=_) R.size (t:=59) (e:=9) (n:=1) (sz:=1) (z:=.string ⟨#[]⟩) (parts:=#[(0, .tmp 24)]) (by kernel_rfl) (by kernel_rfl) (by kernel_rfl) (by kernel_rfl) (by kernel_rfl) (by kernel_rfl)) (fun bb=>?_)
   obtain ⟨bs,hbs⟩:=bb
   refine ZhG 110 [.slice t.A t.exps.length t.cap] 28 (fun b:Nat=>.slice (some ⟨b,0,none⟩) t.exps.length t.exps.length) _ (fun w R Q=>(Zfg t.A t.cap t.exps _ (hg.ext (ZcF h0 hlo hgl R)) (ht ▸ (hT.ext (ZcF h0 hlo hgl R)).exps' hlt) hxt.2 (by have:=hxt.1; omega)).mono (fun _ _=>Zes)) (fun b14=>?_)
   haveI:=AppG.some (lo:=w.heap.size) (b:=bs) (n:=1) (m:=t.exps.length) (k:=1) (cur:=[Value.string t.coef]) (news:=((t.exps.map Zaj).map Value.string)) (by simp) rfl hbs (by have:=hxt.1; simp only [maxLen]; omega)
   refine ZdW 29 (fun q:{q:Nat × Nat × List Value // AppG w.heap.size bs 1 t.exps.length 1 [Value.string t.coef] ((t.exps.map Zaj).map Value.string) q}=>.slice (some ⟨q.1.1,0,none⟩) (1 + t.exps.length) q.1.2.1) (fun q w=>t.exps.length=0∨Blk 9 w q.1.1 q.1.2.2.toArray) (fun w R Q=>Zdo (z:=.string ⟨#[]⟩) (bytes:=16) (t:=59) (s0:=.tmp 25) (x:=.tmp 28) bs b14 t.exps.length Q.1.2 Q.2 (by simp) (by decide) rfl rfl hbs R.size (fun u hu=>by obtain ⟨q,_,rfl⟩:=List.mem_map.1 hu; rfl) (by have:=hxt.1; simp only [maxLen]; omega) (by have:=hxt.1; omega)) (fun qq=>?_)
   obtain ⟨⟨b',cap',cur'⟩,hb',hcur',hkc',hcm',htk',h0'⟩:=qq
   refine .done (SXi.weak (Ψ:=fun w=>WrIs lo g (l ++ ZaT Zbu [Zaj v,Zaj ((ts.length:Nat):Int)] ++ (ts.take j).flatMap ZaU) w∧Blk 9 w b' cur'.toArray) [(0, .v (.pointer (some ⟨g,0,none⟩))),eS1 16 A ts.length c,(17, .v (.int .i64 ((ts.length:Nat):Int))),(18, .v (.int .i64 ((j:Nat):Int))),(22, .v (.pointer (some ⟨g,0,none⟩))),eS1 29 (some ⟨b',0,none⟩) (1 + t.exps.length) cap'] [] (fun w Q=>⟨Q.1.1.1,Zil h0' Q.2 Q.1.1.2⟩) ?_ (Za7.of (by kernel_rfl)))
   refine Zfi (d:=30) (lo:=lo) (g:=g) (l:=l ++ ZaT Zbu [Zaj v,Zaj ((ts.length:Nat):Int)] ++ (ts.take j).flatMap ZaU) (l':=l ++ ZaT Zbu [Zaj v,Zaj ((ts.length:Nat):Int)] ++ (ts.take j).flatMap ZaU ++ ZaU t) (v:=.tuple #[]) 109 [.pointer (some ⟨g,0,none⟩), .string Zf3, .slice (some ⟨b',0,none⟩) (1 + t.exps.length) cap'] (fun _ _ h k=>WrFr.s0 h k) (by kernel_rfl) (fun w R Q=>ZhJ (ts:=ts) (j:=j) Q.1 Q.2 htk' hlt ht hxt.1 hl) (fun w Q=>Q.1) ?_
   refine xr 0 [(0, .v (.pointer (some ⟨g,0,none⟩))),eS1 16 A ts.length c,(17, .v (.int .i64 ((ts.length:Nat):Int))),(18, .v (.int .i64 ((j:Nat):Int)))] [] ?_
   refine xe (ZdF (Zab (Zaa (xq 1 [(31, .v (.int .i64 (IntKind.i64.wrap (((j:Nat):Int) + 1))))] [] ?_))))
   rw [(show IntKind.i64.wrap (((j:Nat):Int) + 1)=((j + 1:Nat):Int) from by rw [IntKind.wrap_i64]; omega)]
   refine xq 1 [(18, .v (.int .i64 ((j + 1:Nat):Int)))] [] ?_
   refine xe ?_
   refine SXq.weak [(0, .v (.pointer (some ⟨g,0,none⟩))),(16, .v (.slice A ts.length c)),(17, .v (.int .i64 ((ts.length:Nat):Int))),(18, .v (.int .i64 (((j + 1):Nat):Int)))] [] (Ψ:=fun w=>WrIs lo g (l ++ ZaT Zbu [Zaj v,Zaj ((ts.length:Nat):Int)] ++ (ts.take (j + 1)).flatMap ZaU) w) (Za7.of (by kernel_rfl)) (by kernel_rfl) (fun w Q=>(by rw [Zet hlt ht,← List.append_assoc]; exact Q)) ?_
   exact ZcE ((1 + (ts.length - (j + 1)))) (by omega) ⟨(j + 1),rfl,rfl,hlt,rfl⟩
  ·refine ZhG 110 [.slice t.A t.exps.length t.cap] 28 (fun b:Nat=>.slice (some ⟨b,0,none⟩) t.exps.length t.exps.length) _ (fun w R Q=>(Zfg t.A t.cap t.exps _ (hg.ext (ZcF h0 hlo hgl R)) (ht ▸ (hT.ext (ZcF h0 hlo hgl R)).exps' hlt) hxt.2 (by have:=hxt.1; omega)).mono (fun _ _=>Zes)) (fun b14=>?_)
   refine ZdW 25 (fun zb:{b:Nat // w.heap.size≤b}=>.slice (some ⟨zb.1,0,none⟩) 1 1) (fun zb zw=>Blk 9 zw zb.1 #[.string t.coef]) (fun w R Q=>Zer (m0:=_) R.size (t:=59) (e:=9) (n:=1) (sz:=1) (z:=.string ⟨#[]⟩) (parts:=#[(0, .tmp 24)]) (by kernel_rfl) (by kernel_rfl) (by kernel_rfl) (by kernel_rfl) (by kernel_rfl) (by kernel_rfl)) (fun bb=>?_)
   obtain ⟨bs,hbs⟩:=bb
   haveI:=AppG.some (lo:=w.heap.size) (b:=bs) (n:=1) (m:=t.exps.length) (k:=1) (cur:=[Value.string t.coef]) (news:=((t.exps.map Zaj).map Value.string)) (by simp) rfl hbs (by have:=hxt.1; simp only [maxLen]; omega)
   refine ZdW 29 (fun q:{q:Nat × Nat × List Value // AppG w.heap.size bs 1 t.exps.length 1 [Value.string t.coef] ((t.exps.map Zaj).map Value.string) q}=>.slice (some ⟨q.1.1,0,none⟩) (1 + t.exps.length) q.1.2.1) (fun q w=>t.exps.length=0∨Blk 9 w q.1.1 q.1.2.2.toArray) (fun w R Q=>Zdo (z:=.string ⟨#[]⟩) (bytes:=16) (t:=59) (s0:=.tmp 25) (x:=.tmp 28) bs b14 t.exps.length Q.2 Q.1.2 (by simp) (by decide) rfl rfl hbs R.size (fun u hu=>by obtain ⟨q,_,rfl⟩:=List.mem_map.1 hu; rfl) (by have:=hxt.1; simp only [maxLen]; omega) (by have:=hxt.1; omega)) (fun qq=>?_)
   obtain ⟨⟨b',cap',cur'⟩,hb',hcur',hkc',hcm',htk',h0'⟩:=qq
   refine .done (SXi.weak (Ψ:=fun w=>WrIs lo g (l ++ ZaT Zbu [Zaj v,Zaj ((ts.length:Nat):Int)] ++ (ts.take j).flatMap ZaU) w∧Blk 9 w b' cur'.toArray) [(0, .v (.pointer (some ⟨g,0,none⟩))),eS1 16 A ts.length c,(17, .v (.int .i64 ((ts.length:Nat):Int))),(18, .v (.int .i64 ((j:Nat):Int))),(22, .v (.pointer (some ⟨g,0,none⟩))),eS1 29 (some ⟨b',0,none⟩) (1 + t.exps.length) cap'] [] (fun w Q=>⟨Q.1.1.1,Zil h0' Q.2 Q.1.2⟩) ?_ (Za7.of (by kernel_rfl)))
   refine Zfi (d:=30) (lo:=lo) (g:=g) (l:=l ++ ZaT Zbu [Zaj v,Zaj ((ts.length:Nat):Int)] ++ (ts.take j).flatMap ZaU) (l':=l ++ ZaT Zbu [Zaj v,Zaj ((ts.length:Nat):Int)] ++ (ts.take j).flatMap ZaU ++ ZaU t) (v:=.tuple #[]) 109 [.pointer (some ⟨g,0,none⟩), .string Zf3, .slice (some ⟨b',0,none⟩) (1 + t.exps.length) cap'] (fun _ _ h k=>WrFr.s0 h k) (by kernel_rfl) (fun w R Q=>ZhJ (ts:=ts) (j:=j) Q.1 Q.2 htk' hlt ht hxt.1 hl) (fun w Q=>Q.1) ?_
   refine xr 0 [(0, .v (.pointer (some ⟨g,0,none⟩))),eS1 16 A ts.length c,(17, .v (.int .i64 ((ts.length:Nat):Int))),(18, .v (.int .i64 ((j:Nat):Int)))] [] ?_
   refine xe (ZdF (Zab (Zaa (xq 1 [(31, .v (.int .i64 (IntKind.i64.wrap (((j:Nat):Int) + 1))))] [] ?_))))
   rw [(show IntKind.i64.wrap (((j:Nat):Int) + 1)=((j + 1:Nat):Int) from by rw [IntKind.wrap_i64]; omega)]
   refine xq 1 [(18, .v (.int .i64 ((j + 1:Nat):Int)))] [] ?_
   refine xe ?_
   refine SXq.weak [(0, .v (.pointer (some ⟨g,0,none⟩))),(16, .v (.slice A ts.length c)),(17, .v (.int .i64 ((ts.length:Nat):Int))),(18, .v (.int .i64 (((j + 1):Nat):Int)))] [] (Ψ:=fun w=>WrIs lo g (l ++ ZaT Zbu [Zaj v,Zaj ((ts.length:Nat):Int)] ++ (ts.take (j + 1)).flatMap ZaU) w) (Za7.of (by kernel_rfl)) (by kernel_rfl) (fun w Q=>(by rw [Zet hlt ht,← List.append_assoc]; exact Q)) ?_
   exact ZcE ((1 + (ts.length - (j + 1)))) (by omega) ⟨(j + 1),rfl,rfl,hlt,rfl⟩
 ·have hge:ts.length≤j:=by have:=of_decide_eq_false hb12; omega
  refine ZeE (Za3 (Za3 (ZfL ?_)))
  refine ZkD (v:=.tuple #[]) (by kernel_rfl) (fun w' R Q=>?_)
  exact ⟨rfl,by have h:=Q; rw [List.take_of_length_le hge,List.append_assoc] at h; exact h,R⟩
end Go.Proofs.YtcpjeaaapocoeaaGreatDoor

namespace Go.Proofs.YtcpjeaaapocoeaaGreatDoor
open Go.RowKit
end Go.Proofs.YtcpjeaaapocoeaaGreatDoor

namespace Go.Proofs.YtcpjeaaapocoeaaGreatDoor
open Go.RowKit
theorem Zj7 {x y:Int} (hy:0 < y):(Rat.divInt x y).num=x.tdiv (Int.gcd x y:Int)∧((Rat.divInt x y).den:Int)=y.tdiv (Int.gcd x y:Int):=by
 have hd1:(Int.gcd x y:Int) ∣ x:=Int.gcd_dvd_left _ _
 have hd2:(Int.gcd x y:Int) ∣ y:=Int.gcd_dvd_right _ _
 rw [Rat.num_divInt,Rat.den_divInt,if_neg (by omega),Int.sign_eq_one_of_pos hy,Int.one_mul,Int.gcd_comm y x,Int.tdiv_eq_ediv_of_dvd hd1,Int.tdiv_eq_ediv_of_dvd hd2]
 refine ⟨rfl,?_⟩
 rw [Int.natCast_ediv]
 congr 1
 omega
theorem ZhK {x y:Int} (hy:0 < y) (h:((Int.gcd x y:Nat):Int)=1):(Rat.divInt x y).num=x∧((Rat.divInt x y).den:Int)=y:=by
 have:=Zj7 (x:=x) hy
 rwa [h,Int.tdiv_one,Int.tdiv_one] at this
end Go.Proofs.YtcpjeaaapocoeaaGreatDoor

namespace Go.Proofs.YtcpjeaaapocoeaaGreatDoor
open Go.RowKit
theorem ZcM (a:Value) (q:Rat) (w:World) (ha:ZaN w a q) :
 Calls Tryz.prog 131 #[a] w (RetV w (.bool (decide (q.num=0)))):=by
 obtain ⟨s0,A0,l0,c0,t0,B0,m0,d0,rfl⟩:=ha.shp
 refine ZaR (Φ:=fun w=>ZaN w (.agg #[.bool s0, .slice A0 l0 c0, .bool t0, .slice B0 m0 d0]) (q)) Tryz.func131 rfl (by kernel_rfl) (fun w' hf=>ha.ext hf) ?_
 refine Zac (Zaa (xr 2 [(1, .p 1 0),(2, .v (.bool false))] [bR4 1 142 s0 A0 l0 c0 t0 B0 m0 d0] ?_))
 refine xe (Zab (Zac (Zaa (xr 2 [(2, .v (.bool false)),eI2 4 s0 A0 l0 c0] [] ?_))))
 refine xc 55 [vI2 s0 A0 l0 c0] 5 (fun _:Unit=>.bool (decide (q.num=0))) _ (fun w R Q=>(ZiE _ (q.num) _ Q.num).mono (fun _ _ h=>ZaD h rfl)) (fun xx=>?_)
 refine xr 1 [(2, .v (.bool (decide (q.num=0))))] [] ?_
 refine xe (Zab (Zau ?_))
 refine Zao (v:=.bool (decide (q.num=0))) (by kernel_rfl) (fun w' R Q=>?_)
 exact ⟨rfl,R⟩
end Go.Proofs.YtcpjeaaapocoeaaGreatDoor

namespace Go.Proofs.YtcpjeaaapocoeaaGreatDoor
open Go.RowKit
section
variable {P:Program} {N:Nat} {S0:Nat→Prop} {w0:World} {ops:Array Oper} {Q:Exit→Act→World→Prop} {s:St} {Φ:World→Prop}
end
section
variable {P:Program} {o:Oper} {ρ:Operand→Value} {w:World} {t e:TypeId} {x:Operand}
end
/-! ### adding a number to a row from a place on -/
end Go.Proofs.YtcpjeaaapocoeaaGreatDoor

namespace Go.Proofs.YtcpjeaaapocoeaaGreatDoor
open Go.RowKit
end Go.Proofs.YtcpjeaaapocoeaaGreatDoor

namespace Go.Proofs.YtcpjeaaapocoeaaGreatDoor
open Go.RowKit
instance {b:Nat} {A A2:Option Addr}:Nonempty {q:ShN // ∀ a,q.1=some a→b < a.block∨q.1=A∨q.1=A2}:=⟨⟨(none,0,0),fun a h=>by cases h⟩⟩
section
variable {P:Program} {o:Oper} {ρ:Operand→Value} {w:World}
end
end Go.Proofs.YtcpjeaaapocoeaaGreatDoor

namespace Go.Proofs.YtcpjeaaapocoeaaGreatDoor
open Go.RowKit
section
variable {P:Program} {N:Nat} {S0:Nat→Prop} {w0:World} {ops:Array Oper} {Q:Exit→Act→World→Prop} {s:St} {Φ:World→Prop}
end
end Go.Proofs.YtcpjeaaapocoeaaGreatDoor

namespace Go.Proofs.YtcpjeaaapocoeaaGreatDoor
open Go.RowKit
end Go.Proofs.YtcpjeaaapocoeaaGreatDoor

namespace Go.Proofs.YtcpjeaaapocoeaaGreatDoor
open Go.RowKit Go.Sort
end Go.Proofs.YtcpjeaaapocoeaaGreatDoor

namespace Go.Proofs.YtcpjeaaapocoeaaGreatDoor
open Go.RowKit Go.Sort
end Go.Proofs.YtcpjeaaapocoeaaGreatDoor

namespace Go.Proofs.YtcpjeaaapocoeaaGreatDoor
open Go.RowKit Go.Sort
end Go.Proofs.YtcpjeaaapocoeaaGreatDoor

namespace Go.Proofs.YtcpjeaaapocoeaaGreatDoor
open Go.RowKit
end Go.Proofs.YtcpjeaaapocoeaaGreatDoor

namespace Go.Proofs.YtcpjeaaapocoeaaGreatDoor
open Go.RowKit
end Go.Proofs.YtcpjeaaapocoeaaGreatDoor

namespace Go.Proofs.YtcpjeaaapocoeaaGreatDoor
open Go.RowKit
def ZbA (q:Rat):List UInt8:=if q.den=1 then Lib.itoa q.num else Lib.itoa q.num ++ [47] ++ Lib.itoa (q.den:Int)
end Go.Proofs.YtcpjeaaapocoeaaGreatDoor

namespace Go.Proofs.YtcpjeaaapocoeaaGreatDoor
open Go.RowKit
end Go.Proofs.YtcpjeaaapocoeaaGreatDoor

namespace Go.Proofs.YtcpjeaaapocoeaaGreatDoor
open Go.RowKit
theorem ZeM {x:Int} (h:0≤x):Lib.itoa x=Lib.decDigits x.natAbs:=by
 unfold Lib.itoa
 rw [if_neg (by omega)]
 congr 1; omega
end Go.Proofs.YtcpjeaaapocoeaaGreatDoor

namespace Go.Proofs.YtcpjeaaapocoeaaGreatDoor
end Go.Proofs.YtcpjeaaapocoeaaGreatDoor

namespace Go.Proofs.YtcpjeaaapocoeaaGreatDoor
open Go.RowKit
theorem ZdY {n:Nat} (h:10≤n):Lib.decDigits n=Lib.decDigits (n / 10) ++ [UInt8.ofNat (48 + n % 10)]:=by
 rw [Lib.decDigits,dif_neg (by omega)]
theorem Zc0 {n:Nat} (h:n < 10):Lib.decDigits n=[UInt8.ofNat (48 + n)]:=Lib.decDigits_one h
theorem ZcN {n:Nat} (h:n < 10):(UInt8.ofNat (48 + n)).toNat=48 + n:=by
 rw [UInt8.toNat_ofNat']; omega
theorem Ze1 {n:Nat} (h:n < 10):Zak (UInt8.ofNat (48 + n))=true:=by
 unfold Zak; rw [ZcN h]; simp; omega
theorem Zc1:∀ n,(Lib.decDigits n).all Zak=true:=by
 intro n
 induction n using Nat.strongRecOn with
 | _ n ih =>
   rcases Nat.lt_or_ge n 10 with h | h
   ·rw [Zc0 h,List.all_cons,Ze1 h]; rfl
   ·rw [ZdY h,List.all_append,ih (n / 10) (by omega),List.all_cons,Ze1 (Nat.mod_lt n (by omega:0 < 10))]; rfl
theorem ZeN:∀ n,Zad (Lib.decDigits n)=n:=by
 intro n
 induction n using Nat.strongRecOn with
 | _ n ih =>
   rcases Nat.lt_or_ge n 10 with h | h
   ·rw [Zc0 h]; simp only [Zad,List.foldl_cons,List.foldl_nil]; rw [ZcN h]; omega
   ·rw [ZdY h,Zdt,ih (n / 10) (by omega),ZcN (Nat.mod_lt n (by omega:0 < 10))]; omega
theorem ZcG:∀ n,0 < n→(Lib.decDigits n).head? ≠ some 48:=by
 intro n
 induction n using Nat.strongRecOn with
 | _ n ih =>
   intro h0
   rcases Nat.lt_or_ge n 10 with h | h
   ·rw [Zc0 h]
    intro e
    simp only [List.head?_cons,Option.some.injEq] at e
    have:=congrArg UInt8.toNat e
    rw [ZcN h] at this
    simp at this; omega
   ·have h1:=ih (n / 10) (by omega) (by omega)
    rw [ZdY h,List.head?_append]
    cases hc:(Lib.decDigits (n / 10)).head? with
    | none=>exact absurd (List.head?_eq_none_iff.1 hc) (Za5 _)
    | some c=>rw [hc] at h1; exact h1
theorem ZcQ {p:UInt8→Bool} {l:List UInt8} (h:l.all p=true):l.takeWhile p=l∧l.dropWhile p=[]:=by
 induction l with
 | nil=>exact ⟨rfl,rfl⟩
 | cons x xs ih =>
   simp only [List.all_cons,Bool.and_eq_true] at h
   obtain ⟨h1,h2⟩:=ih h.2
   rw [List.takeWhile_cons,List.dropWhile_cons,h.1]
   simp [h1,h2]
theorem ZiL {l:List UInt8} (h:l.all Zak=true):ZaK l=(false,l):=by
 unfold ZaK
 rw [if_neg]
 intro e
 cases l with
 | nil=>cases e
 | cons x xs =>
   simp only [List.head?_cons,Option.some.injEq] at e
   subst e
   simp only [List.all_cons,Bool.and_eq_true] at h
   exact absurd h.1 (by decide)
theorem Zju (n:Nat):ZaC (Lib.decDigits n)=(false,Lib.decDigits n,[],true):=by
 obtain ⟨h1,h2⟩:=ZcQ (Zc1 n)
 unfold ZaC
 rw [ZiL (Zc1 n)]
 simp only []
 rw [h1,h2]
 rcases Nat.eq_zero_or_pos n with h0 | h0
 ·subst h0; rw [Zc0 (by omega)]; rfl
 ·have hne:Lib.decDigits n≠[48]:=fun e=>ZcG n h0 (by rw [e]; rfl)
  rw [if_neg hne,if_neg (fun e=>e.elim (Za5 n) (ZcG n h0)),if_pos rfl]
theorem Zjv {n:Nat} (h:0 < n):ZaC ([45] ++ Lib.decDigits n)=(true,Lib.decDigits n,[],true):=by
 obtain ⟨h1,h2⟩:=ZcQ (Zc1 n)
 unfold ZaC
 have e:ZaK ([45] ++ Lib.decDigits n)=(true,Lib.decDigits n):=rfl
 rw [e]
 simp only []
 rw [h1,h2]
 have hne:Lib.decDigits n≠[48]:=fun e=>ZcG n h (by rw [e]; rfl)
 rw [if_neg hne,if_neg (fun e=>e.elim (Za5 n) (ZcG n h)),if_pos rfl]
theorem itoa_neg {z:Int} (h:z < 0):Lib.itoa z=[45] ++ Lib.decDigits z.natAbs:=by
 unfold Lib.itoa
 rw [if_pos h]
 rfl
theorem ZiM (z:Int):ZaC (Lib.itoa z)=(decide (z < 0),Lib.decDigits z.natAbs,[],true):=by
 by_cases h:z < 0
 ·rw [itoa_neg h,Zjv (by omega),decide_eq_true h]
 ·rw [ZeM (by omega),Zju,decide_eq_false h]
theorem Zjw (z:Int):Zaz (Lib.itoa z)=some (z:Rat):=by
 unfold Zaz
 rw [ZiM]
 simp only []
 rw [if_pos trivial,ZeN]
 congr 2
 unfold sg
 split
 ·rename_i h; have:=of_decide_eq_true h; omega
 ·rename_i h; have:¬ z < 0:=fun k=>h (decide_eq_true k); omega
end Go.Proofs.YtcpjeaaapocoeaaGreatDoor

namespace Go.Proofs.YtcpjeaaapocoeaaGreatDoor
open Go.RowKit
theorem Zf4 {c:UInt8} (h:Zak c=true):UInt8.ofNat (48 + (c.toNat - 48))=c:=by
 have:=Zc7 h
 apply UInt8.toNat.inj
 rw [UInt8.toNat_ofNat']
 have:=c.toNat_lt
 omega
theorem Zjx:∀ (k:Nat) (l:List UInt8),l.length=k→l.all Zak=true→l≠[]→l.head? ≠ some 48→Lib.decDigits (Zad l)=l:=by
 intro k
 induction k with
 | zero=>intro l hl _ h0; exact absurd (List.length_eq_zero_iff.1 hl) h0
 | succ k ih =>
   intro l hl hd h0 h48
   obtain ⟨l',c,rfl⟩:∃ l' c,l=l' ++ [c]:=by
    rcases List.eq_nil_or_concat l with h | ⟨l',c,h⟩
    ·exact absurd h h0
    ·exact ⟨l',c,by simpa using h⟩
   rw [List.all_append,Bool.and_eq_true] at hd
   have hc:Zak c=true:=by simpa using hd.2
   have hcb:=Zc7 hc
   rw [Zdt]
   by_cases hl0:l'=[]
   ·subst hl0
    have e:Zad []=0:=rfl
    rw [e,Nat.mul_zero,Nat.zero_add,Zc0 (by omega),Zf4 hc]; rfl
   ·have hh:l'.head? ≠ some 48:=by
     rw [List.head?_append] at h48
     cases hx:l'.head? with
     | none=>exact absurd (List.head?_eq_none_iff.1 hx) hl0
     | some x=>rw [hx] at h48; exact h48
    have h1:=ih l' (by simp at hl; exact hl) hd.1 hl0 hh
    have hp:=(ZdS hd.1 hl0 hh).1
    rw [ZdY (by omega),show (10 * Zad l' + (c.toNat - 48)) / 10=Zad l' by omega,show (10 * Zad l' + (c.toNat - 48)) % 10=c.toNat - 48 by omega,h1,Zf4 hc]
theorem Zh6 (n:Nat):(Lib.decDigits n).head? ≠ some 45:=by
 intro e
 cases h:Lib.decDigits n with
 | nil=>exact Za5 n h
 | cons x xs =>
   rw [h] at e
   simp only [List.head?_cons,Option.some.injEq] at e
   subst e
   have:=Zc1 n
   rw [h] at this
   simp only [List.all_cons,Bool.and_eq_true] at this
   exact absurd this.1 (by decide)
theorem Zgt {p:UInt8→Bool} {l r:List UInt8} {c:UInt8} (h:l.all p=true) (hc:p c=false):(l ++ c :: r).takeWhile p=l∧(l ++ c :: r).dropWhile p=c :: r:=by
 induction l with
 | nil=>simp [hc]
 | cons x xs ih =>
   simp only [List.all_cons,Bool.and_eq_true] at h
   obtain ⟨h1,h2⟩:=ih h.2
   rw [List.cons_append,List.takeWhile_cons,List.dropWhile_cons,h.1]
   simp [h1,h2]
theorem Zh7 (z:Int) (r:List UInt8):ZaK (Lib.itoa z ++ r)=(decide (z < 0),Lib.decDigits z.natAbs ++ r):=by
 by_cases h:z < 0
 ·rw [itoa_neg h,decide_eq_true h]
  unfold ZaK
  rw [if_pos (by simp)]
  rfl
 ·rw [ZeM (by omega),decide_eq_false h]
  unfold ZaK
  rw [if_neg]
  intro e
  rw [List.head?_append] at e
  cases hx:(Lib.decDigits z.natAbs).head? with
  | none=>exact absurd (List.head?_eq_none_iff.1 hx) (Za5 _)
  | some c =>
    rw [hx] at e
    exact Zh6 _ (hx.trans e)
theorem Zli (z:Int):sg (decide (z < 0)) z.natAbs=z:=by
 unfold sg
 split
 ·rename_i h; have:=of_decide_eq_true h; omega
 ·rename_i h; have:¬ z < 0:=fun k=>h (decide_eq_true k); omega
theorem ZiN {q:Rat} (h:q.den=1):((q.num:Int):Rat)=q:=by
 apply Rat.ext<;>simp [h]
theorem Zlj {q:Rat} (h:q.den≠1):q.num≠0:=by
 intro e
 have:=q.reduced
 rw [e] at this
 simp [Nat.Coprime] at this
 exact h this
theorem Zfl (n:Nat):Lib.itoa (n:Int)=Lib.decDigits n:=by
 rw [ZeM (by omega),Int.natAbs_natCast]
theorem ZiO {q:Rat} (h:q.den≠1):ZaC (ZbA q)=(decide (q.num < 0),Lib.decDigits q.num.natAbs,Lib.decDigits q.den,true):=by
 have hn:=Zlj h
 have hd:=q.den_nz
 unfold ZbA
 rw [if_neg h,Zfl,List.append_assoc]
 unfold ZaC
 rw [Zh7]
 simp only []
 obtain ⟨h1,h2⟩:=Zgt (p:=Zak) (r:=Lib.decDigits q.den) (c:=47) (Zc1 q.num.natAbs) (by decide)
 have e:Lib.decDigits q.num.natAbs ++ ([47] ++ Lib.decDigits q.den)=Lib.decDigits q.num.natAbs ++ 47 :: Lib.decDigits q.den:=rfl
 rw [e,h1,h2]
 have hh:=ZcG q.num.natAbs (by omega)
 rw [if_neg (fun e=>hh (by rw [e]; rfl)),if_neg (fun e=>e.elim (Za5 _) hh),if_neg (by simp),if_neg (by simp)]
 simp only [List.tail_cons]
 obtain ⟨h3,h4⟩:=ZcQ (Zc1 q.den)
 rw [h3,h4]
 have hh2:=ZcG q.den (by omega)
 have h49:Lib.decDigits q.den≠[49]:=fun e=>by
  have:=ZeN q.den
  rw [e] at this
  exact h (by rw [← this]; rfl)
 have hne:=Za5 q.den
 simp [hh2,h49,hne]
theorem Zjy (q:Rat):Zaz (ZbA q)=some q:=by
 by_cases h:q.den=1
 ·unfold ZbA
  rw [if_pos h,Zjw,ZiN h]
 ·unfold Zaz
  rw [ZiO h]
  simp only []
  rw [if_neg (Za5 _),ZeN,ZeN,if_pos q.reduced,Zli,Rat.mkRat_self]
theorem ZgS {neg:Bool} {a:Nat} (h:a=0→neg=false):(sg neg a < 0 ↔ neg=true)∧(sg neg a).natAbs=a:=by
 cases neg with
 | false=>simp [sg]
 | true =>
   have:a≠0:=fun e=>by cases h e
   simp [sg]; omega
theorem Zim {neg:Bool} {a:Nat} (h:a=0→neg=false):Lib.itoa (sg neg a)=(if neg then [45] else []) ++ Lib.decDigits a:=by
 obtain ⟨h1,h2⟩:=ZgS h
 cases neg with
 | false=>rw [ZeM (by simp [sg]),h2]; rfl
 | true=>rw [itoa_neg (h1.2 rfl),h2]; rfl
theorem Zh8 {l r:List UInt8} {neg:Bool} (h:ZaK l=(neg,r)):l=(if neg then [45] else []) ++ r:=by
 unfold ZaK at h
 split at h
 ·rename_i hh
  injection h with h1 h2
  subst h1 h2
  cases l with
  | nil=>cases hh
  | cons x xs=>simp at hh; subst hh; rfl
 ·injection h with h1 h2
  subst h1 h2
  rfl
theorem ZhL {l:List UInt8} {q:Rat} (h:Zaz l=some q):ZbA q=l:=by
 unfold Zaz at h
 cases hs:ZaC l with
 | mk neg r =>
   obtain ⟨num,den,ok⟩:=r
   rw [hs] at h
   cases ok with
   | false=>cases h
   | true =>
     simp only [] at h
     have hdg:=Zcc hs
     obtain ⟨s1,s2⟩:=ZfU hs
     cases hu:ZaK l with
     | mk neg' t =>
       have hl:=Zh8 hu
       have htw:t.takeWhile Zak ++ t.dropWhile Zak=t:=List.takeWhile_append_dropWhile
       unfold ZaC at hs
       rw [hu] at hs
       simp only [] at hs
       split at hs
       ·-- zero
        rename_i h48
        injection hs with e1 hs; injection hs with e2 hs; injection hs with e3 e4
        subst e1 e2 e3
        simp at e4
        rw [if_pos rfl,h48] at h
        have hv:Zad [48]=0:=rfl
        rw [hv] at h
        injection h with h
        rw [e4.1] at h hl
        rw [← h,hl,← htw,h48,e4.2]
        simp only [sg]
        unfold ZbA
        rw [if_pos (by simp)]
        have:Lib.itoa ((0:Nat):Int)=[48]:=by rw [Zfl,Zc0 (by omega)]; rfl
        simpa using this
       split at hs
       ·injection hs with _ hs; injection hs with _ hs; injection hs with _ hs; cases hs
       rename_i hn
       have hn1:t.takeWhile Zak≠[]:=fun e=>hn (Or.inl e)
       have hn2:(t.takeWhile Zak).head? ≠ some 48:=fun e=>hn (Or.inr e)
       have hdn:=Zjx _ _ rfl (ZaY (p:=Zak) t) hn1 hn2
       split at hs
       ·rename_i hr
        injection hs with e1 hs; injection hs with e2 hs; injection hs with e3 _
        subst e1 e2 e3
        rw [if_pos rfl] at h
        injection h with h
        rw [← h]
        unfold ZbA
        rw [if_pos (by simp)]
        have hnum:(((sg neg' (Zad (t.takeWhile Zak)):Int)):Rat).num=sg neg' (Zad (t.takeWhile Zak)):=rfl
        rw [hnum,Zim (fun e=>(s2 e).1),hdn,hl]
        rw [hr,List.append_nil] at htw
        rw [htw]
       split at hs
       ·injection hs with _ hs; injection hs with _ hs; injection hs with _ hs; cases hs
       ·rename_i hr h47
        injection hs with e1 hs; injection hs with e2 hs; injection hs with e3 e4
        subst e1 e2
        rw [e3] at e4
        simp at e4
        obtain ⟨⟨⟨k1,k2⟩,k3⟩,k4⟩:=e4
        rw [if_neg k2] at h
        split at h
        ·rename_i hg
         injection h with h
         have h2:=s1 k2
         have hq:q.num=sg neg' (Zad (t.takeWhile Zak))∧q.den=Zad den:=by
          have:=ZhK (x:=sg neg' (Zad (t.takeWhile Zak))) (y:=(Zad den:Int)) (by omega) (by
           unfold Int.gcd
           rw [(ZgS (fun e=>(s2 e).1)).2,Int.natAbs_natCast,hg]; rfl)
          rw [Rat.divInt_ofNat,h] at this
          exact ⟨this.1,by have:=this.2; omega⟩
         unfold ZbA
         rw [if_neg (by rw [hq.2]; omega),hq.1,hq.2,Zim (fun e=>(s2 e).1),hdn,Zfl,Zjx _ _ rfl hdg.2.1 k2 k3,hl]
         have htail:t.dropWhile Zak=47 :: den:=by
          cases hx:t.dropWhile Zak with
          | nil=>exact absurd hx hr
          | cons c r =>
            rw [hx] at h47 k1 e3
            simp at h47 k1 e3
            subst h47
            have:=List.takeWhile_append_dropWhile (p:=Zak) (l:=r)
            rw [e3,k1,List.append_nil] at this
            rw [this]
         rw [htail] at htw
         rw [List.append_assoc,List.append_assoc]
         congr 1
        ·cases h
theorem ZhM {l:List UInt8} {q:Rat}:Zaz l=some q ↔ ZbA q=l :=
 ⟨ZhL,fun h=>by rw [← h]; exact Zjy q⟩
end Go.Proofs.YtcpjeaaapocoeaaGreatDoor

namespace Go.Proofs.YtcpjeaaapocoeaaGreatDoor
open Go.RowKit
theorem Zjz {l:List UInt8} (hd:l.all Zak=true) (hl:l.length≤570):wl (Zad l)≤30:=by
 rw [ZbV]
 have h1:=ZbC l hd
 obtain ⟨k,hk⟩:∃ k,k=30:=⟨_,rfl⟩
 have h2:10 ^ l.length≤10 ^ (19 * k):=Nat.pow_le_pow_right (by omega) (by omega)
 rw [← hk]
 rw [Nat.pow_mul] at h2
 have h3:(10 ^ 19) ^ k≤W64 ^ k:=Nat.pow_le_pow_left (by rw [Zag]; decide) k
 exact Nat.lt_of_lt_of_le h1 (Nat.le_trans h2 h3)
theorem Zep.of_len {l:List UInt8} (h:l.length≤570):Zep l:=by
 refine ⟨h,fun neg num den hs _=>?_⟩
 obtain ⟨d1,d2,d3⟩:=Zcc hs
 have w1:=Zjz d1 (by omega)
 have w2:=Zjz d2 (by omega)
 have hn:(sg neg (Zad num)).natAbs=Zad num:=by unfold sg; split<;>omega
 exact ZdR.words (by rw [hn]; omega) (by rw [Int.natAbs_natCast]; omega)
end Go.Proofs.YtcpjeaaapocoeaaGreatDoor

namespace Go.Proofs.YtcpjeaaapocoeaaGreatDoor
open Go.RowKit
abbrev pnc:Ending:=.panicked [{ v:=.iface 30 (.int .i64 6),recovered:=false }]
theorem ZiQ (p:Value) (w:World):Calls Tryz.prog 139 #[p, .bool false] w fun e w'=>e=pnc∧w'=w:=by
 go_enter Tryz.func139,Tryz.ntmps139
 go_wp2
 exact ⟨rfl,rfl,rfl⟩
def NoLn (w:World) (b:Nat) (s:ByteArray):Prop:=Blk 239 w b #[.string s, .int .i64 0]∧Lib.indexByte s.data.toList 10 = -1
theorem NoLn.ext {w w':World} {b:Nat} {s:ByteArray} (h:NoLn w b s) (hf:Ext w w'):NoLn w' b s:=⟨h.1.ext hf,h.2⟩
set_option maxHeartbeats 1000000 in
theorem Zkc (b:Nat) (s:ByteArray) (w:World) (h:NoLn w b s):Calls Tryz.prog 282 #[.pointer (some ⟨b,0,none⟩)] w fun e w'=>e=pnc∧Ext w w':=by
 obtain ⟨hB,hi⟩:=h
 have c0:w.cell? ⟨b,0,none⟩=some (.string s):=by rw [hB.cell]; rfl
 have c1:w.cell? ⟨b,1,none⟩=some (.int .i64 0):=by rw [hB.cell]; rfl
 have HI:=zh hi
 have hn:(0:Int)≤(s.size:Int):=by omega
 have Hs:Hid (s.extract 0 s.size=s):=by unfold Hid; simp
 clear hB hi
 go_enter Tryz.func282,Tryz.ntmps282
 go_wp2
 go_region_held3 (fun w'=>w'.cell? ⟨b,0,none⟩=some (.string s)∧w'.cell? ⟨b,1,none⟩=some (.int .i64 0))
  (first | exact ⟨c0,c1⟩)
  (first
   | (go_at_call 343
      refine (Tryz.strings_IndexByte _ _ _).mono ?_
      rintro e w1 ⟨he,rfl⟩
      rw [show Lib.indexByte s.data.toList (10:Int).toNat.toUInt8 = -1 from HI.out] at he
      subst he))
 generalize hwd:w.drew=wd
 have HE:Hid (Ext w wd):=hwd ▸ (Fr.refl _ w).drew
 clear hwd
 go_wp2_with fail
 refine (ZiQ _ _).mono ?_
 rintro e w2 ⟨rfl,rfl⟩
 go_wp2
 exact ⟨rfl,rfl,HE.out⟩
set_option maxHeartbeats 1000000 in
theorem Zk0 (b:Nat) (s k:ByteArray) (w:World) (h:NoLn w b s):Calls Tryz.prog 193 #[.pointer (some ⟨b,0,none⟩), .string k] w fun e w'=>e=pnc∧Ext w w':=by
 go_enter Tryz.func193,Tryz.ntmps193
 go_wp2_with fail
 refine (Zkc b s _ h).mono ?_
 rintro e w2 ⟨rfl,Q⟩
 have HE:=zh Q
 clear Q h
 go_wp2
 exact ⟨rfl,rfl,HE.out⟩
set_option maxHeartbeats 1000000 in
theorem ZhQ (b:Nat) (s k:ByteArray) (n:Int) (w:World) (h:NoLn w b s):Calls Tryz.prog 141 #[.pointer (some ⟨b,0,none⟩), .string k, .int .i64 n] w fun e w'=>e=pnc∧Ext w w':=by
 go_enter Tryz.func141,Tryz.ntmps141
 go_wp2_with fail
 refine (Zk0 b s k _ h).mono ?_
 rintro e w2 ⟨rfl,Q⟩
 have HE:=zh Q
 clear Q h
 go_wp2
 exact ⟨rfl,rfl,HE.out⟩
set_option maxHeartbeats 1000000 in
theorem Zk1 (b:Nat) (s:ByteArray) (w:World) (h:NoLn w b s):Calls Tryz.prog 66 #[.pointer (some ⟨b,0,none⟩)] w fun e w'=>e=pnc∧Ext w w':=by
 go_enter Tryz.func66,Tryz.ntmps66
 go_wp2_with fail
 have hA:=(Fr.refl (fun _=>False) w).alloc
 refine (ZhQ b s _ _ _ (h.ext (hA _))).mono ?_
 rintro e w2 ⟨rfl,Q⟩
 have HE:=zh ((hA _).trans Q)
 clear Q h hA
 go_wp2
 exact ⟨rfl,rfl,HE.out⟩
set_option maxHeartbeats 1000000 in
theorem Zkd (b:Nat) (s:ByteArray) (w:World) (h:NoLn w b s):Calls Tryz.prog 71 #[.pointer (some ⟨b,0,none⟩)] w fun e w'=>e=pnc∧Ext w w':=by
 go_enter Tryz.func71,Tryz.ntmps71
 go_wp2_with fail
 have hA:=(Fr.refl (fun _=>False) w).alloc
 refine (ZhQ b s _ _ _ (h.ext (hA _))).mono ?_
 rintro e w2 ⟨rfl,Q⟩
 have HE:=zh ((hA _).trans Q)
 clear Q h hA
 go_wp2
 exact ⟨rfl,rfl,HE.out⟩
end Go.Proofs.YtcpjeaaapocoeaaGreatDoor

namespace Go.Proofs.YtcpjeaaapocoeaaGreatDoor
open Go.RowKit
theorem res2 {fn:Func} {tmps:Array Value} {w:World} {p q:Nat} {T:TypeId} {zs:List Value} {e:Int} (hr:fn.results=#[ResultVar.cell 4 T,ResultVar.cell 5 30]) (h4:tmps[4]? = some (.pointer (some ⟨p,0,none⟩))) (h5:tmps[5]? = some (.pointer (some ⟨q,0,none⟩)))
 (hp:Blk T w p zs.toArray) (hq:Blk 30 w q #[.int .i64 e]) (hT:(teOf Tryz.prog T).map (fun e=>(e.agg,e.size))=some (true,zs.length)):(results fn tmps).run Tryz.prog w=.ok (.tuple #[.agg zs.toArray, .int .i64 e]) w:=by
 obtain ⟨te,hte,h1⟩:=Option.map_eq_some_iff.1 hT
 injection h1 with ha hn
 have Q:(teOf Tryz.prog 30).map (fun e=>e.agg)=some false:=by kernel_rfl
 obtain ⟨ee,hee,hea⟩:=Option.map_eq_some_iff.1 Q
 have l1:=ZcS (P:=Tryz.prog) (w:=w) hte (g:=p) (off:=0) (cs:=zs) hn.symm (fun j hj=>by rw [Nat.zero_add,hp.cell]; simp [hj]) ha
 have l2:=Zdq (P:=Tryz.prog) (w:=w) hee (g:=q) (off:=0) (c:=.int .i64 e) (by rw [hq.cell]; rfl) hea
 simp only [Instr.loadAt,Instr.sureAddr,Sem.run_bind,Sem.run_pure,Result.andThen_ok] at l1 l2
 rw [ZfM,hr,Array.mapM_eq_mapM_toList]
 simp [ZdG,h4,h5,asAddr,l1,l2,Result.andThen_ok]
abbrev Zcz:List Value:=[.int .i64 0, .slice none 0 0]
theorem Zf7 (p q:Nat) (w:World) (hp:Blk 43 w p Zcz.toArray) (hq:Blk 30 w q #[.int .i64 0]) (hpq:p≠q) (older:List PanicEntry) :
 CallsD Tryz.prog 138 #[.pointer (some ⟨p,0,none⟩), .pointer (some ⟨q,0,none⟩)] (.panicking ({ v:=.iface 30 (.int .i64 6),recovered:=false } :: older)) w fun e u' w' =>
  e=.returned (.tuple #[])∧u'=.panicking ({ v:=.iface 30 (.int .i64 6),recovered:=true } :: older)∧Blk 43 w' p Zcz.toArray∧Blk 30 w' q #[.int .i64 6]∧Fr (fun i=>i=p∨i=q) w w':=by
 refine callsD_of_wpS Tryz.func138 rfl fun c₀ cs hu=>?_
 apply wpS_seq
 apply wpS_region
 simp [wpOpsS,go_sem,recoverD,hu,Tryz.ntmps138,Exit.thenS]
 refine wpS_of_wp ?_
 rw [show (#[Value.pointer (some ⟨p,0,none⟩), .pointer (some ⟨q,0,none⟩)] ++ ((Array.replicate 15 undef).setIfInBounds 4 (.iface 30 (.int .i64 6))).setIfInBounds 0 (.iface 30 (.int .i64 6)))=#[.pointer (some ⟨p,0,none⟩), .pointer (some ⟨q,0,none⟩), .iface 30 (.int .i64 6),undef,undef,undef, .iface 30 (.int .i64 6),undef,undef,undef,undef,undef,undef,undef,undef,undef,undef] from rfl]
 refine Zjm (N:=17) (S0:=fun i=>i=p∨i=q) (sl:=[(0, .v (.pointer (some ⟨p,0,none⟩))),(1, .v (.pointer (some ⟨q,0,none⟩))),(2, .v (.iface 30 (.int .i64 6)))]) (Φ:=fun w=>Blk 43 w p Zcz.toArray∧Blk 30 w q [Value.int .i64 0].toArray) rfl rfl (fun w' hf=>⟨hp.ext hf,hq.ext hf⟩) ?_
 refine Zac (Zaa (xr 2 [(0, .v (.pointer (some ⟨p,0,none⟩))),(1, .v (.pointer (some ⟨q,0,none⟩))),(2, .v (.iface 30 (.int .i64 6))),(8, .v (.bool true))] [] ?_))
 refine xe (Zab (xa (Zac (Zaa (xr 1 [(0, .v (.pointer (some ⟨p,0,none⟩))),(1, .v (.pointer (some ⟨q,0,none⟩))),(2, .v (.iface 30 (.int .i64 6))),(3, .p 3 0)] [(3,43,Zcz.map .v)] ?_)))))
 refine xe (Zab (Zac (Zaa (xr 1 [(0, .v (.pointer (some ⟨p,0,none⟩))),(1, .v (.pointer (some ⟨q,0,none⟩))),(2, .v (.iface 30 (.int .i64 6))),(9, .v (.agg Zcz.toArray))] [] ?_))))
 refine Zig (t:=43) (bt:=43) (x:=.tmp 0) (y:=.tmp 9) (cs:=Zcz) (new:=Zcz) p 0 (.agg Zcz.toArray) (fun w=>Blk 30 w q [Value.int .i64 0].toArray) (fun w Q=>Q.1) (by decide) (by decide) (Or.inr (Or.inl rfl)) (by decide) rfl (fun w w' Q hF=>Q.2.fr hF (fun e=>hpq e.symm)) ?_
 refine ZeL (t:=30) (bt:=30) (x:=.tmp 1) (y:=.const (.int .i64 6)) (cs:=[.int .i64 0]) q 0 (.int .i64 6) (fun w=>Blk 43 w p Zcz.toArray) (fun w Q=>Q.1) (by decide) (Or.inr (Or.inr rfl)) rfl rfl (fun w w' Q hF=>Q.2.fr hF hpq) ?_
 refine xe (Zab (Zac (Zaa (xr 7 [(0, .v (.pointer (some ⟨p,0,none⟩))),(1, .v (.pointer (some ⟨q,0,none⟩))),(2, .v (.iface 30 (.int .i64 6))),(4, .v (.int .i64 6)),(5, .v (.bool true))] [] ?_))))
 refine xe (Zab (Zac (Zaa (xr 1 [(0, .v (.pointer (some ⟨p,0,none⟩))),(1, .v (.pointer (some ⟨q,0,none⟩))),(2, .v (.iface 30 (.int .i64 6))),(4, .v (.int .i64 6)),(15, .v (.bool true))] [] ?_))))
 refine xe (Zab (xa (Zaa (xr 1 [(0, .v (.pointer (some ⟨p,0,none⟩))),(1, .v (.pointer (some ⟨q,0,none⟩))),(2, .v (.iface 30 (.int .i64 6))),(16, .v (.int .i64 6))] [] ?_))))
 refine ZeL (t:=30) (bt:=30) (x:=.tmp 1) (y:=.tmp 16) (cs:=[.int .i64 6]) q 0 (.int .i64 6) (fun w=>Blk 43 w p Zcz.toArray) (fun w Q=>Q.2) (by decide) (Or.inr (Or.inr rfl)) rfl rfl (fun w w' Q hF=>Q.1.fr hF hpq) ?_
 refine xe (fun L a w' hi=>?_)
 have Q:=hi.box.self
 exact ⟨hi.df,_,rfl, .tuple #[],by simp [results,Tryz.results138],rfl,rfl,Q.1,Q.2,hi.mem.ext⟩
abbrev Zb0:List Value:=[.int .i64 0, .string ⟨#[]⟩, .string ⟨#[]⟩, .int .i64 0, .int .i64 0, .slice none 0 0, .slice none 0 0, .int .i64 0, .slice none 0 0, .slice none 0 0, .slice none 0 0, .string ⟨#[]⟩, .string ⟨#[]⟩, .slice none 0 0, .slice none 0 0, .slice none 0 0, .string ⟨#[]⟩, .string ⟨#[]⟩, .int .i64 0, .int .i64 0, .slice none 0 0, .slice none 0 0, .int .i64 0, .slice none 0 0, .int .i64 0, .slice none 0 0, .slice none 0 0, .slice none 0 0, .string ⟨#[]⟩, .slice none 0 0]
theorem Zfn (p q:Nat) (w:World) (hp:Blk 80 w p Zb0.toArray) (hq:Blk 30 w q #[.int .i64 0]) (hpq:p≠q) (older:List PanicEntry) :
 CallsD Tryz.prog 147 #[.pointer (some ⟨p,0,none⟩), .pointer (some ⟨q,0,none⟩)] (.panicking ({ v:=.iface 30 (.int .i64 6),recovered:=false } :: older)) w fun e u' w' =>
  e=.returned (.tuple #[])∧u'=.panicking ({ v:=.iface 30 (.int .i64 6),recovered:=true } :: older)∧Blk 80 w' p Zb0.toArray∧Blk 30 w' q #[.int .i64 6]∧Fr (fun i=>i=p∨i=q) w w':=by
 refine callsD_of_wpS Tryz.func147 rfl fun c₀ cs hu=>?_
 apply wpS_seq
 apply wpS_region
 simp [wpOpsS,go_sem,recoverD,hu,Tryz.ntmps147,Exit.thenS]
 refine wpS_of_wp ?_
 rw [show (#[Value.pointer (some ⟨p,0,none⟩), .pointer (some ⟨q,0,none⟩)] ++ ((Array.replicate 15 undef).setIfInBounds 4 (.iface 30 (.int .i64 6))).setIfInBounds 0 (.iface 30 (.int .i64 6)))=#[.pointer (some ⟨p,0,none⟩), .pointer (some ⟨q,0,none⟩), .iface 30 (.int .i64 6),undef,undef,undef, .iface 30 (.int .i64 6),undef,undef,undef,undef,undef,undef,undef,undef,undef,undef] from rfl]
 refine Zjm (N:=17) (S0:=fun i=>i=p∨i=q) (sl:=[(0, .v (.pointer (some ⟨p,0,none⟩))),(1, .v (.pointer (some ⟨q,0,none⟩))),(2, .v (.iface 30 (.int .i64 6)))]) (Φ:=fun w=>Blk 80 w p Zb0.toArray∧Blk 30 w q [Value.int .i64 0].toArray) rfl rfl (fun w' hf=>⟨hp.ext hf,hq.ext hf⟩) ?_
 refine Zac (Zaa (xr 2 [(0, .v (.pointer (some ⟨p,0,none⟩))),(1, .v (.pointer (some ⟨q,0,none⟩))),(2, .v (.iface 30 (.int .i64 6))),(8, .v (.bool true))] [] ?_))
 refine xe (Zab (xa (Zac (Zaa (xr 1 [(0, .v (.pointer (some ⟨p,0,none⟩))),(1, .v (.pointer (some ⟨q,0,none⟩))),(2, .v (.iface 30 (.int .i64 6))),(3, .p 3 0)] [(3,80,Zb0.map .v)] ?_)))))
 refine xe (Zab (Zac (Zaa (xr 1 [(0, .v (.pointer (some ⟨p,0,none⟩))),(1, .v (.pointer (some ⟨q,0,none⟩))),(2, .v (.iface 30 (.int .i64 6))),(9, .v (.agg Zb0.toArray))] [] ?_))))
 refine Zig (t:=80) (bt:=80) (x:=.tmp 0) (y:=.tmp 9) (cs:=Zb0) (new:=Zb0) p 0 (.agg Zb0.toArray) (fun w=>Blk 30 w q [Value.int .i64 0].toArray) (fun w Q=>Q.1) (by decide) (by decide) (Or.inr (Or.inl rfl)) (by decide) rfl (fun w w' Q hF=>Q.2.fr hF (fun e=>hpq e.symm)) ?_
 refine ZeL (t:=30) (bt:=30) (x:=.tmp 1) (y:=.const (.int .i64 6)) (cs:=[.int .i64 0]) q 0 (.int .i64 6) (fun w=>Blk 80 w p Zb0.toArray) (fun w Q=>Q.1) (by decide) (Or.inr (Or.inr rfl)) rfl rfl (fun w w' Q hF=>Q.2.fr hF hpq) ?_
 refine xe (Zab (Zac (Zaa (xr 7 [(0, .v (.pointer (some ⟨p,0,none⟩))),(1, .v (.pointer (some ⟨q,0,none⟩))),(2, .v (.iface 30 (.int .i64 6))),(4, .v (.int .i64 6)),(5, .v (.bool true))] [] ?_))))
 refine xe (Zab (Zac (Zaa (xr 1 [(0, .v (.pointer (some ⟨p,0,none⟩))),(1, .v (.pointer (some ⟨q,0,none⟩))),(2, .v (.iface 30 (.int .i64 6))),(4, .v (.int .i64 6)),(15, .v (.bool true))] [] ?_))))
 refine xe (Zab (xa (Zaa (xr 1 [(0, .v (.pointer (some ⟨p,0,none⟩))),(1, .v (.pointer (some ⟨q,0,none⟩))),(2, .v (.iface 30 (.int .i64 6))),(16, .v (.int .i64 6))] [] ?_))))
 refine ZeL (t:=30) (bt:=30) (x:=.tmp 1) (y:=.tmp 16) (cs:=[.int .i64 6]) q 0 (.int .i64 6) (fun w=>Blk 80 w p Zb0.toArray) (fun w Q=>Q.2) (by decide) (Or.inr (Or.inr rfl)) rfl rfl (fun w w' Q hF=>Q.1.fr hF hpq) ?_
 refine xe (fun L a w' hi=>?_)
 have Q:=hi.box.self
 exact ⟨hi.df,_,rfl, .tuple #[],by simp [results,Tryz.results147],rfl,rfl,Q.1,Q.2,hi.mem.ext⟩
set_option maxHeartbeats 4000000 in
theorem ZhR (s:ByteArray) (w:World) (hs:s.size≤1048576) (hi:Lib.indexByte s.data.toList 10 = -1) :
 Calls Tryz.prog 65 #[.string s, .func (.func 66) #[] #[]] w (RetV w (.tuple #[.agg #[.int .i64 0, .slice none 0 0], .int .i64 6])):=by
 have hmf:∀ (fn:Fn) (first cap:Array Value) (w:World),(Instr.makeFunc fn first cap).run Tryz.prog w=.ok (.func fn first cap) w:=fun _ _ _ _=>rfl
 have hlim:((s.size:Nat):Int)≤1048576:=by omega
 go_enter_defers Tryz.func65,Tryz.ntmps65
 go_wp2_with fail
 generalize hwb:World.alloc (World.alloc (World.alloc w _) _) _=wb
 obtain ⟨hP,hQ,hR,Q⟩:=Zif hwb
 have hpq:w.heap.size≠w.heap.size + 1:=by omega
 have HP:=zh hP
 have HQ:=zh hQ
 have HE:=zh Q
 have HR:=zh hR
 clear hP hQ Q hR hwb
 refine (Zk1 _ s _ ⟨HR.out,hi⟩).mono ?_
 rintro e w2 ⟨rfl,hE2⟩
 have HP2:=zh (HP.out.ext hE2)
 have HQ2:=zh (HQ.out.ext hE2)
 have HE2:=zh (HE.out.trans hE2)
 clear hE2
 go_wp2
 refine leaves_cons (f:=138) (args:=#[.pointer (some ⟨w.heap.size,0,none⟩), .pointer (some ⟨w.heap.size + 1,0,none⟩)]) (by simp) (by simp [go_sem]) ?_
 refine (Zf7 _ _ _ HP2.out HQ2.out hpq []).mono ?_
 rintro e u' w3 ⟨rfl,rfl,k1,k2,k3⟩
 have HX:Ext w w3:=HE2.out.next k3 (fun i hi h=>by omega)
 exact ⟨_,res2 (p:=w.heap.size) (q:=w.heap.size + 1) (T:=43) (zs:=Zcz) Tryz.results65 rfl rfl k1 k2 (by kernel_rfl),rfl,HX⟩
set_option maxHeartbeats 4000000 in
theorem Zg2 (s:ByteArray) (w:World) (hs:s.size≤1048576) (hi:Lib.indexByte s.data.toList 10 = -1) :
 Calls Tryz.prog 70 #[.string s, .func (.func 71) #[] #[]] w (RetV w (.tuple #[.agg #[.int .i64 0, .string ⟨#[]⟩, .string ⟨#[]⟩, .int .i64 0, .int .i64 0, .slice none 0 0, .slice none 0 0, .int .i64 0, .slice none 0 0, .slice none 0 0, .slice none 0 0, .string ⟨#[]⟩, .string ⟨#[]⟩, .slice none 0 0, .slice none 0 0, .slice none 0 0, .string ⟨#[]⟩, .string ⟨#[]⟩, .int .i64 0, .int .i64 0, .slice none 0 0, .slice none 0 0, .int .i64 0, .slice none 0 0, .int .i64 0, .slice none 0 0, .slice none 0 0, .slice none 0 0, .string ⟨#[]⟩, .slice none 0 0], .int .i64 6])):=by
 have hmf:∀ (fn:Fn) (first cap:Array Value) (w:World),(Instr.makeFunc fn first cap).run Tryz.prog w=.ok (.func fn first cap) w:=fun _ _ _ _=>rfl
 have hlim:((s.size:Nat):Int)≤1048576:=by omega
 go_enter_defers Tryz.func70,Tryz.ntmps70
 go_wp2_with fail
 generalize hwb:World.alloc (World.alloc (World.alloc w _) _) _=wb
 obtain ⟨hP,hQ,hR,Q⟩:=Zif hwb
 have hpq:w.heap.size≠w.heap.size + 1:=by omega
 have HP:=zh hP
 have HQ:=zh hQ
 have HE:=zh Q
 have HR:=zh hR
 clear hP hQ Q hR hwb
 refine (Zkd _ s _ ⟨HR.out,hi⟩).mono ?_
 rintro e w2 ⟨rfl,hE2⟩
 have HP2:=zh (HP.out.ext hE2)
 have HQ2:=zh (HQ.out.ext hE2)
 have HE2:=zh (HE.out.trans hE2)
 clear hE2
 go_wp2
 refine leaves_cons (f:=147) (args:=#[.pointer (some ⟨w.heap.size,0,none⟩), .pointer (some ⟨w.heap.size + 1,0,none⟩)]) (by simp) (by simp [go_sem]) ?_
 refine (Zfn _ _ _ HP2.out HQ2.out hpq []).mono ?_
 rintro e u' w3 ⟨rfl,rfl,k1,k2,k3⟩
 have HX:Ext w w3:=HE2.out.next k3 (fun i hi h=>by omega)
 exact ⟨_,res2 (p:=w.heap.size) (q:=w.heap.size + 1) (T:=80) (zs:=Zb0) Tryz.results70 rfl rfl k1 k2 (by kernel_rfl),rfl,HX⟩
end Go.Proofs.YtcpjeaaapocoeaaGreatDoor

namespace Go.Proofs.YtcpjeaaapocoeaaGreatDoor
open Go.RowKit
theorem Zkn {s:ByteArray} (h:1048576 < s.size):decide ((s.size:Int) > 1048576)=true:=decide_eq_true (by omega)
theorem Zgx (s:ByteArray) (w:World) (hs:1048576 < s.size) :
 Calls Tryz.prog 65 #[.string s, .func (.func 66) #[] #[]] w (RetV w (.tuple #[.agg #[.int .i64 0, .slice none 0 0], .int .i64 2])):=by
 refine ZaR (Φ:=fun w=>True) Tryz.func65 rfl (by kernel_rfl) (fun w' hf=>trivial) ?_
 refine Zac (Zaa (xr 2 [(0, .v (.string s)),(1, .v (.func (.func 66) #[] #[])),(4, .p 4 0),(5, .p 5 0)] [(5,30,[.v (.int .i64 0)]),(4,43,[.v (.int .i64 0), .v (.slice none 0 0)])] ?_))
 refine xe (Zab (Zac (Zac (Zaa (xr 3 [(0, .v (.string s)),(1, .v (.func (.func 66) #[] #[])),(4, .p 4 0),(5, .p 5 0),(9, .v (.bool (decide (((s).size:Int) > 1048576))))] [(5,30,[.v (.int .i64 0)]),(4,43,[.v (.int .i64 0), .v (.slice none 0 0)])] ?_)))))
 rw [Zkn hs]
 refine xr 0 [(0, .v (.string s)),(1, .v (.func (.func 66) #[] #[])),(4, .p 4 0),(5, .p 5 0),(9, .v (.bool true))] [(5,30,[.v (.int .i64 0)]),(4,43,[.v (.int .i64 0), .v (.slice none 0 0)])] ?_
 refine xe (Zab (xa (Zac (Zaa (xr 3 [(0, .v (.string s)),(1, .v (.func (.func 66) #[] #[])),(4, .p 4 0),(5, .p 5 0)] [(5,30,[.v (.int .i64 2)]),(4,43,[.v (.int .i64 0), .v (.slice none 0 0)])] ?_)))))
 refine xe (Zab (Zau (Zal ?_)))
 refine Zao (v:=.tuple #[.agg #[.int .i64 0, .slice none 0 0], .int .i64 2]) (by kernel_rfl) (fun w' R Q=>?_)
 exact ⟨rfl,R⟩
theorem ZhS (s:ByteArray) (w:World) (hs:s.size≤1048576) (hi:Lib.indexByte s.data.toList 10 = -1) :
 Calls Tryz.prog 21 #[.string s] w (RetV w (.tuple #[.agg #[.int .i64 0, .slice none 0 0], .int .i64 6])):=by
 refine ZaR (Φ:=fun w=>True) Tryz.func21 rfl (by kernel_rfl) (fun w' hf=>trivial) ?_
 refine Zac (Zaa (xr 2 [(0, .v (.string s)),(2, .p 2 0),(3, .v (.int .i64 0))] [(2,43,[.v (.int .i64 0), .v (.slice none 0 0)])] ?_))
 refine xe (Zab (Zac (Zaa (xr 1 [(2, .p 2 0),(3, .v (.int .i64 0)),(4, .v (.string s))] [(2,43,[.v (.int .i64 0), .v (.slice none 0 0)])] ?_))))
 refine xc 65 [.string s, .func (.func 66) #[] #[]] 5 (fun _:Unit=>.tuple #[.agg #[.int .i64 0, .slice none 0 0], .int .i64 6]) _ (fun w R Q=>(ZhR s _ hs hi).mono (fun _ _ h=>ZaD h rfl)) (fun xx=>?_)
 refine xr 4 [(2, .p 2 0),(3, .v (.int .i64 6))] [(2,43,[.v (.int .i64 0), .v (.slice none 0 0)])] ?_
 refine xe (Zab (Zau ?_))
 refine Zao (v:=.tuple #[.agg #[.int .i64 0, .slice none 0 0], .int .i64 6]) (by kernel_rfl) (fun w' R Q=>?_)
 exact ⟨rfl,R⟩
theorem Zgy (s:ByteArray) (w:World) (hs:1048576 < s.size) :
 Calls Tryz.prog 21 #[.string s] w (RetV w (.tuple #[.agg #[.int .i64 0, .slice none 0 0], .int .i64 2])):=by
 refine ZaR (Φ:=fun w=>True) Tryz.func21 rfl (by kernel_rfl) (fun w' hf=>trivial) ?_
 refine Zac (Zaa (xr 2 [(0, .v (.string s)),(2, .p 2 0),(3, .v (.int .i64 0))] [(2,43,[.v (.int .i64 0), .v (.slice none 0 0)])] ?_))
 refine xe (Zab (Zac (Zaa (xr 1 [(2, .p 2 0),(3, .v (.int .i64 0)),(4, .v (.string s))] [(2,43,[.v (.int .i64 0), .v (.slice none 0 0)])] ?_))))
 refine xc 65 [.string s, .func (.func 66) #[] #[]] 5 (fun _:Unit=>.tuple #[.agg #[.int .i64 0, .slice none 0 0], .int .i64 2]) _ (fun w R Q=>(Zgx s _ hs).mono (fun _ _ h=>ZaD h rfl)) (fun xx=>?_)
 refine xr 4 [(2, .p 2 0),(3, .v (.int .i64 2))] [(2,43,[.v (.int .i64 0), .v (.slice none 0 0)])] ?_
 refine xe (Zab (Zau ?_))
 refine Zao (v:=.tuple #[.agg #[.int .i64 0, .slice none 0 0], .int .i64 2]) (by kernel_rfl) (fun w' R Q=>?_)
 exact ⟨rfl,R⟩
theorem Zf8 (s:ByteArray) (w:World) (hs:1048576 < s.size) :
 Calls Tryz.prog 70 #[.string s, .func (.func 71) #[] #[]] w (RetV w (.tuple #[.agg #[.int .i64 0, .string ⟨#[]⟩, .string ⟨#[]⟩, .int .i64 0, .int .i64 0, .slice none 0 0, .slice none 0 0, .int .i64 0, .slice none 0 0, .slice none 0 0, .slice none 0 0, .string ⟨#[]⟩, .string ⟨#[]⟩, .slice none 0 0, .slice none 0 0, .slice none 0 0, .string ⟨#[]⟩, .string ⟨#[]⟩, .int .i64 0, .int .i64 0, .slice none 0 0, .slice none 0 0, .int .i64 0, .slice none 0 0, .int .i64 0, .slice none 0 0, .slice none 0 0, .slice none 0 0, .string ⟨#[]⟩, .slice none 0 0], .int .i64 2])):=by
 refine ZaR (Φ:=fun w=>True) Tryz.func70 rfl (by kernel_rfl) (fun w' hf=>trivial) ?_
 refine Zac (Zaa (xr 2 [(0, .v (.string s)),(1, .v (.func (.func 71) #[] #[])),(4, .p 4 0),(5, .p 5 0)] [(5,30,[.v (.int .i64 0)]),(4,80,[.v (.int .i64 0), .v (.string ⟨#[]⟩), .v (.string ⟨#[]⟩), .v (.int .i64 0), .v (.int .i64 0), .v (.slice none 0 0), .v (.slice none 0 0), .v (.int .i64 0), .v (.slice none 0 0), .v (.slice none 0 0), .v (.slice none 0 0), .v (.string ⟨#[]⟩), .v (.string ⟨#[]⟩), .v (.slice none 0 0), .v (.slice none 0 0), .v (.slice none 0 0), .v (.string ⟨#[]⟩), .v (.string ⟨#[]⟩), .v (.int .i64 0), .v (.int .i64 0), .v (.slice none 0 0), .v (.slice none 0 0), .v (.int .i64 0), .v (.slice none 0 0), .v (.int .i64 0), .v (.slice none 0 0), .v (.slice none 0 0), .v (.slice none 0 0), .v (.string ⟨#[]⟩), .v (.slice none 0 0)])] ?_))
 refine xe (Zab (Zac (Zac (Zaa (xr 3 [(0, .v (.string s)),(1, .v (.func (.func 71) #[] #[])),(4, .p 4 0),(5, .p 5 0),(9, .v (.bool (decide (((s).size:Int) > 1048576))))] [(5,30,[.v (.int .i64 0)]),(4,80,[.v (.int .i64 0), .v (.string ⟨#[]⟩), .v (.string ⟨#[]⟩), .v (.int .i64 0), .v (.int .i64 0), .v (.slice none 0 0), .v (.slice none 0 0), .v (.int .i64 0), .v (.slice none 0 0), .v (.slice none 0 0), .v (.slice none 0 0), .v (.string ⟨#[]⟩), .v (.string ⟨#[]⟩), .v (.slice none 0 0), .v (.slice none 0 0), .v (.slice none 0 0), .v (.string ⟨#[]⟩), .v (.string ⟨#[]⟩), .v (.int .i64 0), .v (.int .i64 0), .v (.slice none 0 0), .v (.slice none 0 0), .v (.int .i64 0), .v (.slice none 0 0), .v (.int .i64 0), .v (.slice none 0 0), .v (.slice none 0 0), .v (.slice none 0 0), .v (.string ⟨#[]⟩), .v (.slice none 0 0)])] ?_)))))
 rw [Zkn hs]
 refine xr 0 [(0, .v (.string s)),(1, .v (.func (.func 71) #[] #[])),(4, .p 4 0),(5, .p 5 0),(9, .v (.bool true))] [(5,30,[.v (.int .i64 0)]),(4,80,[.v (.int .i64 0), .v (.string ⟨#[]⟩), .v (.string ⟨#[]⟩), .v (.int .i64 0), .v (.int .i64 0), .v (.slice none 0 0), .v (.slice none 0 0), .v (.int .i64 0), .v (.slice none 0 0), .v (.slice none 0 0), .v (.slice none 0 0), .v (.string ⟨#[]⟩), .v (.string ⟨#[]⟩), .v (.slice none 0 0), .v (.slice none 0 0), .v (.slice none 0 0), .v (.string ⟨#[]⟩), .v (.string ⟨#[]⟩), .v (.int .i64 0), .v (.int .i64 0), .v (.slice none 0 0), .v (.slice none 0 0), .v (.int .i64 0), .v (.slice none 0 0), .v (.int .i64 0), .v (.slice none 0 0), .v (.slice none 0 0), .v (.slice none 0 0), .v (.string ⟨#[]⟩), .v (.slice none 0 0)])] ?_
 refine xe (Zab (xa (Zac (Zaa (xr 3 [(0, .v (.string s)),(1, .v (.func (.func 71) #[] #[])),(4, .p 4 0),(5, .p 5 0)] [(5,30,[.v (.int .i64 2)]),(4,80,[.v (.int .i64 0), .v (.string ⟨#[]⟩), .v (.string ⟨#[]⟩), .v (.int .i64 0), .v (.int .i64 0), .v (.slice none 0 0), .v (.slice none 0 0), .v (.int .i64 0), .v (.slice none 0 0), .v (.slice none 0 0), .v (.slice none 0 0), .v (.string ⟨#[]⟩), .v (.string ⟨#[]⟩), .v (.slice none 0 0), .v (.slice none 0 0), .v (.slice none 0 0), .v (.string ⟨#[]⟩), .v (.string ⟨#[]⟩), .v (.int .i64 0), .v (.int .i64 0), .v (.slice none 0 0), .v (.slice none 0 0), .v (.int .i64 0), .v (.slice none 0 0), .v (.int .i64 0), .v (.slice none 0 0), .v (.slice none 0 0), .v (.slice none 0 0), .v (.string ⟨#[]⟩), .v (.slice none 0 0)])] ?_)))))
 refine xe (Zab (Zau (Zal ?_)))
 refine Zao (v:=.tuple #[.agg #[.int .i64 0, .string ⟨#[]⟩, .string ⟨#[]⟩, .int .i64 0, .int .i64 0, .slice none 0 0, .slice none 0 0, .int .i64 0, .slice none 0 0, .slice none 0 0, .slice none 0 0, .string ⟨#[]⟩, .string ⟨#[]⟩, .slice none 0 0, .slice none 0 0, .slice none 0 0, .string ⟨#[]⟩, .string ⟨#[]⟩, .int .i64 0, .int .i64 0, .slice none 0 0, .slice none 0 0, .int .i64 0, .slice none 0 0, .int .i64 0, .slice none 0 0, .slice none 0 0, .slice none 0 0, .string ⟨#[]⟩, .slice none 0 0], .int .i64 2]) (by kernel_rfl) (fun w' R Q=>?_)
 exact ⟨rfl,R⟩
theorem Zg3 (s:ByteArray) (w:World) (hs:s.size≤1048576) (hi:Lib.indexByte s.data.toList 10 = -1) :
 Calls Tryz.prog 25 #[.string s] w (RetV w (.tuple #[.agg #[.int .i64 0, .string ⟨#[]⟩, .string ⟨#[]⟩, .int .i64 0, .int .i64 0, .slice none 0 0, .slice none 0 0, .int .i64 0, .slice none 0 0, .slice none 0 0, .slice none 0 0, .string ⟨#[]⟩, .string ⟨#[]⟩, .slice none 0 0, .slice none 0 0, .slice none 0 0, .string ⟨#[]⟩, .string ⟨#[]⟩, .int .i64 0, .int .i64 0, .slice none 0 0, .slice none 0 0, .int .i64 0, .slice none 0 0, .int .i64 0, .slice none 0 0, .slice none 0 0, .slice none 0 0, .string ⟨#[]⟩, .slice none 0 0], .int .i64 6])):=by
 refine ZaR (Φ:=fun w=>True) Tryz.func25 rfl (by kernel_rfl) (fun w' hf=>trivial) ?_
 refine Zac (Zaa (xr 2 [(0, .v (.string s)),(2, .p 2 0),(3, .v (.int .i64 0))] [(2,80,[.v (.int .i64 0), .v (.string ⟨#[]⟩), .v (.string ⟨#[]⟩), .v (.int .i64 0), .v (.int .i64 0), .v (.slice none 0 0), .v (.slice none 0 0), .v (.int .i64 0), .v (.slice none 0 0), .v (.slice none 0 0), .v (.slice none 0 0), .v (.string ⟨#[]⟩), .v (.string ⟨#[]⟩), .v (.slice none 0 0), .v (.slice none 0 0), .v (.slice none 0 0), .v (.string ⟨#[]⟩), .v (.string ⟨#[]⟩), .v (.int .i64 0), .v (.int .i64 0), .v (.slice none 0 0), .v (.slice none 0 0), .v (.int .i64 0), .v (.slice none 0 0), .v (.int .i64 0), .v (.slice none 0 0), .v (.slice none 0 0), .v (.slice none 0 0), .v (.string ⟨#[]⟩), .v (.slice none 0 0)])] ?_))
 refine xe (Zab (Zac (Zaa (xr 1 [(2, .p 2 0),(3, .v (.int .i64 0)),(4, .v (.string s))] [(2,80,[.v (.int .i64 0), .v (.string ⟨#[]⟩), .v (.string ⟨#[]⟩), .v (.int .i64 0), .v (.int .i64 0), .v (.slice none 0 0), .v (.slice none 0 0), .v (.int .i64 0), .v (.slice none 0 0), .v (.slice none 0 0), .v (.slice none 0 0), .v (.string ⟨#[]⟩), .v (.string ⟨#[]⟩), .v (.slice none 0 0), .v (.slice none 0 0), .v (.slice none 0 0), .v (.string ⟨#[]⟩), .v (.string ⟨#[]⟩), .v (.int .i64 0), .v (.int .i64 0), .v (.slice none 0 0), .v (.slice none 0 0), .v (.int .i64 0), .v (.slice none 0 0), .v (.int .i64 0), .v (.slice none 0 0), .v (.slice none 0 0), .v (.slice none 0 0), .v (.string ⟨#[]⟩), .v (.slice none 0 0)])] ?_))))
 refine xc 70 [.string s, .func (.func 71) #[] #[]] 5 (fun _:Unit=>.tuple #[.agg #[.int .i64 0, .string ⟨#[]⟩, .string ⟨#[]⟩, .int .i64 0, .int .i64 0, .slice none 0 0, .slice none 0 0, .int .i64 0, .slice none 0 0, .slice none 0 0, .slice none 0 0, .string ⟨#[]⟩, .string ⟨#[]⟩, .slice none 0 0, .slice none 0 0, .slice none 0 0, .string ⟨#[]⟩, .string ⟨#[]⟩, .int .i64 0, .int .i64 0, .slice none 0 0, .slice none 0 0, .int .i64 0, .slice none 0 0, .int .i64 0, .slice none 0 0, .slice none 0 0, .slice none 0 0, .string ⟨#[]⟩, .slice none 0 0], .int .i64 6]) _ (fun w R Q=>(Zg2 s _ hs hi).mono (fun _ _ h=>ZaD h rfl)) (fun xx=>?_)
 refine xr 4 [(2, .p 2 0),(3, .v (.int .i64 6))] [(2,80,[.v (.int .i64 0), .v (.string ⟨#[]⟩), .v (.string ⟨#[]⟩), .v (.int .i64 0), .v (.int .i64 0), .v (.slice none 0 0), .v (.slice none 0 0), .v (.int .i64 0), .v (.slice none 0 0), .v (.slice none 0 0), .v (.slice none 0 0), .v (.string ⟨#[]⟩), .v (.string ⟨#[]⟩), .v (.slice none 0 0), .v (.slice none 0 0), .v (.slice none 0 0), .v (.string ⟨#[]⟩), .v (.string ⟨#[]⟩), .v (.int .i64 0), .v (.int .i64 0), .v (.slice none 0 0), .v (.slice none 0 0), .v (.int .i64 0), .v (.slice none 0 0), .v (.int .i64 0), .v (.slice none 0 0), .v (.slice none 0 0), .v (.slice none 0 0), .v (.string ⟨#[]⟩), .v (.slice none 0 0)])] ?_
 refine xe (Zab (Zau ?_))
 refine Zao (v:=.tuple #[.agg #[.int .i64 0, .string ⟨#[]⟩, .string ⟨#[]⟩, .int .i64 0, .int .i64 0, .slice none 0 0, .slice none 0 0, .int .i64 0, .slice none 0 0, .slice none 0 0, .slice none 0 0, .string ⟨#[]⟩, .string ⟨#[]⟩, .slice none 0 0, .slice none 0 0, .slice none 0 0, .string ⟨#[]⟩, .string ⟨#[]⟩, .int .i64 0, .int .i64 0, .slice none 0 0, .slice none 0 0, .int .i64 0, .slice none 0 0, .int .i64 0, .slice none 0 0, .slice none 0 0, .slice none 0 0, .string ⟨#[]⟩, .slice none 0 0], .int .i64 6]) (by kernel_rfl) (fun w' R Q=>?_)
 exact ⟨rfl,R⟩
theorem Zf9 (s:ByteArray) (w:World) (hs:1048576 < s.size) :
 Calls Tryz.prog 25 #[.string s] w (RetV w (.tuple #[.agg #[.int .i64 0, .string ⟨#[]⟩, .string ⟨#[]⟩, .int .i64 0, .int .i64 0, .slice none 0 0, .slice none 0 0, .int .i64 0, .slice none 0 0, .slice none 0 0, .slice none 0 0, .string ⟨#[]⟩, .string ⟨#[]⟩, .slice none 0 0, .slice none 0 0, .slice none 0 0, .string ⟨#[]⟩, .string ⟨#[]⟩, .int .i64 0, .int .i64 0, .slice none 0 0, .slice none 0 0, .int .i64 0, .slice none 0 0, .int .i64 0, .slice none 0 0, .slice none 0 0, .slice none 0 0, .string ⟨#[]⟩, .slice none 0 0], .int .i64 2])):=by
 refine ZaR (Φ:=fun w=>True) Tryz.func25 rfl (by kernel_rfl) (fun w' hf=>trivial) ?_
 refine Zac (Zaa (xr 2 [(0, .v (.string s)),(2, .p 2 0),(3, .v (.int .i64 0))] [(2,80,[.v (.int .i64 0), .v (.string ⟨#[]⟩), .v (.string ⟨#[]⟩), .v (.int .i64 0), .v (.int .i64 0), .v (.slice none 0 0), .v (.slice none 0 0), .v (.int .i64 0), .v (.slice none 0 0), .v (.slice none 0 0), .v (.slice none 0 0), .v (.string ⟨#[]⟩), .v (.string ⟨#[]⟩), .v (.slice none 0 0), .v (.slice none 0 0), .v (.slice none 0 0), .v (.string ⟨#[]⟩), .v (.string ⟨#[]⟩), .v (.int .i64 0), .v (.int .i64 0), .v (.slice none 0 0), .v (.slice none 0 0), .v (.int .i64 0), .v (.slice none 0 0), .v (.int .i64 0), .v (.slice none 0 0), .v (.slice none 0 0), .v (.slice none 0 0), .v (.string ⟨#[]⟩), .v (.slice none 0 0)])] ?_))
 refine xe (Zab (Zac (Zaa (xr 1 [(2, .p 2 0),(3, .v (.int .i64 0)),(4, .v (.string s))] [(2,80,[.v (.int .i64 0), .v (.string ⟨#[]⟩), .v (.string ⟨#[]⟩), .v (.int .i64 0), .v (.int .i64 0), .v (.slice none 0 0), .v (.slice none 0 0), .v (.int .i64 0), .v (.slice none 0 0), .v (.slice none 0 0), .v (.slice none 0 0), .v (.string ⟨#[]⟩), .v (.string ⟨#[]⟩), .v (.slice none 0 0), .v (.slice none 0 0), .v (.slice none 0 0), .v (.string ⟨#[]⟩), .v (.string ⟨#[]⟩), .v (.int .i64 0), .v (.int .i64 0), .v (.slice none 0 0), .v (.slice none 0 0), .v (.int .i64 0), .v (.slice none 0 0), .v (.int .i64 0), .v (.slice none 0 0), .v (.slice none 0 0), .v (.slice none 0 0), .v (.string ⟨#[]⟩), .v (.slice none 0 0)])] ?_))))
 refine xc 70 [.string s, .func (.func 71) #[] #[]] 5 (fun _:Unit=>.tuple #[.agg #[.int .i64 0, .string ⟨#[]⟩, .string ⟨#[]⟩, .int .i64 0, .int .i64 0, .slice none 0 0, .slice none 0 0, .int .i64 0, .slice none 0 0, .slice none 0 0, .slice none 0 0, .string ⟨#[]⟩, .string ⟨#[]⟩, .slice none 0 0, .slice none 0 0, .slice none 0 0, .string ⟨#[]⟩, .string ⟨#[]⟩, .int .i64 0, .int .i64 0, .slice none 0 0, .slice none 0 0, .int .i64 0, .slice none 0 0, .int .i64 0, .slice none 0 0, .slice none 0 0, .slice none 0 0, .string ⟨#[]⟩, .slice none 0 0], .int .i64 2]) _ (fun w R Q=>(Zf8 s _ hs).mono (fun _ _ h=>ZaD h rfl)) (fun xx=>?_)
 refine xr 4 [(2, .p 2 0),(3, .v (.int .i64 2))] [(2,80,[.v (.int .i64 0), .v (.string ⟨#[]⟩), .v (.string ⟨#[]⟩), .v (.int .i64 0), .v (.int .i64 0), .v (.slice none 0 0), .v (.slice none 0 0), .v (.int .i64 0), .v (.slice none 0 0), .v (.slice none 0 0), .v (.slice none 0 0), .v (.string ⟨#[]⟩), .v (.string ⟨#[]⟩), .v (.slice none 0 0), .v (.slice none 0 0), .v (.slice none 0 0), .v (.string ⟨#[]⟩), .v (.string ⟨#[]⟩), .v (.int .i64 0), .v (.int .i64 0), .v (.slice none 0 0), .v (.slice none 0 0), .v (.int .i64 0), .v (.slice none 0 0), .v (.int .i64 0), .v (.slice none 0 0), .v (.slice none 0 0), .v (.slice none 0 0), .v (.string ⟨#[]⟩), .v (.slice none 0 0)])] ?_
 refine xe (Zab (Zau ?_))
 refine Zao (v:=.tuple #[.agg #[.int .i64 0, .string ⟨#[]⟩, .string ⟨#[]⟩, .int .i64 0, .int .i64 0, .slice none 0 0, .slice none 0 0, .int .i64 0, .slice none 0 0, .slice none 0 0, .slice none 0 0, .string ⟨#[]⟩, .string ⟨#[]⟩, .slice none 0 0, .slice none 0 0, .slice none 0 0, .string ⟨#[]⟩, .string ⟨#[]⟩, .int .i64 0, .int .i64 0, .slice none 0 0, .slice none 0 0, .int .i64 0, .slice none 0 0, .int .i64 0, .slice none 0 0, .slice none 0 0, .slice none 0 0, .string ⟨#[]⟩, .slice none 0 0], .int .i64 2]) (by kernel_rfl) (fun w' R Q=>?_)
 exact ⟨rfl,R⟩
end Go.Proofs.YtcpjeaaapocoeaaGreatDoor
