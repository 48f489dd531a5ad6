/-
 My texts Gen, Small, Rat2, SxK, Sx8, Sx9, Sx12, Sx13, Pw, Fna, Nr, Ng, FlM, Fnb, Fnc put together.
-/
import Derived.Test.YtklpdkpcocnglaaGreatDoorX11
import Derived.Test.YtklpdkpcocnglaaGreatDoorX13
import Derived.Test.YtklpdkpcocnglaaGreatDoorX14
import Derived.Outline
import Derived.Test.YtklpdkpcocnglaaGreatDoorX12
import Derived.Test.YtklpdkpcocnglaaGreatDoorX01
import Derived.Deep.LoopGhost
import Derived.Test.YtklpdkpcocnglaaGreatDoorX06
import Derived.Test.YtklpdkpcocnglaaGreatDoorX03
import Derived.Test.YtklpdkpcocnglaaGreatDoorX07
import Derived.Test.YtklpdkpcocnglaaGreatDoorX08
set_option maxRecDepth 100000
namespace Go.Proofs.YtklpdkpcocnglaaGreatDoor
open Go.RowKit
theorem ZaA:Tryz.prog.follows .mixedOrders=true:=by kernel_rfl
theorem Zce.shp {w:World} {v:Value} {z:Int} (h:Zce w v z):∃ (s:Bool) (A:Option Addr) (l c:Nat),v=.agg #[.bool s, .slice A l c]:=h.shape
section
variable {ops:Array Oper} {S:World→Prop} {o:Oper} {a:Act} {p:Operand} {g off:Nat} {x y z u v:Value}
theorem ym (hw:Region.wanted o (yielded ops a.tmps)=true) (ho:o.op=Op.move p) (hp:a.eval p=v):YieldsIf Tryz.prog ops S o v a :=
 Or.inl ⟨hw,fun w _=>by simp only [execOp,ho,hp]; simp [go_sem]⟩
end
end Go.Proofs.YtklpdkpcocnglaaGreatDoor

namespace Go.Proofs.YtklpdkpcocnglaaGreatDoor
open Go.RowKit
end Go.Proofs.YtklpdkpcocnglaaGreatDoor

namespace Go.Proofs.YtklpdkpcocnglaaGreatDoor
open Go.RowKit
end Go.Proofs.YtklpdkpcocnglaaGreatDoor

namespace Go.Proofs.YtklpdkpcocnglaaGreatDoor
open Go.RowKit
section
variable {S:Nat→Prop} {w w' w0:World} {k:IntKind} {A:Option Addr} {xs:List Nat}
theorem Zad.nrb (hk:k≠.i64) (h:Zad k w A xs) (hS:∀ i,S i→NRB w i) (hF:Fr S w w'):Zad k w' A xs:=by
 cases xs with
 | nil=>exact Zad.nil
 | cons x xs =>
   refine h.fr hF (fun ad hA hlt hs=>?_)
   obtain ⟨g,off,e',_,hcl⟩:=h.at (i:=0) (by simp)
   rw [e'] at hA
   injection hA with hA
   subst hA
   obtain ⟨t,cs,hB,hc⟩:=hS _ hs
   rw [hB.cell] at hcl
   exact hk (hc _ _ _ hcl)
theorem Zae.nrb {u:Value} {n:Nat} (h:Zae w u n) (hS:∀ i,S i→NRB w i) (hF:Fr S w w'):Zae w' u n:=by
 obtain ⟨A',xs,c',h1,h2,h3,h4⟩:=h
 exact ⟨A',xs,c',h1,h2,h3.nrb (by decide) hS hF,h4⟩
theorem Zce.nrb {v:Value} {z:Int} (h:Zce w v z) (hS:∀ i,S i→NRB w i) (hF:Fr S w w'):Zce w' v z:=by
 obtain ⟨s',u,n,h1,h2,h3⟩:=h
 exact ⟨s',u,n,h1,h2.nrb hS hF,h3⟩
theorem NRB.ext {i:Nat} (h:NRB w i) (he:Ext w w'):NRB w' i:=by
 obtain ⟨t,cs,hB,hc⟩:=h
 exact ⟨t,cs,hB.ext he,hc⟩
theorem boxn {φ:World→Prop} (he:Ext w w') (h:∀ S w'',(∀ i,S i→NRB w' i)→Fr S w' w''→φ w''):BoxN w w' φ:=fun S hS w'' hf=>h S w'' (fun i hi=>(hS i hi).2.ext he) hf
end
abbrev ShI:=Bool × Option Addr × Nat × Nat
abbrev ShN:=Option Addr × Nat × Nat
def Zht (x:ShI):Value:=.agg #[.bool x.1, .slice x.2.1 x.2.2.1 x.2.2.2]
def ZaJ (x:ShN):Value:=.slice x.1 x.2.1 x.2.2
section
variable {w w':World} {e:Ending}
theorem ZgV {z:Int} (h:Zho w z e w'):Zci Zht (fun x w=>Zce w (Zht x) z) w e w':=by
 obtain ⟨v,rfl,hI,Q⟩:=h
 obtain ⟨s,A,l,c,rfl⟩:=hI.shp
 exact ⟨(s,A,l,c),rfl,Q,boxn Q (fun S w'' hS hF=>hI.nrb hS hF)⟩
theorem Zak {v u:Value} (h:e=.returned v∧Ext w w') (hv:v=u):Zci (fun _:Unit=>u) (fun _ _=>True) w e w':=by
 obtain ⟨rfl,Q⟩:=h
 subst hv
 exact ⟨(),rfl,Q,BoxN.pure trivial⟩
end
end Go.Proofs.YtklpdkpcocnglaaGreatDoor

namespace Go.Proofs.YtklpdkpcocnglaaGreatDoor
open Go.RowKit
section
variable {N:Nat} {S0:Nat→Prop} {w0:World} {s s':St} {Φ Ψ Φ0:World→Prop} {L:Nat→Nat} {a:Act} {w:World} {P:Program} {ops:Array Oper} {Q:Exit→Act→World→Prop} {o:Oper}
theorem ZaB.of {sl:SlL} {bl:BlL} (h:(sl.map (fun q=>s.sl q.1),bl.map (fun q=>s.bl q.1))=(sl.map (fun q=>some q.2),bl.map (fun q=>some q.2))):ZaB s sl bl:=h
def Znr (N:Nat) (S0:Nat→Prop) (w0:World) (J:Nat→St→(World→Prop)→Prop) (n:Nat) (a:Act) (w:World):Prop:=∃ n' s' Φ' L',n' < n∧J n' s' Φ'∧Inv N S0 w0 s' Φ' L' a w
theorem Zbv {c:Code} (J:Nat→St→(World→Prop)→Prop) (n0:Nat) (h0:J n0 s Φ)
 (round:∀ n s Φ,J n s Φ→SXc P N S0 w0 (Exit.then (Znr N S0 w0 J n) Q) c s Φ):SXc P N S0 w0 Q (.loop c) s Φ:=fun L a w hi=>by
 refine wp_loop_ghost (fun n a w=>∃ s Φ L,J n s Φ∧Inv N S0 w0 s Φ L a w) n0 ⟨s,Φ,L,h0,hi⟩ ?_
 rintro n a w ⟨s,Φ,L,hJ,hi⟩
 refine wp_mono (round n s Φ hJ L a w hi) ?_
 intro e a' w' hq
 cases e with
 | normal =>
   obtain ⟨n',s',Φ',L',h1,h2,h3⟩:=hq
   exact ⟨n',h1,s',Φ',L',h2,h3⟩
 | exit id=>exact hq
 | goto l=>exact hq
 | ret=>exact hq
 | panic ch=>exact hq
 | outgrown=>exact hq
theorem Za3 {J:Nat→St→(World→Prop)→Prop} {n:Nat} (n':Nat) (hlt:n' < n) (h:J n' s Φ):SXq N S0 w0 (Exit.then (Znr N S0 w0 J n) Q .normal) s Φ:=fun _ _ _ hi=>⟨n',s,Φ,_,hlt,h,hi⟩
theorem Zjd {x y:Code} (J:St→(World→Prop)→Prop) (h1:SXc P N S0 w0 (Exit.then (fun a w=>∃ s' Φ' L',J s' Φ'∧Inv N S0 w0 s' Φ' L' a w) Q) x s Φ) (h2:∀ s Φ,J s Φ→SXc P N S0 w0 Q y s Φ):SXc P N S0 w0 Q (.seq x y) s Φ:=fun L a w hi=>by
 refine wp_seq (wp_mono (h1 L a w hi) ?_)
 intro e a' w' hq
 cases e with
 | normal =>
   obtain ⟨s',Φ',L',h2',h3⟩:=hq
   exact h2 s' Φ' h2' L' a' w' h3
 | exit id=>exact hq
 | goto l=>exact hq
 | ret=>exact hq
 | panic ch=>exact hq
 | outgrown=>exact hq
theorem ZcZ {J:St→(World→Prop)→Prop} (h:J s Φ):SXq N S0 w0 (Exit.then (fun a w=>∃ s' Φ' L',J s' Φ'∧Inv N S0 w0 s' Φ' L' a w) Q .normal) s Φ:=fun _ _ _ hi=>⟨s,Φ,_,h,hi⟩
end
end Go.Proofs.YtklpdkpcocnglaaGreatDoor

namespace Go.Proofs.YtklpdkpcocnglaaGreatDoor
open Go.RowKit
theorem ZkS {P:Program} {ρ:Operand→Value} {w:World} {t e:TypeId} {n sz:Nat} {z:Value} {parts:Array (Nat × Operand)} {cells:Array Value} (ht:P.underlying t=some (.slice e))
 (hinfo:(P.info? e).map (fun i=>(i.zero,i.size))=some (some z,sz)) (hn:Nat.ble (n * sz) 1000=true) (hn0:Nat.beq (n * sz) 0=false)
 (hf:Instr.fill (fun i=>some (i * sz,sz)) ((List.range (n * sz)).map (fun i=>z.cells[i % z.cells.size]!)).toArray (parts.toList.map fun q=>(q.1,ρ q.2))=some cells) :
 (Instr.buildSlice t n (parts.map fun q:Nat × Operand=>(q.1,ρ q.2))).run P w=.ok (.slice (some ⟨w.heap.size,0,none⟩) n n) (w.alloc (.cells cells e)):=by
 obtain ⟨i,hi,h1⟩:=Option.map_eq_some_iff.1 hinfo
 injection h1 with h1 h2
 have hn':=Nat.le_of_ble_eq_true hn
 have hn1:¬ n * sz=0:=fun h=>by rw [h] at hn0; cases hn0
 have hn2:¬ 2 ^ 24 < n * sz:=by omega
 have e1:(Array.range (n * sz)).map (fun i=>z.cells[i % z.cells.size]!)=((List.range (n * sz)).map (fun i=>z.cells[i % z.cells.size]!)).toArray:=by
  apply Array.ext'; simp
 have e2:(parts.map fun q:Nat × Operand=>(q.1,ρ q.2)).toList=parts.toList.map fun q=>(q.1,ρ q.2):=by simp
 unfold Instr.buildSlice
 simp [underlying,ht,sizeOf,typeInfo,hi,h2,zeroValue,h1,hn1,hn2,e1,hf,newRow,newObj,Result.andThen]
 rfl
theorem Zb0 {P:Program} {o:Oper} {ρ:Operand→Value} {w:World} {t e:TypeId} {n sz:Nat} {z:Value} {parts:Array (Nat × Operand)} {cells:Array Value} (ho:o.op=Op.buildSlice t n parts) (ht:P.underlying t=some (.slice e))
 (hinfo:(P.info? e).map (fun i=>(i.zero,i.size))=some (some z,sz)) (hn:Nat.ble (n * sz) 1000=true) (hn0:Nat.beq (n * sz) 0=false)
 (hf:Instr.fill (fun i=>some (i * sz,sz)) ((List.range (n * sz)).map (fun i=>z.cells[i % z.cells.size]!)).toArray (parts.toList.map fun q=>(q.1,ρ q.2))=some cells) :
 Does P o ρ w (DoR (fun b:Nat=>.slice (some ⟨b,0,none⟩) n n) (fun b w=>Blk e w b cells) w):=by
 have hrun:=ZkS (w:=w) ht hinfo hn hn0 hf
 exact Or.inl ⟨_,_,by simp [execOp,ho,hrun,Result.andThen],w.heap.size,rfl,(Fr.refl _ w).alloc _,fun S hS w'' hF=>(Blk.new w e cells).fr hF (fun h=>by have:=(hS _ h).1; omega)⟩
theorem ZfZ {P:Program} {o:Oper} {ρ:Operand→Value} {w:World} {t:TypeId} {x:Operand} {lo hi:Option Operand} {b r:ByteArray} (l h:Nat) (ho:o.op=Op.slice t x lo hi none) (ht:P.underlying t=some .string) (hx:ρ x=.string b)
 (hl:lo.map ρ=none∧l=0∨lo.map ρ=some (.int .i64 l)) (hh:hi.map ρ=none∧h=b.size∨hi.map ρ=some (.int .i64 h)) (h1:l≤h) (h2:h≤b.size) (hr:b.extract l h=r):(execOp ρ o).run P w=.ok (.value (.string r)) w:=by
 subst hr
 rcases hl with ⟨hl,rfl⟩ | hl<;>rcases hh with ⟨hh,rfl⟩ | hh <;>
  simp [execOp,ho,Instr.sliceAt,Instr.slice,Instr.sliceBounds,Instr.sliceBound,asIntOf,underlying,ht,hx,hl,hh,h1,h2,Result.andThen]
theorem ZkT {P:Program} {o:Oper} {ρ:Operand→Value} {w:World} {t k:TypeId} {x y:Operand} {a b r:ByteArray} (ho:o.op=Op.binOp .add t x y k) (hx:ρ x=.string a) (hy:ρ y=.string b) (hs:a.size + b.size≤1099511627776) (hr:a ++ b=r):(execOp ρ o).run P w=.ok (.value (.string r)) w:=by
 have h:¬ ((a.size + b.size:Nat):Int) > IntKind.i64.max:=by
  have:IntKind.i64.max=9223372036854775807:=by decide
  rw [this]; omega
 simp only [execOp,ho,hx,hy,eqGuard,binOp,Op.stringOp,if_neg h,hr]
 rfl
end Go.Proofs.YtklpdkpcocnglaaGreatDoor

namespace Go.Proofs.YtklpdkpcocnglaaGreatDoor
open Go.RowKit
open Classical in
theorem Fr.split {A B:Nat→Prop} {w w2:World} (h:Fr (fun i=>A i∨B i) w w2):∃ w1,Fr A w w1∧Fr B w1 w2:=by
 have hg:∀ i,i < w2.heap.size→(w2.heap.mapIdx fun i o=>if A i∨w.heap.size≤i then o else (w.heap[i]?).getD o)[i]? = if A i∨w.heap.size≤i then w2.heap[i]? else w.heap[i]? := by
  intro i hi
  rw [Array.getElem?_mapIdx,Array.getElem?_eq_getElem hi]
  by_cases hc:A i∨w.heap.size≤i
  ·simp [hc]
  ·have hlt:i < w.heap.size:=by
    rcases Nat.lt_or_ge i w.heap.size with h' | h'
    ·exact h'
    ·exact absurd (Or.inr h') hc
   simp only [hc,Option.map_some,if_false,Array.getElem?_eq_getElem hlt,Option.getD_some]
 refine ⟨{ w2 with heap:=w2.heap.mapIdx fun i o=>if A i∨w.heap.size≤i then o else (w.heap[i]?).getD o },⟨h.os,h.tape,h.output,?_,fun i hi ha=>?_⟩,⟨rfl,rfl,rfl,?_,fun i hi hb=>?_⟩⟩
 ·simpa using h.size
 ·have h2:=hg i (Nat.lt_of_lt_of_le hi h.size)
  rw [if_neg (fun hc=>hc.elim ha (fun h'=>by omega))] at h2
  exact h2
 ·simp
 ·have hi2:i < w2.heap.size:=by simpa using hi
  have h2:=hg i hi2
  by_cases hc:A i∨w.heap.size≤i
  ·rw [if_pos hc] at h2; exact h2.symm
  ·rw [if_neg hc] at h2
   have hlt:i < w.heap.size:=by
    rcases Nat.lt_or_ge i w.heap.size with h' | h'
    ·exact h'
    ·exact absurd (Or.inr h') hc
   exact (h.block i hlt (fun h'=>h'.elim (fun ha=>hc (Or.inl ha)) hb)).trans h2.symm
theorem bl2 (b:Bool):b=true∨b=false:=by cases b<;>simp
theorem Own.same {k:IntKind} {t:TypeId} {w w':World} {b:Nat} {xs:List Nat} (h:Own k t w b xs) (e:w'.heap[b]? = w.heap[b]?):Own k t w' b xs:=by
 obtain ⟨tail,h1,h2⟩:=h
 exact ⟨tail,h1,e.trans h2⟩
section
variable {N:Nat} {S0:Nat→Prop} {w0:World} {s:St} {Φ Ψ:World→Prop} {L:Nat→Nat} {a:Act} {w:World} {P:Program} {ops:Array Oper} {Q:Exit→Act→World→Prop}
theorem Inv.notOwn (h:Inv N S0 w0 s Φ L a w) {r j:Nat} {c:Value} (hc:∀ w,Φ w→w.cell? ⟨r,j,none⟩=some c):¬ s.own L r:=fun ho=>by
 have h1:=hc w h.box.self
 have key:∀ u:Value,u≠c→False:=fun u hu=>by
  have h2:=hc (w.setCell ⟨r,j,none⟩ u) (h.box _ ((Fr.refl _ _).setCell (p:=⟨r,j,none⟩) (Or.inl ho) u))
  rw [World.cell?_setCell_same _ _ _ h1] at h2
  injection h2 with h2
  exact hu h2
 by_cases e:c=.bool true
 ·exact key (.bool false) (by rw [e]; intro h; cases h)
 ·exact key (.bool true) (fun h=>e h.symm)
theorem Inv.eff (h:Inv N S0 w0 s Φ L a w) {w':World} {r:Nat} (hF:Fr (fun i=>i=r) w w') (hr:¬ s.own L r) (hnew:w0.heap.size≤r∨S0 r) (hlt:r < w.heap.size)
 (hΨ:∀ w1 w2,Φ w1→Fr (fun i=>i=r) w1 w2→w2.heap[r]? = w'.heap[r]? → Ψ w2):Inv N S0 w0 s Ψ L a w':=by
 refine ⟨h.size,h.df,h.sl,⟨fun b t cs e=>(h.mem.blk b t cs e).fr hF (fun e'=>hr ⟨b,by rw [e]; rfl,e'⟩),h.mem.inj,h.mem.old,h.mem.ext.next hF (fun i hi e=>?_),h.mem.slp,h.mem.cel⟩,fun w2 hf=>?_⟩
 ·rcases hnew with h' | h'
  ·omega
  ·rw [e]; exact h'
 ·have h2:Fr (fun i=>s.own L i∨i=r) w w2:=(hF.mono (fun i _ e=>Or.inr e)).trans (hf.mono (fun i _ e=>Or.inl e))
  obtain ⟨w1,k1,k2⟩:=h2.split
  exact hΨ w1 w2 (h.box w1 k1) k2 (hf.block r (Nat.lt_of_lt_of_le hlt hF.size) hr)
theorem ZkU {α:Type} (l:List α) (j:Nat) (c:α) (h:j < l.length):ZbL l j [c]=l.set j c:=by
 unfold ZbL
 rw [List.set_eq_take_append_cons_drop,if_pos h]
 simp
theorem Zje {t e:TypeId} {k:IntKind} {b j:Nat} {xs:List Nat} (hs:(teOf P t).map (fun e=>e.size)=some 1) (hO:Own k e w b xs) (hj:j < xs.length) (v:Nat) :
 ∃ w',(Instr.storeAt t (.pointer (some ⟨b,j,none⟩)) (.int k (v:Int))).run P w=.ok () w'∧Own k e w' b (xs.set j v)∧Fr (fun i=>i=b) w w':=by
 obtain ⟨te,hte,h1⟩:=Option.map_eq_some_iff.1 hs
 obtain ⟨tail,ht,hO⟩:=hO
 obtain ⟨w',hr,hB,hF⟩:=ZgE (P:=P) hte (g:=b) (bt:=e) (off:=j) (cur:=(xs.map fun x:Nat=>Value.int k (x:Int)) ++ tail) (v:=.int k (v:Int)) hO (by rw [h1]; rfl) (by simp [Value.cells]; omega) (fun c hc=>by simp [Value.cells] at hc; rw [hc]; rfl)
 refine ⟨w',hr,⟨tail,ht,?_⟩,hF⟩
 have e2:ZbL ((xs.map fun x:Nat=>Value.int k (x:Int)) ++ tail) j (Value.cells (.int k (v:Int))).toList=((xs.set j v).map fun x:Nat=>Value.int k (x:Int)) ++ tail:=by
  rw [show (Value.cells (.int k (v:Int))).toList=[.int k (v:Int)] from rfl,ZkU _ _ _ (by simp; omega),List.set_append_left _ _ (by simpa using hj),List.map_set]
 rw [e2] at hB
 exact hB
theorem ZbO {i:Nat} {t e:TypeId} {k:IntKind} {x y:Operand} {xs:List Nat} (b j v:Nat) (Ψ:World→Prop) (hO:∀ w,Φ w→Own k e w b xs) (hj:j < xs.length) (hnew:w0.heap.size≤b∨S0 b)
 (hΨ:∀ w w',Φ w→Fr (fun i=>i=b) w w'→Own k e w' b (xs.set j v)→Ψ w') (K:SXi P N S0 w0 ops Q (i + 1) s Ψ)
 (hsz:Nat.blt i ops.size=true:=by kernel_rfl) (hw:s.wantB ops (opAt ops i)=some true:=by kernel_rfl) (ho:(opAt ops i).op=.store t x y:=by kernel_rfl) (hd:(opAt ops i).dst=none:=by kernel_rfl) (hs:(teOf P t).map (fun e=>e.size)=some 1:=by kernel_rfl)
 (hx:s.eval x=some (.v (.pointer (some ⟨b,j,none⟩))):=by kernel_rfl) (hy:s.eval y=some (.v (.int k (v:Int))):=by kernel_rfl):SXi P N S0 w0 ops Q i s Φ:=by
 unfold SXi
 rw [Zdk hsz]
 intro L a w hi
 refine wpList_step (fun K' hK=>?_)
 rw [if_pos (hi.want hw)]
 have hO1:=hO w hi.box.self
 obtain ⟨w',hr,hO2,hF⟩:=Zje (P:=P) hs hO1 hj v
 unfold Oper.wp
 have ex:=hi.eval hx
 have ey:=hi.eval hy
 have hrun:(execOp a.eval (opAt ops i)).run P w=.ok .skip w':=by simp only [execOp,ho,Sem.run_bind,ex,ey,AV.conc,hr,Result.andThen_ok,Sem.run_pure]
 rw [hrun,Oper.upon_skip,hd]
 refine hK _ _ (K L _ _ (hi.eff hF (hi.notOwn (fun w R=>(hO w R).cell hj)) hnew hO1.lt (fun w1 w2 h1 h2 h3=>hΨ w1 w2 h1 h2 (hO2.same h3))))
theorem Zfl {i d:Nat} {e:TypeId} {k:IntKind} {xs:List Nat} {α:Type} (f:FuncId) (args:List Value) (sh:α→Value) (p:α→Prop) (zs:α→List Nat) (b:Nat) (Ψ:α→World→Prop) (hO:∀ w,Φ w→Own k e w b xs) (hj:0 < xs.length) (hnew:w0.heap.size≤b∨S0 b)
 (hC:∀ w,Fr S0 w0 w→Φ w→Calls P f args.toArray w (fun en w'=>∃ x,en=.returned (sh x)∧p x∧Fr (fun i=>i=b) w w'∧Own k e w' b (zs x)))
 (hΨ:∀ x w w',p x→Φ w→Fr (fun i=>i=b) w w'→Own k e w' b (zs x)→Ψ x w') (K:∀ x,p x→SXi P N S0 w0 ops Q (i + 1) (s.put d (.v (sh x))) (Ψ x))
 (hsz:Nat.blt i ops.size=true:=by kernel_rfl) (h:ZcA P N ops (opAt ops i) s=some (f,args,d):=by kernel_rfl):SXi P N S0 w0 ops Q i s Φ:=by
 obtain ⟨hw,hq,hd,hn,hv,hk,hN⟩:=Zdw h
 unfold SXi
 rw [Zdk hsz]
 intro L a w hi
 refine wpList_step (fun K' hK=>?_)
 rw [if_pos (hi.want hw)]
 unfold Oper.wp
 rw [hi.exec hn hv,ZfP hq hk,Oper.upon_enter]
 refine Calls.mono (hC w hi.mem.ext hi.box.self) fun en w' h'=>?_
 obtain ⟨x,rfl,hp,hF,hO2⟩:=h'
 simp only [hd]
 have h0:=hi.app0 (d:=d) hN (al_v (s:=s) (sh x))
 exact hK _ _ (K x hp L _ _ (h0.eff hF (hi.notOwn (fun w R=>(hO w R).cell hj)) hnew (hO w hi.box.self).lt (fun w1 w2 h1 h2 h3=>hΨ x w1 w2 hp h1 h2 (hO2.same h3))))
theorem Zfm {i d:Nat} {t e:TypeId} {k kl kc:IntKind} {l c:Operand} (n bytes:Nat) (hn:n≤35184372088832) (hby:bytes≤8)
 (K:∀ b,w0.heap.size≤b→(∀ r,(∀ w,Φ w→r < w.heap.size)→r < b)→SXi P N S0 w0 ops Q (i + 1) (s.put d (.v (.slice (some ⟨b,0,none⟩) n n))) (fun w=>Box (fun j=>b≤j) w Φ∧Own k e w b (List.replicate n 0)))
 (hsz:Nat.blt i ops.size=true:=by kernel_rfl) (hw:s.wantB ops (opAt ops i)=some true:=by kernel_rfl) (hv:(opAt ops i).op.operands.toList.all s.vB=true:=by kernel_rfl) (ho:(opAt ops i).op=Op.makeSlice t l c:=by kernel_rfl) (hd:(opAt ops i).dst=some d:=by kernel_rfl) (hN:Nat.blt d N=true:=by kernel_rfl)
 (ht:P.underlying t=some (.slice e):=by kernel_rfl) (hinfo:(P.info? e).map (fun i=>(i.zero,i.size,i.bytes))=some (some (.int k 0),1,bytes):=by kernel_rfl) (hl:s.rho l=.int kl n:=by kernel_rfl) (hc:s.rho c=.int kc n:=by kernel_rfl):SXi P N S0 w0 ops Q i s Φ:=by
 unfold SXi
 rw [Zdk hsz]
 intro L a w hi
 refine wpList_step (fun K' hK=>?_)
 rw [if_pos (hi.want hw)]
 unfold Oper.wp
 have hns:ZbQ (opAt ops i).op=true:=by rw [ho]; rfl
 have hbn:bytes * n≤8 * n:=Nat.mul_le_mul_right n hby
 rw [hi.exec hns hv]
 have hrun:=run_make_row' (P:=P) t e (.int k 0) bytes ht hinfo rfl kl kc n (by omega) (by omega) w
 rw [ZeT] at hrun
 have hrun2:(execOp s.rho (opAt ops i)).run P w=.ok (.value (.slice (some ⟨w.heap.size,0,none⟩) n n)) (w.alloc (.cells (Za1 k (List.replicate n 0) []) e)):=by simp [execOp,ho,hl,hc,hrun,Result.andThen]
 rw [hrun2,Oper.upon_value,hd]
 have R:Ext w (w.alloc (.cells (Za1 k (List.replicate n 0) []) e)):=(Fr.refl _ w).alloc _
 have h0:=hi.app0 (d:=d) (Nat.le_of_ble_eq_true hN) (al_v (s:=s) (.slice (some ⟨w.heap.size,0,none⟩) n n))
 have hO:=Own.new w e k (List.replicate n 0) []
 refine hK _ _ (K w.heap.size hi.mem.ext.size (fun r h=>h w hi.box.self) L _ _ ⟨h0.size,h0.df,h0.sl,⟨fun b t cs e=>(h0.mem.blk b t cs e).ext R,h0.mem.inj,h0.mem.old,h0.mem.ext.ext R,h0.mem.slp,h0.mem.cel⟩,fun w2 hf=>⟨fun w3 hf3=>?_,?_⟩⟩)
 ·refine hi.box w3 ⟨hf3.os.trans (hf.os.trans R.os),hf3.tape.trans (hf.tape.trans R.tape),hf3.output.trans (hf.output.trans R.output),Nat.le_trans R.size (Nat.le_trans hf.size hf3.size),fun j hj hno=>?_⟩
  have h1:=R.block j hj (fun f=>f)
  have h2:=hf.block j (Nat.lt_of_lt_of_le hj R.size) hno
  have h3:=hf3.block j (Nat.lt_of_lt_of_le hj (Nat.le_trans R.size hf.size)) (by omega)
  exact h3.trans (h2.trans h1)
 ·refine hO.fr hf (fun ho=>?_)
  obtain ⟨b,hb,eb⟩:=ho
  obtain ⟨q,eq⟩:=Option.isSome_iff_exists.1 hb
  have:=(hi.mem.blk b q.1 q.2 eq).lt
  omega
theorem SXi.know {i:Nat} {p:Prop} (h:∀ w,Fr S0 w0 w→Φ w→p) (K:p→SXi P N S0 w0 ops Q i s Φ):SXi P N S0 w0 ops Q i s Φ:=fun L a w hi=>K (h w hi.mem.ext hi.box.self) L a w hi
theorem ZmR {i d:Nat} {e:TypeId} {k:IntKind} (f:FuncId) (args:List Value) (xs:List Nat) (hC:∀ w,Fr S0 w0 w→Φ w→Calls P f args.toArray w (fun en w'=>∃ b c,en=.returned (.slice (some ⟨b,0,none⟩) xs.length c)∧w.heap.size≤b∧xs.length≤c∧Ext w w'∧Own k e w' b xs))
 (K:∀ b c,w0.heap.size≤b→xs.length≤c→(∀ r,(∀ w,Φ w→r < w.heap.size)→r < b)→SXi P N S0 w0 ops Q (i + 1) (s.put d (.v (.slice (some ⟨b,0,none⟩) xs.length c))) (fun w=>Box (fun j=>b≤j) w Φ∧Own k e w b xs))
 (hsz:Nat.blt i ops.size=true:=by kernel_rfl) (h:ZcA P N ops (opAt ops i) s=some (f,args,d):=by kernel_rfl):SXi P N S0 w0 ops Q i s Φ:=by
 obtain ⟨hw,hq,hd,hn,hv,hk,hN⟩:=Zdw h
 unfold SXi
 rw [Zdk hsz]
 intro L a w hi
 refine wpList_step (fun K' hK=>?_)
 rw [if_pos (hi.want hw)]
 unfold Oper.wp
 rw [hi.exec hn hv,ZfP hq hk,Oper.upon_enter]
 refine Calls.mono (hC w hi.mem.ext hi.box.self) fun en w' h'=>?_
 obtain ⟨b,c,rfl,hb,hc,R,hO⟩:=h'
 simp only [hd]
 have h0:=hi.app0 (d:=d) hN (al_v (s:=s) (.slice (some ⟨b,0,none⟩) xs.length c))
 refine hK _ _ (K b c (Nat.le_trans hi.mem.ext.size hb) hc (fun r h=>Nat.lt_of_lt_of_le (h w hi.box.self) hb) L _ _ ⟨h0.size,h0.df,h0.sl,⟨fun b t cs e=>(h0.mem.blk b t cs e).ext R,h0.mem.inj,h0.mem.old,h0.mem.ext.ext R,h0.mem.slp,h0.mem.cel⟩,fun w2 hf=>⟨fun w3 hf3=>?_,?_⟩⟩)
 ·refine hi.box w3 ⟨hf3.os.trans (hf.os.trans R.os),hf3.tape.trans (hf.tape.trans R.tape),hf3.output.trans (hf.output.trans R.output),Nat.le_trans R.size (Nat.le_trans hf.size hf3.size),fun j hj hno=>?_⟩
  have h1:=R.block j hj (fun f=>f)
  have h2:=hf.block j (Nat.lt_of_lt_of_le hj R.size) hno
  have h3:=hf3.block j (Nat.lt_of_lt_of_le hj (Nat.le_trans R.size hf.size)) (by omega)
  exact h3.trans (h2.trans h1)
 ·refine hO.fr hf (fun ho=>?_)
  obtain ⟨b',hb',eb⟩:=ho
  obtain ⟨q,eq⟩:=Option.isSome_iff_exists.1 hb'
  have:=(hi.mem.blk b' q.1 q.2 eq).lt
  omega
theorem ZnG {i d:Nat} {dT sT e:TypeId} {k:IntKind} {dx sx:Operand} {sp:Option Addr} {n m dc sc:Nat} {mid ys:List Nat} (b:Nat) (Ψ:World→Prop) (hn:mid.length=n) (hm:ys.length=m) (hpos:0 < mid.length) (hO:∀ w,Φ w→Own k e w b mid) (hY:∀ w,Φ w→Zad k w sp ys) (hnew:w0.heap.size≤b∨S0 b)
 (hΨ:∀ w w',Φ w→Fr (fun i=>i=b) w w'→Own k e w' b (ys.take mid.length ++ mid.drop ys.length)→Ψ w') (K:SXi P N S0 w0 ops Q (i + 1) s Ψ)
 (hsz:Nat.blt i ops.size=true:=by kernel_rfl) (hg:(opAt ops i).guard=none:=by kernel_rfl) (ho:(opAt ops i).op=.call { callee:=.builtin .copy,args:=#[dx,sx],argTypes:=#[dT,sT] }:=by kernel_rfl) (hd:(opAt ops i).dst=some d:=by kernel_rfl) (hf:(s.sl d).isNone=true:=by kernel_rfl)
 (hu:P.underlying dT=some (.slice e):=by kernel_rfl) (hs:(P.info? e).map (·.size)=some 1:=by kernel_rfl) (hx:s.eval dx=some (.v (.slice (some ⟨b,0,none⟩) n dc)):=by kernel_rfl) (hy:s.eval sx=some (.v (.slice sp m sc)):=by kernel_rfl):SXi P N S0 w0 ops Q i s Φ:=by
 unfold SXi
 rw [Zdk hsz]
 intro L a w hi
 have ex:=hi.eval hx
 have ey:=hi.eval hy
 have hO1:=hO w hi.box.self
 refine Zd2 hg dx sx dT sT ho e k hu hs (some ⟨b,0,none⟩) sp n m dc sc ex ey b [] mid [] ys hn hm (by simpa using hO1) (hY w hi.box.self) (fun _=>rfl) ?_
 intro w' z hO2 _ hF _
 have hO3:Own k e w' b (ys.take mid.length ++ mid.drop ys.length):=by simpa using hO2
 have h1:=hi.eff hF (hi.notOwn (fun w R=>(hO w R).cell hpos)) hnew hO1.lt (fun w1 w2 h1 h2 h3=>hΨ w1 w2 h1 h2 (hO3.same h3))
 have hsl:s.sl d=none:=by simpa using hf
 refine K L _ _ ⟨by rw [hd]; simp [Act.put,h1.size],by rw [hd]; exact h1.df,fun j x hj=>?_,h1.mem,h1.box⟩
 have hne:d≠j:=fun e=>by rw [e,hj] at hsl; cases hsl
 have:=h1.sl j x hj
 rw [hd]
 simp [Act.put,Array.getElem?_setIfInBounds_ne hne,this]
theorem xj {Φ0:World→Prop} {n i:Nat} (d:Nat) (y:Value) (hx:∀ w,Φ0 w→(execOp s.rho (opAt ops i)).run P w=.ok (.value y) w) (K:StI P N S0 w0 ops Φ0 Q n (i + 1) (s.put d (.v y)) Φ)
 (hi:Nat.blt i n=true:=by kernel_rfl) (hk:ZfR (opAt ops i).op=true:=by kernel_rfl) (hw:s.wantB ops (opAt ops i)=some true:=by kernel_rfl) (hv:(opAt ops i).op.operands.toList.all s.vB=true:=by kernel_rfl) (hd:(opAt ops i).dst=some d:=by kernel_rfl) (hN:Nat.blt d N=true:=by kernel_rfl):StI P N S0 w0 ops Φ0 Q n i s Φ :=
 Zgm d y hi hk hw hv hd hN hx K
end
def atA (A:Option Addr) (i:Nat):Value:=.pointer (A.map (·.add i))
section
variable {P:Program} {o:Oper} {ρ:Operand→Value} {w:World} {t e:TypeId} {x ix:Operand} {k:IntKind} {xs:List Nat}
theorem ZaG {A:Option Addr} {len cap i:Nat} (hA:A≠none) (h:i < len) (ho:o.op=Op.indexAddr t x ix:=by kernel_rfl) (ht:P.underlying t=some (.slice e):=by kernel_rfl) (hs:(P.info? e).map (fun i=>i.size)=some 1:=by kernel_rfl)
 (hx:ρ x=.slice A len cap:=by kernel_rfl) (hi:ρ ix=.int .i64 ((i:Nat):Int):=by kernel_rfl):(execOp ρ o).run P w=.ok (.value (atA A i)) w:=by
 obtain ⟨inf,hinf,h1⟩:=Option.map_eq_some_iff.1 hs
 obtain ⟨a,rfl⟩:∃ a,A=some a:=by cases A; exact absurd rfl hA; exact ⟨_,rfl⟩
 have h2:(0:Int)≤(i:Int)∧(i:Int) < (len:Int):=by omega
 simp [execOp,ho,Instr.indexAt,asIntOf,underlying,ht,hx,hi,h,sizeOf,typeInfo,hinf,h1,Result.andThen,atA]
theorem ZbC {g off len cap i:Nat} (h:i < len) (ho:o.op=Op.indexAddr t x ix:=by kernel_rfl) (ht:P.underlying t=some (.slice e):=by kernel_rfl) (hs:(P.info? e).map (fun i=>i.size)=some 1:=by kernel_rfl)
 (hx:ρ x=.slice (some ⟨g,off,none⟩) len cap:=by kernel_rfl) (hi:ρ ix=.int .i64 ((i:Nat):Int):=by kernel_rfl):(execOp ρ o).run P w=.ok (.value (.pointer (some ⟨g,off + i,none⟩))) w:=by
 rw [ZaG (A:=some ⟨g,off,none⟩) (by simp) h ho ht hs hx hi,atA,Option.map_some,ZdG]
theorem Zbh {g len cap i:Nat} (h:i < len) (ho:o.op=Op.indexAddr t x ix:=by kernel_rfl) (ht:P.underlying t=some (.slice e):=by kernel_rfl) (hs:(P.info? e).map (fun i=>i.size)=some 1:=by kernel_rfl)
 (hx:ρ x=.slice (some ⟨g,0,none⟩) len cap:=by kernel_rfl) (hi:ρ ix=.int .i64 ((i:Nat):Int):=by kernel_rfl):(execOp ρ o).run P w=.ok (.value (.pointer (some ⟨g,i,none⟩))) w:=by
 have:=ZbC (w:=w) h ho ht hs hx hi
 rwa [Nat.zero_add] at this
theorem ZlT {g off:Nat} {c:Value} (hc:w.cell? ⟨g,off,none⟩=some c) (ho:o.op=Op.load t x:=by kernel_rfl) (hx:ρ x=.pointer (some ⟨g,off,none⟩):=by kernel_rfl) (ha:(teOf P t).map (fun e=>e.agg)=some false:=by kernel_rfl) :
 (execOp ρ o).run P w=.ok (.value c) w:=by
 obtain ⟨e,he,h1⟩:=Option.map_eq_some_iff.1 ha
 have:=ZgD (P:=P) (w:=w) he hc h1
 simp only [execOp,ho,hx,Sem.run_bind,this,Result.andThen_ok,Sem.run_pure]
theorem Zb9 {b j:Nat} (hO:Own k e w b xs) (hj:j < xs.length) (ho:o.op=Op.load t x:=by kernel_rfl) (hx:ρ x=.pointer (some ⟨b,j,none⟩):=by kernel_rfl) (ha:(teOf P t).map (fun e=>e.agg)=some false:=by kernel_rfl) :
 (execOp ρ o).run P w=.ok (.value (.int k ((xs[j]?.getD 0:Nat):Int))) w:=ZlT (hO.cell hj) ho hx ha
theorem ZaV {A:Option Addr} {j:Nat} (hS:Zad k w A xs) (hj:j < xs.length) (ho:o.op=Op.load t x:=by kernel_rfl) (hx:ρ x=atA A j:=by kernel_rfl) (ha:(teOf P t).map (fun e=>e.agg)=some false:=by kernel_rfl) :
 (execOp ρ o).run P w=.ok (.value (.int k ((xs[j]?.getD 0:Nat):Int))) w:=by
 obtain ⟨g,off,rfl,_,hc⟩:=hS.at hj
 exact ZlT hc ho (by rw [hx,atA,Option.map_some,ZdG]) ha
theorem Zoo {A:Option Addr} {len cap h:Nat} {hi:Operand} (hle:h≤cap) (ho:o.op=Op.slice t x none (some hi) none:=by kernel_rfl) (ht:P.underlying t=some (.slice e):=by kernel_rfl) (hs:(P.info? e).map (fun i=>i.size)=some 1:=by kernel_rfl)
 (hx:ρ x=.slice A len cap:=by kernel_rfl) (hh:ρ hi=.int .i64 ((h:Nat):Int):=by kernel_rfl):(execOp ρ o).run P w=.ok (.value (.slice A h cap)) w:=by
 obtain ⟨inf,hinf,_⟩:=Option.map_eq_some_iff.1 hs
 have h3:A.map (fun a=>a.add 0)=A:=by cases A with
  | none=>rfl
  | some a=>simp [Addr.add]
 simp [execOp,ho,Instr.sliceAt,Instr.slice,Instr.sliceBounds,Instr.sliceBound,asIntOf,underlying,ht,hx,hh,hle,sizeOf,typeInfo,hinf,Result.andThen,h3]
theorem ZnH {g len cap off l h n m:Nat} {lo hi:Operand} (hle:l≤h) (hle2:h≤cap) (hlt:l < cap) (hn:h - l=n) (hm:cap - l=m) (ho:o.op=Op.slice t x (some lo) (some hi) none:=by kernel_rfl) (ht:P.underlying t=some (.slice e):=by kernel_rfl) (hs:(P.info? e).map (fun i=>i.size)=some 1:=by kernel_rfl)
 (hx:ρ x=.slice (some ⟨g,off,none⟩) len cap:=by kernel_rfl) (hl:ρ lo=.int .i64 ((l:Nat):Int):=by kernel_rfl) (hh:ρ hi=.int .i64 ((h:Nat):Int):=by kernel_rfl):(execOp ρ o).run P w=.ok (.value (.slice (some ⟨g,off + l,none⟩) n m)) w:=by
 subst hn hm
 obtain ⟨inf,hinf,h1⟩:=Option.map_eq_some_iff.1 hs
 have hne:¬ cap=l:=by omega
 simp [execOp,ho,Instr.sliceAt,Instr.slice,Instr.sliceBounds,Instr.sliceBound,asIntOf,underlying,ht,hx,hl,hh,hle,hle2,sizeOf,typeInfo,hinf,h1,Result.andThen,hne,ZdG]
theorem ZmS {g len cap l h n m:Nat} {lo hi:Operand} (hle:l≤h) (hle2:h≤cap) (hlt:l < cap) (hn:h - l=n) (hm:cap - l=m) (ho:o.op=Op.slice t x (some lo) (some hi) none:=by kernel_rfl) (ht:P.underlying t=some (.slice e):=by kernel_rfl) (hs:(P.info? e).map (fun i=>i.size)=some 1:=by kernel_rfl)
 (hx:ρ x=.slice (some ⟨g,0,none⟩) len cap:=by kernel_rfl) (hl:ρ lo=.int .i64 ((l:Nat):Int):=by kernel_rfl) (hh:ρ hi=.int .i64 ((h:Nat):Int):=by kernel_rfl):(execOp ρ o).run P w=.ok (.value (.slice (some ⟨g,l,none⟩) n m)) w:=by
 have:=ZnH (w:=w) hle hle2 hlt hn hm ho ht hs hx hl hh
 rwa [Nat.zero_add] at this
theorem Zad.ne {A:Option Addr} (hS:Zad k w A xs) {j:Nat} (hj:j < xs.length):A≠none:=by
 obtain ⟨g,off,rfl,_⟩:=hS.at hj
 intro h; cases h
end
end Go.Proofs.YtklpdkpcocnglaaGreatDoor

namespace Go.Proofs.YtklpdkpcocnglaaGreatDoor
open Go.RowKit
def Zfn (ops:Array Oper) (i k:Nat):List Nat:=((ops.toList.drop i).take k).filterMap (fun o=>o.dst)
def Zfo (l:List Nat) (sl:SlL):SlL:=sl.filter (fun q => !(l.any (Nat.beq q.1)))
def ZiK (nb:BlL) (bl:BlL):BlL:=bl.filter (fun q => !(nb.any (fun p=>Nat.beq p.1 q.1)))
section
variable {N:Nat} {S0:Nat→Prop} {w0:World} {sl:SlL} {bl:BlL} {Φ Φ0:World→Prop} {P:Program} {ops:Array Oper} {Q:Exit→Act→World→Prop}
theorem xq {i:Nat} (k:Nat) (nw:SlL) (nb:BlL) (K:SXi P N S0 w0 ops Q (i + k) (ofL (nw ++ Zfo (Zfn ops i k) sl) (nb ++ ZiK nb bl)) Φ)
 (h:Zhh P N ops i k (ofL sl bl) (nw ++ Zfo (Zfn ops i k) sl) (nb ++ ZiK nb bl)=some ((nw ++ Zfo (Zfn ops i k) sl).map (fun q=>some q.2),(nb ++ ZiK nb bl).map (fun q=>some q.2)):=by kernel_rfl)
 (h2:wfB (nw ++ Zfo (Zfn ops i k) sl) (nb ++ ZiK nb bl)=true:=by kernel_rfl):SXi P N S0 w0 ops Q i (ofL sl bl) Φ:=ZlE k _ _ h h2 K
theorem xqf {n i:Nat} (k:Nat) (nw:SlL) (bl':BlL) (K:StI P N S0 w0 ops Φ0 Q n (i + k) (ofL (nw ++ Zfo (Zfn ops i k) sl) bl') Φ)
 (h:Zgl P N ops k i (ofL sl bl) (nw ++ Zfo (Zfn ops i k) sl)=some ((nw ++ Zfo (Zfn ops i k) sl).map (fun q=>some q.2),ZcY bl'):=by kernel_rfl) (hk:Nat.ble (i + k) n=true:=by kernel_rfl):StI P N S0 w0 ops Φ0 Q n i (ofL sl bl) Φ:=ZlI k _ _ h hk K
theorem xqc {i:Nat} (f:FuncId) (args:List Value) (d:Nat) {α:Type} (sh:α→Value) (φ:α→World→Prop) (hC:∀ w,Fr S0 w0 w→Φ w→Calls P f args.toArray w (Zci sh φ w)) (K:∀ x,SXi P N S0 w0 ops Q (i + 1) (ofL ((d, .v (sh x)) :: sl) bl) (fun w=>Φ w∧φ x w))
 (hsz:Nat.blt i ops.size=true:=by kernel_rfl) (h:ZcA P N ops (opAt ops i) (ofL sl bl)=some (f,args,d):=by kernel_rfl):SXi P N S0 w0 ops Q i (ofL sl bl) Φ:=Zkc f args d sh φ hsz h hC K
theorem xqd {n i:Nat} (f:FuncId) (args:List Value) (d:Nat) {α:Type} [hα:Nonempty α] (sh:α→Value) (φ:α→World→Prop) (hC:∀ w,Fr S0 w0 w→Φ w→Calls P f args.toArray w (Zci sh φ w)) (K:∀ x,StI P N S0 w0 ops Φ0 Q n (i + 1) (ofL ((d, .v (sh x)) :: sl) bl) (fun w=>Φ w∧φ x w))
 (hi:Nat.blt i n=true:=by kernel_rfl) (hm:cls (opAt ops i).op=2:=by kernel_rfl) (h:ZcA P N ops (opAt ops i) (ofL sl bl)=some (f,args,d):=by kernel_rfl):StI P N S0 w0 ops Φ0 Q n i (ofL sl bl) Φ:=Zkd f args d sh φ hi hm h hC K
theorem xqk {i:Nat} (d:Nat) (y:Value) (hx:∀ w,Fr S0 w0 w→Φ w→(execOp (ofL sl bl).rho (opAt ops i)).run P w=.ok (.value y) w) (K:SXi P N S0 w0 ops Q (i + 1) (ofL ((d, .v y) :: sl) bl) Φ)
 (hi:Nat.blt i ops.size=true:=by kernel_rfl) (hs:ZbQ (opAt ops i).op=true:=by kernel_rfl) (hw:(ofL sl bl).wantB ops (opAt ops i)=some true:=by kernel_rfl) (hv:(opAt ops i).op.operands.toList.all (ofL sl bl).vB=true:=by kernel_rfl) (hd:(opAt ops i).dst=some d:=by kernel_rfl) (hN:Nat.blt d N=true:=by kernel_rfl):SXi P N S0 w0 ops Q i (ofL sl bl) Φ :=
 Zb8 d y hi hs hw hv hd hN hx K
theorem xqj {n i:Nat} (d:Nat) (y:Value) (hx:∀ w,Φ0 w→(execOp (ofL sl bl).rho (opAt ops i)).run P w=.ok (.value y) w) (K:StI P N S0 w0 ops Φ0 Q n (i + 1) (ofL ((d, .v y) :: sl) bl) Φ)
 (hi:Nat.blt i n=true:=by kernel_rfl) (hk:ZfR (opAt ops i).op=true:=by kernel_rfl) (hw:(ofL sl bl).wantB ops (opAt ops i)=some true:=by kernel_rfl) (hv:(opAt ops i).op.operands.toList.all (ofL sl bl).vB=true:=by kernel_rfl) (hd:(opAt ops i).dst=some d:=by kernel_rfl) (hN:Nat.blt d N=true:=by kernel_rfl):StI P N S0 w0 ops Φ0 Q n i (ofL sl bl) Φ :=
 Zgm d y hi hk hw hv hd hN hx K
end
end Go.Proofs.YtklpdkpcocnglaaGreatDoor

namespace Go.Proofs.YtklpdkpcocnglaaGreatDoor
open Go.RowKit
theorem Zay {w w':World} {e:Ending} {n:Nat} (h:ZaQ w n e w'):Zci ZaJ (fun x w=>Zae w (ZaJ x) n) w e w':=by
 obtain ⟨v,rfl,h2,Q⟩:=h
 obtain ⟨A,l,c,rfl⟩:=h2.slice
 exact ⟨(A,l,c),rfl,Q,boxn Q (fun S w'' hS hF=>h2.nrb hS hF)⟩
end Go.Proofs.YtklpdkpcocnglaaGreatDoor

namespace Go.Proofs.YtklpdkpcocnglaaGreatDoor
open Go.RowKit
theorem Zco {P:Program} {o:Oper} {ρ:Operand→Value} {w:World} {y:Value} {f:FuncId} {args:List Operand} {ts:Array TypeId} {vs:List Value} (h:(callFunc f vs.toArray).run P w=.ok (.value y) w)
 (ho:o.op=.call { callee:=.value (.func f),args:=args.toArray,argTypes:=ts }:=by kernel_rfl) (hv:args.map ρ=vs:=by kernel_rfl) (hf:ρ (.func f)=.func (.func f) #[] #[]:=by kernel_rfl):(execOp ρ o).run P w=.ok (.value y) w:=by
 subst hv
 have e2:(#[] ++ args.toArray.map ρ ++ #[]:Array Value)=(args.map ρ).toArray:=by simp
 simp only [execOp,ho,resolve,hf,Deferred.ofValue,Sem.run_bind,Sem.run_pure,Result.andThen_ok,invoke,e2,h]
theorem tdq (a c:Nat) (h:a < 9223372036854775808):IntKind.i64.wrap (((a:Nat):Int).tdiv (c:Int))=((a / c:Nat):Int):=by
 rw [← Int.ofNat_tdiv,IntKind.wrap_i64]
 have:=Nat.div_le_self a c
 generalize a / c=q at *
 omega
theorem tdr (a c:Nat):(((a:Nat):Int).tmod (c:Int))=((a % c:Nat):Int):=(Int.ofNat_tmod a c).symm
theorem Za5 {a b:Int} (h:((a:Int) == b)=false):a≠b:=by simpa using h
theorem Zf0 {a b:Int} (h:((a:Int) != b)=true):a≠b:=by simpa using h
theorem Zf1 {a b:Int} (h:((a:Int) != b)=false):a=b:=by simpa using h
section
variable {P:Program} {o:Oper} {ρ:Operand→Value} {w:World} {x y:Operand} {t k:TypeId}
theorem Zjf {a n:Nat} (hn:n≤64) (ho:o.op=Op.binOp .shr t x y k:=by kernel_rfl) (hx:ρ x=.int .u64 ((a:Nat):Int):=by kernel_rfl) {ky:IntKind} (hy:ρ y=.int ky ((n:Nat):Int):=by kernel_rfl):(execOp ρ o).run P w=.ok (.value (.int .u64 ((a / 2 ^ n:Nat):Int))) w:=by
 have h0:¬ ((n:Int) < 0):=by omega
 have h1:min ((n:Int)).toNat IntKind.u64.bits=n:=by show min ((n:Int)).toNat 64=n; omega
 have h2:((a:Int)).fdiv (2 ^ n)=((a / 2 ^ n:Nat):Int):=by
  rw [Int.fdiv_eq_ediv_of_nonneg _ (by rw [show ((2:Int) ^ n)=((2 ^ n:Nat):Int) by rw [Int.natCast_pow]; rfl]; exact Int.natCast_nonneg _)]
  exact ZfM a n
 simp only [execOp,ho,hx,hy,eqGuard,binOp,Op.shift,if_neg h0,h1,h2]
 rfl
theorem ZlU {a n:Nat} (hn:n≤64) (ho:o.op=Op.binOp .shl t x y k:=by kernel_rfl) (hx:ρ x=.int .u64 ((a:Nat):Int):=by kernel_rfl) {ky:IntKind} (hy:ρ y=.int ky ((n:Nat):Int):=by kernel_rfl):(execOp ρ o).run P w=.ok (.value (.int .u64 ((a * 2 ^ n % W64:Nat):Int))) w:=by
 have h0:¬ ((n:Int) < 0):=by omega
 have h1:min ((n:Int)).toNat IntKind.u64.bits=n:=by show min ((n:Int)).toNat 64=n; omega
 simp only [execOp,ho,hx,hy,eqGuard,binOp,Op.shift,if_neg h0,h1,Zeh]
 rfl
theorem Zns {a b r:Nat} (ha:a < W64) (hb:b < W64) (h:a ||| b=r) (ho:o.op=Op.binOp .or t x y k:=by kernel_rfl) (hx:ρ x=.int .u64 ((a:Nat):Int):=by kernel_rfl) (hy:ρ y=.int .u64 ((b:Nat):Int):=by kernel_rfl):(execOp ρ o).run P w=.ok (.value (.int .u64 ((r:Nat):Int))) w:=by
 have:=Zei ha hb
 rw [h] at this
 rw [← this]
 simp only [execOp,ho,hx,hy,eqGuard,binOp]
 rfl
end
theorem ZaX {B:Nat} {xs:List Nat} (k:Nat):val B (xs.take (k + 1))=val B (xs.take k) + B ^ k * (xs[k]?.getD 0):=by
 rcases Nat.lt_or_ge k xs.length with h | h
 ·exact Zat k h
 ·rw [List.take_of_length_le (by omega),List.take_of_length_le h,List.getElem?_eq_none h]; simp
/-! ### plus,minus -/
def Zd6 (xs ys:List Nat) (k:Nat) (zs:List Nat) (c:Nat):Prop :=
 zs.length=xs.length + 1∧Dig W64 zs∧c≤1∧val W64 (zs.take k) + W64 ^ k * c=val W64 (xs.take k) + val W64 (ys.take k)
theorem Zd6.start (xs ys:List Nat):Zd6 xs ys 0 (List.replicate (xs.length + 1) 0) 0:=⟨by simp,Dig.replicate Zaf _,by omega,by simp⟩
theorem Zd6.step {xs ys zs:List Nat} {k c x y:Nat} (h:Zd6 xs ys k zs c) (hk:k < xs.length) (ex:xs[k]?.getD 0=x) (ey:ys[k]?.getD 0=y) (hx:Dig W64 xs) (hy:Dig W64 ys):Zd6 xs ys (k + 1) (zs.set k (Zar x y c)) (Zav x y c):=by
 obtain ⟨h1,h2,h3,h4⟩:=h
 refine ⟨by simpa using h1,h2.set k (ZcL _ _ _),Ze8 (ex ▸ hx.getD Zaf k) (ey ▸ hy.getD Zaf k) h3,?_⟩
 rw [ZaL _ _ _ _ (by omega),ZaX k,ZaX k,ex,ey,Nat.pow_succ]
 exact ZiQ _ _ _ _ _ _ _ _ _ _ h4 (Zcg x y c)
theorem Zd6.done {xs ys zs:List Nat} {c:Nat} (h:Zd6 xs ys xs.length zs c) (hl:ys.length≤xs.length):(zs.set xs.length c).length=xs.length + 1∧Dig W64 (zs.set xs.length c)∧val W64 (zs.set xs.length c)=val W64 xs + val W64 ys:=by
 obtain ⟨h1,h2,h3,h4⟩:=h
 have e:(zs.set xs.length c).length=xs.length + 1:=by simpa using h1
 refine ⟨e,h2.set _ (by have:=Zck; omega),?_⟩
 rw [← List.take_of_length_le (l:=zs.set xs.length c) (i:=xs.length + 1) (by omega),ZaL _ _ _ _ (by omega),h4,List.take_of_length_le (Nat.le_refl _),List.take_of_length_le hl]
def MinR (xs ys:List Nat) (k:Nat) (zs:List Nat) (c:Nat):Prop :=
 zs.length=xs.length∧Dig W64 zs∧c≤1∧val W64 (zs.take k) + val W64 (ys.take k)=val W64 (xs.take k) + W64 ^ k * c
theorem MinR.start (xs ys:List Nat):MinR xs ys 0 (List.replicate xs.length 0) 0:=⟨by simp,Dig.replicate Zaf _,by omega,by simp⟩
theorem MinR.step {xs ys zs:List Nat} {k c x y:Nat} (h:MinR xs ys k zs c) (hk:k < xs.length) (ex:xs[k]?.getD 0=x) (ey:ys[k]?.getD 0=y) (hx:Dig W64 xs) (hy:Dig W64 ys):MinR xs ys (k + 1) (zs.set k (ZaY x y c)) (ZaZ x y c):=by
 obtain ⟨h1,h2,h3,h4⟩:=h
 have sp:=Zed (ex ▸ hx.getD Zaf k) (ey ▸ hy.getD Zaf k) h3
 refine ⟨by simpa using h1,h2.set k (ZdC _ _ _),Ze9 _ _ _,?_⟩
 rw [ZaL _ _ _ _ (by omega),ZaX k,ZaX k,ex,ey,Nat.pow_succ]
 exact ZmC _ _ _ _ _ _ _ _ _ _ h4 sp
theorem MinR.done {xs ys zs:List Nat} {c:Nat} (h:MinR xs ys xs.length zs c) (hl:ys.length≤xs.length) (hle:val W64 ys≤val W64 xs):val W64 zs=val W64 xs - val W64 ys:=by
 obtain ⟨h1,h2,h3,h4⟩:=h
 rw [List.take_of_length_le (by omega),List.take_of_length_le hl,List.take_of_length_le (Nat.le_refl _)] at h4
 have hlt:=ZaP h2
 rw [h1] at hlt
 rcases (by omega:c=0∨c=1) with rfl | rfl
 ·rw [Nat.mul_zero] at h4; omega
 ·rw [Nat.mul_one] at h4; omega
/-! ### times -/
noncomputable def tmD (z x y c:Nat):Nat:=Zar (Zar (Zao x y) z 0) c 0
noncomputable def tmC (z x y c:Nat):Nat:=ZaE x y + Zav (Zao x y) z 0 + Zav (Zar (Zao x y) z 0) c 0
theorem Zki (z x y c:Nat):tmD z x y c + W64 * tmC z x y c=z + x * y + c:=by
 have h1:=ZcM x y
 have h2:=Zcg (Zao x y) z 0
 have h3:=Zcg (Zar (Zao x y) z 0) c 0
 unfold tmD tmC
 rw [Nat.mul_add,Nat.mul_add]
 omega
theorem Zjg {z x y c:Nat} (hz:z < W64) (hx:x < W64) (hy:y < W64) (hc:c < W64):tmC z x y c < W64:=by
 have h1:=Zki z x y c
 have h2:=Zfa hx hy
 exact Zdt _ (by omega)
theorem Zhu {a b:Nat} (h:a + b < W64):IntKind.u64.wrap ((a:Int) + (b:Int))=((a + b:Nat):Int):=by rw [← Int.natCast_add]; exact ZbA _ h
theorem ZoK {z x y c:Nat} (hz:z < W64) (hx:x < W64) (hy:y < W64) (hc:c < W64):ZaE x y + Zav (Zao x y) z 0 < W64:=by have:=Zjg hz hx hy hc; unfold tmC at this; omega
theorem Zf2 (x y:Nat) (w:World) (hx:x < W64) (hy:y < W64):Calls Tryz.prog 145 #[.int .u64 (x:Int), .int .u64 (y:Int)] w (RetV w (.tuple #[.int .u64 ((ZaE x y:Nat):Int), .int .u64 ((Zao x y:Nat):Int)])):=by
 refine (ZdS x y hx hy w).mono ?_
 rintro e w' ⟨rfl,rfl⟩
 exact ⟨rfl,Fr.refl _ _⟩
def TimI (zs0 ys:List Nat) (x i k:Nat) (zs:List Nat) (c:Nat):Prop :=
 zs.length=zs0.length∧Dig W64 zs∧c < W64∧zs.drop (i + k)=zs0.drop (i + k)∧val W64 (zs.take (i + k)) + W64 ^ (i + k) * c=val W64 (zs0.take (i + k)) + W64 ^ i * (x * val W64 (ys.take k))
theorem TimI.start {zs0:List Nat} (ys:List Nat) (x i:Nat) (h:Dig W64 zs0):TimI zs0 ys x i 0 zs0 0:=⟨rfl,h,Zaf,rfl,by simp⟩
theorem TimI.at {zs0 ys zs:List Nat} {x i k c:Nat} (h:TimI zs0 ys x i k zs c):zs[i + k]?.getD 0=zs0[i + k]?.getD 0:=by
 have:=congrArg (fun l=>l[0]?.getD 0) h.2.2.2.1
 simpa [List.getElem?_drop] using this
theorem TimI.step {zs0 ys zs:List Nat} {x i k c z y:Nat} (h:TimI zs0 ys x i k zs c) (hk:i + k < zs0.length) (ez:zs[i + k]?.getD 0=z) (ey:ys[k]?.getD 0=y) (hy:Dig W64 ys) (hx:x < W64):TimI zs0 ys x i (k + 1) (zs.set (i + k) (tmD z x y c)) (tmC z x y c):=by
 have e1:zs0[i + k]?.getD 0=z:=h.at.symm.trans ez
 obtain ⟨h1,h2,h3,h5,h4⟩:=h
 refine ⟨by simpa using h1,h2.set _ (ZcL _ _ _),Zjg (ez ▸ h2.getD Zaf _) hx (ey ▸ hy.getD Zaf k) h3,?_,?_⟩
 ·have e:=congrArg (List.drop 1) h5
  rw [List.drop_drop,List.drop_drop] at e
  rw [List.drop_set_of_lt (by omega),show i + (k + 1)=i + k + 1 by omega]; exact e
 ·rw [show i + (k + 1)=(i + k) + 1 by omega,ZaL _ _ _ _ (by omega),Zat (i + k) hk,ZaX k,e1,ey,Nat.pow_succ]
  have e:=congrArg (W64 ^ (i + k) * ·) (Zki z x y c)
  have e2:W64 ^ i * (x * (val W64 (ys.take k) + W64 ^ k * y))=W64 ^ i * (x * val W64 (ys.take k)) + W64 ^ (i + k) * (x * y):=by
   rw [Nat.mul_add x,Nat.mul_add (W64 ^ i),Nat.pow_add,Nat.mul_left_comm x (W64 ^ k) y,Nat.mul_assoc (W64 ^ i)]
  simp only [Nat.mul_add] at e
  rw [e2,Nat.mul_assoc (W64 ^ (i + k)) W64]
  omega
def TimR (xs ys:List Nat) (i:Nat) (zs:List Nat):Prop :=
 zs.length=xs.length + ys.length∧Dig W64 zs∧(∀ j,i + ys.length≤j→zs[j]?.getD 0=0)∧val W64 (zs.take (i + ys.length))=val W64 (xs.take i) * val W64 ys
theorem ZhU (n j:Nat):(List.replicate n 0)[j]?.getD 0=0:=by rw [List.getElem?_replicate]; split<;>rfl
theorem TimR.start (xs ys:List Nat):TimR xs ys 0 (List.replicate (xs.length + ys.length) 0):=⟨by simp,Dig.replicate Zaf _,fun j _=>ZhU _ _,by rw [List.take_replicate,Zb7]; simp⟩
theorem TimR.step {xs ys zs0 zs:List Nat} {i c x:Nat} (h:TimR xs ys i zs0) (hk:i < xs.length) (ex:xs[i]?.getD 0=x) (k:TimI zs0 ys x i ys.length zs c):TimR xs ys (i + 1) (zs.set (i + ys.length) c):=by
 obtain ⟨h1,h2,h3,h4⟩:=h
 obtain ⟨k1,k2,k3,k5,k4⟩:=k
 refine ⟨by simp; omega,k2.set _ k3,fun j hj=>?_,?_⟩
 ·rw [List.getElem?_set_ne (by omega)]
  have e:=congrArg (fun l=>l[j - (i + ys.length)]?.getD 0) k5
  simp only [List.getElem?_drop] at e
  rw [show i + ys.length + (j - (i + ys.length))=j by omega] at e
  rw [e]; exact h3 j (by omega)
 ·rw [show i + 1 + ys.length=(i + ys.length) + 1 by omega,ZaL _ _ _ _ (by omega),k4,h4,List.take_of_length_le (Nat.le_refl ys.length),Zat i hk,ex,Nat.add_mul,Nat.mul_assoc]
theorem TimR.done {xs ys zs:List Nat} (h:TimR xs ys xs.length zs):val W64 zs=val W64 xs * val W64 ys:=by
 obtain ⟨h1,h2,h3,h4⟩:=h
 rwa [List.take_of_length_le (by omega),List.take_of_length_le (Nat.le_refl _)] at h4
theorem Zf3 (A:Option Addr) (xs:List Nat) (c:Nat) (w:World) (hX:Zad .u64 w A xs) (hl:xs.length≤1099511627776) (hc:xs.length≤c) :
 Calls Tryz.prog 106 #[.slice A xs.length c] w (RetV w (.slice A (Za2 xs xs.length) c)):=by
 refine Zau (Φ:=fun w=>Zad .u64 w A xs) Tryz.func106 rfl (by kernel_rfl) (fun w' hf=>hX.ext hf) ?_
 refine Zac (Zaa (xq 1 [eS1 2 none 0 0] [] ?_))
 refine xe (Zab (Zac (Zax ?_)))
 refine SXc.weak [(0, .v (.slice A (xs.length) c))] [] (Ψ:=fun w=>Zad .u64 w A (xs)) (ZaB.of (by kernel_rfl)) (by kernel_rfl) (fun w Q=>Q) ?_
 refine Zbv (fun nn ss ff=>∃ (k:Nat),ss=ofL [(0, .v (.slice A k c))] []∧ff=(fun w=>Zad .u64 w A (xs))∧(Za2 xs xs.length=Za2 xs k)∧(k≤xs.length)∧nn=(1 + k)) ((1 + (xs.length))) ⟨(xs.length),rfl,rfl,rfl,Nat.le_refl _,rfl⟩ ?_
 rintro nn ss ff ⟨k,rfl,rfl,HR,hk,rfl⟩
 refine Zac (Zac (Zaa (xq 4 [(6, .v (.bool (decide (((k:Nat):Int) > 0))))] [] ?_)))
 rcases bl2 ((decide (((k:Nat):Int) > 0))) with hb10 | hb10
 ·rw [hb10]
  have hb10':=of_decide_eq_true hb10
  refine xq 4 [eS1 7 A k c,(10, .v (.int .i64 (IntKind.i64.wrap (((k:Nat):Int) - 1))))] [] ?_
  rw [show IntKind.i64.wrap ((((k:Nat):Int) - 1))=((k - 1:Nat):Int) from by rw [IntKind.wrap_i64]; omega]
  refine xqk 11 (atA A (k - 1)) (fun w R Q=>ZaG (t:=77) (e:=94) (x:=(Operand.tmp 7)) (ix:=(Operand.tmp 10)) (len:=k) (cap:=c) (i:=k - 1) ((Q).ne (j:=k - 1) (by omega)) (by omega)) ?_
  obtain ⟨x11,hx11⟩:∃ x,xs[k - 1]?.getD 0=x:=⟨_,rfl⟩
  refine xqk 12 (.int .u64 ((x11:Nat):Int)) (fun w R Q=>by rw [← hx11]; exact ZaV (t:=94) (x:=(Operand.tmp 11)) (Q) (j:=k - 1) (by omega)) ?_
  refine xq 2 [(14, .v (.bool ((((x11:Nat):Int):Int) == 0)))] [] ?_
  refine xe (Zab ?_)
  refine Zas (((((x11:Nat):Int):Int) == 0)) (by kernel_rfl) (fun hb12=>?_) (fun hb12=>?_)
  ·have hb12':=beq_iff_eq.1 hb12
   refine Zam (Zab (Zax (Zaa (xq 4 [eS1 15 A k c,(18, .v (.int .i64 (IntKind.i64.wrap (((k:Nat):Int) - 1))))] [] ?_))))
   rw [show IntKind.i64.wrap ((((k:Nat):Int) - 1))=((k - 1:Nat):Int) from by rw [IntKind.wrap_i64]; omega]
   refine xqk 19 (.slice A (k - 1) c) (fun w R Q=>Zoo (t:=77) (e:=94) (x:=(Operand.tmp 15)) (len:=k) (cap:=c) (h:=k - 1) (hi:=(Operand.tmp 18)) (by omega)) ?_
   refine xq 1 [eS1 0 A (k - 1) c] [] ?_
   refine xe (Zbk ?_)
   refine SXq.weak [(0, .v (.slice A ((k - 1)) c))] [] (Ψ:=fun w=>Zad .u64 w A (xs)) (ZaB.of (by kernel_rfl)) (by kernel_rfl) (fun w Q=>Q) ?_
   have HS:Za2 xs xs.length=Za2 xs (k - 1):=by obtain ⟨m,rfl⟩:∃ m,k=m + 1:=⟨k - 1,by omega⟩; rw [HR,Za2,if_pos (by rw [Nat.add_sub_cancel] at hx11; omega),Nat.add_sub_cancel]
   exact Za3 ((1 + ((k - 1)))) (by omega) ⟨((k - 1)),rfl,rfl,HS,by omega,rfl⟩
  ·have hb12':=Za5 hb12
   refine Zbf (Zap (Zap (Zbs (Zab (Zac (Zaa (xq 2 [eS1 2 A k c] [] ?_)))))))
   refine xe (Zab (Zai ?_))
   refine Zag (v:=.slice A k c) (by kernel_rfl) (fun w' R Q=>?_)
   exact ⟨by obtain ⟨m,rfl⟩:∃ m,k=m + 1:=⟨k - 1,by omega⟩; rw [HR,Za2,if_neg (by rw [Nat.add_sub_cancel] at hx11; omega)],R⟩
 ·rw [hb10]
  have hb10':=of_decide_eq_false hb10
  refine xq 8 [(14, .v (.bool false))] [] ?_
  refine xe (Zab (xb (Zbf (Zap (Zap (Zbs (Zab (Zac (Zaa (xq 2 [eS1 2 A k c] [] ?_))))))))))
  refine xe (Zab (Zai ?_))
  refine Zag (v:=.slice A k c) (by kernel_rfl) (fun w' R Q=>?_)
  obtain rfl:k=0:=by omega
  exact ⟨by rw [HR]; rfl,R⟩
theorem ZdX {b n v:Nat} {xs:List Nat} {w:World} (hO:Own .u64 94 w b xs) (hd:Dig W64 xs) (hn:xs.length=n) (hv:val W64 xs=v) (hl:n≤1099511627776):Calls Tryz.prog 106 #[.slice (some ⟨b,0,none⟩) n n] w (ZaQ w v):=by
 subst hn hv
 refine (Zf3 _ xs _ w hO.shows0 hl (Nat.le_refl _)).mono ?_
 rintro e w' ⟨rfl,Q⟩
 exact ⟨_,rfl,(Zae.of_own hO hd (Nat.le_refl _)).ext Q,Q⟩
theorem ZkV (A A2:Option Addr) (xs ys:List Nat) (c c2:Nat) (w:World) (hX:Zad .u64 w A xs) (hY:Zad .u64 w A2 ys) (hl:xs.length≤4294967296) (hl2:ys.length≤4294967296) (hx:Dig W64 xs) (hy:Dig W64 ys) (h1:ys.length≤xs.length) (hle:val W64 ys≤val W64 xs) :
 Calls Tryz.prog 127 #[.slice A xs.length c, .slice A2 ys.length c2] w (ZaQ w (val W64 xs - val W64 ys)):=by
 refine Zau (Φ:=fun w=>(Zad .u64 w A xs∧Zad .u64 w A2 ys)) Tryz.func127 rfl (by kernel_rfl) (fun w' hf=>⟨hX.ext hf,hY.ext hf⟩) ?_
 refine Zac (Zaa (xq 1 [eS1 4 none 0 0] [] ?_))
 refine xe (Zab (Zac (Zaa (xq 2 [(10, .v (.int .i64 ((xs.length:Nat):Int)))] [] ?_))))
 refine Zfm (d:=11) (t:=77) (e:=94) (k:=.u64) (kl:=.i64) (kc:=.i64) (l:=(Operand.tmp 10)) (c:=(Operand.tmp 10)) (xs.length) 8 (by omega) (by decide) (fun r10 hr10 _=>?_)
 refine xr 1 [eS1 0 A xs.length c,eS1 1 A2 ys.length c2,eS1 4 none 0 0,eS1 5 (some ⟨r10,0,none⟩) (xs.length) (xs.length)] [] ?_
 refine xe (Zab (Zac (Zaa (xq 1 [(6, .v (.int .u64 0))] [] ?_))))
 refine xe (Zab (Zac (Zac (Zaa (xq 3 [(13, .v (.int .i64 ((xs.length:Nat):Int))),(14, .v (.int .i64 0))] [] ?_)))))
 refine xe (Zab (Zax ?_))
 refine SXc.weak [(0, .v (.slice A xs.length c)),(1, .v (.slice A2 ys.length c2)),(4, .v (.slice none 0 0)),(5, .v (.slice (some ⟨r10,0,none⟩) (xs.length) (xs.length))),(6, .v (.int .u64 ((0:Nat):Int))),(13, .v (.int .i64 ((xs.length:Nat):Int))),(14, .v (.int .i64 ((0:Nat):Int)))] [] (Ψ:=fun w=>(Box (fun j=>r10≤j) w (fun w=>(Zad .u64 w A (xs)∧Zad .u64 w A2 (ys)))∧Own .u64 94 w r10 ((List.replicate (xs.length) 0)))) (ZaB.of (by kernel_rfl)) (by kernel_rfl) (fun w Q=>⟨Q.1,Q.2⟩) ?_
 refine Zbv (fun nn ss ff=>∃ (cc k:Nat) (zs:List Nat),ss=ofL [(0, .v (.slice A xs.length c)),(1, .v (.slice A2 ys.length c2)),(4, .v (.slice none 0 0)),(5, .v (.slice (some ⟨r10,0,none⟩) (xs.length) (xs.length))),(6, .v (.int .u64 ((cc:Nat):Int))),(13, .v (.int .i64 ((xs.length:Nat):Int))),(14, .v (.int .i64 ((k:Nat):Int)))] []∧ff=(fun w=>(Box (fun j=>r10≤j) w (fun w=>(Zad .u64 w A (xs)∧Zad .u64 w A2 (ys)))∧Own .u64 94 w r10 (zs)))∧(MinR xs ys k zs cc)∧(k≤xs.length)∧nn=(xs.length - k)) ((xs.length - 0)) ⟨0,0,(List.replicate (xs.length) 0),rfl,rfl,MinR.start xs ys,by omega,rfl⟩ ?_
 rintro nn ss ff ⟨cc,k,zs,rfl,rfl,HR,hk,rfl⟩
 refine Zac (Zaa (xq 1 [(15, .v (.bool (decide (((k:Nat):Int) < ((xs.length:Nat):Int)))))] [] ?_))
 refine xe (Zab (Zac ?_))
 refine Zas ((decide (((k:Nat):Int) < ((xs.length:Nat):Int)))) (by kernel_rfl) (fun hb11=>?_) (fun hb11=>?_)
 ·have hb11':=of_decide_eq_true hb11
  have hzl:=HR.1
  have hcc:=HR.2.2.1
  refine Zam (Zab (Zac (Zax (Zac (Zaa (xq 2 [(7, .v (.int .i64 ((k:Nat):Int)))] [] ?_))))))
  refine xe (Zab (Zac (Zaa (xq 1 [(8, .v (.int .u64 0))] [] ?_))))
  refine xe (Zab (Zac (Zac (Zaa (xq 4 [(20, .v (.bool (decide (((k:Nat):Int) < ((ys.length:Nat):Int)))))] [] ?_)))))
  refine xe (Zab ?_)
  refine Zas ((decide (((k:Nat):Int) < ((ys.length:Nat):Int)))) (by kernel_rfl) (fun hb12=>?_) (fun hb12=>?_)
  ·have hb12':=of_decide_eq_true hb12
   refine Zaa (xq 2 [eS1 21 A2 ys.length c2,(22, .v (.int .i64 ((k:Nat):Int)))] [] ?_)
   refine xqk 23 (atA A2 k) (fun w R Q=>ZaG (t:=77) (e:=94) (x:=(Operand.tmp 21)) (ix:=(Operand.tmp 22)) (len:=ys.length) (cap:=c2) (i:=k) (((Q.1).self.2).ne (j:=k) (by omega)) (by omega)) ?_
   obtain ⟨x13,hx13⟩:∃ x,ys[k]?.getD 0=x:=⟨_,rfl⟩
   refine xqk 24 (.int .u64 ((x13:Nat):Int)) (fun w R Q=>by rw [← hx13]; exact ZaV (t:=94) (x:=(Operand.tmp 23)) ((Q.1).self.2) (j:=k) (by omega)) ?_
   refine xq 1 [(8, .v (.int .u64 ((x13:Nat):Int)))] [] ?_
   refine xe (Zab (Zaa (xq 4 [eS1 26 (some ⟨r10,0,none⟩) (xs.length) (xs.length),(27, .v (.int .i64 ((k:Nat):Int))),eS1 28 A xs.length c,(29, .v (.int .i64 ((k:Nat):Int)))] [] ?_)))
   refine xqk 30 (atA A k) (fun w R Q=>ZaG (t:=77) (e:=94) (x:=(Operand.tmp 28)) (ix:=(Operand.tmp 29)) (len:=xs.length) (cap:=c) (i:=k) (((Q.1).self.1).ne (j:=k) (by omega)) (by omega)) ?_
   obtain ⟨x14,hx14⟩:∃ x,xs[k]?.getD 0=x:=⟨_,rfl⟩
   refine xqk 31 (.int .u64 ((x14:Nat):Int)) (fun w R Q=>by rw [← hx14]; exact ZaV (t:=94) (x:=(Operand.tmp 30)) ((Q.1).self.1) (j:=k) (by omega)) ?_
   refine xq 2 [(32, .v (.int .u64 ((x13:Nat):Int))),(33, .v (.int .u64 ((cc:Nat):Int)))] [] ?_
   refine xqk 34 (.tuple #[.int .u64 ((ZaY x14 x13 cc:Nat):Int), .int .u64 ((ZaZ x14 x13 cc:Nat):Int)]) (fun w R Q=>Zco (args:=[Operand.tmp 31,Operand.tmp 32,Operand.tmp 33]) (ts:=#[94,94,94]) (Zcd x14 x13 cc (by omega) w)) ?_
   refine xq 3 [(35, .v (.int .u64 ((ZaY x14 x13 cc:Nat):Int))),(36, .v (.int .u64 ((ZaZ x14 x13 cc:Nat):Int)))] [] ?_
   refine xqk 37 (.pointer (some ⟨r10,k,none⟩)) (fun w R Q=>Zbh (t:=77) (e:=94) (x:=(Operand.tmp 26)) (ix:=(Operand.tmp 27)) (len:=(xs.length)) (cap:=(xs.length)) (i:=k) (by omega)) ?_
   refine ZbO (t:=94) (x:=(Operand.tmp 37)) (y:=(Operand.tmp 35)) r10 (k) (ZaY x14 x13 cc) (fun w=>(Box (fun j=>r10≤j) w (fun w=>(Zad .u64 w A (xs)∧Zad .u64 w A2 (ys)))∧Own .u64 94 w r10 ((zs).set (k) (ZaY x14 x13 cc)))) (fun w Q=>Q.2) (by omega) (Or.inl hr10) (fun w w' Q hF hO=>⟨((Q.1).fr (hF.mono (fun _ _ e=>by rw [e]; exact Nat.le_refl _))),hO⟩) ?_
   refine xq 1 [(6, .v (.int .u64 ((ZaZ x14 x13 cc:Nat):Int)))] [] ?_
   refine xe (Zbk (Zab (Zaa (xq 1 [(38, .v (.int .i64 (IntKind.i64.wrap (((k:Nat):Int) + 1))))] [] ?_))))
   rw [show IntKind.i64.wrap ((((k:Nat):Int) + 1))=((k + 1:Nat):Int) from by rw [IntKind.wrap_i64]; omega]
   refine xq 1 [(14, .v (.int .i64 ((k + 1:Nat):Int)))] [] ?_
   refine xe ?_
   refine SXq.weak [(0, .v (.slice A xs.length c)),(1, .v (.slice A2 ys.length c2)),(4, .v (.slice none 0 0)),(5, .v (.slice (some ⟨r10,0,none⟩) (xs.length) (xs.length))),(6, .v (.int .u64 (((ZaZ x14 x13 cc):Nat):Int))),(13, .v (.int .i64 ((xs.length:Nat):Int))),(14, .v (.int .i64 (((k + 1):Nat):Int)))] [] (Ψ:=fun w=>(Box (fun j=>r10≤j) w (fun w=>(Zad .u64 w A (xs)∧Zad .u64 w A2 (ys)))∧Own .u64 94 w r10 (((zs).set (k) (ZaY x14 x13 cc))))) (ZaB.of (by kernel_rfl)) (by kernel_rfl) (fun w Q=>⟨Q.1,Q.2⟩) ?_
   have HS:=HR.step (k:=k) (by omega) hx14 (y:=x13) hx13 hx hy
   exact Za3 ((xs.length - (k + 1))) (by omega) ⟨(ZaZ x14 x13 cc),(k + 1),((zs).set (k) (ZaY x14 x13 cc)),rfl,rfl,HS,by omega,rfl⟩
  ·have hb12':=of_decide_eq_false hb12
   refine Zam (Zab (Zaa (xq 4 [eS1 26 (some ⟨r10,0,none⟩) (xs.length) (xs.length),(27, .v (.int .i64 ((k:Nat):Int))),eS1 28 A xs.length c,(29, .v (.int .i64 ((k:Nat):Int)))] [] ?_)))
   refine xqk 30 (atA A k) (fun w R Q=>ZaG (t:=77) (e:=94) (x:=(Operand.tmp 28)) (ix:=(Operand.tmp 29)) (len:=xs.length) (cap:=c) (i:=k) (((Q.1).self.1).ne (j:=k) (by omega)) (by omega)) ?_
   obtain ⟨x15,hx15⟩:∃ x,xs[k]?.getD 0=x:=⟨_,rfl⟩
   refine xqk 31 (.int .u64 ((x15:Nat):Int)) (fun w R Q=>by rw [← hx15]; exact ZaV (t:=94) (x:=(Operand.tmp 30)) ((Q.1).self.1) (j:=k) (by omega)) ?_
   refine xq 2 [(32, .v (.int .u64 0)),(33, .v (.int .u64 ((cc:Nat):Int)))] [] ?_
   refine xqk 34 (.tuple #[.int .u64 ((ZaY x15 0 cc:Nat):Int), .int .u64 ((ZaZ x15 0 cc:Nat):Int)]) (fun w R Q=>Zco (args:=[Operand.tmp 31,Operand.tmp 32,Operand.tmp 33]) (ts:=#[94,94,94]) (Zcd x15 0 cc (by omega) w)) ?_
   refine xq 3 [(35, .v (.int .u64 ((ZaY x15 0 cc:Nat):Int))),(36, .v (.int .u64 ((ZaZ x15 0 cc:Nat):Int)))] [] ?_
   refine xqk 37 (.pointer (some ⟨r10,k,none⟩)) (fun w R Q=>Zbh (t:=77) (e:=94) (x:=(Operand.tmp 26)) (ix:=(Operand.tmp 27)) (len:=(xs.length)) (cap:=(xs.length)) (i:=k) (by omega)) ?_
   refine ZbO (t:=94) (x:=(Operand.tmp 37)) (y:=(Operand.tmp 35)) r10 (k) (ZaY x15 0 cc) (fun w=>(Box (fun j=>r10≤j) w (fun w=>(Zad .u64 w A (xs)∧Zad .u64 w A2 (ys)))∧Own .u64 94 w r10 ((zs).set (k) (ZaY x15 0 cc)))) (fun w Q=>Q.2) (by omega) (Or.inl hr10) (fun w w' Q hF hO=>⟨((Q.1).fr (hF.mono (fun _ _ e=>by rw [e]; exact Nat.le_refl _))),hO⟩) ?_
   refine xq 1 [(6, .v (.int .u64 ((ZaZ x15 0 cc:Nat):Int)))] [] ?_
   refine xe (Zbk (Zab (Zaa (xq 1 [(38, .v (.int .i64 (IntKind.i64.wrap (((k:Nat):Int) + 1))))] [] ?_))))
   rw [show IntKind.i64.wrap ((((k:Nat):Int) + 1))=((k + 1:Nat):Int) from by rw [IntKind.wrap_i64]; omega]
   refine xq 1 [(14, .v (.int .i64 ((k + 1:Nat):Int)))] [] ?_
   refine xe ?_
   refine SXq.weak [(0, .v (.slice A xs.length c)),(1, .v (.slice A2 ys.length c2)),(4, .v (.slice none 0 0)),(5, .v (.slice (some ⟨r10,0,none⟩) (xs.length) (xs.length))),(6, .v (.int .u64 (((ZaZ x15 0 cc):Nat):Int))),(13, .v (.int .i64 ((xs.length:Nat):Int))),(14, .v (.int .i64 (((k + 1):Nat):Int)))] [] (Ψ:=fun w=>(Box (fun j=>r10≤j) w (fun w=>(Zad .u64 w A (xs)∧Zad .u64 w A2 (ys)))∧Own .u64 94 w r10 (((zs).set (k) (ZaY x15 0 cc))))) (ZaB.of (by kernel_rfl)) (by kernel_rfl) (fun w Q=>⟨Q.1,Q.2⟩) ?_
   have HS:=HR.step (k:=k) (by omega) hx15 (y:=0) (by rw [List.getElem?_eq_none (by omega)]; rfl) hx hy
   exact Za3 ((xs.length - (k + 1))) (by omega) ⟨(ZaZ x15 0 cc),(k + 1),((zs).set (k) (ZaY x15 0 cc)),rfl,rfl,HS,by omega,rfl⟩
 ·have hb11':=of_decide_eq_false hb11
  obtain rfl:k=xs.length:=by omega
  refine Zbf (Zap (Zap (Zbs (Zab (Zac (Zaa (xq 1 [eS1 39 (some ⟨r10,0,none⟩) (xs.length) (xs.length)] [] ?_)))))))
  refine xqc 106 [.slice (some ⟨r10,0,none⟩) (xs.length) (xs.length)] 40 ZaJ _ (fun w R Q=>(ZdX Q.2 HR.2.1 HR.1 (HR.done h1 hle) (by omega)).mono (fun _ _=>Zay)) (fun xx=>?_)
  obtain ⟨A16,l16,c16⟩:=xx
  refine xq 1 [eS1 4 A16 l16 c16] [] ?_
  refine xe (Zab (Zai ?_))
  refine Zag (v:=.slice A16 l16 c16) (by kernel_rfl) (fun w' R Q=>?_)
  exact ⟨_,rfl,Q.2,R⟩
theorem ZlV (A A2:Option Addr) (xs ys:List Nat) (c c2:Nat) (w:World) (hX:Zad .u64 w A xs) (hY:Zad .u64 w A2 ys) (hl:xs.length≤4294967296) (hl2:ys.length≤4294967296) (hx:Dig W64 xs) (hy:Dig W64 ys) :
 Calls Tryz.prog 126 #[.slice A xs.length c, .slice A2 ys.length c2] w (ZaQ w (val W64 xs + val W64 ys)):=by
 refine Zau (Φ:=fun w=>(Zad .u64 w A xs∧Zad .u64 w A2 ys)) Tryz.func126 rfl (by kernel_rfl) (fun w' hf=>⟨hX.ext hf,hY.ext hf⟩) ?_
 refine Zac (Zaa (xq 1 [eS1 4 none 0 0] [] ?_))
 refine xe (Zab ?_)
 refine Zjd (fun ss ff=>∃ (B1 B2:Option Addr) (us vs:List Nat) (d1 d2:Nat),ss=ofL [(0, .v (.slice B1 us.length d1)),(1, .v (.slice B2 vs.length d2)),(4, .v (.slice none 0 0))] []∧ff=(fun w=>(Zad .u64 w B1 (us)∧Zad .u64 w B2 (vs)))∧(vs.length≤us.length)∧(Dig W64 us)∧(Dig W64 vs)∧(us.length≤4294967296)∧(val W64 us + val W64 vs=val W64 xs + val W64 ys)) ?_ ?_
 ·refine Zac (Zaa (xq 5 [(13, .v (.bool (decide (((xs.length:Nat):Int) < ((ys.length:Nat):Int)))))] [] ?_))
  refine xe (Zab ?_)
  refine Zas ((decide (((xs.length:Nat):Int) < ((ys.length:Nat):Int)))) (by kernel_rfl) (fun hb10=>?_) (fun hb10=>?_)
  ·have hb10':=of_decide_eq_true hb10
   refine Zaa (xq 4 [eS1 0 A2 ys.length c2,eS1 1 A xs.length c] [] ?_)
   refine xe ?_
   refine SXq.weak [(0, .v (.slice A2 ys.length c2)),(1, .v (.slice A xs.length c)),(4, .v (.slice none 0 0))] [] (Ψ:=fun w=>(Zad .u64 w A2 (ys)∧Zad .u64 w A (xs))) (ZaB.of (by kernel_rfl)) (by kernel_rfl) (fun w Q=>⟨Q.2,Q.1⟩) ?_
   exact ZcZ ⟨A2,A,ys,xs,c2,c,rfl,rfl,(by omega),hy,hx,hl2,Nat.add_comm _ _⟩
  ·have hb10':=of_decide_eq_false hb10
   refine Zam ?_
   refine SXq.weak [(0, .v (.slice A xs.length c)),(1, .v (.slice A2 ys.length c2)),(4, .v (.slice none 0 0))] [] (Ψ:=fun w=>(Zad .u64 w A (xs)∧Zad .u64 w A2 (ys))) (ZaB.of (by kernel_rfl)) (by kernel_rfl) (fun w Q=>⟨Q.1,Q.2⟩) ?_
   exact ZcZ ⟨A,A2,xs,ys,c,c2,rfl,rfl,(by omega),hx,hy,hl,rfl⟩
 ·rintro ss ff ⟨B1,B2,us,vs,d1,d2,rfl,rfl,h1,hu,hv,hul,hsum⟩
  refine Zac (Zaa (xq 3 [(18, .v (.int .i64 (IntKind.i64.wrap (((us.length:Nat):Int) + 1))))] [] ?_))
  rw [show IntKind.i64.wrap ((((us.length:Nat):Int) + 1))=((us.length + 1:Nat):Int) from by rw [IntKind.wrap_i64]; omega]
  refine Zfm (d:=19) (t:=77) (e:=94) (k:=.u64) (kl:=.i64) (kc:=.i64) (l:=(Operand.tmp 18)) (c:=(Operand.tmp 18)) (us.length + 1) 8 (by omega) (by decide) (fun r11 hr11 _=>?_)
  refine xr 1 [eS1 0 B1 us.length d1,eS1 1 B2 vs.length d2,eS1 4 none 0 0,eS1 5 (some ⟨r11,0,none⟩) (us.length + 1) (us.length + 1)] [] ?_
  refine xe (Zab (Zac (Zaa (xq 1 [(6, .v (.int .u64 0))] [] ?_))))
  refine xe (Zab (Zac (Zac (Zaa (xq 3 [(21, .v (.int .i64 ((us.length:Nat):Int))),(22, .v (.int .i64 0))] [] ?_)))))
  refine xe (Zab (Zax ?_))
  refine SXc.weak [(0, .v (.slice B1 us.length d1)),(1, .v (.slice B2 vs.length d2)),(4, .v (.slice none 0 0)),(5, .v (.slice (some ⟨r11,0,none⟩) (us.length + 1) (us.length + 1))),(6, .v (.int .u64 ((0:Nat):Int))),(21, .v (.int .i64 ((us.length:Nat):Int))),(22, .v (.int .i64 ((0:Nat):Int)))] [] (Ψ:=fun w=>(Box (fun j=>r11≤j) w (fun w=>(Zad .u64 w B1 (us)∧Zad .u64 w B2 (vs)))∧Own .u64 94 w r11 ((List.replicate (us.length + 1) 0)))) (ZaB.of (by kernel_rfl)) (by kernel_rfl) (fun w Q=>⟨Q.1,Q.2⟩) ?_
  refine Zbv (fun nn ss ff=>∃ (cc k:Nat) (zs:List Nat),ss=ofL [(0, .v (.slice B1 us.length d1)),(1, .v (.slice B2 vs.length d2)),(4, .v (.slice none 0 0)),(5, .v (.slice (some ⟨r11,0,none⟩) (us.length + 1) (us.length + 1))),(6, .v (.int .u64 ((cc:Nat):Int))),(21, .v (.int .i64 ((us.length:Nat):Int))),(22, .v (.int .i64 ((k:Nat):Int)))] []∧ff=(fun w=>(Box (fun j=>r11≤j) w (fun w=>(Zad .u64 w B1 (us)∧Zad .u64 w B2 (vs)))∧Own .u64 94 w r11 (zs)))∧(Zd6 us vs k zs cc)∧(k≤us.length)∧nn=(us.length - k)) ((us.length - 0)) ⟨0,0,(List.replicate (us.length + 1) 0),rfl,rfl,Zd6.start us vs,by omega,rfl⟩ ?_
  rintro nn ss ff ⟨cc,k,zs,rfl,rfl,HR,hk,rfl⟩
  refine Zac (Zaa (xq 1 [(23, .v (.bool (decide (((k:Nat):Int) < ((us.length:Nat):Int)))))] [] ?_))
  refine xe (Zab (Zac ?_))
  refine Zas ((decide (((k:Nat):Int) < ((us.length:Nat):Int)))) (by kernel_rfl) (fun hb12=>?_) (fun hb12=>?_)
  ·have hb12':=of_decide_eq_true hb12
   have hzl:=HR.1
   have hcc:=HR.2.2.1
   refine Zam (Zab (Zac (Zax (Zac (Zaa (xq 2 [(7, .v (.int .i64 ((k:Nat):Int)))] [] ?_))))))
   refine xe (Zab (Zac (Zaa (xq 1 [(8, .v (.int .u64 0))] [] ?_))))
   refine xe (Zab (Zac (Zac (Zaa (xq 4 [(28, .v (.bool (decide (((k:Nat):Int) < ((vs.length:Nat):Int)))))] [] ?_)))))
   refine xe (Zab ?_)
   refine Zas ((decide (((k:Nat):Int) < ((vs.length:Nat):Int)))) (by kernel_rfl) (fun hb13=>?_) (fun hb13=>?_)
   ·have hb13':=of_decide_eq_true hb13
    refine Zaa (xq 2 [eS1 29 B2 vs.length d2,(30, .v (.int .i64 ((k:Nat):Int)))] [] ?_)
    refine xqk 31 (atA B2 k) (fun w R Q=>ZaG (t:=77) (e:=94) (x:=(Operand.tmp 29)) (ix:=(Operand.tmp 30)) (len:=vs.length) (cap:=d2) (i:=k) (((Q.1).self.2).ne (j:=k) (by omega)) (by omega)) ?_
    obtain ⟨x14,hx14⟩:∃ x,vs[k]?.getD 0=x:=⟨_,rfl⟩
    refine xqk 32 (.int .u64 ((x14:Nat):Int)) (fun w R Q=>by rw [← hx14]; exact ZaV (t:=94) (x:=(Operand.tmp 31)) ((Q.1).self.2) (j:=k) (by omega)) ?_
    refine xq 1 [(8, .v (.int .u64 ((x14:Nat):Int)))] [] ?_
    refine xe (Zab (Zaa (xq 4 [eS1 34 (some ⟨r11,0,none⟩) (us.length + 1) (us.length + 1),(35, .v (.int .i64 ((k:Nat):Int))),eS1 36 B1 us.length d1,(37, .v (.int .i64 ((k:Nat):Int)))] [] ?_)))
    refine xqk 38 (atA B1 k) (fun w R Q=>ZaG (t:=77) (e:=94) (x:=(Operand.tmp 36)) (ix:=(Operand.tmp 37)) (len:=us.length) (cap:=d1) (i:=k) (((Q.1).self.1).ne (j:=k) (by omega)) (by omega)) ?_
    obtain ⟨x15,hx15⟩:∃ x,us[k]?.getD 0=x:=⟨_,rfl⟩
    refine xqk 39 (.int .u64 ((x15:Nat):Int)) (fun w R Q=>by rw [← hx15]; exact ZaV (t:=94) (x:=(Operand.tmp 38)) ((Q.1).self.1) (j:=k) (by omega)) ?_
    refine xq 2 [(40, .v (.int .u64 ((x14:Nat):Int))),(41, .v (.int .u64 ((cc:Nat):Int)))] [] ?_
    refine xqk 42 (.tuple #[.int .u64 ((Zar x15 x14 cc:Nat):Int), .int .u64 ((Zav x15 x14 cc:Nat):Int)]) (fun w R Q=>Zco (args:=[Operand.tmp 39,Operand.tmp 40,Operand.tmp 41]) (ts:=#[94,94,94]) (Zcc x15 x14 cc (by omega) w)) ?_
    refine xq 3 [(43, .v (.int .u64 ((Zar x15 x14 cc:Nat):Int))),(44, .v (.int .u64 ((Zav x15 x14 cc:Nat):Int)))] [] ?_
    refine xqk 45 (.pointer (some ⟨r11,k,none⟩)) (fun w R Q=>Zbh (t:=77) (e:=94) (x:=(Operand.tmp 34)) (ix:=(Operand.tmp 35)) (len:=(us.length + 1)) (cap:=(us.length + 1)) (i:=k) (by omega)) ?_
    refine ZbO (t:=94) (x:=(Operand.tmp 45)) (y:=(Operand.tmp 43)) r11 (k) (Zar x15 x14 cc) (fun w=>(Box (fun j=>r11≤j) w (fun w=>(Zad .u64 w B1 (us)∧Zad .u64 w B2 (vs)))∧Own .u64 94 w r11 ((zs).set (k) (Zar x15 x14 cc)))) (fun w Q=>Q.2) (by omega) (Or.inl hr11) (fun w w' Q hF hO=>⟨((Q.1).fr (hF.mono (fun _ _ e=>by rw [e]; exact Nat.le_refl _))),hO⟩) ?_
    refine xq 1 [(6, .v (.int .u64 ((Zav x15 x14 cc:Nat):Int)))] [] ?_
    refine xe (Zbk (Zab (Zaa (xq 1 [(46, .v (.int .i64 (IntKind.i64.wrap (((k:Nat):Int) + 1))))] [] ?_))))
    rw [show IntKind.i64.wrap ((((k:Nat):Int) + 1))=((k + 1:Nat):Int) from by rw [IntKind.wrap_i64]; omega]
    refine xq 1 [(22, .v (.int .i64 ((k + 1:Nat):Int)))] [] ?_
    refine xe ?_
    refine SXq.weak [(0, .v (.slice B1 us.length d1)),(1, .v (.slice B2 vs.length d2)),(4, .v (.slice none 0 0)),(5, .v (.slice (some ⟨r11,0,none⟩) (us.length + 1) (us.length + 1))),(6, .v (.int .u64 (((Zav x15 x14 cc):Nat):Int))),(21, .v (.int .i64 ((us.length:Nat):Int))),(22, .v (.int .i64 (((k + 1):Nat):Int)))] [] (Ψ:=fun w=>(Box (fun j=>r11≤j) w (fun w=>(Zad .u64 w B1 (us)∧Zad .u64 w B2 (vs)))∧Own .u64 94 w r11 (((zs).set (k) (Zar x15 x14 cc))))) (ZaB.of (by kernel_rfl)) (by kernel_rfl) (fun w Q=>⟨Q.1,Q.2⟩) ?_
    have HS:=HR.step (k:=k) (by omega) hx15 (y:=x14) hx14 hu hv
    exact Za3 ((us.length - (k + 1))) (by omega) ⟨(Zav x15 x14 cc),(k + 1),((zs).set (k) (Zar x15 x14 cc)),rfl,rfl,HS,by omega,rfl⟩
   ·have hb13':=of_decide_eq_false hb13
    refine Zam (Zab (Zaa (xq 4 [eS1 34 (some ⟨r11,0,none⟩) (us.length + 1) (us.length + 1),(35, .v (.int .i64 ((k:Nat):Int))),eS1 36 B1 us.length d1,(37, .v (.int .i64 ((k:Nat):Int)))] [] ?_)))
    refine xqk 38 (atA B1 k) (fun w R Q=>ZaG (t:=77) (e:=94) (x:=(Operand.tmp 36)) (ix:=(Operand.tmp 37)) (len:=us.length) (cap:=d1) (i:=k) (((Q.1).self.1).ne (j:=k) (by omega)) (by omega)) ?_
    obtain ⟨x16,hx16⟩:∃ x,us[k]?.getD 0=x:=⟨_,rfl⟩
    refine xqk 39 (.int .u64 ((x16:Nat):Int)) (fun w R Q=>by rw [← hx16]; exact ZaV (t:=94) (x:=(Operand.tmp 38)) ((Q.1).self.1) (j:=k) (by omega)) ?_
    refine xq 2 [(40, .v (.int .u64 0)),(41, .v (.int .u64 ((cc:Nat):Int)))] [] ?_
    refine xqk 42 (.tuple #[.int .u64 ((Zar x16 0 cc:Nat):Int), .int .u64 ((Zav x16 0 cc:Nat):Int)]) (fun w R Q=>Zco (args:=[Operand.tmp 39,Operand.tmp 40,Operand.tmp 41]) (ts:=#[94,94,94]) (Zcc x16 0 cc (by omega) w)) ?_
    refine xq 3 [(43, .v (.int .u64 ((Zar x16 0 cc:Nat):Int))),(44, .v (.int .u64 ((Zav x16 0 cc:Nat):Int)))] [] ?_
    refine xqk 45 (.pointer (some ⟨r11,k,none⟩)) (fun w R Q=>Zbh (t:=77) (e:=94) (x:=(Operand.tmp 34)) (ix:=(Operand.tmp 35)) (len:=(us.length + 1)) (cap:=(us.length + 1)) (i:=k) (by omega)) ?_
    refine ZbO (t:=94) (x:=(Operand.tmp 45)) (y:=(Operand.tmp 43)) r11 (k) (Zar x16 0 cc) (fun w=>(Box (fun j=>r11≤j) w (fun w=>(Zad .u64 w B1 (us)∧Zad .u64 w B2 (vs)))∧Own .u64 94 w r11 ((zs).set (k) (Zar x16 0 cc)))) (fun w Q=>Q.2) (by omega) (Or.inl hr11) (fun w w' Q hF hO=>⟨((Q.1).fr (hF.mono (fun _ _ e=>by rw [e]; exact Nat.le_refl _))),hO⟩) ?_
    refine xq 1 [(6, .v (.int .u64 ((Zav x16 0 cc:Nat):Int)))] [] ?_
    refine xe (Zbk (Zab (Zaa (xq 1 [(46, .v (.int .i64 (IntKind.i64.wrap (((k:Nat):Int) + 1))))] [] ?_))))
    rw [show IntKind.i64.wrap ((((k:Nat):Int) + 1))=((k + 1:Nat):Int) from by rw [IntKind.wrap_i64]; omega]
    refine xq 1 [(22, .v (.int .i64 ((k + 1:Nat):Int)))] [] ?_
    refine xe ?_
    refine SXq.weak [(0, .v (.slice B1 us.length d1)),(1, .v (.slice B2 vs.length d2)),(4, .v (.slice none 0 0)),(5, .v (.slice (some ⟨r11,0,none⟩) (us.length + 1) (us.length + 1))),(6, .v (.int .u64 (((Zav x16 0 cc):Nat):Int))),(21, .v (.int .i64 ((us.length:Nat):Int))),(22, .v (.int .i64 (((k + 1):Nat):Int)))] [] (Ψ:=fun w=>(Box (fun j=>r11≤j) w (fun w=>(Zad .u64 w B1 (us)∧Zad .u64 w B2 (vs)))∧Own .u64 94 w r11 (((zs).set (k) (Zar x16 0 cc))))) (ZaB.of (by kernel_rfl)) (by kernel_rfl) (fun w Q=>⟨Q.1,Q.2⟩) ?_
    have HS:=HR.step (k:=k) (by omega) hx16 (y:=0) (by rw [List.getElem?_eq_none (by omega)]; rfl) hu hv
    exact Za3 ((us.length - (k + 1))) (by omega) ⟨(Zav x16 0 cc),(k + 1),((zs).set (k) (Zar x16 0 cc)),rfl,rfl,HS,by omega,rfl⟩
  ·have hb12':=of_decide_eq_false hb12
   obtain rfl:k=us.length:=by omega
   have hzl:=HR.1
   have HD:=HR.done h1
   refine Zbf (Zap (Zap (Zbs (Zab (Zac (Zaa (xq 4 [eS1 47 (some ⟨r11,0,none⟩) (us.length + 1) (us.length + 1),(49, .v (.int .i64 ((us.length:Nat):Int))),(50, .v (.int .u64 ((cc:Nat):Int)))] [] ?_)))))))
   refine xqk 51 (.pointer (some ⟨r11,us.length,none⟩)) (fun w R Q=>Zbh (t:=77) (e:=94) (x:=(Operand.tmp 47)) (ix:=(Operand.tmp 49)) (len:=(us.length + 1)) (cap:=(us.length + 1)) (i:=us.length) (by omega)) ?_
   refine ZbO (t:=94) (x:=(Operand.tmp 51)) (y:=(Operand.tmp 50)) r11 (us.length) (cc) (fun w=>(Box (fun j=>r11≤j) w (fun w=>(Zad .u64 w B1 (us)∧Zad .u64 w B2 (vs)))∧Own .u64 94 w r11 ((zs).set (us.length) (cc)))) (fun w Q=>Q.2) (by omega) (Or.inl hr11) (fun w w' Q hF hO=>⟨((Q.1).fr (hF.mono (fun _ _ e=>by rw [e]; exact Nat.le_refl _))),hO⟩) ?_
   refine xe (Zab (Zac (Zaa (xq 1 [eS1 52 (some ⟨r11,0,none⟩) (us.length + 1) (us.length + 1)] [] ?_))))
   refine xqc 106 [.slice (some ⟨r11,0,none⟩) (us.length + 1) (us.length + 1)] 53 ZaJ _ (fun w R Q=>(ZdX Q.2 HD.2.1 HD.1 (HD.2.2.trans hsum) (by omega)).mono (fun _ _=>Zay)) (fun xx=>?_)
   obtain ⟨A17,l17,c17⟩:=xx
   refine xq 1 [eS1 4 A17 l17 c17] [] ?_
   refine xe (Zab (Zai ?_))
   refine Zag (v:=.slice A17 l17 c17) (by kernel_rfl) (fun w' R Q=>?_)
   exact ⟨_,rfl,Q.2,R⟩
theorem ZkW (A A2:Option Addr) (xs ys:List Nat) (c c2:Nat) (w:World) (hX:Zad .u64 w A xs) (hY:Zad .u64 w A2 ys) (hl:xs.length≤4294967296) (hl2:ys.length≤4294967296) (hx:Dig W64 xs) (hy:Dig W64 ys) :
 Calls Tryz.prog 124 #[.slice A xs.length c, .slice A2 ys.length c2] w (ZaQ w (val W64 xs * val W64 ys)):=by
 refine Zau (Φ:=fun w=>(Zad .u64 w A xs∧Zad .u64 w A2 ys)) Tryz.func124 rfl (by kernel_rfl) (fun w' hf=>⟨hX.ext hf,hY.ext hf⟩) ?_
 refine Zac (Zaa (xq 1 [eS1 4 none 0 0] [] ?_))
 refine xe (Zab (Zac (Zaa (xq 5 [(18, .v (.int .i64 (IntKind.i64.wrap (((xs.length:Nat):Int) + ((ys.length:Nat):Int)))))] [] ?_))))
 rw [show IntKind.i64.wrap ((((xs.length:Nat):Int) + ((ys.length:Nat):Int)))=((xs.length + (ys.length):Nat):Int) from by rw [IntKind.wrap_i64]; omega]
 refine Zfm (d:=19) (t:=77) (e:=94) (k:=.u64) (kl:=.i64) (kc:=.i64) (l:=(Operand.tmp 18)) (c:=(Operand.tmp 18)) (xs.length + (ys.length)) 8 (by omega) (by decide) (fun r10 hr10 _=>?_)
 refine xr 1 [eS1 0 A xs.length c,eS1 1 A2 ys.length c2,eS1 4 none 0 0,(5, .v (.slice (some ⟨r10,0,none⟩) (xs.length + (ys.length)) (xs.length + (ys.length))))] [] ?_
 refine xe (Zab (Zac (Zac (Zaa (xq 3 [eS1 20 A xs.length c,(21, .v (.int .i64 ((xs.length:Nat):Int))),(22, .v (.int .i64 0))] [] ?_)))))
 refine xe (Zab (Zax ?_))
 refine SXc.weak [(1, .v (.slice A2 ys.length c2)),(4, .v (.slice none 0 0)),(5, .v (.slice (some ⟨r10,0,none⟩) (xs.length + (ys.length)) (xs.length + (ys.length)))),(20, .v (.slice A xs.length c)),(21, .v (.int .i64 ((xs.length:Nat):Int))),(22, .v (.int .i64 ((0:Nat):Int)))] [] (Ψ:=fun w=>(Box (fun j=>r10≤j) w (fun w=>(Zad .u64 w A (xs)∧Zad .u64 w A2 (ys)))∧Own .u64 94 w r10 ((List.replicate (xs.length + (ys.length)) 0)))) (ZaB.of (by kernel_rfl)) (by kernel_rfl) (fun w Q=>⟨Q.1,Q.2⟩) ?_
 refine Zbv (fun nn ss ff=>∃ (i:Nat) (zs:List Nat),ss=ofL [(1, .v (.slice A2 ys.length c2)),(4, .v (.slice none 0 0)),(5, .v (.slice (some ⟨r10,0,none⟩) (xs.length + (ys.length)) (xs.length + (ys.length)))),(20, .v (.slice A xs.length c)),(21, .v (.int .i64 ((xs.length:Nat):Int))),(22, .v (.int .i64 ((i:Nat):Int)))] []∧ff=(fun w=>(Box (fun j=>r10≤j) w (fun w=>(Zad .u64 w A (xs)∧Zad .u64 w A2 (ys)))∧Own .u64 94 w r10 (zs)))∧(TimR xs ys i zs)∧(i≤xs.length)∧nn=(xs.length - i)) ((xs.length - 0)) ⟨0,(List.replicate (xs.length + (ys.length)) 0),rfl,rfl,TimR.start xs ys,by omega,rfl⟩ ?_
 rintro nn ss ff ⟨i,zs,rfl,rfl,HR,hi,rfl⟩
 refine Zac (Zaa (xq 1 [(23, .v (.bool (decide (((i:Nat):Int) < ((xs.length:Nat):Int)))))] [] ?_))
 refine xe (Zab (Zac ?_))
 refine Zas ((decide (((i:Nat):Int) < ((xs.length:Nat):Int)))) (by kernel_rfl) (fun hb11=>?_) (fun hb11=>?_)
 ·have hb11':=of_decide_eq_true hb11
  have hzl:=HR.1
  refine Zam (Zab (Zac (Zax (Zac (Zaa (xq 1 [(24, .v (.int .i64 ((i:Nat):Int)))] [] ?_))))))
  refine xqk 25 (atA A i) (fun w R Q=>ZaG (t:=77) (e:=94) (x:=(Operand.tmp 20)) (ix:=(Operand.tmp 22)) (len:=xs.length) (cap:=c) (i:=i) (((Q.1).self.1).ne (j:=i) (by omega)) (by omega)) ?_
  obtain ⟨x12,hx12⟩:∃ x,xs[i]?.getD 0=x:=⟨_,rfl⟩
  refine xqk 26 (.int .u64 ((x12:Nat):Int)) (fun w R Q=>by rw [← hx12]; exact ZaV (t:=94) (x:=(Operand.tmp 25)) ((Q.1).self.1) (j:=i) (by omega)) ?_
  refine xq 2 [(6, .v (.int .i64 ((i:Nat):Int))),(7, .v (.int .u64 ((x12:Nat):Int)))] [] ?_
  refine xe (Zab (Zac (Zaa (xq 1 [(8, .v (.int .u64 0))] [] ?_))))
  refine xe (Zab (Zac (Zac (Zaa (xq 3 [eS1 27 A2 ys.length c2,(28, .v (.int .i64 ((ys.length:Nat):Int))),(29, .v (.int .i64 0))] [] ?_)))))
  refine xe (Zab (Zax ?_))
  refine SXc.weak [(1, .v (.slice A2 ys.length c2)),(4, .v (.slice none 0 0)),(5, .v (.slice (some ⟨r10,0,none⟩) (xs.length + (ys.length)) (xs.length + (ys.length)))),(6, .v (.int .i64 ((i:Nat):Int))),(7, .v (.int .u64 ((x12:Nat):Int))),(8, .v (.int .u64 ((0:Nat):Int))),(20, .v (.slice A xs.length c)),(21, .v (.int .i64 ((xs.length:Nat):Int))),(22, .v (.int .i64 ((i:Nat):Int))),(27, .v (.slice A2 ys.length c2)),(28, .v (.int .i64 ((ys.length:Nat):Int))),(29, .v (.int .i64 ((0:Nat):Int)))] [] (Ψ:=fun w=>(Box (fun j=>r10≤j) w (fun w=>(Zad .u64 w A (xs)∧Zad .u64 w A2 (ys)))∧Own .u64 94 w r10 (zs))) (ZaB.of (by kernel_rfl)) (by kernel_rfl) (fun w Q=>⟨Q.1,Q.2⟩) ?_
  refine Zbv (fun nn ss ff=>∃ (cc k:Nat) (vs:List Nat),ss=ofL [(1, .v (.slice A2 ys.length c2)),(4, .v (.slice none 0 0)),(5, .v (.slice (some ⟨r10,0,none⟩) (xs.length + (ys.length)) (xs.length + (ys.length)))),(6, .v (.int .i64 ((i:Nat):Int))),(7, .v (.int .u64 ((x12:Nat):Int))),(8, .v (.int .u64 ((cc:Nat):Int))),(20, .v (.slice A xs.length c)),(21, .v (.int .i64 ((xs.length:Nat):Int))),(22, .v (.int .i64 ((i:Nat):Int))),(27, .v (.slice A2 ys.length c2)),(28, .v (.int .i64 ((ys.length:Nat):Int))),(29, .v (.int .i64 ((k:Nat):Int)))] []∧ff=(fun w=>(Box (fun j=>r10≤j) w (fun w=>(Zad .u64 w A (xs)∧Zad .u64 w A2 (ys)))∧Own .u64 94 w r10 (vs)))∧(TimI zs ys x12 i k vs cc)∧(k≤ys.length)∧nn=(ys.length - k)) ((ys.length - 0)) ⟨0,0,zs,rfl,rfl,TimI.start ys x12 i HR.2.1,by omega,rfl⟩ ?_
  rintro nn ss ff ⟨cc,k,vs,rfl,rfl,HI,hk,rfl⟩
  refine Zac (Zaa (xq 1 [(30, .v (.bool (decide (((k:Nat):Int) < ((ys.length:Nat):Int)))))] [] ?_))
  refine xe (Zab (Zac ?_))
  refine Zas ((decide (((k:Nat):Int) < ((ys.length:Nat):Int)))) (by kernel_rfl) (fun hb13=>?_) (fun hb13=>?_)
  ·have hb13':=of_decide_eq_true hb13
   have hvl:=HI.1
   have hcc:=HI.2.2.1
   refine Zam (Zab (Zac (Zax (Zac (Zaa (xq 1 [(31, .v (.int .i64 ((k:Nat):Int)))] [] ?_))))))
   refine xqk 32 (atA A2 k) (fun w R Q=>ZaG (t:=77) (e:=94) (x:=(Operand.tmp 27)) (ix:=(Operand.tmp 29)) (len:=ys.length) (cap:=c2) (i:=k) (((Q.1).self.2).ne (j:=k) (by omega)) (by omega)) ?_
   obtain ⟨x14,hx14⟩:∃ x,ys[k]?.getD 0=x:=⟨_,rfl⟩
   refine xqk 33 (.int .u64 ((x14:Nat):Int)) (fun w R Q=>by rw [← hx14]; exact ZaV (t:=94) (x:=(Operand.tmp 32)) ((Q.1).self.2) (j:=k) (by omega)) ?_
   refine xq 2 [(9, .v (.int .i64 ((k:Nat):Int))),(10, .v (.int .u64 ((x14:Nat):Int)))] [] ?_
   refine xe (Zab (Zac (Zaa (xq 2 [(35, .v (.int .u64 ((x12:Nat):Int))),(36, .v (.int .u64 ((x14:Nat):Int)))] [] ?_))))
   refine xqc 145 [.int .u64 ((x12:Nat):Int), .int .u64 ((x14:Nat):Int)] 37 (fun _:Unit=>.tuple #[.int .u64 ((ZaE x12 x14:Nat):Int), .int .u64 ((Zao x12 x14:Nat):Int)]) _ (fun w R Q=>(Zf2 x12 x14 _ (by rw [← hx12]; exact hx.getD Zaf _) (by rw [← hx14]; exact hy.getD Zaf _)).mono (fun _ _ h=>Zak h rfl)) (fun xx=>?_)
   refine xq 5 [(11, .v (.int .u64 ((ZaE x12 x14:Nat):Int))),(12, .v (.int .u64 ((Zao x12 x14:Nat):Int)))] [] ?_
   refine xe (Zab (Zac (Zaa (xq 5 [(41, .v (.int .u64 ((Zao x12 x14:Nat):Int))),(42, .v (.slice (some ⟨r10,0,none⟩) (xs.length + (ys.length)) (xs.length + (ys.length)))),(45, .v (.int .i64 (IntKind.i64.wrap (((i:Nat):Int) + ((k:Nat):Int)))))] [] ?_))))
   rw [show IntKind.i64.wrap ((((i:Nat):Int) + ((k:Nat):Int)))=((i + k:Nat):Int) from by rw [IntKind.wrap_i64]; omega]
   refine xqk 46 (.pointer (some ⟨r10,i + k,none⟩)) (fun w R Q=>Zbh (t:=77) (e:=94) (x:=(Operand.tmp 42)) (ix:=(Operand.tmp 45)) (len:=(xs.length + (ys.length))) (cap:=(xs.length + (ys.length))) (i:=i + k) (by omega)) ?_
   obtain ⟨x15,hx15⟩:∃ x,vs[i + k]?.getD 0=x:=⟨_,rfl⟩
   refine xqk 47 (.int .u64 ((x15:Nat):Int)) (fun w R Q=>by rw [← hx15]; exact Zb9 (t:=94) (x:=(Operand.tmp 46)) (Q.1.2) (j:=i + k) (by omega)) ?_
   refine xqk 48 (.tuple #[.int .u64 ((Zar (Zao x12 x14) x15 0:Nat):Int), .int .u64 ((Zav (Zao x12 x14) x15 0:Nat):Int)]) (fun w R Q=>Zco (args:=[Operand.tmp 41,Operand.tmp 47,Operand.const (Value.int IntKind.u64 0)]) (ts:=#[94,94,94]) (Zcc (Zao x12 x14) x15 0 (by omega) w)) ?_
   refine xq 5 [(12, .v (.int .u64 ((Zar (Zao x12 x14) x15 0:Nat):Int))),(13, .v (.int .u64 ((Zav (Zao x12 x14) x15 0:Nat):Int)))] [] ?_
   refine xe (Zab (Zac (Zaa (xq 3 [(53, .v (.int .u64 (IntKind.u64.wrap (((ZaE x12 x14:Nat):Int) + ((Zav (Zao x12 x14) x15 0:Nat):Int)))))] [] ?_))))
   rw [Zhu (a:=ZaE x12 x14) (b:=Zav (Zao x12 x14) x15 0) (ZoK (by rw [← hx15]; exact HI.2.1.getD Zaf _) (by rw [← hx12]; exact hx.getD Zaf _) (by rw [← hx14]; exact hy.getD Zaf _) hcc)]
   refine xq 1 [(11, .v (.int .u64 ((ZaE x12 x14 + Zav (Zao x12 x14) x15 0:Nat):Int)))] [] ?_
   refine xe (Zab (Zac (Zaa (xq 4 [(55, .v (.slice (some ⟨r10,0,none⟩) (xs.length + (ys.length)) (xs.length + (ys.length)))),(58, .v (.int .i64 (IntKind.i64.wrap (((i:Nat):Int) + ((k:Nat):Int)))))] [] ?_))))
   rw [show IntKind.i64.wrap ((((i:Nat):Int) + ((k:Nat):Int)))=((i + k:Nat):Int) from by rw [IntKind.wrap_i64]; omega]
   refine xq 2 [(59, .v (.int .u64 ((Zar (Zao x12 x14) x15 0:Nat):Int))),(60, .v (.int .u64 ((cc:Nat):Int)))] [] ?_
   refine xqk 61 (.tuple #[.int .u64 ((Zar (Zar (Zao x12 x14) x15 0) cc 0:Nat):Int), .int .u64 ((Zav (Zar (Zao x12 x14) x15 0) cc 0:Nat):Int)]) (fun w R Q=>Zco (args:=[Operand.tmp 59,Operand.tmp 60,Operand.const (Value.int IntKind.u64 0)]) (ts:=#[94,94,94]) (Zcc (Zar (Zao x12 x14) x15 0) cc 0 (by omega) w)) ?_
   refine xq 3 [(62, .v (.int .u64 ((Zar (Zar (Zao x12 x14) x15 0) cc 0:Nat):Int))),(63, .v (.int .u64 ((Zav (Zar (Zao x12 x14) x15 0) cc 0:Nat):Int)))] [] ?_
   refine xqk 64 (.pointer (some ⟨r10,i + k,none⟩)) (fun w R Q=>Zbh (t:=77) (e:=94) (x:=(Operand.tmp 55)) (ix:=(Operand.tmp 58)) (len:=(xs.length + (ys.length))) (cap:=(xs.length + (ys.length))) (i:=i + k) (by omega)) ?_
   refine ZbO (t:=94) (x:=(Operand.tmp 64)) (y:=(Operand.tmp 62)) r10 (i + k) (Zar (Zar (Zao x12 x14) x15 0) cc 0) (fun w=>((Box (fun j=>r10≤j) w (fun w=>(Zad .u64 w A (xs)∧Zad .u64 w A2 (ys)))∧Own .u64 94 w r10 ((vs).set (i + k) (Zar (Zar (Zao x12 x14) x15 0) cc 0)))∧True)) (fun w Q=>Q.1.2) (by omega) (Or.inl hr10) (fun w w' Q hF hO=>⟨⟨((Q.1.1).fr (hF.mono (fun _ _ e=>by rw [e]; exact Nat.le_refl _))),hO⟩,trivial⟩) ?_
   refine xr 1 [eS1 1 A2 ys.length c2,eS1 4 none 0 0,(5, .v (.slice (some ⟨r10,0,none⟩) (xs.length + (ys.length)) (xs.length + (ys.length)))),(6, .v (.int .i64 ((i:Nat):Int))),(7, .v (.int .u64 ((x12:Nat):Int))),(8, .v (.int .u64 ((cc:Nat):Int))),(11, .v (.int .u64 ((ZaE x12 x14 + Zav (Zao x12 x14) x15 0:Nat):Int))),(13, .v (.int .u64 ((Zav (Zar (Zao x12 x14) x15 0) cc 0:Nat):Int))),eS1 20 A xs.length c,(21, .v (.int .i64 ((xs.length:Nat):Int))),(22, .v (.int .i64 ((i:Nat):Int))),eS1 27 A2 ys.length c2,(28, .v (.int .i64 ((ys.length:Nat):Int))),(29, .v (.int .i64 ((k:Nat):Int)))] [] ?_
   refine xe (Zab (Zaa (xq 3 [(67, .v (.int .u64 (IntKind.u64.wrap (((ZaE x12 x14 + Zav (Zao x12 x14) x15 0:Nat):Int) + ((Zav (Zar (Zao x12 x14) x15 0) cc 0:Nat):Int)))))] [] ?_)))
   rw [Zhu (a:=ZaE x12 x14 + Zav (Zao x12 x14) x15 0) (b:=Zav (Zar (Zao x12 x14) x15 0) cc 0) (Zjg (by rw [← hx15]; exact HI.2.1.getD Zaf _) (by rw [← hx12]; exact hx.getD Zaf _) (by rw [← hx14]; exact hy.getD Zaf _) hcc)]
   refine xq 1 [(8, .v (.int .u64 ((ZaE x12 x14 + Zav (Zao x12 x14) x15 0 + Zav (Zar (Zao x12 x14) x15 0) cc 0:Nat):Int)))] [] ?_
   refine xe (Zbk (Zab (Zaa (xq 1 [(68, .v (.int .i64 (IntKind.i64.wrap (((k:Nat):Int) + 1))))] [] ?_))))
   rw [show IntKind.i64.wrap ((((k:Nat):Int) + 1))=((k + 1:Nat):Int) from by rw [IntKind.wrap_i64]; omega]
   refine xq 1 [(29, .v (.int .i64 ((k + 1:Nat):Int)))] [] ?_
   refine xe ?_
   refine SXq.weak [(1, .v (.slice A2 ys.length c2)),(4, .v (.slice none 0 0)),(5, .v (.slice (some ⟨r10,0,none⟩) (xs.length + (ys.length)) (xs.length + (ys.length)))),(6, .v (.int .i64 ((i:Nat):Int))),(7, .v (.int .u64 ((x12:Nat):Int))),(8, .v (.int .u64 (((ZaE x12 x14 + Zav (Zao x12 x14) x15 0 + Zav (Zar (Zao x12 x14) x15 0) cc 0):Nat):Int))),(20, .v (.slice A xs.length c)),(21, .v (.int .i64 ((xs.length:Nat):Int))),(22, .v (.int .i64 ((i:Nat):Int))),(27, .v (.slice A2 ys.length c2)),(28, .v (.int .i64 ((ys.length:Nat):Int))),(29, .v (.int .i64 (((k + 1):Nat):Int)))] [] (Ψ:=fun w=>(Box (fun j=>r10≤j) w (fun w=>(Zad .u64 w A (xs)∧Zad .u64 w A2 (ys)))∧Own .u64 94 w r10 (((vs).set (i + k) (Zar (Zar (Zao x12 x14) x15 0) cc 0))))) (ZaB.of (by kernel_rfl)) (by kernel_rfl) (fun w Q=>⟨Q.1.1,Q.1.2⟩) ?_
   have HS:=HI.step (k:=k) (by omega) hx15 hx14 hy (by rw [← hx12]; exact hx.getD Zaf _)
   exact Za3 ((ys.length - (k + 1))) (by omega) ⟨(ZaE x12 x14 + Zav (Zao x12 x14) x15 0 + Zav (Zar (Zao x12 x14) x15 0) cc 0),(k + 1),((vs).set (i + k) (Zar (Zar (Zao x12 x14) x15 0) cc 0)),rfl,rfl,HS,by omega,rfl⟩
  ·have hb13':=of_decide_eq_false hb13
   have hvl:=HI.1
   have hcc:=HI.2.2.1
   obtain rfl:k=ys.length:=by omega
   refine Zbf (Zap (Zap (Zbs (Zab (Zaa (xq 5 [(69, .v (.slice (some ⟨r10,0,none⟩) (xs.length + (ys.length)) (xs.length + (ys.length)))),(73, .v (.int .i64 (IntKind.i64.wrap (((i:Nat):Int) + ((ys.length:Nat):Int)))))] [] ?_))))))
   rw [show IntKind.i64.wrap ((((i:Nat):Int) + ((ys.length:Nat):Int)))=((i + (ys.length):Nat):Int) from by rw [IntKind.wrap_i64]; omega]
   refine xq 1 [(74, .v (.int .u64 ((cc:Nat):Int)))] [] ?_
   refine xqk 75 (.pointer (some ⟨r10,i + (ys.length),none⟩)) (fun w R Q=>Zbh (t:=77) (e:=94) (x:=(Operand.tmp 69)) (ix:=(Operand.tmp 73)) (len:=(xs.length + (ys.length))) (cap:=(xs.length + (ys.length))) (i:=i + (ys.length)) (by omega)) ?_
   refine ZbO (t:=94) (x:=(Operand.tmp 75)) (y:=(Operand.tmp 74)) r10 (i + (ys.length)) (cc) (fun w=>(Box (fun j=>r10≤j) w (fun w=>(Zad .u64 w A (xs)∧Zad .u64 w A2 (ys)))∧Own .u64 94 w r10 ((vs).set (i + (ys.length)) (cc)))) (fun w Q=>Q.2) (by omega) (Or.inl hr10) (fun w w' Q hF hO=>⟨((Q.1).fr (hF.mono (fun _ _ e=>by rw [e]; exact Nat.le_refl _))),hO⟩) ?_
   refine xe (Zbk (Zab (Zaa (xq 1 [(76, .v (.int .i64 (IntKind.i64.wrap (((i:Nat):Int) + 1))))] [] ?_))))
   rw [show IntKind.i64.wrap ((((i:Nat):Int) + 1))=((i + 1:Nat):Int) from by rw [IntKind.wrap_i64]; omega]
   refine xq 1 [(22, .v (.int .i64 ((i + 1:Nat):Int)))] [] ?_
   refine xe ?_
   refine SXq.weak [(1, .v (.slice A2 ys.length c2)),(4, .v (.slice none 0 0)),(5, .v (.slice (some ⟨r10,0,none⟩) (xs.length + (ys.length)) (xs.length + (ys.length)))),(20, .v (.slice A xs.length c)),(21, .v (.int .i64 ((xs.length:Nat):Int))),(22, .v (.int .i64 (((i + 1):Nat):Int)))] [] (Ψ:=fun w=>(Box (fun j=>r10≤j) w (fun w=>(Zad .u64 w A (xs)∧Zad .u64 w A2 (ys)))∧Own .u64 94 w r10 (((vs).set (i + (ys.length)) (cc))))) (ZaB.of (by kernel_rfl)) (by kernel_rfl) (fun w Q=>⟨Q.1,Q.2⟩) ?_
   have HS:=HR.step (i:=i) (by omega) hx12 HI
   exact Za3 ((xs.length - (i + 1))) (by omega) ⟨(i + 1),((vs).set (i + (ys.length)) (cc)),rfl,rfl,HS,by omega,rfl⟩
 ·have hb11':=of_decide_eq_false hb11
  have hzl:=HR.1
  obtain rfl:i=xs.length:=by omega
  refine Zbf (Zap (Zap (Zbs (Zab (Zac (Zaa (xq 1 [(77, .v (.slice (some ⟨r10,0,none⟩) (xs.length + (ys.length)) (xs.length + (ys.length))))] [] ?_)))))))
  refine xqc 106 [.slice (some ⟨r10,0,none⟩) (xs.length + (ys.length)) (xs.length + (ys.length))] 78 ZaJ _ (fun w R Q=>(ZdX Q.2 HR.2.1 HR.1 HR.done (by omega)).mono (fun _ _=>Zay)) (fun xx=>?_)
  obtain ⟨A16,l16,c16⟩:=xx
  refine xq 1 [eS1 4 A16 l16 c16] [] ?_
  refine xe (Zab (Zai ?_))
  refine Zag (v:=.slice A16 l16 c16) (by kernel_rfl) (fun w' R Q=>?_)
  exact ⟨_,rfl,Q.2,R⟩
theorem ZnI (A:Option Addr) (xs:List Nat) (c k:Nat) (w:World) (hN:Zae w (.slice A xs.length c) (val W64 xs)) (hX:Zad .u64 w A xs) (hl:xs.length≤4294967296) (hd:Dig W64 xs) (hk:k≤274877906944) :
 Calls Tryz.prog 66 #[.slice A xs.length c, .int .i64 ((k:Nat):Int)] w (ZaQ w (val W64 xs * 2 ^ k)):=by
 refine Zau (Φ:=fun w=>(Zae w (.slice A xs.length c) (val W64 xs)∧Zad .u64 w A xs)) Tryz.func66 rfl (by kernel_rfl) (fun w' hf=>⟨hN.ext hf,hX.ext hf⟩) ?_
 refine Zac (Zaa (xq 1 [eS1 4 none 0 0] [] ?_))
 refine xe (Zab (Zac (Zac (Zaa (xq 4 [(13, .v (.bool ((((xs.length:Nat):Int):Int) == 0)))] [] ?_)))))
 rcases bl2 (((((xs.length:Nat):Int):Int) == 0)) with hb10 | hb10
 ·rw [hb10]
  have hb10':=beq_iff_eq.1 hb10
  refine xq 3 [(16, .v (.bool true))] [] ?_
  refine xe (Zab (xa (Zac (Zaa (xq 2 [eS1 4 A xs.length c] [] ?_)))))
  refine xe (Zab (Zai (Zah ?_)))
  refine Zag (v:=.slice A xs.length c) (by kernel_rfl) (fun w' R Q=>?_)
  exact ⟨_,rfl,(by obtain rfl:xs=[]:=List.length_eq_zero_iff.1 (by omega); rw [Zdh,Nat.zero_mul]; exact Q.1),R⟩
 ·rw [hb10]
  have hb10':=Za5 hb10
  refine xq 3 [(16, .v (.bool ((((k:Nat):Int):Int) == 0)))] [] ?_
  refine xe (Zab ?_)
  refine Zas (((((k:Nat):Int):Int) == 0)) (by kernel_rfl) (fun hb11=>?_) (fun hb11=>?_)
  ·have hb11':=beq_iff_eq.1 hb11
   refine Zac (Zaa (xq 2 [eS1 4 A xs.length c] [] ?_))
   refine xe (Zab (Zai (Zah ?_)))
   refine Zag (v:=.slice A xs.length c) (by kernel_rfl) (fun w' R Q=>?_)
   exact ⟨_,rfl,(by obtain rfl:k=0:=(by omega); rw [Nat.pow_zero,Nat.mul_one]; exact Q.1),R⟩
  ·have hb11':=Za5 hb11
   refine Zam (Zab (Zac (Zaa (xq 2 [(19, .v (.int .i64 (IntKind.i64.wrap ((((k:Nat):Int)).tdiv 64))))] [] ?_))))
   rw [show IntKind.i64.wrap (((((k:Nat):Int)).tdiv 64))=((k / 64:Nat):Int) from tdq (k) 64 (by omega)]
   refine xq 2 [(21, .v (.int .i64 ((((k:Nat):Int)).tmod 64)))] [] ?_
   rw [show (((k:Nat):Int)).tmod 64=((k % 64:Nat):Int) from tdr (k) 64]
   refine xq 1 [(22, .v (.int .u64 (IntKind.u64.wrap (((k % 64:Nat):Int)))))] [] ?_
   rw [show IntKind.u64.wrap (((k % 64:Nat):Int))=((k % 64:Nat):Int) from by rw [IntKind.wrap_u64]; omega]
   refine xq 2 [(5, .v (.int .i64 ((k / 64:Nat):Int))),(6, .v (.int .u64 ((k % 64:Nat):Int)))] [] ?_
   refine xe (Zab (Zac (Zaa (xq 4 [(26, .v (.int .i64 (IntKind.i64.wrap (((xs.length:Nat):Int) + ((k / 64:Nat):Int)))))] [] ?_))))
   rw [show IntKind.i64.wrap ((((xs.length:Nat):Int) + ((k / 64:Nat):Int)))=((xs.length + (k / 64):Nat):Int) from by rw [IntKind.wrap_i64]; omega]
   refine xq 1 [(27, .v (.int .i64 (IntKind.i64.wrap (((xs.length + (k / 64):Nat):Int) + 1))))] [] ?_
   rw [show IntKind.i64.wrap ((((xs.length + (k / 64):Nat):Int) + 1))=((xs.length + (k / 64) + 1:Nat):Int) from by rw [IntKind.wrap_i64]; omega]
   refine Zfm (d:=28) (t:=77) (e:=94) (k:=.u64) (kl:=.i64) (kc:=.i64) (l:=(Operand.tmp 27)) (c:=(Operand.tmp 27)) (xs.length + (k / 64) + 1) 8 (by omega) (by decide) (fun r12 hr12 _=>?_)
   refine xr 1 [eS1 0 A xs.length c,eS1 4 none 0 0,(5, .v (.int .i64 ((k / 64:Nat):Int))),(6, .v (.int .u64 ((k % 64:Nat):Int))),(7, .v (.slice (some ⟨r12,0,none⟩) (xs.length + (k / 64) + 1) (xs.length + (k / 64) + 1)))] [] ?_
   refine xe (Zab (Zac (Zac (Zaa (xq 3 [eS1 29 A xs.length c,(30, .v (.int .i64 ((xs.length:Nat):Int))),(31, .v (.int .i64 0))] [] ?_)))))
   refine xe (Zab (Zax ?_))
   refine SXc.weak [(4, .v (.slice none 0 0)),(5, .v (.int .i64 ((k / 64:Nat):Int))),(6, .v (.int .u64 ((k % 64:Nat):Int))),(7, .v (.slice (some ⟨r12,0,none⟩) (xs.length + (k / 64) + 1) (xs.length + (k / 64) + 1))),(29, .v (.slice A xs.length c)),(30, .v (.int .i64 ((xs.length:Nat):Int))),(31, .v (.int .i64 ((0:Nat):Int)))] [] (Ψ:=fun w=>(Box (fun j=>r12≤j) w (fun w=>(Zae w (.slice A xs.length c) (val W64 xs)∧Zad .u64 w A (xs)))∧Own .u64 94 w r12 ((List.replicate (xs.length + (k / 64) + 1) 0)))) (ZaB.of (by kernel_rfl)) (by kernel_rfl) (fun w Q=>⟨Q.1,Q.2⟩) ?_
   refine Zbv (fun nn ss ff=>∃ (i:Nat) (zs:List Nat),ss=ofL [(4, .v (.slice none 0 0)),(5, .v (.int .i64 ((k / 64:Nat):Int))),(6, .v (.int .u64 ((k % 64:Nat):Int))),(7, .v (.slice (some ⟨r12,0,none⟩) (xs.length + (k / 64) + 1) (xs.length + (k / 64) + 1))),(29, .v (.slice A xs.length c)),(30, .v (.int .i64 ((xs.length:Nat):Int))),(31, .v (.int .i64 ((i:Nat):Int)))] []∧ff=(fun w=>(Box (fun j=>r12≤j) w (fun w=>(Zae w (.slice A xs.length c) (val W64 xs)∧Zad .u64 w A (xs)))∧Own .u64 94 w r12 (zs)))∧(ZcP xs (k / 64) (k % 64) i zs)∧(i≤xs.length)∧nn=(xs.length - i)) ((xs.length - 0)) ⟨0,(List.replicate (xs.length + (k / 64) + 1) 0),rfl,rfl,ZcP.start xs (k / 64) (k % 64),by omega,rfl⟩ ?_
   rintro nn ss ff ⟨i,zs,rfl,rfl,HR,hi,rfl⟩
   refine Zac (Zaa (xq 1 [(32, .v (.bool (decide (((i:Nat):Int) < ((xs.length:Nat):Int)))))] [] ?_))
   refine xe (Zab (Zac ?_))
   refine Zas ((decide (((i:Nat):Int) < ((xs.length:Nat):Int)))) (by kernel_rfl) (fun hb13=>?_) (fun hb13=>?_)
   ·have hb13':=of_decide_eq_true hb13
    have hzl:=HR.1
    refine Zam (Zab (Zac (Zax (Zac (Zaa (xq 1 [(33, .v (.int .i64 ((i:Nat):Int)))] [] ?_))))))
    refine xqk 34 (atA A i) (fun w R Q=>ZaG (t:=77) (e:=94) (x:=(Operand.tmp 29)) (ix:=(Operand.tmp 31)) (len:=xs.length) (cap:=c) (i:=i) (((Q.1).self.2).ne (j:=i) (by omega)) (by omega)) ?_
    obtain ⟨x14,hx14⟩:∃ x,xs[i]?.getD 0=x:=⟨_,rfl⟩
    refine xqk 35 (.int .u64 ((x14:Nat):Int)) (fun w R Q=>by rw [← hx14]; exact ZaV (t:=94) (x:=(Operand.tmp 34)) ((Q.1).self.2) (j:=i) (by omega)) ?_
    refine xq 2 [(8, .v (.int .i64 ((i:Nat):Int))),(9, .v (.int .u64 ((x14:Nat):Int)))] [] ?_
    refine xe (Zab (Zac (Zaa (xq 4 [(36, .v (.slice (some ⟨r12,0,none⟩) (xs.length + (k / 64) + 1) (xs.length + (k / 64) + 1))),(39, .v (.int .i64 (IntKind.i64.wrap (((i:Nat):Int) + ((k / 64:Nat):Int)))))] [] ?_))))
    rw [show IntKind.i64.wrap ((((i:Nat):Int) + ((k / 64:Nat):Int)))=((i + (k / 64):Nat):Int) from by rw [IntKind.wrap_i64]; omega]
    refine xqk 40 (.pointer (some ⟨r12,i + (k / 64),none⟩)) (fun w R Q=>Zbh (t:=77) (e:=94) (x:=(Operand.tmp 36)) (ix:=(Operand.tmp 39)) (len:=(xs.length + (k / 64) + 1)) (cap:=(xs.length + (k / 64) + 1)) (i:=i + (k / 64)) (by omega)) ?_
    obtain ⟨x15,hx15⟩:∃ x,zs[i + (k / 64)]?.getD 0=x:=⟨_,rfl⟩
    refine xqk 41 (.int .u64 ((x15:Nat):Int)) (fun w R Q=>by rw [← hx15]; exact Zb9 (t:=94) (x:=(Operand.tmp 40)) (Q.2) (j:=i + (k / 64)) (by omega)) ?_
    refine xq 2 [(42, .v (.int .u64 ((x14:Nat):Int))),(43, .v (.int .u64 ((k % 64:Nat):Int)))] [] ?_
    refine xqk 44 (.int .u64 ((x14 * 2 ^ (k % 64) % W64:Nat):Int)) (fun w R Q=>ZlU (t:=94) (x:=(Operand.tmp 42)) (y:=(Operand.tmp 43)) (k:=103) (ky:=.u64) (a:=x14) (n:=(k % 64)) (by omega)) ?_
    have HS:=HR.step (k:=i) (by omega) (by omega) hx15 hx14 (by rw [← hx14]; exact hd.getD Zaf _)
    refine xqk 45 (.int .u64 ((x15 + x14 * 2 ^ (k % 64) % W64:Nat):Int)) (fun w R Q=>Zns (t:=94) (x:=(Operand.tmp 41)) (y:=(Operand.tmp 44)) (k:=94) (a:=x15) (b:=(x14 * 2 ^ (k % 64) % W64)) (by rw [← hx15]; exact HR.2.1.getD Zaf _) (Nat.mod_lt _ Zaf) (Zlw (by rw [← hx15]; exact HR.2.2.2) (by omega))) ?_
    refine xqk 46 (.pointer (some ⟨r12,i + (k / 64),none⟩)) (fun w R Q=>Zbh (t:=77) (e:=94) (x:=(Operand.tmp 36)) (ix:=(Operand.tmp 39)) (len:=(xs.length + (k / 64) + 1)) (cap:=(xs.length + (k / 64) + 1)) (i:=i + (k / 64)) (by omega)) ?_
    refine ZbO (t:=94) (x:=(Operand.tmp 46)) (y:=(Operand.tmp 45)) r12 (i + (k / 64)) (x15 + x14 * 2 ^ (k % 64) % W64) (fun w=>(Box (fun j=>r12≤j) w (fun w=>(Zae w (.slice A xs.length c) (val W64 xs)∧Zad .u64 w A (xs)))∧Own .u64 94 w r12 ((zs).set (i + (k / 64)) (x15 + x14 * 2 ^ (k % 64) % W64)))) (fun w Q=>Q.2) (by omega) (Or.inl hr12) (fun w w' Q hF hO=>⟨((Q.1).fr (hF.mono (fun _ _ e=>by rw [e]; exact Nat.le_refl _))),hO⟩) ?_
    refine xe (Zab (Zaa (xq 4 [(47, .v (.slice (some ⟨r12,0,none⟩) (xs.length + (k / 64) + 1) (xs.length + (k / 64) + 1))),(50, .v (.int .i64 (IntKind.i64.wrap (((i:Nat):Int) + ((k / 64:Nat):Int)))))] [] ?_)))
    rw [show IntKind.i64.wrap ((((i:Nat):Int) + ((k / 64:Nat):Int)))=((i + (k / 64):Nat):Int) from by rw [IntKind.wrap_i64]; omega]
    refine xq 1 [(51, .v (.int .i64 (IntKind.i64.wrap (((i + (k / 64):Nat):Int) + 1))))] [] ?_
    rw [show IntKind.i64.wrap ((((i + (k / 64):Nat):Int) + 1))=((i + (k / 64) + 1:Nat):Int) from by rw [IntKind.wrap_i64]; omega]
    refine xq 3 [(52, .v (.int .u64 ((x14:Nat):Int))),(54, .v (.int .u64 (IntKind.u64.wrap (64 - ((k % 64:Nat):Int)))))] [] ?_
    rw [show IntKind.u64.wrap ((64 - ((k % 64:Nat):Int)))=((64 - (k % 64):Nat):Int) from by rw [IntKind.wrap_u64]; have:=Zal; omega]
    refine xqk 55 (.int .u64 ((x14 / 2 ^ (64 - (k % 64)):Nat):Int)) (fun w R Q=>Zjf (t:=94) (x:=(Operand.tmp 52)) (y:=(Operand.tmp 54)) (k:=103) (ky:=.u64) (a:=x14) (n:=(64 - (k % 64))) (by omega)) ?_
    refine xqk 56 (.pointer (some ⟨r12,i + (k / 64) + 1,none⟩)) (fun w R Q=>Zbh (t:=77) (e:=94) (x:=(Operand.tmp 47)) (ix:=(Operand.tmp 51)) (len:=(xs.length + (k / 64) + 1)) (cap:=(xs.length + (k / 64) + 1)) (i:=i + (k / 64) + 1) (by omega)) ?_
    refine ZbO (t:=94) (x:=(Operand.tmp 56)) (y:=(Operand.tmp 55)) r12 (i + (k / 64) + 1) (x14 / 2 ^ (64 - (k % 64))) (fun w=>(Box (fun j=>r12≤j) w (fun w=>(Zae w (.slice A xs.length c) (val W64 xs)∧Zad .u64 w A (xs)))∧Own .u64 94 w r12 (((zs).set (i + (k / 64)) (x15 + x14 * 2 ^ (k % 64) % W64)).set (i + (k / 64) + 1) (x14 / 2 ^ (64 - (k % 64)))))) (fun w Q=>Q.2) (by simp only [List.length_set]; omega) (Or.inl hr12) (fun w w' Q hF hO=>⟨((Q.1).fr (hF.mono (fun _ _ e=>by rw [e]; exact Nat.le_refl _))),hO⟩) ?_
    refine xe (Zbk (Zab (Zaa (xq 1 [(57, .v (.int .i64 (IntKind.i64.wrap (((i:Nat):Int) + 1))))] [] ?_))))
    rw [show IntKind.i64.wrap ((((i:Nat):Int) + 1))=((i + 1:Nat):Int) from by rw [IntKind.wrap_i64]; omega]
    refine xq 1 [(31, .v (.int .i64 ((i + 1:Nat):Int)))] [] ?_
    refine xe ?_
    refine SXq.weak [(4, .v (.slice none 0 0)),(5, .v (.int .i64 ((k / 64:Nat):Int))),(6, .v (.int .u64 ((k % 64:Nat):Int))),(7, .v (.slice (some ⟨r12,0,none⟩) (xs.length + (k / 64) + 1) (xs.length + (k / 64) + 1))),(29, .v (.slice A xs.length c)),(30, .v (.int .i64 ((xs.length:Nat):Int))),(31, .v (.int .i64 (((i + 1):Nat):Int)))] [] (Ψ:=fun w=>(Box (fun j=>r12≤j) w (fun w=>(Zae w (.slice A xs.length c) (val W64 xs)∧Zad .u64 w A (xs)))∧Own .u64 94 w r12 ((((zs).set (i + (k / 64)) (x15 + x14 * 2 ^ (k % 64) % W64)).set (i + (k / 64) + 1) (x14 / 2 ^ (64 - (k % 64))))))) (ZaB.of (by kernel_rfl)) (by kernel_rfl) (fun w Q=>⟨Q.1,Q.2⟩) ?_
    exact Za3 ((xs.length - (i + 1))) (by omega) ⟨(i + 1),(((zs).set (i + (k / 64)) (x15 + x14 * 2 ^ (k % 64) % W64)).set (i + (k / 64) + 1) (x14 / 2 ^ (64 - (k % 64)))),rfl,rfl,HS.1,by omega,rfl⟩
   ·have hb13':=of_decide_eq_false hb13
    have hzl:=HR.1
    obtain rfl:i=xs.length:=by omega
    have HD:=HR.done
    rw [show 64 * (k / 64) + k % 64=k by omega] at HD
    refine Zbf (Zap (Zap (Zbs (Zab (Zac (Zaa (xq 1 [(58, .v (.slice (some ⟨r12,0,none⟩) (xs.length + (k / 64) + 1) (xs.length + (k / 64) + 1)))] [] ?_)))))))
    refine xqc 106 [.slice (some ⟨r12,0,none⟩) (xs.length + (k / 64) + 1) (xs.length + (k / 64) + 1)] 59 ZaJ _ (fun w R Q=>(ZdX Q.2 HR.2.1 HR.1 HD (by omega)).mono (fun _ _=>Zay)) (fun xx=>?_)
    obtain ⟨A16,l16,c16⟩:=xx
    refine xq 1 [eS1 4 A16 l16 c16] [] ?_
    refine xe (Zab (Zai ?_))
    refine Zag (v:=.slice A16 l16 c16) (by kernel_rfl) (fun w' R Q=>?_)
    exact ⟨_,rfl,Q.2,R⟩
theorem ZlW (A:Option Addr) (xs:List Nat) (c k:Nat) (w:World) (hN:Zae w (.slice A xs.length c) (val W64 xs)) (hX:Zad .u64 w A xs) (hl:xs.length≤4294967296) (hd:Dig W64 xs) (hk:k≤274877906944) :
 Calls Tryz.prog 128 #[.slice A xs.length c, .int .i64 ((k:Nat):Int)] w (ZaQ w (val W64 xs / 2 ^ k)):=by
 refine Zau (Φ:=fun w=>(Zae w (.slice A xs.length c) (val W64 xs)∧Zad .u64 w A xs)) Tryz.func128 rfl (by kernel_rfl) (fun w' hf=>⟨hN.ext hf,hX.ext hf⟩) ?_
 refine Zac (Zaa (xq 1 [eS1 4 none 0 0] [] ?_))
 refine xe (Zab (Zac (Zaa (xq 2 [(10, .v (.int .i64 (IntKind.i64.wrap ((((k:Nat):Int)).tdiv 64))))] [] ?_))))
 rw [show IntKind.i64.wrap (((((k:Nat):Int)).tdiv 64))=((k / 64:Nat):Int) from tdq (k) 64 (by omega)]
 refine xq 2 [(12, .v (.int .i64 ((((k:Nat):Int)).tmod 64)))] [] ?_
 rw [show (((k:Nat):Int)).tmod 64=((k % 64:Nat):Int) from tdr (k) 64]
 refine xq 1 [(13, .v (.int .u64 (IntKind.u64.wrap (((k % 64:Nat):Int)))))] [] ?_
 rw [show IntKind.u64.wrap (((k % 64:Nat):Int))=((k % 64:Nat):Int) from by rw [IntKind.wrap_u64]; omega]
 refine xq 2 [(5, .v (.int .i64 ((k / 64:Nat):Int))),(6, .v (.int .u64 ((k % 64:Nat):Int)))] [] ?_
 refine xe (Zab (Zac (Zac (Zaa (xq 4 [(17, .v (.bool (decide (((k / 64:Nat):Int) ≥ ((xs.length:Nat):Int)))))] [] ?_)))))
 refine xe (Zab ?_)
 refine Zas ((decide (((k / 64:Nat):Int) ≥ ((xs.length:Nat):Int)))) (by kernel_rfl) (fun hb10=>?_) (fun hb10=>?_)
 ·have hb10':=of_decide_eq_true hb10
  refine Zac (Zaa (xq 1 [eS1 4 none 0 0] [] ?_))
  refine xe (Zab (Zai (Zah ?_)))
  refine Zag (v:=.slice none 0 0) (by kernel_rfl) (fun w' R Q=>?_)
  exact ⟨_,rfl,by rw [ZgP hd (by omega)]; exact Zae.zero _,R⟩
 ·have hb10':=of_decide_eq_false hb10
  refine Zam (Zab (Zac (Zac (Zaa (xq 2 [(19, .v (.bool ((((k:Nat):Int):Int) == 0)))] [] ?_)))))
  refine xe (Zab ?_)
  refine Zas (((((k:Nat):Int):Int) == 0)) (by kernel_rfl) (fun hb11=>?_) (fun hb11=>?_)
  ·have hb11':=beq_iff_eq.1 hb11
   refine Zac (Zaa (xq 2 [eS1 4 A xs.length c] [] ?_))
   refine xe (Zab (Zai (Zah ?_)))
   refine Zag (v:=.slice A xs.length c) (by kernel_rfl) (fun w' R Q=>?_)
   exact ⟨_,rfl,by obtain rfl:k=0:=(by omega); rw [Nat.pow_zero,Nat.div_one]; exact Q.1,R⟩
  ·have hb11':=Za5 hb11
   refine Zam (Zab (Zac (Zaa (xq 4 [(24, .v (.int .i64 (IntKind.i64.wrap (((xs.length:Nat):Int) - ((k / 64:Nat):Int)))))] [] ?_))))
   rw [show IntKind.i64.wrap ((((xs.length:Nat):Int) - ((k / 64:Nat):Int)))=((xs.length - (k / 64):Nat):Int) from by rw [IntKind.wrap_i64]; omega]
   refine Zfm (d:=25) (t:=77) (e:=94) (k:=.u64) (kl:=.i64) (kc:=.i64) (l:=(Operand.tmp 24)) (c:=(Operand.tmp 24)) (xs.length - (k / 64)) 8 (by omega) (by decide) (fun r12 hr12 _=>?_)
   refine xr 1 [eS1 0 A xs.length c,eS1 4 none 0 0,(5, .v (.int .i64 ((k / 64:Nat):Int))),(6, .v (.int .u64 ((k % 64:Nat):Int))),(7, .v (.slice (some ⟨r12,0,none⟩) (xs.length - (k / 64)) (xs.length - (k / 64))))] [] ?_
   refine xe (Zab (Zac (Zac (Zaa (xq 3 [(27, .v (.int .i64 ((xs.length - (k / 64):Nat):Int))),(28, .v (.int .i64 0))] [] ?_)))))
   refine xe (Zab (Zax ?_))
   refine SXc.weak [(0, .v (.slice A xs.length c)),(4, .v (.slice none 0 0)),(5, .v (.int .i64 ((k / 64:Nat):Int))),(6, .v (.int .u64 ((k % 64:Nat):Int))),(7, .v (.slice (some ⟨r12,0,none⟩) (xs.length - (k / 64)) (xs.length - (k / 64)))),(27, .v (.int .i64 ((xs.length - (k / 64):Nat):Int))),(28, .v (.int .i64 ((0:Nat):Int)))] [] (Ψ:=fun w=>(Box (fun j=>r12≤j) w (fun w=>(Zae w (.slice A xs.length c) (val W64 xs)∧Zad .u64 w A (xs)))∧Own .u64 94 w r12 ((List.replicate (xs.length - (k / 64)) 0)))) (ZaB.of (by kernel_rfl)) (by kernel_rfl) (fun w Q=>⟨Q.1,Q.2⟩) ?_
   refine Zbv (fun nn ss ff=>∃ (i:Nat) (zs:List Nat),ss=ofL [(0, .v (.slice A xs.length c)),(4, .v (.slice none 0 0)),(5, .v (.int .i64 ((k / 64:Nat):Int))),(6, .v (.int .u64 ((k % 64:Nat):Int))),(7, .v (.slice (some ⟨r12,0,none⟩) (xs.length - (k / 64)) (xs.length - (k / 64)))),(27, .v (.int .i64 ((xs.length - (k / 64):Nat):Int))),(28, .v (.int .i64 ((i:Nat):Int)))] []∧ff=(fun w=>(Box (fun j=>r12≤j) w (fun w=>(Zae w (.slice A xs.length c) (val W64 xs)∧Zad .u64 w A (xs)))∧Own .u64 94 w r12 (zs)))∧(ZcQ (xs.drop (k / 64)) (k % 64) i zs)∧(i≤xs.length - k / 64)∧nn=(xs.length - k / 64 - i)) ((xs.length - k / 64 - 0)) ⟨0,(List.replicate (xs.length - (k / 64)) 0),rfl,rfl,(by have:=ZcQ.start (xs.drop (k / 64)) (k % 64); rwa [List.length_drop] at this),by omega,rfl⟩ ?_
   rintro nn ss ff ⟨i,zs,rfl,rfl,HR,hi,rfl⟩
   refine Zac (Zaa (xq 1 [(29, .v (.bool (decide (((i:Nat):Int) < ((xs.length - (k / 64):Nat):Int)))))] [] ?_))
   refine xe (Zab (Zac ?_))
   refine Zas ((decide (((i:Nat):Int) < ((xs.length - (k / 64):Nat):Int)))) (by kernel_rfl) (fun hb13=>?_) (fun hb13=>?_)
   ·have hb13':=of_decide_eq_true hb13
    have hzl:zs.length=xs.length - k / 64:=by rw [HR.1,List.length_drop]
    refine Zam (Zab (Zac (Zax (Zac (Zaa (xq 2 [(8, .v (.int .i64 ((i:Nat):Int)))] [] ?_))))))
    refine xe (Zab (Zac (Zaa (xq 6 [(31, .v (.slice (some ⟨r12,0,none⟩) (xs.length - (k / 64)) (xs.length - (k / 64)))),(32, .v (.int .i64 ((i:Nat):Int))),eS1 33 A xs.length c,(36, .v (.int .i64 (IntKind.i64.wrap (((i:Nat):Int) + ((k / 64:Nat):Int)))))] [] ?_))))
    rw [show IntKind.i64.wrap ((((i:Nat):Int) + ((k / 64:Nat):Int)))=((i + (k / 64):Nat):Int) from by rw [IntKind.wrap_i64]; omega]
    refine xqk 37 (atA A (i + (k / 64))) (fun w R Q=>ZaG (t:=77) (e:=94) (x:=(Operand.tmp 33)) (ix:=(Operand.tmp 36)) (len:=xs.length) (cap:=c) (i:=i + (k / 64)) (((Q.1).self.2).ne (j:=i + (k / 64)) (by omega)) (by omega)) ?_
    obtain ⟨x14,hx14⟩:∃ x,xs[i + (k / 64)]?.getD 0=x:=⟨_,rfl⟩
    refine xqk 38 (.int .u64 ((x14:Nat):Int)) (fun w R Q=>by rw [← hx14]; exact ZaV (t:=94) (x:=(Operand.tmp 37)) ((Q.1).self.2) (j:=i + (k / 64)) (by omega)) ?_
    refine xq 1 [(39, .v (.int .u64 ((k % 64:Nat):Int)))] [] ?_
    refine xqk 40 (.int .u64 ((x14 / 2 ^ (k % 64):Nat):Int)) (fun w R Q=>Zjf (t:=94) (x:=(Operand.tmp 38)) (y:=(Operand.tmp 39)) (k:=103) (ky:=.u64) (a:=x14) (n:=(k % 64)) (by omega)) ?_
    refine xqk 41 (.pointer (some ⟨r12,i,none⟩)) (fun w R Q=>Zbh (t:=77) (e:=94) (x:=(Operand.tmp 31)) (ix:=(Operand.tmp 32)) (len:=(xs.length - (k / 64))) (cap:=(xs.length - (k / 64))) (i:=i) (by omega)) ?_
    refine ZbO (t:=94) (x:=(Operand.tmp 41)) (y:=(Operand.tmp 40)) r12 (i) (x14 / 2 ^ (k % 64)) (fun w=>(Box (fun j=>r12≤j) w (fun w=>(Zae w (.slice A xs.length c) (val W64 xs)∧Zad .u64 w A (xs)))∧Own .u64 94 w r12 ((zs).set (i) (x14 / 2 ^ (k % 64))))) (fun w Q=>Q.2) (by omega) (Or.inl hr12) (fun w w' Q hF hO=>⟨((Q.1).fr (hF.mono (fun _ _ e=>by rw [e]; exact Nat.le_refl _))),hO⟩) ?_
    refine xe (Zab (Zac (Zaa (xq 3 [(44, .v (.int .i64 (IntKind.i64.wrap (((i:Nat):Int) + ((k / 64:Nat):Int)))))] [] ?_))))
    rw [show IntKind.i64.wrap ((((i:Nat):Int) + ((k / 64:Nat):Int)))=((i + (k / 64):Nat):Int) from by rw [IntKind.wrap_i64]; omega]
    refine xq 1 [(45, .v (.int .i64 (IntKind.i64.wrap (((i + (k / 64):Nat):Int) + 1))))] [] ?_
    rw [show IntKind.i64.wrap ((((i + (k / 64):Nat):Int) + 1))=((i + (k / 64) + 1:Nat):Int) from by rw [IntKind.wrap_i64]; omega]
    refine xq 3 [(48, .v (.bool (decide (((i + (k / 64) + 1:Nat):Int) < ((xs.length:Nat):Int)))))] [] ?_
    refine xe (Zab ?_)
    refine Zas ((decide (((i + (k / 64) + 1:Nat):Int) < ((xs.length:Nat):Int)))) (by kernel_rfl) (fun hb15=>?_) (fun hb15=>?_)
    ·have hb15':=of_decide_eq_true hb15
     refine Zi4 16 [0,0,3,7,0,0,0,96,224,496,1008,0,2048,8176,16383,32767] (by kernel_rfl) (by kernel_rfl) ZaA ?_
     refine xqf 2 [(49, .v (.slice (some ⟨r12,0,none⟩) (xs.length - (k / 64)) (xs.length - (k / 64)))),(50, .v (.int .i64 ((i:Nat):Int)))] [] ?_
     refine xqj 51 (.pointer (some ⟨r12,i,none⟩)) (fun w Q=>Zbh (t:=77) (e:=94) (x:=(Operand.tmp 49)) (ix:=(Operand.tmp 50)) (len:=(xs.length - (k / 64))) (cap:=(xs.length - (k / 64))) (i:=i) (by omega)) ?_
     obtain ⟨x16,hx16⟩:∃ x,((zs).set (i) (x14 / 2 ^ (k % 64)))[i]?.getD 0=x:=⟨_,rfl⟩
     refine xqj 52 (.int .u64 ((x16:Nat):Int)) (fun w Q=>by rw [← hx16]; exact Zb9 (t:=94) (x:=(Operand.tmp 51)) (Q.2) (j:=i) (by simp only [List.length_set]; omega)) ?_
     obtain rfl:x16=x14 / 2 ^ (k % 64):=by rw [← hx16,List.getElem?_set_self (by omega)]; rfl
     refine xqf 4 [eS1 53 A xs.length c,(56, .v (.int .i64 (IntKind.i64.wrap (((i:Nat):Int) + ((k / 64:Nat):Int)))))] [] ?_
     rw [show IntKind.i64.wrap ((((i:Nat):Int) + ((k / 64:Nat):Int)))=((i + (k / 64):Nat):Int) from by rw [IntKind.wrap_i64]; omega]
     refine xqf 1 [(57, .v (.int .i64 (IntKind.i64.wrap (((i + (k / 64):Nat):Int) + 1))))] [] ?_
     rw [show IntKind.i64.wrap ((((i + (k / 64):Nat):Int) + 1))=((i + (k / 64) + 1:Nat):Int) from by rw [IntKind.wrap_i64]; omega]
     refine xqj 58 (atA A (i + (k / 64) + 1)) (fun w Q=>ZaG (t:=77) (e:=94) (x:=(Operand.tmp 53)) (ix:=(Operand.tmp 57)) (len:=xs.length) (cap:=c) (i:=i + (k / 64) + 1) (((Q.1).self.2).ne (j:=i + (k / 64) + 1) (by omega)) (by omega)) ?_
     obtain ⟨x17,hx17⟩:∃ x,xs[i + (k / 64) + 1]?.getD 0=x:=⟨_,rfl⟩
     refine xqj 59 (.int .u64 ((x17:Nat):Int)) (fun w Q=>by rw [← hx17]; exact ZaV (t:=94) (x:=(Operand.tmp 58)) ((Q.1).self.2) (j:=i + (k / 64) + 1) (by omega)) ?_
     refine xqf 2 [(61, .v (.int .u64 (IntKind.u64.wrap (64 - ((k % 64:Nat):Int)))))] [] ?_
     rw [show IntKind.u64.wrap ((64 - ((k % 64:Nat):Int)))=((64 - (k % 64):Nat):Int) from by rw [IntKind.wrap_u64]; have:=Zal; omega]
     refine xqj 62 (.int .u64 ((x17 * 2 ^ (64 - (k % 64)) % W64:Nat):Int)) (fun w Q=>ZlU (t:=94) (x:=(Operand.tmp 59)) (y:=(Operand.tmp 61)) (k:=103) (ky:=.u64) (a:=x17) (n:=(64 - (k % 64))) (by omega)) ?_
     have HS:=HR.step (k:=i) (x:=x14) (y:=x17) (by omega) (by rw [List.length_drop]; omega) (by rw [List.getElem?_drop,Nat.add_comm]; exact hx14) (by rw [List.getElem?_drop,show k / 64 + (i + 1)=i + k / 64 + 1 by omega]; exact hx17) (by rw [← hx14]; exact hd.getD Zaf _)
     refine xqj 63 (.int .u64 ((x14 / 2 ^ (k % 64) + x17 % 2 ^ (k % 64) * 2 ^ (64 - k % 64):Nat):Int)) (fun w Q=>Zns (t:=94) (x:=(Operand.tmp 52)) (y:=(Operand.tmp 62)) (k:=94) (a:=((x14 / 2 ^ (k % 64)))) (b:=(x17 * 2 ^ (64 - (k % 64)) % W64)) (Nat.lt_of_le_of_lt (Nat.div_le_self _ _) (by rw [← hx14]; exact hd.getD Zaf _)) (Nat.mod_lt _ Zaf) (Zlx (by omega) (by rw [← hx14]; exact hd.getD Zaf _))) ?_
     refine xqj 64 (.pointer (some ⟨r12,i,none⟩)) (fun w Q=>Zbh (t:=77) (e:=94) (x:=(Operand.tmp 49)) (ix:=(Operand.tmp 50)) (len:=(xs.length - (k / 64))) (cap:=(xs.length - (k / 64))) (i:=i) (by omega)) ?_
     refine xz ?_
     refine ZbO (t:=94) (x:=(Operand.tmp 64)) (y:=(Operand.tmp 63)) r12 (i) (x14 / 2 ^ (k % 64) + x17 % 2 ^ (k % 64) * 2 ^ (64 - k % 64)) (fun w=>(Box (fun j=>r12≤j) w (fun w=>(Zae w (.slice A xs.length c) (val W64 xs)∧Zad .u64 w A (xs)))∧Own .u64 94 w r12 (((zs).set (i) (x14 / 2 ^ (k % 64))).set (i) (x14 / 2 ^ (k % 64) + x17 % 2 ^ (k % 64) * 2 ^ (64 - k % 64))))) (fun w Q=>Q.2) (by simp only [List.length_set]; omega) (Or.inl hr12) (fun w w' Q hF hO=>⟨((Q.1).fr (hF.mono (fun _ _ e=>by rw [e]; exact Nat.le_refl _))),hO⟩) ?_
     refine xe (Zbk (Zab (Zaa (xq 1 [(65, .v (.int .i64 (IntKind.i64.wrap (((i:Nat):Int) + 1))))] [] ?_))))
     rw [show IntKind.i64.wrap ((((i:Nat):Int) + 1))=((i + 1:Nat):Int) from by rw [IntKind.wrap_i64]; omega]
     refine xr 1 [eS1 0 A xs.length c,eS1 4 none 0 0,(5, .v (.int .i64 ((k / 64:Nat):Int))),(6, .v (.int .u64 ((k % 64:Nat):Int))),(7, .v (.slice (some ⟨r12,0,none⟩) (xs.length - (k / 64)) (xs.length - (k / 64)))),(27, .v (.int .i64 ((xs.length - (k / 64):Nat):Int))),(28, .v (.int .i64 ((i + 1:Nat):Int)))] [] ?_
     refine xe ?_
     refine SXq.weak [(0, .v (.slice A xs.length c)),(4, .v (.slice none 0 0)),(5, .v (.int .i64 ((k / 64:Nat):Int))),(6, .v (.int .u64 ((k % 64:Nat):Int))),(7, .v (.slice (some ⟨r12,0,none⟩) (xs.length - (k / 64)) (xs.length - (k / 64)))),(27, .v (.int .i64 ((xs.length - (k / 64):Nat):Int))),(28, .v (.int .i64 (((i + 1):Nat):Int)))] [] (Ψ:=fun w=>(Box (fun j=>r12≤j) w (fun w=>(Zae w (.slice A xs.length c) (val W64 xs)∧Zad .u64 w A (xs)))∧Own .u64 94 w r12 ((((zs).set (i) (x14 / 2 ^ (k % 64))).set (i) (x14 / 2 ^ (k % 64) + x17 % 2 ^ (k % 64) * 2 ^ (64 - k % 64)))))) (ZaB.of (by kernel_rfl)) (by kernel_rfl) (fun w Q=>⟨Q.1,Q.2⟩) ?_
     exact Za3 ((xs.length - k / 64 - (i + 1))) (by omega) ⟨(i + 1),(((zs).set (i) (x14 / 2 ^ (k % 64))).set (i) (x14 / 2 ^ (k % 64) + x17 % 2 ^ (k % 64) * 2 ^ (64 - k % 64))),rfl,rfl,(by rw [List.set_set]; exact HS),by omega,rfl⟩
    ·have hb15':=of_decide_eq_false hb15
     have HS:=HR.step (k:=i) (x:=x14) (y:=0) (by omega) (by rw [List.length_drop]; omega) (by rw [List.getElem?_drop,Nat.add_comm]; exact hx14) (by rw [List.getElem?_drop,List.getElem?_eq_none (by omega)]; rfl) (by rw [← hx14]; exact hd.getD Zaf _)
     rw [Nat.zero_mod,Nat.zero_mul,Nat.add_zero] at HS
     refine Zam (Zbk (Zab (Zaa (xq 1 [(65, .v (.int .i64 (IntKind.i64.wrap (((i:Nat):Int) + 1))))] [] ?_))))
     rw [show IntKind.i64.wrap ((((i:Nat):Int) + 1))=((i + 1:Nat):Int) from by rw [IntKind.wrap_i64]; omega]
     refine xq 1 [(28, .v (.int .i64 ((i + 1:Nat):Int)))] [] ?_
     refine xe ?_
     refine SXq.weak [(0, .v (.slice A xs.length c)),(4, .v (.slice none 0 0)),(5, .v (.int .i64 ((k / 64:Nat):Int))),(6, .v (.int .u64 ((k % 64:Nat):Int))),(7, .v (.slice (some ⟨r12,0,none⟩) (xs.length - (k / 64)) (xs.length - (k / 64)))),(27, .v (.int .i64 ((xs.length - (k / 64):Nat):Int))),(28, .v (.int .i64 (((i + 1):Nat):Int)))] [] (Ψ:=fun w=>(Box (fun j=>r12≤j) w (fun w=>(Zae w (.slice A xs.length c) (val W64 xs)∧Zad .u64 w A (xs)))∧Own .u64 94 w r12 (((zs).set (i) (x14 / 2 ^ (k % 64)))))) (ZaB.of (by kernel_rfl)) (by kernel_rfl) (fun w Q=>⟨Q.1,Q.2⟩) ?_
     exact Za3 ((xs.length - k / 64 - (i + 1))) (by omega) ⟨(i + 1),((zs).set (i) (x14 / 2 ^ (k % 64))),rfl,rfl,HS,by omega,rfl⟩
   ·have hb13':=of_decide_eq_false hb13
    have hzl:zs.length=xs.length - k / 64:=by rw [HR.1,List.length_drop]
    obtain rfl:i=xs.length - k / 64:=by omega
    have HD:=HR
    rw [← List.length_drop] at HD
    replace HD:=HD.done
    rw [ZhL xs (k / 64) (k % 64) hd (by omega),show 64 * (k / 64) + k % 64=k by omega] at HD
    refine Zbf (Zap (Zap (Zbs (Zab (Zac (Zaa (xq 1 [(66, .v (.slice (some ⟨r12,0,none⟩) (xs.length - (k / 64)) (xs.length - (k / 64))))] [] ?_)))))))
    refine xqc 106 [.slice (some ⟨r12,0,none⟩) (xs.length - (k / 64)) (xs.length - (k / 64))] 67 ZaJ _ (fun w R Q=>(ZdX Q.2 HR.2.1 hzl HD (by omega)).mono (fun _ _=>Zay)) (fun xx=>?_)
    obtain ⟨A18,l18,c18⟩:=xx
    refine xq 1 [eS1 4 A18 l18 c18] [] ?_
    refine xe (Zab (Zai ?_))
    refine Zag (v:=.slice A18 l18 c18) (by kernel_rfl) (fun w' R Q=>?_)
    exact ⟨_,rfl,Q.2,R⟩
end Go.Proofs.YtklpdkpcocnglaaGreatDoor

namespace Go.Proofs.YtklpdkpcocnglaaGreatDoor
open Go.RowKit
end Go.Proofs.YtklpdkpcocnglaaGreatDoor

namespace Go.Proofs.YtklpdkpcocnglaaGreatDoor
open Go.RowKit
def blen (n:Nat):Nat:=if n=0 then 0 else n.log2 + 1
theorem ZdY:blen 0=0:=rfl
theorem Zc0 (n:Nat):n < 2 ^ blen n:=by
 unfold blen
 split
 ·rename_i h; subst h; decide
 ·rename_i h; exact (Nat.log2_lt h).1 (Nat.lt_succ_self _)
theorem ZbD {n k:Nat}:blen n≤k ↔ n < 2 ^ k:=by
 unfold blen
 split
 ·rename_i h; subst h; simp [Nat.pow_pos]
 ·rename_i h; rw [← Nat.log2_lt h]; omega
theorem Zij {n:Nat} (h:0 < n):blen n=blen (n / 2) + 1:=by
 have h1:blen (n / 2) + 1≤blen n:=by
  have:blen (n / 2)≤blen n - 1:=ZbD.2 (by
   have h2:=Zc0 n
   have h3:0 < blen n:=by unfold blen; rw [if_neg (by omega)]; omega
   obtain ⟨k,hk⟩:∃ k,blen n=k + 1:=⟨blen n - 1,by omega⟩
   rw [hk] at h2 ⊢
   rw [Nat.pow_succ] at h2
   show n / 2 < 2 ^ (k + 1 - 1)
   rw [Nat.add_sub_cancel]
   omega)
  have h3:0 < blen n:=by unfold blen; rw [if_neg (by omega)]; omega
  omega
 have h2:blen n≤blen (n / 2) + 1:=ZbD.2 (by
  have:=Zc0 (n / 2)
  rw [Nat.pow_succ]
  omega)
 omega
theorem ZmT:blen 1=1:=by decide
theorem ZmU {B k t low:Nat} (hl:low < 2 ^ (B * k)) (ht:0 < t):blen (low + 2 ^ (B * k) * t)=B * k + blen t:=by
 have h1:=Zc0 t
 have h2:blen (low + 2 ^ (B * k) * t)≤B * k + blen t:=ZbD.2 (by
  rw [Nat.pow_add]
  have:2 ^ (B * k) * (t + 1)≤2 ^ (B * k) * 2 ^ blen t:=Nat.mul_le_mul_left _ h1
  rw [Nat.mul_add] at this
  omega)
 have h3:¬ blen (low + 2 ^ (B * k) * t)≤B * k + blen t - 1:=fun h=>by
  have h4:=ZbD.1 h
  obtain ⟨j,hj⟩:∃ j,blen t=j + 1:=⟨blen t - 1,by have:=Zij ht; omega⟩
  rw [hj,show B * k + (j + 1) - 1=B * k + j by omega,Nat.pow_add] at h4
  have h5:2 ^ j≤t:=by
   rcases Nat.lt_or_ge t (2 ^ j) with h | h
   ·have:=ZbD.2 h; omega
   ·exact h
  have:2 ^ (B * k) * 2 ^ j≤2 ^ (B * k) * t:=Nat.mul_le_mul_left _ h5
  omega
 have:0 < blen t:=by have:=Zij ht; omega
 omega
end Go.Proofs.YtklpdkpcocnglaaGreatDoor

namespace Go.Proofs.YtklpdkpcocnglaaGreatDoor
theorem Zdm {n k:Nat}:k < blen n ↔ 2 ^ k≤n:=by have:=@ZbD n k; omega
theorem Zde {n:Nat} (h:0 < n):0 < blen n:=Zdm.2 (by rw [Nat.pow_zero]; exact h)
theorem Ze3 {n k:Nat} (h1:2 ^ k≤n) (h2:n < 2 ^ (k + 1)):blen n=k + 1:=by
 have:=Zdm.2 h1; have:=ZbD.2 h2; omega
theorem Zfp {n:Nat} (h:0 < n):2 ^ (blen n - 1)≤n:=Zdm.1 (by have:=Zde h; omega)
theorem p2 (k:Nat):0 < 2 ^ k:=Nat.pow_pos (by decide)
theorem ZeD {n:Nat} (h:0 < n) (j:Nat):blen (n * 2 ^ j)=blen n + j:=by
 have h1:=Zfp h
 have h2:=Zc0 n
 obtain ⟨k,hk⟩:∃ k,blen n=k + 1:=⟨blen n - 1,by have:=Zde h; omega⟩
 rw [hk] at h1 h2 ⊢
 rw [show k + 1 + j=k + j + 1 by omega]
 refine Ze3 ?_ ?_
 ·rw [Nat.pow_add]; exact Nat.mul_le_mul_right _ (by simpa using h1)
 ·rw [show k + j + 1=k + 1 + j by omega,Nat.pow_add]; exact (Nat.mul_lt_mul_right (p2 j)).2 h2
theorem ZdZ (n j:Nat):blen (n / 2 ^ j)=blen n - j:=by
 rcases Nat.lt_or_ge j (blen n) with h | h
 ·have hn:0 < n:=by rcases Nat.eq_zero_or_pos n with e | e; · subst e; rw [ZdY] at h; omega
                    ·exact e
  have h1:=Zfp hn
  have h2:=Zc0 n
  obtain ⟨k,hk⟩:∃ k,blen n=j + (k + 1):=⟨blen n - j - 1,by omega⟩
  rw [hk] at h1 h2 ⊢
  rw [show j + (k + 1) - j=k + 1 by omega]
  refine Ze3 ?_ ?_
  ·rw [Nat.le_div_iff_mul_le (p2 j),← Nat.pow_add]; rw [show j + (k + 1) - 1=k + j by omega] at h1; exact h1
  ·rw [Nat.div_lt_iff_lt_mul (p2 j),← Nat.pow_add,Nat.add_comm]; exact h2
 ·rw [Nat.div_eq_of_lt (ZbD.1 h),ZdY]; omega
def Zca (a b:Nat):Nat:=if b < 2 * (a % b)∨(2 * (a % b)=b∧a / b % 2=1) then a / b + 1 else a / b
theorem ZkX {a b c:Nat} (hc:0 < c):Zca (a * c) (b * c)=Zca a b:=by
 unfold Zca
 rw [Nat.mul_mod_mul_right,Nat.mul_div_mul_right _ _ hc,← Nat.mul_assoc]
 have e1:b * c < 2 * (a % b) * c ↔ b < 2 * (a % b):=Nat.mul_lt_mul_right hc
 have e2:2 * (a % b) * c=b * c ↔ 2 * (a % b)=b:=⟨fun h=>Nat.eq_of_mul_eq_mul_right hc h,fun h=>by rw [h]⟩
 simp only [e1,e2]
theorem ZmV (a:Nat):Zca a 1=a:=by unfold Zca; rw [Nat.mod_one,Nat.div_one,if_neg (by omega)]
def ZdO (q j:Nat) (m:Bool):Nat:=if q / 2 ^ j % 2=1∧(q % 2 ^ j≠0∨q / 2 ^ (j + 1) % 2=1∨m=true) then q / 2 ^ (j + 1) + 1 else q / 2 ^ (j + 1)
theorem ZkY {a b j:Nat} (hb:0 < b):Zca a (b * 2 ^ (j + 1))=ZdO (a / b) j (decide (a % b≠0)):=by
 unfold Zca ZdO
 have hq:a / (b * 2 ^ (j + 1))=a / b / 2 ^ (j + 1):=(Nat.div_div_eq_div_mul _ _ _).symm
 have h0:=Nat.div_add_mod a b
 have hr:=Nat.mod_lt a hb
 rw [hq]
 generalize a / b=q at *
 generalize a % b=r at *
 obtain ⟨h,hh⟩:∃ h,h=2 ^ j:=⟨_,rfl⟩
 have hp:0 < h:=by rw [hh]; exact p2 j
 have e1:2 ^ (j + 1)=h * 2:=by rw [Nat.pow_succ,hh]
 have h1:=Nat.div_add_mod q h
 have hz:=Nat.mod_lt q hp
 rw [e1,← hh,← Nat.div_div_eq_div_mul]
 generalize q / h=p at *
 generalize q % h=z at *
 have h2:=Nat.div_add_mod p 2
 have hs:=Nat.mod_lt p (show 0 < 2 by decide)
 generalize p / 2=u at *
 generalize p % 2=s at *
 have hR:a % (b * (h * 2))=b * (h * s + z) + r:=by
  have e:a=b * (h * 2) * u + (b * (h * s + z) + r):=by
   rw [← h0,← h1,← h2]
   simp only [Nat.mul_add,Nat.mul_assoc,Nat.add_assoc]
  have hlt:b * (h * s + z) + r < b * (h * 2):=by
   have k1:h * s + z + 1≤h * 2:=by
    have:h * s≤h * 1:=Nat.mul_le_mul_left _ (by omega)
    omega
   have k2:=Nat.mul_le_mul_left b k1
   rw [Nat.mul_add,Nat.mul_one] at k2
   omega
  rw [e,Nat.mul_add_mod,Nat.mod_eq_of_lt hlt]
 rw [hR]
 have kz:b * z + b≤b * h:=by
  have:=Nat.mul_le_mul_left b (show z + 1≤h by omega)
  rwa [Nat.mul_add,Nat.mul_one] at this
 have e3:b * (h * 2)=2 * (b * h):=by rw [← Nat.mul_assoc,Nat.mul_comm]
 have hzz:z=0∨b≤b * z:=by
  rcases Nat.eq_zero_or_pos z with e | e
  ·exact Or.inl e
  ·exact Or.inr (by have:=Nat.mul_le_mul_left b e; simpa using this)
 rcases (by omega:s=0∨s=1) with rfl | rfl
 ·rw [if_neg,if_neg (by omega)]
  rw [Nat.mul_zero,Nat.zero_add,e3]
  omega
 ·rw [Nat.mul_one,Nat.mul_add b h z,e3]
  have c1:(2 * (b * h) < 2 * (b * h + b * z + r)) ↔ (z≠0∨r≠0):=by
   constructor
   ·intro hc
    rcases Nat.eq_zero_or_pos z with e | e
    ·subst e; right; intro er; subst er; simp at hc
    ·left; omega
   ·intro hc
    rcases hzz with e | e
    ·subst e; rcases hc with hc | hc; · exact absurd rfl hc
     ·simp; omega
    ·omega
  have c2:(2 * (b * h + b * z + r)=2 * (b * h)) ↔ (z=0∧r=0):=by
   constructor
   ·intro hc
    rcases hzz with e | e
    ·subst e; refine ⟨rfl,?_⟩; rw [Nat.mul_zero] at hc; omega
    ·omega
   ·rintro ⟨rfl,rfl⟩; simp
  simp only [c1,c2]
  by_cases d1:z=0<;>by_cases d2:r=0<;>by_cases d3:u % 2=1<;>simp [d1,d2,d3]
def fa (n:Nat) (k:Int):Nat:=n * 2 ^ (-k).toNat
def fb (d:Nat) (k:Int):Nat:=d * 2 ^ k.toNat
def fq (n d:Nat) (k:Int):Nat:=fa n k / fb d k
theorem ZlX {d:Nat} (h:0 < d) (k:Int):0 < fb d k:=Nat.mul_pos h (p2 _)
theorem Zkj (n d:Nat) (k:Int) (j:Nat):∃ c,0 < c∧fa n k=fa n (k + j) * c∧fb d k * 2 ^ j=fb d (k + j) * c:=by
 unfold fa fb
 rcases Int.le_total 0 k with h | h
 ·obtain ⟨m,rfl⟩:=Int.eq_ofNat_of_zero_le h
  refine ⟨1,by decide,?_,?_⟩
  ·rw [show (-(m:Int)).toNat=0 by omega,show (-((m:Int) + j)).toNat=0 by omega]; simp
  ·rw [show ((m:Int)).toNat=m by omega,show ((m:Int) + j).toNat=m + j by omega,Nat.mul_assoc,← Nat.pow_add,Nat.mul_one]
 ·obtain ⟨m,hm⟩:=Int.eq_ofNat_of_zero_le (show 0 ≤ -k by omega)
  obtain rfl:k = -(m:Int):=by omega
  rcases Nat.le_total j m with h2 | h2
  ·refine ⟨2 ^ j,p2 j,?_,?_⟩
   ·rw [show (- -(m:Int)).toNat=m by omega,show (-(-(m:Int) + j)).toNat=m - j by omega,Nat.mul_assoc,← Nat.pow_add,Nat.sub_add_cancel h2]
   ·rw [show (-(m:Int)).toNat=0 by omega,show (-(m:Int) + j).toNat=0 by omega]
  ·refine ⟨2 ^ m,p2 m,?_,?_⟩
   ·rw [show (- -(m:Int)).toNat=m by omega,show (-(-(m:Int) + j)).toNat=0 by omega]; simp
   ·rw [show (-(m:Int)).toNat=0 by omega,show (-(m:Int) + j).toNat=j - m by omega,Nat.mul_assoc,Nat.mul_assoc,← Nat.pow_add,← Nat.pow_add,Nat.sub_add_cancel h2,Nat.zero_add]
theorem Zf4 (n d:Nat) (k:Int) (j:Nat):fq n d (k + j)=fq n d k / 2 ^ j:=by
 obtain ⟨c,hc,h1,h2⟩:=Zkj n d k j
 unfold fq
 rw [Nat.div_div_eq_div_mul,h1,h2,Nat.mul_div_mul_right _ _ hc]
theorem ZmW {n d:Nat} (k:Int) (j:Nat) (hd:0 < d):Zca (fa n (k + (j + 1:Nat))) (fb d (k + (j + 1:Nat)))=ZdO (fq n d k) j (decide (fa n k % fb d k≠0)):=by
 obtain ⟨c,hc,h1,h2⟩:=Zkj n d k (j + 1)
 unfold fq
 rw [← ZkY (ZlX hd k),h2,h1,ZkX hc]
def rk0 (n d bits:Nat):Int:=(blen n:Int) - blen d - bits
theorem Zjh {n d bits:Nat} (hn:0 < n) (hd:0 < d) (hb:0 < bits):bits≤blen (fq n d (rk0 n d bits))∧blen (fq n d (rk0 n d bits))≤bits + 1:=by
 have n1:=Zfp hn
 have n2:=Zc0 n
 have d1:=Zfp hd
 have d2:=Zc0 d
 obtain ⟨p,hp⟩:∃ p,blen n=p + 1:=⟨blen n - 1,by have:=Zde hn; omega⟩
 obtain ⟨q,hq⟩:∃ q,blen d=q + 1:=⟨blen d - 1,by have:=Zde hd; omega⟩
 obtain ⟨b,rfl⟩:∃ b,bits=b + 1:=⟨bits - 1,by omega⟩
 have key:fb d (rk0 n d (b + 1)) * 2 ^ b≤fa n (rk0 n d (b + 1))∧fa n (rk0 n d (b + 1)) < fb d (rk0 n d (b + 1)) * 2 ^ (b + 2):=by
  unfold fa fb rk0
  rw [hp] at n1 n2 ⊢
  rw [hq] at d1 d2 ⊢
  rw [Nat.add_sub_cancel] at n1 d1
  rcases Int.le_total 0 ((p + 1:Nat) - (q + 1:Nat) - (b + 1:Nat):Int) with h | h
  ·obtain ⟨m,hm⟩:=Int.eq_ofNat_of_zero_le h
   have hp2:p=q + m + b + 1:=by omega
   subst hp2
   rw [hm,show ((m:Nat):Int).toNat=m by omega,show (-((m:Nat):Int)).toNat=0 by omega]
   simp only [Nat.pow_zero,Nat.mul_one]
   constructor
   ·refine Nat.le_trans ?_ n1
    rw [show q + m + b + 1=(q + 1) + (m + b) by omega,Nat.pow_add,Nat.mul_assoc,← Nat.pow_add]
    exact Nat.mul_le_mul_right _ (Nat.le_of_lt d2)
   ·refine Nat.lt_of_lt_of_le n2 ?_
    rw [show q + m + b + 1 + 1=q + (m + (b + 2)) by omega,Nat.pow_add 2 q,Nat.mul_assoc,← Nat.pow_add 2 m]
    exact Nat.mul_le_mul_right _ d1
  ·obtain ⟨m,hm⟩:=Int.eq_ofNat_of_zero_le (show 0 ≤ -((p + 1:Nat) - (q + 1:Nat) - (b + 1:Nat):Int) by omega)
   have hp2:p + m=q + b + 1:=by omega
   rw [hm,show ((m:Nat):Int).toNat=m by omega,show ((p + 1:Nat) - (q + 1:Nat) - (b + 1:Nat):Int).toNat=0 by omega]
   simp only [Nat.pow_zero,Nat.mul_one]
   constructor
   ·refine Nat.le_trans ?_ (Nat.mul_le_mul_right _ n1)
    rw [← Nat.pow_add,hp2,show q + b + 1=(q + 1) + b by omega,Nat.pow_add]
    exact Nat.mul_le_mul_right _ (Nat.le_of_lt d2)
   ·refine Nat.lt_of_lt_of_le ((Nat.mul_lt_mul_right (p2 m)).2 n2) ?_
    rw [← Nat.pow_add,show p + 1 + m=q + (b + 2) by omega,Nat.pow_add]
    exact Nat.mul_le_mul_right _ d1
 have hfb:=ZlX hd (rk0 n d (b + 1))
 constructor
 ·have:2 ^ b≤fq n d (rk0 n d (b + 1)):=by
   unfold fq
   rw [Nat.le_div_iff_mul_le hfb,Nat.mul_comm]; exact key.1
  have:=Zdm.2 this
  omega
 ·refine ZbD.2 ?_
  unfold fq
  rw [Nat.div_lt_iff_lt_mul hfb,Nat.mul_comm]; exact key.2
def rndK (n d bits:Nat):Int:=if blen (fq n d (rk0 n d bits))=bits then rk0 n d bits else rk0 n d bits + 1
theorem Zik {n d bits:Nat} (hn:0 < n) (hd:0 < d) (hb:0 < bits):blen (fq n d (rndK n d bits))=bits:=by
 obtain ⟨h1,h2⟩:=Zjh hn hd hb
 unfold rndK
 split
 ·assumption
 ·have:=Zf4 n d (rk0 n d bits) 1
  rw [show (rk0 n d bits + 1:Int)=rk0 n d bits + (1:Nat) by simp,this,ZdZ]
  omega
theorem ZhV {n d bits:Nat} (hn:0 < n) (hd:0 < d) (hb:0 < bits) {k:Int} (h:blen (fq n d k)=bits):rndK n d bits=k:=by
 have h2:=Zik hn hd hb
 rcases Int.lt_trichotomy (rndK n d bits) k with h3 | h3 | h3
 ·obtain ⟨j,hj⟩:=Int.eq_ofNat_of_zero_le (show 0≤k - rndK n d bits by omega)
  have:=Zf4 n d (rndK n d bits) j
  rw [show rndK n d bits + (j:Int)=k by omega] at this
  rw [this,ZdZ,h2] at h
  omega
 ·exact h3
 ·obtain ⟨j,hj⟩:=Int.eq_ofNat_of_zero_le (show 0≤rndK n d bits - k by omega)
  have:=Zf4 n d k j
  rw [show k + (j:Int)=rndK n d bits by omega] at this
  rw [this,ZdZ,h] at h2
  omega
def rndM (n d bits:Nat):Nat:=Zca (fa n (rndK n d bits)) (fb d (rndK n d bits))
theorem ZnJ (a b:Nat):a / b≤Zca a b∧Zca a b≤a / b + 1:=by unfold Zca; split<;>omega
theorem Zf5 {n d bits:Nat} (hn:0 < n) (hd:0 < d) (hb:0 < bits) (k:Int) (j:Nat) (h:blen (fq n d k)=bits + (j + 1)) :
 rndK n d bits=k + (j + 1:Nat)∧rndM n d bits=ZdO (fq n d k) j (decide (fa n k % fb d k≠0)):=by
 have h1:rndK n d bits=k + (j + 1:Nat):=ZhV hn hd hb (by rw [Zf4,ZdZ,h]; omega)
 refine ⟨h1,?_⟩
 unfold rndM
 rw [h1,ZmW k j hd]
theorem ZnK {n bits:Nat} (hn:0 < n) (hb:0 < bits) (h:blen n≤bits):rndK n 1 bits=(blen n:Int) - bits∧rndM n 1 bits=n * 2 ^ (bits - blen n):=by
 have h1:rndK n 1 bits=(blen n:Int) - bits:=ZhV hn (by decide) hb (by
  unfold fq fa fb
  rw [show (-((blen n:Int) - bits)).toNat=bits - blen n by omega,show ((blen n:Int) - bits).toNat=0 by omega]
  simp only [Nat.pow_zero,Nat.mul_one,Nat.div_one]
  rw [ZeD hn]; omega)
 refine ⟨h1,?_⟩
 unfold rndM
 rw [h1]
 unfold fa fb
 rw [show (-((blen n:Int) - bits)).toNat=bits - blen n by omega,show ((blen n:Int) - bits).toNat=0 by omega]
 simp only [Nat.pow_zero,Nat.mul_one,ZmV]
theorem ZnL {a s r bits:Nat} (hb:0 < bits) (ha:bits + 1≤blen a) (hr0:0 < r) (hr:r < 2 ^ s) :
 rndK (a * 2 ^ s + r) 1 bits=(s:Int) + (blen a:Int) - bits∧rndM (a * 2 ^ s + r) 1 bits=ZdO a (blen a - bits - 1) true:=by
 have hN:0 < a * 2 ^ s + r:=by omega
 obtain ⟨j,hj⟩:∃ j,blen a=bits + (j + 1):=⟨blen a - bits - 1,by omega⟩
 have hq:fq (a * 2 ^ s + r) 1 (s:Int)=a:=by
  unfold fq fa fb
  rw [show (-(s:Int)).toNat=0 by omega,show ((s:Int)).toNat=s by omega]
  simp only [Nat.pow_zero,Nat.mul_one,Nat.one_mul]
  rw [Nat.mul_comm,Nat.mul_add_div (p2 s),Nat.div_eq_of_lt hr,Nat.add_zero]
 have hm:fa (a * 2 ^ s + r) (s:Int) % fb 1 (s:Int)=r:=by
  unfold fa fb
  rw [show (-(s:Int)).toNat=0 by omega,show ((s:Int)).toNat=s by omega]
  simp only [Nat.pow_zero,Nat.mul_one,Nat.one_mul]
  rw [Nat.mul_comm,Nat.mul_add_mod,Nat.mod_eq_of_lt hr]
 obtain ⟨h1,h2⟩:=Zf5 (n:=a * 2 ^ s + r) hN (d:=1) (by decide) hb (s:Int) j (by rw [hq]; exact hj)
 rw [hq,hm] at h2
 refine ⟨by rw [h1,hj]; omega,?_⟩
 rw [h2,hj,show bits + (j + 1) - bits - 1=j by omega,show decide (r≠0)=true from decide_eq_true (by omega)]
def tzn (n:Nat):Nat:=if h:n=0∨n % 2=1 then 0 else tzn (n / 2) + 1
termination_by n
decreasing_by omega
theorem Zeb {n:Nat} (h:n % 2=1):tzn n=0:=by rw [tzn,dif_pos (Or.inr h)]
theorem Zkk {n:Nat} (h:0 < n):tzn (n * 2)=tzn n + 1:=by
 rw [tzn,dif_neg (by omega),Nat.mul_div_cancel _ (by decide)]
theorem Zgq {n:Nat} (h:0 < n):∀ j,tzn (n * 2 ^ j)=tzn n + j
 | 0=>by simp
 | j + 1=>by rw [Nat.pow_succ,← Nat.mul_assoc,Zkk (Nat.mul_pos h (p2 j)),Zgq h j]; omega
theorem ZlY:∀ n:Nat,0 < n→∃ o,o % 2=1∧n=o * 2 ^ tzn n:=by
 intro n
 induction n using Nat.strongRecOn with
 | ind n ih =>
   intro h
   by_cases ho:n % 2=1
   ·exact ⟨n,ho,by rw [Zeb ho]; simp⟩
   ·obtain ⟨m,rfl⟩:∃ m,n=m * 2:=⟨n / 2,by omega⟩
    obtain ⟨o,h1,h2⟩:=ih m (by omega) (by omega)
    exact ⟨o,h1,by rw [Zkk (by omega),Nat.pow_succ,← Nat.mul_assoc,← h2]⟩
theorem Zhv {o:Nat} (h:o % 2=1) (j:Nat):tzn (o * 2 ^ j)=j:=by rw [Zgq (by omega),Zeb h]; omega
def oddM (n:Nat):Nat:=n / 2 ^ tzn n
theorem Ze4 {o:Nat} (h:o % 2=1) (j:Nat):oddM (o * 2 ^ j)=o:=by unfold oddM; rw [Zhv h,Nat.mul_div_cancel _ (p2 j)]
theorem Zdf {n:Nat} (h:0 < n):oddM n % 2=1∧n=oddM n * 2 ^ tzn n:=by
 obtain ⟨o,h1,h2⟩:=ZlY n h
 have:oddM n=o:=by rw [h2]; exact Ze4 h1 _
 rw [this]; exact ⟨h1,h2⟩
theorem ZmX {n:Nat} (h:0 < n) (j:Nat):oddM (n * 2 ^ j)=oddM n:=by
 obtain ⟨h1,h2⟩:=Zdf h
 have:n * 2 ^ j=oddM n * 2 ^ (tzn n + j):=by rw [Nat.pow_add,← Nat.mul_assoc,← h2]
 rw [this,Ze4 h1]
theorem ZlZ {n:Nat} (h:0 < n) (j:Nat):tzn n < j ↔ n % 2 ^ j≠0:=by
 obtain ⟨h1,h2⟩:=Zdf h
 constructor
 ·intro hl e
  obtain ⟨d,hd⟩:∃ d,j=tzn n + (d + 1):=⟨j - tzn n - 1,by omega⟩
  have hdv:=Nat.dvd_of_mod_eq_zero e
  rw [hd,Nat.pow_add,Nat.mul_comm] at hdv
  rw [h2] at hdv
  rw [Zhv h1] at hdv
  have:=Nat.dvd_of_mul_dvd_mul_right (p2 _) hdv
  rw [Nat.pow_succ] at this
  have:2 ∣ oddM n:=Nat.dvd_trans ⟨_,Nat.mul_comm _ _⟩ this
  omega
 ·intro hne
  refine Nat.lt_of_not_le fun hl=>hne ?_
  obtain ⟨d,hd⟩:=Nat.exists_eq_add_of_le hl
  rw [h2,hd,Nat.pow_add,← Nat.mul_assoc,Nat.mul_comm (oddM n),Nat.mul_assoc,Nat.mul_mod_right]
end Go.Proofs.YtklpdkpcocnglaaGreatDoor

namespace Go.Proofs.YtklpdkpcocnglaaGreatDoor
open Go.RowKit
section
variable {N:Nat} {S0:Nat→Prop} {w:World} {Φ:World→Prop} {P:Program}
theorem ZeE (S0:Nat→Prop) {fn:Func} {f:FuncId} {c:Code} {args:List Value} {R:Ending→World→Prop} (hf:P.funcs[f]? = some fn) (hb:fn.body=some c) (hl:Nat.ble args.length fn.ntmps=true) (Q:Box (fun _=>False) w Φ)
 (h:SXc P fn.ntmps S0 w (bodyPost P fn R) c (ofL (Zgj 0 args) []) Φ):Calls P f args.toArray w R:=by
 refine calls_of_wp hf hb (h (fun _=>0) _ w ⟨?_,rfl,fun i x hx=>?_,⟨fun b t cs e=>(by cases e),fun b c e=>(by cases e),fun b e=>(by cases e),Fr.refl _ _,fun i b off e=>?_,fun b t cs e=>(by cases e)⟩,?_⟩)
 ·have:=Nat.le_of_ble_eq_true hl
  simp; omega
 ·obtain ⟨_,v,hv,rfl⟩:=Zem args 0 i x hx
  have hlt:i < args.length:=by
   rcases Nat.lt_or_ge i args.length with h' | h'
   ·exact h'
   ·rw [List.getElem?_eq_none (by omega)] at hv; cases hv
  simp only [AV.conc]
  rw [Array.getElem?_append_left (by simpa using hlt)]
  simpa using hv
 ·obtain ⟨_,v,hv,e'⟩:=Zem args 0 i _ e
  cases e'
 ·intro w' hf'
  exact Q w' (hf'.mono (fun i _ h'=>by obtain ⟨b,e,_⟩:=h'; cases e))
end
section
variable {P:Program} {o:Oper} {ρ:Operand→Value} {w:World} {x y:Operand} {t k:TypeId}
theorem ZnM {a:Nat} (ho:o.op=Op.binOp .and t x y k:=by kernel_rfl) (hx:ρ x=.int .u64 ((a:Nat):Int):=by kernel_rfl) (hy:ρ y=.int .u64 1:=by kernel_rfl) (ha:a < W64:=by assumption):(execOp ρ o).run P w=.ok (.value (.int .u64 ((a % 2:Nat):Int))) w:=by
 have h:bits .and .u64 (a:Int) 1=((a % 2:Nat):Int):=by
  have:=bits_and_u64_nat a 1 (by rw [← Zal]; exact ha) (by decide)
  rw [Nat.and_one_is_mod] at this
  exact this
 rw [← h]
 simp only [execOp,ho,hx,hy,eqGuard,binOp]
 rfl
end
/-! ### length -/
theorem ZgG {xs:List Nat} {k t:Nat} (hd:Dig W64 xs) (hl:xs.length=k + 1) (ht:Trim xs) (et:xs[k]?.getD 0=t):blen (val W64 xs)=64 * k + blen t:=by
 have h0:0 < t:=Nat.pos_of_ne_zero (by rw [← et]; exact ht k hl)
 have hv:=Zat (B:=W64) k (show k < xs.length by omega)
 rw [List.take_of_length_le (by omega),et] at hv
 have hlow:=ZaP (hd.take k)
 rw [List.length_take,Nat.min_eq_left (by omega),ZcV] at hlow
 rw [hv,ZcV]
 exact ZmU hlow h0
theorem ZgH {t:Nat} (h:t < W64):Lib.bitLen t=blen t:=by
 rcases Nat.eq_zero_or_pos t with rfl | h0
 ·rfl
 ·obtain ⟨h1,_,h3,h4⟩:=Zcw h0 h
  have:=Ze3 (k:=Lib.bitLen t - 1) h3 (by rw [Nat.sub_add_cancel h1]; exact h4)
  omega
theorem Zl0 (t:Nat) (w:World) (h:t < W64):Calls Tryz.prog 105 #[.int .u64 (t:Int)] w (RetV w (.int .i64 ((blen t:Nat):Int))):=by
 have h2:=h
 rw [Zal] at h2
 refine (Tryz.bits_Len64 (t:Int) w (by omega) (by omega)).mono ?_
 rintro e w' ⟨rfl,rfl⟩
 exact ⟨by rw [Int.toNat_natCast,ZgH h],Fr.refl _ _⟩
theorem ZkZ (t:Nat) (w:World) (h:t < W64):Calls Tryz.prog 174 #[.int .u64 (t:Int)] w (RetV w (.int .i64 ((64 - blen t:Nat):Int))):=by
 refine (ZdF t w h).mono ?_
 rintro e w' ⟨rfl,rfl⟩
 have:blen t≤64:=ZbD.2 (by rw [Zal] at h; exact h)
 exact ⟨by rw [ZgH h]; congr 2; omega,Fr.refl _ _⟩
/-! ### zeros -/
theorem ZmY (x:Nat) (w:World) (hg:Glob w) (h0:0 < x) (h:x < W64):Calls Tryz.prog 186 #[.int .u64 (x:Int)] w (RetV w (.int .i64 ((tzn x:Nat):Int))):=by
 obtain ⟨h1,h2⟩:=Zdf h0
 have ht:tzn x < 64:=by
  refine Nat.lt_of_not_le fun hc=>?_
  have:=Nat.pow_le_pow_right (n:=2) (by decide) hc
  have h3:1 * 2 ^ tzn x≤oddM x * 2 ^ tzn x:=Nat.mul_le_mul_right _ (by omega)
  rw [Zal] at h
  omega
 refine (Zfd x (tzn x) (oddM x / 2) w hg (by rw [show 2 * (oddM x / 2) + 1=oddM x by omega,Nat.mul_comm]; exact h2) ht h).mono ?_
 rintro e w' ⟨rfl,rfl⟩
 exact ⟨rfl,Fr.refl _ _⟩
def ZerR (xs:List Nat) (k:Nat):Prop:=val W64 (xs.take k)=0
theorem ZerR.start (xs:List Nat):ZerR xs 0:=by unfold ZerR; simp
theorem ZerR.lt {xs:List Nat} {k:Nat} (h:ZerR xs k) (h0:0 < val W64 xs):k < xs.length:=by
 rcases Nat.lt_or_ge k xs.length with h1 | h1
 ·exact h1
 ·unfold ZerR at h; rw [List.take_of_length_le h1] at h; omega
theorem ZerR.step {xs:List Nat} {k:Nat} (h:ZerR xs k) (hk:k < xs.length) (hx:xs[k]?.getD 0=0):ZerR xs (k + 1):=by
 unfold ZerR at *
 rw [Zat k hk,h,hx]; simp
theorem ZnN {x r:Nat} (h0:0 < x) (hx:x < W64):tzn (x + W64 * r)=tzn x:=by
 obtain ⟨h1,h2⟩:=Zdf h0
 have ht:tzn x < 64:=by
  refine Nat.lt_of_not_le fun hc=>?_
  have:=Nat.pow_le_pow_right (n:=2) (by decide) hc
  have h3:1 * 2 ^ tzn x≤oddM x * 2 ^ tzn x:=Nat.mul_le_mul_right _ (by omega)
  rw [Zal] at hx
  omega
 have e:x + W64 * r=(oddM x + 2 ^ (64 - tzn x) * r) * 2 ^ tzn x:=by
  rw [Nat.add_mul,← h2,Nat.mul_right_comm,← Nat.pow_add,Nat.sub_add_cancel (by omega),Zal]
 have h5:2 ^ (64 - tzn x)=2 * 2 ^ (63 - tzn x):=by rw [show 64 - tzn x=(63 - tzn x) + 1 by omega,Nat.pow_succ,Nat.mul_comm]
 rw [e]
 exact Zhv (by rw [h5,Nat.mul_assoc]; omega) _
theorem ZerR.done {xs:List Nat} {k x:Nat} (h:ZerR xs k) (hd:Dig W64 xs) (hk:k < xs.length) (hx:xs[k]?.getD 0=x) (h0:x≠0):tzn (val W64 xs)=64 * k + tzn x:=by
 unfold ZerR at h
 have hv:=ZaH (B:=W64) (xs:=xs) k
 rw [h,Nat.min_eq_left (by omega),ZaF k hk,hx,Nat.zero_add,ZcV,Nat.mul_comm] at hv
 rw [hv,Zgq (by omega),ZnN (by omega) (hx ▸ hd.getD Zaf k),Nat.add_comm]
theorem ZerR.bound {xs:List Nat} {k x:Nat} (hd:Dig W64 xs) (hx:xs[k]?.getD 0=x) (h0:x≠0):tzn x < 64:=by
 have hxW:x < W64:=hx ▸ hd.getD Zaf k
 obtain ⟨h1,h2⟩:=Zdf (show 0 < x by omega)
 refine Nat.lt_of_not_le fun hc=>?_
 have:=Nat.pow_le_pow_right (n:=2) (by decide) hc
 have h3:1 * 2 ^ tzn x≤oddM x * 2 ^ tzn x:=Nat.mul_le_mul_right _ (by omega)
 rw [Zal] at hxW
 omega
/-! ### bit -/
theorem ZnO {xs:List Nat} {i x:Nat} (hd:Dig W64 xs) (hk:i / 64 < xs.length) (hx:xs[i / 64]?.getD 0=x):val W64 xs / 2 ^ i % 2=x / 2 ^ (i % 64) % 2:=by
 have h1:=ZhL xs (i / 64) (i % 64) hd (by omega)
 rw [show 64 * (i / 64) + i % 64=i by omega] at h1
 rw [← h1,ZaF _ hk,hx]
 have ht:i % 64 < 64:=Nat.mod_lt _ (by decide)
 generalize i % 64=t at *
 generalize val W64 (xs.drop (i / 64 + 1))=r
 have e:W64 * r=2 ^ t * (2 ^ (64 - t) * r):=by rw [← Nat.mul_assoc,← Nat.pow_add,show t + (64 - t)=64 by omega,Zal]
 have h5:2 ^ (64 - t)=2 * 2 ^ (63 - t):=by rw [show 64 - t=(63 - t) + 1 by omega,Nat.pow_succ,Nat.mul_comm]
 rw [e,Nat.add_mul_div_left _ _ (p2 t),h5,Nat.mul_assoc,Nat.add_mul_mod_self_left]
theorem ZmZ {xs:List Nat} {i:Nat} (hd:Dig W64 xs) (hk:¬ i / 64 < xs.length):val W64 xs / 2 ^ i % 2=0:=by
 rw [ZgP hd (by omega)]
theorem Zop (m:Nat):(((m % 2:Nat):Int) == 1)=decide (m % 2=1):=by
 rcases Nat.mod_two_eq_zero_or_one m with h | h<;>rw [h]<;>rfl
/-! ### division by a word,in place -/
def DwR (xs:List Nat) (u k:Nat) (qs:List Nat) (r:Nat):Prop:=Zc3 xs u k qs r∧qs.take k=xs.take k
theorem DwR.start {xs:List Nat} {u:Nat} (hd:Dig W64 xs) (hu:0 < u):DwR xs u xs.length xs 0 :=
 ⟨⟨rfl,hd,hu,by rw [List.drop_of_length_le (Nat.le_refl _)]; simp⟩,rfl⟩
theorem DwR.at {xs qs:List Nat} {u k r:Nat} (h:DwR xs u (k + 1) qs r):qs[k]?.getD 0=xs[k]?.getD 0:=by
 have:=congrArg (fun l=>l[k]?.getD 0) h.2
 simp only [List.getElem?_take_of_lt (show k < k + 1 by omega)] at this
 exact this
theorem DwR.step {xs qs:List Nat} {u k r x:Nat} (h:DwR xs u (k + 1) qs r) (hk:k < xs.length) (hx:qs[k]?.getD 0=x) (hxW:x < W64):DwR xs u k (qs.set k (divQ r x u)) (divR r x u):=by
 refine ⟨h.1.step hk (h.at.symm.trans hx) hxW,?_⟩
 have:=congrArg (List.take k) h.2
 rw [List.take_take,List.take_take,Nat.min_eq_left (by omega)] at this
 rw [List.take_set_of_le (Nat.le_refl k)]; exact this
theorem Zil (hi lo y:Nat) (w:World) (h1:hi < y) (hy:y < W64) (hlo:lo < W64):Calls Tryz.prog 149 #[.int .u64 (hi:Int), .int .u64 (lo:Int), .int .u64 (y:Int)] w (RetV w (.tuple #[.int .u64 ((divQ hi lo y:Nat):Int), .int .u64 ((divR hi lo y:Nat):Int)])):=by
 refine (Zex hi lo y w h1 hy hlo).mono ?_
 rintro e w' ⟨rfl,n,rfl⟩
 exact ⟨rfl,(Fr.refl _ _).drewN n⟩
/-! ### a multiple subtracted within a row -/
def SpR (zs0 ys:List Nat) (q o k:Nat) (zs:List Nat) (c b:Nat):Prop :=
 zs.length=zs0.length∧Dig W64 zs∧c < W64∧b≤1∧zs.take o=zs0.take o∧zs.drop (o + k)=zs0.drop (o + k) ∧
  val W64 (zs.take (o + k)) + W64 ^ o * (q * val W64 (ys.take k))=val W64 (zs0.take (o + k)) + W64 ^ (o + k) * (c + b)
theorem SpR.start {zs0:List Nat} (ys:List Nat) (q o:Nat) (h:Dig W64 zs0):SpR zs0 ys q o 0 zs0 0 0:=⟨rfl,h,Zaf,by omega,rfl,rfl,by simp⟩
theorem Zdy {zs zs0:List Nat} {k:Nat} (h:zs.drop k=zs0.drop k):zs[k]?.getD 0=zs0[k]?.getD 0:=by
 have:=congrArg (fun l=>l[0]?.getD 0) h
 simpa [List.getElem?_drop] using this
theorem Zji {x q c:Nat} (hx:x < W64) (hq:q < W64) (hc:c < W64):ZaE x q + Zav (Zao x q) c 0 < W64:=by
 have h1:=ZcM x q
 have h2:=Zcg (Zao x q) c 0
 have h3:=Zfa hx hq
 refine Zdt _ (Nat.lt_of_le_of_lt (m:=x * q + c) ?_ (by omega))
 rw [Nat.mul_add]; omega
theorem SpR.step {zs0 ys zs:List Nat} {q o k c b x z:Nat} (h:SpR zs0 ys q o k zs c b) (hk:o + k < zs0.length) (hx:ys[k]?.getD 0=x) (hz:zs[o + k]?.getD 0=z) (hy:Dig W64 ys) (hq:q < W64) :
 SpR zs0 ys q o (k + 1) (zs.set (o + k) (ZaY z (Zar (Zao x q) c 0) b)) (ZaE x q + Zav (Zao x q) c 0) (ZaZ z (Zar (Zao x q) c 0) b):=by
 obtain ⟨h1,h2,h3,h4,h5,h6,h7⟩:=h
 have hxW:x < W64:=hx ▸ hy.getD Zaf k
 have hzW:z < W64:=hz ▸ h2.getD Zaf _
 have e1:zs0[o + k]?.getD 0=z:=(Zdy h6).symm.trans hz
 have m1:=ZcM x q
 have m2:=Zcg (Zao x q) c 0
 have m3:=Zed hzW (ZcL (Zao x q) c 0) h4
 refine ⟨by simpa using h1,h2.set _ (ZdC _ _ _),Zji hxW hq h3,Ze9 _ _ _,?_,?_,?_⟩
 ·rw [List.take_set_of_le (by omega)]; exact h5
 ·have e:=congrArg (List.drop 1) h6
  rw [List.drop_drop,List.drop_drop] at e
  rw [List.drop_set_of_lt (by omega),show o + (k + 1)=o + k + 1 by omega]; exact e
 ·rw [show o + (k + 1)=(o + k) + 1 by omega,ZaL _ _ _ _ (by omega),Zat (o + k) hk,ZaX k,e1,hx,Nat.pow_succ]
  have key:ZaY z (Zar (Zao x q) c 0) b + x * q + c + b=z + W64 * (ZaE x q + Zav (Zao x q) c 0 + ZaZ z (Zar (Zao x q) c 0) b):=by
   rw [Nat.mul_add,Nat.mul_add]; omega
  have key2:=congrArg (W64 ^ (o + k) * ·) key
  simp only [Nat.mul_add] at key2
  have e2:W64 ^ o * (q * (val W64 (ys.take k) + W64 ^ k * x))=W64 ^ o * (q * val W64 (ys.take k)) + W64 ^ (o + k) * (x * q):=by
   rw [Nat.mul_add q,Nat.mul_add (W64 ^ o),Nat.pow_add,Nat.mul_left_comm q (W64 ^ k) x,Nat.mul_assoc (W64 ^ o),Nat.mul_comm q x]
  rw [e2,Nat.mul_assoc (W64 ^ (o + k)) W64]
  simp only [Nat.mul_add]
  rw [Nat.mul_add] at h7
  omega
def Zf6 (zs0 ys:List Nat) (q o:Nat) (zs:List Nat) (b:Nat):Prop :=
 zs.length=zs0.length∧Dig W64 zs∧b≤1∧zs.take o=zs0.take o∧zs.drop (o + ys.length + 1)=zs0.drop (o + ys.length + 1) ∧
  val W64 (zs.take (o + ys.length + 1)) + W64 ^ o * (q * val W64 ys)=val W64 (zs0.take (o + ys.length + 1)) + W64 ^ (o + ys.length + 1) * b
theorem SpR.done {zs0 ys zs:List Nat} {q o c b z:Nat} (h:SpR zs0 ys q o ys.length zs c b) (hk:o + ys.length < zs0.length) (hz:zs[o + ys.length]?.getD 0=z):Zf6 zs0 ys q o (zs.set (o + ys.length) (ZaY z c b)) (ZaZ z c b):=by
 obtain ⟨h1,h2,h3,h4,h5,h6,h7⟩:=h
 have hzW:z < W64:=hz ▸ h2.getD Zaf _
 have e1:zs0[o + ys.length]?.getD 0=z:=(Zdy h6).symm.trans hz
 have m3:=Zed hzW h3 h4
 refine ⟨by simpa using h1,h2.set _ (ZdC _ _ _),Ze9 _ _ _,?_,?_,?_⟩
 ·rw [List.take_set_of_le (by omega)]; exact h5
 ·have e:=congrArg (List.drop 1) h6
  rw [List.drop_drop,List.drop_drop] at e
  rw [List.drop_set_of_lt (by omega)]; exact e
 ·rw [List.take_of_length_le (Nat.le_refl ys.length)] at h7
  rw [ZaL _ _ _ _ (by omega),Zat _ hk,e1,Nat.pow_succ]
  have key2:=congrArg (W64 ^ (o + ys.length) * ·) m3
  simp only [Nat.mul_add] at key2
  rw [Nat.mul_assoc (W64 ^ (o + ys.length)) W64]
  rw [Nat.mul_add] at h7
  omega
/-! ### the divisor added within a row -/
def AbR (zs0 ys:List Nat) (o k:Nat) (zs:List Nat) (c:Nat):Prop :=
 zs.length=zs0.length∧Dig W64 zs∧c≤1∧zs.take o=zs0.take o∧zs.drop (o + k)=zs0.drop (o + k) ∧
  val W64 (zs.take (o + k)) + W64 ^ (o + k) * c=val W64 (zs0.take (o + k)) + W64 ^ o * val W64 (ys.take k)
theorem AbR.start {zs0:List Nat} (ys:List Nat) (o:Nat) (h:Dig W64 zs0):AbR zs0 ys o 0 zs0 0:=⟨rfl,h,by omega,rfl,rfl,by simp⟩
theorem AbR.step {zs0 ys zs:List Nat} {o k c x z:Nat} (h:AbR zs0 ys o k zs c) (hk:o + k < zs0.length) (hx:ys[k]?.getD 0=x) (hz:zs[o + k]?.getD 0=z) (hy:Dig W64 ys):AbR zs0 ys o (k + 1) (zs.set (o + k) (Zar z x c)) (Zav z x c):=by
 obtain ⟨h1,h2,h4,h5,h6,h7⟩:=h
 have e1:zs0[o + k]?.getD 0=z:=(Zdy h6).symm.trans hz
 refine ⟨by simpa using h1,h2.set _ (ZcL _ _ _),Ze8 (hz ▸ h2.getD Zaf _) (hx ▸ hy.getD Zaf k) h4,?_,?_,?_⟩
 ·rw [List.take_set_of_le (by omega)]; exact h5
 ·have e:=congrArg (List.drop 1) h6
  rw [List.drop_drop,List.drop_drop] at e
  rw [List.drop_set_of_lt (by omega),show o + (k + 1)=o + k + 1 by omega]; exact e
 ·rw [show o + (k + 1)=(o + k) + 1 by omega,ZaL _ _ _ _ (by omega),Zat (o + k) hk,ZaX k,e1,hx,Nat.pow_succ]
  have key2:=congrArg (W64 ^ (o + k) * ·) (Zcg z x c)
  simp only [Nat.mul_add] at key2
  rw [Nat.mul_add (W64 ^ o),← Nat.mul_assoc (W64 ^ o) (W64 ^ k),← Nat.pow_add,Nat.mul_assoc (W64 ^ (o + k)) W64]
  omega
def Zf7 (zs0 ys:List Nat) (o:Nat) (zs:List Nat) (c:Nat):Prop :=
 zs.length=zs0.length∧Dig W64 zs∧c≤1∧zs.take o=zs0.take o∧zs.drop (o + ys.length + 1)=zs0.drop (o + ys.length + 1) ∧
  val W64 (zs.take (o + ys.length + 1)) + W64 ^ (o + ys.length + 1) * c=val W64 (zs0.take (o + ys.length + 1)) + W64 ^ o * val W64 ys
theorem AbR.done {zs0 ys zs:List Nat} {o c z:Nat} (h:AbR zs0 ys o ys.length zs c) (hk:o + ys.length < zs0.length) (hz:zs[o + ys.length]?.getD 0=z):Zf7 zs0 ys o (zs.set (o + ys.length) (Zar z 0 c)) (Zav z 0 c):=by
 obtain ⟨h1,h2,h4,h5,h6,h7⟩:=h
 have e1:zs0[o + ys.length]?.getD 0=z:=(Zdy h6).symm.trans hz
 refine ⟨by simpa using h1,h2.set _ (ZcL _ _ _),Ze8 (hz ▸ h2.getD Zaf _) Zaf h4,?_,?_,?_⟩
 ·rw [List.take_set_of_le (by omega)]; exact h5
 ·have e:=congrArg (List.drop 1) h6
  rw [List.drop_drop,List.drop_drop] at e
  rw [List.drop_set_of_lt (by omega)]; exact e
 ·rw [List.take_of_length_le (Nat.le_refl ys.length)] at h7
  rw [ZaL _ _ _ _ (by omega),Zat _ hk,e1,Nat.pow_succ]
  have key2:=congrArg (W64 ^ (o + ys.length) * ·) (Zcg z 0 c)
  simp only [Nat.mul_add] at key2
  rw [Nat.mul_assoc (W64 ^ (o + ys.length)) W64]
  omega
theorem ZjX (A:Option Addr) (xs:List Nat) (c:Nat) (w:World) (hX:Zad .u64 w A xs) (hl:xs.length≤4294967296) (hd:Dig W64 xs) (ht:Trim xs) :
 Calls Tryz.prog 65 #[.slice A xs.length c] w (RetV w (.int .i64 ((blen (val W64 xs):Nat):Int))):=by
 refine Zau (Φ:=fun w=>Zad .u64 w A xs) Tryz.func65 rfl (by kernel_rfl) (fun w' hf=>hX.ext hf) ?_
 refine Zac (Zaa (xq 1 [(2, .v (.int .i64 0))] [] ?_))
 refine xe (Zab (Zac (Zac (Zaa (xq 3 [(5, .v (.bool ((((xs.length:Nat):Int):Int) == 0)))] [] ?_)))))
 refine xe (Zab ?_)
 refine Zas (((((xs.length:Nat):Int):Int) == 0)) (by kernel_rfl) (fun hb10=>?_) (fun hb10=>?_)
 ·have hb10':=beq_iff_eq.1 hb10
  refine Zac (Zaa (xq 1 [(2, .v (.int .i64 0))] [] ?_))
  refine xe (Zab (Zai (Zah ?_)))
  refine Zag (v:=.int .i64 0) (by kernel_rfl) (fun w' R Q=>?_)
  exact ⟨by obtain rfl:xs=[]:=List.length_eq_zero_iff.1 (by omega); rfl,R⟩
 ·have hb10':=Za5 hb10
  refine Zam (Zab (Zac (Zaa (xq 3 [(8, .v (.int .i64 (IntKind.i64.wrap (((xs.length:Nat):Int) - 1))))] [] ?_))))
  rw [show IntKind.i64.wrap ((((xs.length:Nat):Int) - 1))=((xs.length - 1:Nat):Int) from by rw [IntKind.wrap_i64]; omega]
  refine xq 1 [(9, .v (.int .i64 (IntKind.i64.wrap (64 * ((xs.length - 1:Nat):Int)))))] [] ?_
  rw [show IntKind.i64.wrap (64 * ((xs.length - 1:Nat):Int))=((64 * (xs.length - 1):Nat):Int) from by rw [IntKind.wrap_i64]; omega]
  refine xq 4 [eS1 10 A xs.length c,(13, .v (.int .i64 (IntKind.i64.wrap (((xs.length:Nat):Int) - 1))))] [] ?_
  rw [show IntKind.i64.wrap ((((xs.length:Nat):Int) - 1))=((xs.length - 1:Nat):Int) from by rw [IntKind.wrap_i64]; omega]
  refine xqk 14 (atA A (xs.length - 1)) (fun w R Q=>ZaG (t:=77) (e:=94) (x:=(Operand.tmp 10)) (ix:=(Operand.tmp 13)) (len:=xs.length) (cap:=c) (i:=xs.length - 1) ((Q).ne (j:=xs.length - 1) (by omega)) (by omega)) ?_
  obtain ⟨x11,hx11⟩:∃ x,xs[xs.length - 1]?.getD 0=x:=⟨_,rfl⟩
  refine xqk 15 (.int .u64 ((x11:Nat):Int)) (fun w R Q=>by rw [← hx11]; exact ZaV (t:=94) (x:=(Operand.tmp 14)) (Q) (j:=xs.length - 1) (by omega)) ?_
  refine xqc 105 [.int .u64 ((x11:Nat):Int)] 16 (fun _:Unit=>.int .i64 ((blen x11:Nat):Int)) _ (fun w R Q=>(Zl0 x11 _ (by rw [← hx11]; exact hd.getD Zaf _)).mono (fun _ _ h=>Zak h rfl)) (fun xx=>?_)
  refine xq 1 [(17, .v (.int .i64 (IntKind.i64.wrap (((64 * (xs.length - 1):Nat):Int) + ((blen x11:Nat):Int)))))] [] ?_
  rw [show IntKind.i64.wrap (((64 * (xs.length - 1):Nat):Int) + ((blen x11:Nat):Int))=((blen (val W64 xs):Nat):Int) from by rw [ZgG (k:=xs.length - 1) hd (by omega) ht hx11,IntKind.wrap_i64]; have:=ZbD.2 (show x11 < 2 ^ 64 by have h':x11 < W64:=(by rw [← hx11]; exact hd.getD Zaf _); rw [Zal] at h'; exact h'); omega]
  refine xq 1 [(2, .v (.int .i64 ((blen (val W64 xs):Nat):Int)))] [] ?_
  refine xe (Zab (Zai ?_))
  refine Zag (v:=.int .i64 ((blen (val W64 xs):Nat):Int)) (by kernel_rfl) (fun w' R Q=>?_)
  exact ⟨rfl,R⟩
theorem Zk0 (A:Option Addr) (xs:List Nat) (c:Nat) (w:World) (hX:Zad .u64 w A xs) (hl:xs.length≤4294967296) (hd:Dig W64 xs) (hg:Glob w) (h0:0 < val W64 xs) :
 Calls Tryz.prog 157 #[.slice A xs.length c] w (RetV w (.int .i64 ((tzn (val W64 xs):Nat):Int))):=by
 refine Zau (Φ:=fun w=>(Zad .u64 w A xs∧Glob w)) Tryz.func157 rfl (by kernel_rfl) (fun w' hf=>⟨hX.ext hf,hg.ext hf⟩) ?_
 refine Zac (Zaa (xq 1 [(2, .v (.int .i64 0))] [] ?_))
 refine xe (Zab (Zac (Zaa (xq 1 [(3, .v (.int .i64 0))] [] ?_))))
 refine xe (Zab (Zac (Zax ?_)))
 refine SXc.weak [(0, .v (.slice A xs.length c)),(2, .v (.int .i64 0)),(3, .v (.int .i64 ((0:Nat):Int)))] [] (Ψ:=fun w=>(Zad .u64 w A (xs)∧Glob w)) (ZaB.of (by kernel_rfl)) (by kernel_rfl) (fun w Q=>⟨Q.1,Q.2⟩) ?_
 refine Zbv (fun nn ss ff=>∃ (k:Nat),ss=ofL [(0, .v (.slice A xs.length c)),(2, .v (.int .i64 0)),(3, .v (.int .i64 ((k:Nat):Int)))] []∧ff=(fun w=>(Zad .u64 w A (xs)∧Glob w))∧(ZerR xs k)∧nn=(xs.length - k)) ((xs.length - 0)) ⟨0,rfl,rfl,ZerR.start xs,rfl⟩ ?_
 rintro nn ss ff ⟨k,rfl,rfl,HR,rfl⟩
 refine Zac (Zac ?_)
 have hkl:=HR.lt h0
 refine Zaa (xq 2 [eS1 4 A xs.length c,(5, .v (.int .i64 ((k:Nat):Int)))] [] ?_)
 refine xqk 6 (atA A k) (fun w R Q=>ZaG (t:=77) (e:=94) (x:=(Operand.tmp 4)) (ix:=(Operand.tmp 5)) (len:=xs.length) (cap:=c) (i:=k) ((Q.1).ne (j:=k) (by omega)) (by omega)) ?_
 obtain ⟨x10,hx10⟩:∃ x,xs[k]?.getD 0=x:=⟨_,rfl⟩
 refine xqk 7 (.int .u64 ((x10:Nat):Int)) (fun w R Q=>by rw [← hx10]; exact ZaV (t:=94) (x:=(Operand.tmp 6)) (Q.1) (j:=k) (by omega)) ?_
 refine xq 1 [(8, .v (.bool ((((x10:Nat):Int):Int) == 0)))] [] ?_
 refine xe (Zab ?_)
 refine Zas (((((x10:Nat):Int):Int) == 0)) (by kernel_rfl) (fun hb11=>?_) (fun hb11=>?_)
 ·have hb11':=beq_iff_eq.1 hb11
  refine Zam (Zab (Zax (Zaa (xq 2 [(10, .v (.int .i64 (IntKind.i64.wrap (((k:Nat):Int) + 1))))] [] ?_))))
  rw [show IntKind.i64.wrap ((((k:Nat):Int) + 1))=((k + 1:Nat):Int) from by rw [IntKind.wrap_i64]; omega]
  refine xq 1 [(3, .v (.int .i64 ((k + 1:Nat):Int)))] [] ?_
  refine xe (Zbk ?_)
  refine SXq.weak [(0, .v (.slice A xs.length c)),(2, .v (.int .i64 0)),(3, .v (.int .i64 (((k + 1):Nat):Int)))] [] (Ψ:=fun w=>(Zad .u64 w A (xs)∧Glob w)) (ZaB.of (by kernel_rfl)) (by kernel_rfl) (fun w Q=>⟨Q.1,Q.2⟩) ?_
  exact Za3 ((xs.length - (k + 1))) (by omega) ⟨(k + 1),rfl,rfl,(HR.step hkl (by rw [hx10]; omega)),rfl⟩
 ·have hb11':=Za5 hb11
  refine Zbf (Zap (Zap (Zbs (Zab (Zac (Zaa (xq 2 [(12, .v (.int .i64 (IntKind.i64.wrap (64 * ((k:Nat):Int)))))] [] ?_)))))))
  rw [show IntKind.i64.wrap (64 * ((k:Nat):Int))=((64 * k:Nat):Int) from by rw [IntKind.wrap_i64]; omega]
  refine xq 2 [eS1 13 A xs.length c,(14, .v (.int .i64 ((k:Nat):Int)))] [] ?_
  refine xqk 15 (atA A k) (fun w R Q=>ZaG (t:=77) (e:=94) (x:=(Operand.tmp 13)) (ix:=(Operand.tmp 14)) (len:=xs.length) (cap:=c) (i:=k) ((Q.1).ne (j:=k) (by omega)) (by omega)) ?_
  obtain ⟨x12,hx12⟩:∃ x,xs[k]?.getD 0=x:=⟨_,rfl⟩
  refine xqk 16 (.int .u64 ((x12:Nat):Int)) (fun w R Q=>by rw [← hx12]; exact ZaV (t:=94) (x:=(Operand.tmp 15)) (Q.1) (j:=k) (by omega)) ?_
  obtain rfl:x10=x12:=by rw [← hx10,hx12]
  refine xqc 186 [.int .u64 ((x10:Nat):Int)] 17 (fun _:Unit=>.int .i64 ((tzn x10:Nat):Int)) _ (fun w R Q=>(ZmY x10 _ Q.2 (by omega) (by rw [← hx10]; exact hd.getD Zaf _)).mono (fun _ _ h=>Zak h rfl)) (fun xx=>?_)
  refine xq 1 [(18, .v (.int .i64 (IntKind.i64.wrap (((64 * k:Nat):Int) + ((tzn x10:Nat):Int)))))] [] ?_
  rw [show IntKind.i64.wrap (((64 * k:Nat):Int) + ((tzn x10:Nat):Int))=((tzn (val W64 xs):Nat):Int) from by rw [HR.done hd hkl hx10 (by omega),IntKind.wrap_i64]; have:=ZerR.bound hd hx10 (by omega); omega]
  refine xq 1 [(2, .v (.int .i64 ((tzn (val W64 xs):Nat):Int)))] [] ?_
  refine xe (Zab (Zai ?_))
  refine Zag (v:=.int .i64 ((tzn (val W64 xs):Nat):Int)) (by kernel_rfl) (fun w' R Q=>?_)
  exact ⟨rfl,R⟩
theorem Zm0 (A:Option Addr) (xs:List Nat) (c:Nat) (w:World) (hX:Zad .u64 w A xs) (hd:Dig W64 xs) (i:Nat) (hi:i≤274877906944) :
 Calls Tryz.prog 158 #[.slice A xs.length c, .int .i64 ((i:Nat):Int)] w (RetV w (.bool (decide (val W64 xs / 2 ^ i % 2=1)))):=by
 refine Zau (Φ:=fun w=>Zad .u64 w A xs) Tryz.func158 rfl (by kernel_rfl) (fun w' hf=>hX.ext hf) ?_
 refine Zac (Zaa (xq 1 [(4, .v (.bool false))] [] ?_))
 refine xe (Zab (Zac (Zaa (xq 2 [(6, .v (.int .i64 (IntKind.i64.wrap ((((i:Nat):Int)).tdiv 64))))] [] ?_))))
 rw [show IntKind.i64.wrap (((((i:Nat):Int)).tdiv 64))=((i / 64:Nat):Int) from tdq (i) 64 (by omega)]
 refine xq 4 [(10, .v (.bool (decide (((i / 64:Nat):Int) < ((xs.length:Nat):Int)))))] [] ?_
 rcases bl2 ((decide (((i / 64:Nat):Int) < ((xs.length:Nat):Int)))) with hb10 | hb10
 ·rw [hb10]
  have hb10':=of_decide_eq_true hb10
  have hlt:i / 64 < xs.length:=by omega
  refine xq 3 [eS1 11 A xs.length c,(13, .v (.int .i64 (IntKind.i64.wrap ((((i:Nat):Int)).tdiv 64))))] [] ?_
  rw [show IntKind.i64.wrap (((((i:Nat):Int)).tdiv 64))=((i / 64:Nat):Int) from tdq (i) 64 (by omega)]
  refine xqk 14 (atA A (i / 64)) (fun w R Q=>ZaG (t:=77) (e:=94) (x:=(Operand.tmp 11)) (ix:=(Operand.tmp 13)) (len:=xs.length) (cap:=c) (i:=i / 64) ((Q).ne (j:=i / 64) (by omega)) (by omega)) ?_
  obtain ⟨x11,hx11⟩:∃ x,xs[i / 64]?.getD 0=x:=⟨_,rfl⟩
  refine xqk 15 (.int .u64 ((x11:Nat):Int)) (fun w R Q=>by rw [← hx11]; exact ZaV (t:=94) (x:=(Operand.tmp 14)) (Q) (j:=i / 64) (by omega)) ?_
  refine xq 2 [(17, .v (.int .i64 ((((i:Nat):Int)).tmod 64)))] [] ?_
  rw [show (((i:Nat):Int)).tmod 64=((i % 64:Nat):Int) from tdr (i) 64]
  refine xqk 18 (.int .u64 ((x11 / 2 ^ (i % 64):Nat):Int)) (fun w R Q=>Zjf (t:=94) (x:=(Operand.tmp 15)) (y:=(Operand.tmp 17)) (k:=3) (ky:=.i64) (a:=x11) (n:=(i % 64)) (by omega)) ?_
  refine xqk 19 (.int .u64 (((x11 / 2 ^ (i % 64)) % 2:Nat):Int)) (fun w R Q=>ZnM (t:=94) (x:=(Operand.tmp 18)) (y:=(Operand.const (Value.int IntKind.u64 1))) (k:=94) (a:=(x11 / 2 ^ (i % 64))) (ha:=Nat.lt_of_le_of_lt (Nat.div_le_self _ _) (by rw [← hx11]; exact hd.getD Zaf _))) ?_
  refine xq 1 [(20, .v (.bool (((((x11 / 2 ^ (i % 64)) % 2:Nat):Int):Int) == 1)))] [] ?_
  rw [show ((((x11 / 2 ^ (i % 64)) % 2:Nat):Int) == 1)=decide (val W64 xs / 2 ^ i % 2=1) from (Zop _).trans (by rw [ZnO hd hlt hx11])]
  refine xq 2 [(4, .v (.bool (decide (val W64 xs / 2 ^ i % 2=1))))] [] ?_
  refine xe (Zab (Zai ?_))
  refine Zag (v:=.bool (decide (val W64 xs / 2 ^ i % 2=1))) (by kernel_rfl) (fun w' R Q=>?_)
  exact ⟨rfl,R⟩
 ·rw [hb10]
  have hb10':=of_decide_eq_false hb10
  have hlt:¬ i / 64 < xs.length:=by omega
  refine xq 12 [(4, .v (.bool false))] [] ?_
  refine xe (Zab (Zai ?_))
  refine Zag (v:=.bool false) (by kernel_rfl) (fun w' R Q=>?_)
  exact ⟨by rw [ZmZ hd hlt]; rfl,R⟩
theorem ZnP {xs ys:List Nat} {j x y:Nat} (h1:j < xs.length) (h2:j < ys.length) (h:xs.drop (j + 1)=ys.drop (j + 1)) (ex:xs[j]?.getD 0=x) (ey:ys[j]?.getD 0=y) (e:x=y):xs.drop j=ys.drop j:=by
 subst e
 rw [List.drop_eq_getElem_cons h1,List.drop_eq_getElem_cons h2,h]
 rw [List.getElem?_eq_getElem h1] at ex
 rw [List.getElem?_eq_getElem h2] at ey
 simp only [Option.getD_some] at ex ey
 rw [ex,ey]
theorem Zjj (A A2:Option Addr) (xs ys:List Nat) (c c2:Nat) (w:World) (hX:Zad .u64 w A xs) (hY:Zad .u64 w A2 ys) (hl:xs.length≤4294967296) (hx:Dig W64 xs) (hy:Dig W64 ys) (tx:Trim xs) (ty:Trim ys) :
 Calls Tryz.prog 122 #[.slice A xs.length c, .slice A2 ys.length c2] w (RetV w (.int .i64 (cmpI ((val W64 xs:Nat):Int) ((val W64 ys:Nat):Int)))):=by
 refine Zau (Φ:=fun w=>(Zad .u64 w A xs∧Zad .u64 w A2 ys)) Tryz.func122 rfl (by kernel_rfl) (fun w' hf=>⟨hX.ext hf,hY.ext hf⟩) ?_
 refine Zac (Zaa (xq 1 [(4, .v (.int .i64 0))] [] ?_))
 refine xe (Zab (Zac (Zac (Zaa (xq 5 [(10, .v (.bool ((((xs.length:Nat):Int):Int) != ((ys.length:Nat):Int))))] [] ?_)))))
 refine xe (Zab ?_)
 refine Zas (((((xs.length:Nat):Int):Int) != ((ys.length:Nat):Int))) (by kernel_rfl) (fun hb10=>?_) (fun hb10=>?_)
 ·have hb10':=Zf0 hb10
  refine Zac (Zac (Zaa (xq 5 [(15, .v (.bool (decide (((xs.length:Nat):Int) < ((ys.length:Nat):Int)))))] [] ?_)))
  refine xe (Zab ?_)
  refine Zas ((decide (((xs.length:Nat):Int) < ((ys.length:Nat):Int)))) (by kernel_rfl) (fun hb11=>?_) (fun hb11=>?_)
  ·have hb11':=of_decide_eq_true hb11
   refine Zac (Zaa (xq 1 [(4, .v (.int .i64 (-1)))] [] ?_))
   refine xe (Zab (Zai (Zah (Zah ?_))))
   refine Zag (v:=.int .i64 (-1)) (by kernel_rfl) (fun w' R Q=>?_)
   exact ⟨by rw [← ZhH hx hy tx ty (by omega),ZdE (by omega)],R⟩
  ·have hb11':=of_decide_eq_false hb11
   refine Zam (Zab (Zac (Zaa (xq 1 [(4, .v (.int .i64 1))] [] ?_))))
   refine xe (Zab (Zai (Zah ?_)))
   refine Zag (v:=.int .i64 1) (by kernel_rfl) (fun w' R Q=>?_)
   exact ⟨by rw [← ZhH hx hy tx ty (by omega),Zd9 (by omega)],R⟩
 ·have hb10':=Zf1 hb10
  refine Zam (Zab (Zac (Zac (Zaa (xq 3 [(18, .v (.int .i64 (IntKind.i64.wrap (((xs.length:Nat):Int) - 1))))] [] ?_)))))
  rw [show IntKind.i64.wrap (((xs.length:Nat):Int) - 1)=((xs.length:Nat):Int) - 1 from by rw [IntKind.wrap_i64]; omega]
  refine xq 1 [(5, .v (.int .i64 (((xs.length:Nat):Int) - 1)))] [] ?_
  refine xe (Zab (Zax ?_))
  refine SXc.weak [(0, .v (.slice A xs.length c)),(1, .v (.slice A2 ys.length c2)),(4, .v (.int .i64 0)),(5, .v (.int .i64 (((xs.length:Nat):Int) - 1)))] [] (Ψ:=fun w=>(Zad .u64 w A (xs)∧Zad .u64 w A2 (ys))) (ZaB.of (by kernel_rfl)) (by kernel_rfl) (fun w Q=>⟨Q.1,Q.2⟩) ?_
  refine Zbv (fun nn ss ff=>∃ (k:Nat),ss=ofL [(0, .v (.slice A xs.length c)),(1, .v (.slice A2 ys.length c2)),(4, .v (.int .i64 0)),(5, .v (.int .i64 (((k:Nat):Int) - 1)))] []∧ff=(fun w=>(Zad .u64 w A (xs)∧Zad .u64 w A2 (ys)))∧(xs.drop k=ys.drop k)∧(k≤xs.length)∧nn=(1 + k)) ((1 + xs.length)) ⟨xs.length,rfl,rfl,(by rw [List.drop_of_length_le (Nat.le_refl _),List.drop_of_length_le (by omega)]),Nat.le_refl _,rfl⟩ ?_
  rintro nn ss ff ⟨k,rfl,rfl,HR,hk,rfl⟩
  refine Zac (Zac (Zaa (xq 2 [(20, .v (.bool (decide ((((k:Nat):Int) - 1) ≥ 0))))] [] ?_)))
  refine xe (Zab ?_)
  refine Zas ((decide ((((k:Nat):Int) - 1) ≥ 0))) (by kernel_rfl) (fun hb12=>?_) (fun hb12=>?_)
  ·have hb12':=of_decide_eq_true hb12
   obtain ⟨j,rfl⟩:∃ j,k=j + 1:=⟨k - 1,by omega⟩
   rw [show ((((j + 1):Nat):Int) - 1)=((j:Nat):Int) by omega]
   refine Zam (Zab (Zac (Zax (Zac ?_))))
   refine Zbr 9 (by kernel_rfl) (by kernel_rfl) ZaA ?_
   refine xqf 2 [eS1 23 A xs.length c,(24, .v (.int .i64 ((j:Nat):Int)))] [] ?_
   refine xqj 25 (atA A j) (fun w Q=>ZaG (t:=77) (e:=94) (x:=(Operand.tmp 23)) (ix:=(Operand.tmp 24)) (len:=xs.length) (cap:=c) (i:=j) ((Q.1).ne (j:=j) (by omega)) (by omega)) ?_
   obtain ⟨x13,hx13⟩:∃ x,xs[j]?.getD 0=x:=⟨_,rfl⟩
   refine xqj 26 (.int .u64 ((x13:Nat):Int)) (fun w Q=>by rw [← hx13]; exact ZaV (t:=94) (x:=(Operand.tmp 25)) (Q.1) (j:=j) (by omega)) ?_
   refine xqf 2 [eS1 27 A2 ys.length c2,(28, .v (.int .i64 ((j:Nat):Int)))] [] ?_
   refine xqj 29 (atA A2 j) (fun w Q=>ZaG (t:=77) (e:=94) (x:=(Operand.tmp 27)) (ix:=(Operand.tmp 28)) (len:=ys.length) (cap:=c2) (i:=j) ((Q.2).ne (j:=j) (by omega)) (by omega)) ?_
   obtain ⟨x14,hx14⟩:∃ x,ys[j]?.getD 0=x:=⟨_,rfl⟩
   refine xqj 30 (.int .u64 ((x14:Nat):Int)) (fun w Q=>by rw [← hx14]; exact ZaV (t:=94) (x:=(Operand.tmp 29)) (Q.2) (j:=j) (by omega)) ?_
   refine xqf 1 [(31, .v (.bool ((((x13:Nat):Int):Int) != ((x14:Nat):Int))))] [] ?_
   refine xz (xe (Zab ?_))
   refine Zas (((((x13:Nat):Int):Int) != ((x14:Nat):Int))) (by kernel_rfl) (fun hb15=>?_) (fun hb15=>?_)
   ·have hb15':=Zf0 hb15
    refine Zac (Zac ?_)
    refine Zbr 9 (by kernel_rfl) (by kernel_rfl) ZaA ?_
    refine xqf 2 [eS1 32 A xs.length c,(33, .v (.int .i64 ((j:Nat):Int)))] [] ?_
    refine xqj 34 (atA A j) (fun w Q=>ZaG (t:=77) (e:=94) (x:=(Operand.tmp 32)) (ix:=(Operand.tmp 33)) (len:=xs.length) (cap:=c) (i:=j) ((Q.1).ne (j:=j) (by omega)) (by omega)) ?_
    obtain ⟨x16,hx16⟩:∃ x,xs[j]?.getD 0=x:=⟨_,rfl⟩
    refine xqj 35 (.int .u64 ((x16:Nat):Int)) (fun w Q=>by rw [← hx16]; exact ZaV (t:=94) (x:=(Operand.tmp 34)) (Q.1) (j:=j) (by omega)) ?_
    obtain rfl:x13=x16:=by rw [← hx13,hx16]
    refine xqf 2 [eS1 36 A2 ys.length c2,(37, .v (.int .i64 ((j:Nat):Int)))] [] ?_
    refine xqj 38 (atA A2 j) (fun w Q=>ZaG (t:=77) (e:=94) (x:=(Operand.tmp 36)) (ix:=(Operand.tmp 37)) (len:=ys.length) (cap:=c2) (i:=j) ((Q.2).ne (j:=j) (by omega)) (by omega)) ?_
    obtain ⟨x17,hx17⟩:∃ x,ys[j]?.getD 0=x:=⟨_,rfl⟩
    refine xqj 39 (.int .u64 ((x17:Nat):Int)) (fun w Q=>by rw [← hx17]; exact ZaV (t:=94) (x:=(Operand.tmp 38)) (Q.2) (j:=j) (by omega)) ?_
    obtain rfl:x14=x17:=by rw [← hx14,hx17]
    refine xqf 1 [(40, .v (.bool (decide (((x13:Nat):Int) < ((x14:Nat):Int)))))] [] ?_
    refine xz (xe (Zab ?_))
    refine Zas ((decide (((x13:Nat):Int) < ((x14:Nat):Int)))) (by kernel_rfl) (fun hb18=>?_) (fun hb18=>?_)
    ·have hb18':=of_decide_eq_true hb18
     refine Zac (Zaa (xq 1 [(4, .v (.int .i64 (-1)))] [] ?_))
     refine xe (Zab (Zai (Zah (Zbl (Zah (Zah (Zbl (Zah ?_))))))))
     refine Zag (v:=.int .i64 (-1)) (by kernel_rfl) (fun w' R Q=>?_)
     exact ⟨by rw [← ZfJ hx hy (by omega) (k:=j) (by omega) HR hx13 hx14 (by omega),ZdE (by omega)],R⟩
    ·have hb18':=of_decide_eq_false hb18
     refine Zam (Zab (Zac (Zaa (xq 1 [(4, .v (.int .i64 1))] [] ?_))))
     refine xe (Zab (Zai (Zbl (Zah (Zah (Zbl (Zah ?_)))))))
     refine Zag (v:=.int .i64 1) (by kernel_rfl) (fun w' R Q=>?_)
     exact ⟨by rw [← ZfJ hx hy (by omega) (k:=j) (by omega) HR hx13 hx14 (by omega),Zd9 (by omega)],R⟩
   ·have hb15':=Zf1 hb15
    have HS:xs.drop j=ys.drop j:=ZnP (by omega) (by omega) HR hx13 hx14 (by omega)
    refine Zam (Zbk (Zab (Zaa (xq 2 [(22, .v (.int .i64 (IntKind.i64.wrap (((j:Nat):Int) - 1))))] [] ?_))))
    rw [show IntKind.i64.wrap (((j:Nat):Int) - 1)=((j:Nat):Int) - 1 from by rw [IntKind.wrap_i64]; omega]
    refine xq 1 [(5, .v (.int .i64 (((j:Nat):Int) - 1)))] [] ?_
    refine xe ?_
    refine SXq.weak [(0, .v (.slice A xs.length c)),(1, .v (.slice A2 ys.length c2)),(4, .v (.int .i64 0)),(5, .v (.int .i64 (((j:Nat):Int) - 1)))] [] (Ψ:=fun w=>(Zad .u64 w A (xs)∧Zad .u64 w A2 (ys))) (ZaB.of (by kernel_rfl)) (by kernel_rfl) (fun w Q=>⟨Q.1,Q.2⟩) ?_
    exact Za3 ((1 + j)) (by omega) ⟨j,rfl,rfl,HS,by omega,rfl⟩
  ·have hb12':=of_decide_eq_false hb12
   obtain rfl:k=0:=by omega
   refine Zbf (Zap (Zap (Zbs (Zab (Zac (Zaa (xq 1 [(4, .v (.int .i64 0))] [] ?_)))))))
   refine xe (Zab (Zai ?_))
   refine Zag (v:=.int .i64 0) (by kernel_rfl) (fun w' R Q=>?_)
   exact ⟨by rw [List.drop_zero,List.drop_zero] at HR; rw [HR,Zh5],R⟩
def Zoq (b:Nat) (xs:List Nat) (u:Nat) (w:World) (e:Ending) (w':World):Prop:=∃ qs,e=.returned (.int .u64 ((val W64 xs % u:Nat):Int))∧(qs.length=xs.length∧Dig W64 qs∧val W64 qs=val W64 xs / u)∧Fr (fun i=>i=b) w w'∧Own .u64 94 w' b qs
theorem ZeF (b c:Nat) (xs:List Nat) (u:Nat) (w:World) (hO:Own .u64 94 w b xs) (hl:xs.length≤4294967296) (hd:Dig W64 xs) (hu:0 < u) (huW:u < W64) :
 Calls Tryz.prog 108 #[.slice (some ⟨b,0,none⟩) xs.length c, .int .u64 ((u:Nat):Int)] w (Zoq b xs u w):=by
 refine ZeE (fun i=>i=b) (Φ:=fun w=>Own .u64 94 w b xs) Tryz.func108 rfl (by kernel_rfl) (fun w' hf=>hO.ext hf) ?_
 refine Zac (Zaa (xq 1 [(4, .v (.int .u64 0))] [] ?_))
 refine xe (Zab (Zac (Zaa (xq 1 [(5, .v (.int .u64 0))] [] ?_))))
 refine xe (Zab (Zac (Zac (Zaa (xq 3 [(9, .v (.int .i64 (IntKind.i64.wrap (((xs.length:Nat):Int) - 1))))] [] ?_)))))
 rw [show IntKind.i64.wrap (((xs.length:Nat):Int) - 1)=((xs.length:Nat):Int) - 1 from by rw [IntKind.wrap_i64]; omega]
 refine xq 1 [(6, .v (.int .i64 (((xs.length:Nat):Int) - 1)))] [] ?_
 refine xe (Zab (Zax ?_))
 refine SXc.weak [(0, .v (.slice (some ⟨b,0,none⟩) xs.length c)),(1, .v (.int .u64 ((u:Nat):Int))),(4, .v (.int .u64 0)),(5, .v (.int .u64 ((0:Nat):Int))),(6, .v (.int .i64 (((xs.length:Nat):Int) - 1)))] [] (Ψ:=fun w=>Own .u64 94 w b (xs)) (ZaB.of (by kernel_rfl)) (by kernel_rfl) (fun w Q=>Q) ?_
 refine Zbv (fun nn ss ff=>∃ (k:Nat) (r:Nat) (qs:List Nat),ss=ofL [(0, .v (.slice (some ⟨b,0,none⟩) xs.length c)),(1, .v (.int .u64 ((u:Nat):Int))),(4, .v (.int .u64 0)),(5, .v (.int .u64 ((r:Nat):Int))),(6, .v (.int .i64 (((k:Nat):Int) - 1)))] []∧ff=(fun w=>Own .u64 94 w b (qs))∧(DwR xs u k qs r)∧(k≤xs.length)∧nn=(1 + k)) ((1 + xs.length)) ⟨xs.length,0,xs,rfl,rfl,DwR.start hd hu,Nat.le_refl _,rfl⟩ ?_
 rintro nn ss ff ⟨k,r,qs,rfl,rfl,HR,hk,rfl⟩
 refine Zac (Zac (Zaa (xq 2 [(11, .v (.bool (decide ((((k:Nat):Int) - 1) ≥ 0))))] [] ?_)))
 refine xe (Zab ?_)
 refine Zas ((decide ((((k:Nat):Int) - 1) ≥ 0))) (by kernel_rfl) (fun hb10=>?_) (fun hb10=>?_)
 ·have hb10':=of_decide_eq_true hb10
  obtain ⟨j,rfl⟩:∃ j,k=j + 1:=⟨k - 1,by omega⟩
  rw [show ((((j + 1):Nat):Int) - 1)=((j:Nat):Int) by omega]
  have hql:=HR.1.1
  refine Zam (Zab (Zac (Zax (Zaa (xq 5 [eS1 15 (some ⟨b,0,none⟩) xs.length c,(16, .v (.int .i64 ((j:Nat):Int))),(17, .v (.int .u64 ((r:Nat):Int))),eS1 18 (some ⟨b,0,none⟩) xs.length c,(19, .v (.int .i64 ((j:Nat):Int)))] [] ?_)))))
  refine xqk 20 (.pointer (some ⟨b,j,none⟩)) (fun w R Q=>Zbh (t:=77) (e:=94) (x:=(Operand.tmp 18)) (ix:=(Operand.tmp 19)) (len:=xs.length) (cap:=c) (i:=j) (by omega)) ?_
  obtain ⟨x11,hx11⟩:∃ x,qs[j]?.getD 0=x:=⟨_,rfl⟩
  refine xqk 21 (.int .u64 ((x11:Nat):Int)) (fun w R Q=>by rw [← hx11]; exact Zb9 (t:=94) (x:=(Operand.tmp 20)) (Q) (j:=j) (by omega)) ?_
  refine xq 1 [(22, .v (.int .u64 ((u:Nat):Int)))] [] ?_
  refine xqc 149 [.int .u64 ((r:Nat):Int), .int .u64 ((x11:Nat):Int), .int .u64 ((u:Nat):Int)] 23 (fun _:Unit=>.tuple #[.int .u64 ((divQ r x11 u:Nat):Int), .int .u64 ((divR r x11 u:Nat):Int)]) _ (fun w R Q=>(Zil r x11 u _ HR.1.2.2.1 huW (by rw [← hx11]; exact HR.1.2.1.getD Zaf _)).mono (fun _ _ h=>Zak h rfl)) (fun xx=>?_)
  refine xq 3 [(24, .v (.int .u64 ((divQ r x11 u:Nat):Int))),(25, .v (.int .u64 ((divR r x11 u:Nat):Int)))] [] ?_
  refine xqk 26 (.pointer (some ⟨b,j,none⟩)) (fun w R Q=>Zbh (t:=77) (e:=94) (x:=(Operand.tmp 15)) (ix:=(Operand.tmp 16)) (len:=xs.length) (cap:=c) (i:=j) (by omega)) ?_
  refine ZbO (t:=94) (x:=(Operand.tmp 26)) (y:=(Operand.tmp 24)) b (j) (divQ r x11 u) (fun w=>(Own .u64 94 w b ((qs).set (j) (divQ r x11 u))∧True)) (fun w Q=>Q.1) (by omega) (Or.inr rfl) (fun w w' Q hF hO=>⟨hO,trivial⟩) ?_
  refine xq 1 [(5, .v (.int .u64 ((divR r x11 u:Nat):Int)))] [] ?_
  refine xe (Zbk (Zab (Zaa (xq 2 [(13, .v (.int .i64 (IntKind.i64.wrap (((j:Nat):Int) - 1))))] [] ?_))))
  rw [show IntKind.i64.wrap (((j:Nat):Int) - 1)=((j:Nat):Int) - 1 from by rw [IntKind.wrap_i64]; omega]
  refine xq 1 [(6, .v (.int .i64 (((j:Nat):Int) - 1)))] [] ?_
  refine xe ?_
  refine SXq.weak [(0, .v (.slice (some ⟨b,0,none⟩) xs.length c)),(1, .v (.int .u64 ((u:Nat):Int))),(4, .v (.int .u64 0)),(5, .v (.int .u64 (((divR r x11 u):Nat):Int))),(6, .v (.int .i64 (((j:Nat):Int) - 1)))] [] (Ψ:=fun w=>Own .u64 94 w b (((qs).set (j) (divQ r x11 u)))) (ZaB.of (by kernel_rfl)) (by kernel_rfl) (fun w Q=>Q.1) ?_
  exact Za3 ((1 + j)) (by omega) ⟨j,(divR r x11 u),((qs).set (j) (divQ r x11 u)),rfl,rfl,(HR.step (by omega) hx11 (by rw [← hx11]; exact HR.1.2.1.getD Zaf _)),by omega,rfl⟩
 ·have hb10':=of_decide_eq_false hb10
  obtain rfl:k=0:=by omega
  refine Zbf (Zap (Zap (Zbs (Zab (Zac (Zaa (xq 2 [(4, .v (.int .u64 ((r:Nat):Int)))] [] ?_)))))))
  refine xe (Zab (Zai ?_))
  refine Zag (v:=.int .u64 ((r:Nat):Int)) (by kernel_rfl) (fun w' R Q=>?_)
  exact ⟨qs,by rw [HR.1.done.2],⟨HR.1.1,HR.1.2.1,HR.1.done.1⟩,R,Q⟩
def Zkl (b:Nat) (w:World) (p:List Nat→Nat→Prop) (e:Ending) (w':World):Prop:=∃ x:List Nat × Nat,e=.returned (.bool (((x.2:Nat):Int) == 1))∧p x.1 x.2∧Fr (fun i=>i=b) w w'∧Own .u64 94 w' b x.1
theorem Zjk (b c o:Nat) (zs0 ys:List Nat) (A:Option Addr) (c2:Nat) (w:World) (hO:Own .u64 94 w b zs0) (hY:Zad .u64 w A ys) (hA:∀ a,A=some a→a.block≠b) (ho:o + ys.length < zs0.length) (hl:zs0.length≤4294967296) (hd:Dig W64 zs0) (hy:Dig W64 ys) (q:Nat) (hq:q < W64) :
 Calls Tryz.prog 199 #[.slice (some ⟨b,o,none⟩) (ys.length + 1) c, .slice A ys.length c2, .int .u64 ((q:Nat):Int)] w (Zkl b w (Zf6 zs0 ys q o)):=by
 refine ZeE (fun i=>i=b) (Φ:=fun w=>(Own .u64 94 w b zs0∧Zad .u64 w A ys)) Tryz.func199 rfl (by kernel_rfl) (fun w' hf=>⟨hO.ext hf,hY.ext hf⟩) ?_
 refine Zac (Zaa (xq 1 [(6, .v (.bool false))] [] ?_))
 refine xe (Zab (Zac (Zaa (xq 2 [(7, .v (.int .u64 0)),(8, .v (.int .u64 0))] [] ?_))))
 refine xe (Zab (Zac (Zac (Zaa (xq 3 [eS1 14 A ys.length c2,(15, .v (.int .i64 ((ys.length:Nat):Int))),(16, .v (.int .i64 0))] [] ?_)))))
 refine xe (Zab (Zax ?_))
 refine SXc.weak [(0, .v (.slice (some ⟨b,o,none⟩) (ys.length + 1) c)),(1, .v (.slice A ys.length c2)),(2, .v (.int .u64 ((q:Nat):Int))),(6, .v (.bool false)),(7, .v (.int .u64 ((0:Nat):Int))),(8, .v (.int .u64 ((0:Nat):Int))),(14, .v (.slice A ys.length c2)),(15, .v (.int .i64 ((ys.length:Nat):Int))),(16, .v (.int .i64 ((0:Nat):Int)))] [] (Ψ:=fun w=>(Own .u64 94 w b (zs0)∧Zad .u64 w A (ys))) (ZaB.of (by kernel_rfl)) (by kernel_rfl) (fun w Q=>⟨Q.1,Q.2⟩) ?_
 refine Zbv (fun nn ss ff=>∃ (cc bb k:Nat) (zs:List Nat),ss=ofL [(0, .v (.slice (some ⟨b,o,none⟩) (ys.length + 1) c)),(1, .v (.slice A ys.length c2)),(2, .v (.int .u64 ((q:Nat):Int))),(6, .v (.bool false)),(7, .v (.int .u64 ((cc:Nat):Int))),(8, .v (.int .u64 ((bb:Nat):Int))),(14, .v (.slice A ys.length c2)),(15, .v (.int .i64 ((ys.length:Nat):Int))),(16, .v (.int .i64 ((k:Nat):Int)))] []∧ff=(fun w=>(Own .u64 94 w b (zs)∧Zad .u64 w A (ys)))∧(SpR zs0 ys q o k zs cc bb)∧(k≤ys.length)∧nn=(ys.length - k)) ((ys.length - 0)) ⟨0,0,0,zs0,rfl,rfl,SpR.start ys q o hd,by omega,rfl⟩ ?_
 rintro nn ss ff ⟨cc,bb,k,zs,rfl,rfl,HR,hk,rfl⟩
 refine Zac (Zaa (xq 1 [(17, .v (.bool (decide (((k:Nat):Int) < ((ys.length:Nat):Int)))))] [] ?_))
 refine xe (Zab (Zac ?_))
 refine Zas ((decide (((k:Nat):Int) < ((ys.length:Nat):Int)))) (by kernel_rfl) (fun hb10=>?_) (fun hb10=>?_)
 ·have hb10':=of_decide_eq_true hb10
  have hzl:=HR.1
  have hbb:=HR.2.2.2.1
  refine Zam (Zab (Zac (Zax (Zac (Zaa (xq 1 [(18, .v (.int .i64 ((k:Nat):Int)))] [] ?_))))))
  refine xqk 19 (atA A k) (fun w R Q=>ZaG (t:=77) (e:=94) (x:=(Operand.tmp 14)) (ix:=(Operand.tmp 16)) (len:=ys.length) (cap:=c2) (i:=k) ((Q.2).ne (j:=k) (by omega)) (by omega)) ?_
  obtain ⟨x11,hx11⟩:∃ x,ys[k]?.getD 0=x:=⟨_,rfl⟩
  refine xqk 20 (.int .u64 ((x11:Nat):Int)) (fun w R Q=>by rw [← hx11]; exact ZaV (t:=94) (x:=(Operand.tmp 19)) (Q.2) (j:=k) (by omega)) ?_
  refine xq 2 [(9, .v (.int .i64 ((k:Nat):Int))),(10, .v (.int .u64 ((x11:Nat):Int)))] [] ?_
  refine xe (Zab (Zac (Zaa (xq 2 [(22, .v (.int .u64 ((x11:Nat):Int))),(23, .v (.int .u64 ((q:Nat):Int)))] [] ?_))))
  refine xqc 145 [.int .u64 ((x11:Nat):Int), .int .u64 ((q:Nat):Int)] 24 (fun _:Unit=>.tuple #[.int .u64 ((ZaE x11 q:Nat):Int), .int .u64 ((Zao x11 q:Nat):Int)]) _ (fun w R Q=>(Zf2 x11 q _ (by rw [← hx11]; exact hy.getD Zaf _) hq).mono (fun _ _ h=>Zak h rfl)) (fun xx=>?_)
  refine xq 5 [(11, .v (.int .u64 ((ZaE x11 q:Nat):Int))),(12, .v (.int .u64 ((Zao x11 q:Nat):Int)))] [] ?_
  refine xe (Zab (Zac (Zaa (xq 2 [(28, .v (.int .u64 ((Zao x11 q:Nat):Int))),(29, .v (.int .u64 ((cc:Nat):Int)))] [] ?_))))
  refine xqk 30 (.tuple #[.int .u64 ((Zar (Zao x11 q) cc 0:Nat):Int), .int .u64 ((Zav (Zao x11 q) cc 0:Nat):Int)]) (fun w R Q=>Zco (args:=[Operand.tmp 28,Operand.tmp 29,Operand.const (Value.int IntKind.u64 0)]) (ts:=#[94,94,94]) (Zcc (Zao x11 q) cc 0 (by omega) w)) ?_
  refine xq 5 [(12, .v (.int .u64 ((Zar (Zao x11 q) cc 0:Nat):Int))),(13, .v (.int .u64 ((Zav (Zao x11 q) cc 0:Nat):Int)))] [] ?_
  refine xe (Zab (Zac (Zaa (xq 3 [(35, .v (.int .u64 (IntKind.u64.wrap (((ZaE x11 q:Nat):Int) + ((Zav (Zao x11 q) cc 0:Nat):Int)))))] [] ?_))))
  rw [Zhu (a:=ZaE x11 q) (b:=Zav (Zao x11 q) cc 0) (Zji (by rw [← hx11]; exact hy.getD Zaf _) hq HR.2.2.1)]
  refine xq 1 [(7, .v (.int .u64 ((ZaE x11 q + Zav (Zao x11 q) cc 0:Nat):Int)))] [] ?_
  refine xe (Zab (Zaa (xq 4 [eS1 37 (some ⟨b,o,none⟩) (ys.length + 1) c,(38, .v (.int .i64 ((k:Nat):Int))),eS1 39 (some ⟨b,o,none⟩) (ys.length + 1) c,(40, .v (.int .i64 ((k:Nat):Int)))] [] ?_)))
  refine xqk 41 (.pointer (some ⟨b,o + k,none⟩)) (fun w R Q=>ZbC (t:=77) (e:=94) (x:=(Operand.tmp 39)) (ix:=(Operand.tmp 40)) (len:=(ys.length + 1)) (cap:=c) (i:=k) (by omega)) ?_
  obtain ⟨x12,hx12⟩:∃ x,zs[o + k]?.getD 0=x:=⟨_,rfl⟩
  refine xqk 42 (.int .u64 ((x12:Nat):Int)) (fun w R Q=>by rw [← hx12]; exact Zb9 (t:=94) (x:=(Operand.tmp 41)) (Q.1.1) (j:=o + k) (by omega)) ?_
  refine xq 2 [(43, .v (.int .u64 ((Zar (Zao x11 q) cc 0:Nat):Int))),(44, .v (.int .u64 ((bb:Nat):Int)))] [] ?_
  refine xqk 45 (.tuple #[.int .u64 ((ZaY x12 (Zar (Zao x11 q) cc 0) bb:Nat):Int), .int .u64 ((ZaZ x12 (Zar (Zao x11 q) cc 0) bb:Nat):Int)]) (fun w R Q=>Zco (args:=[Operand.tmp 42,Operand.tmp 43,Operand.tmp 44]) (ts:=#[94,94,94]) (Zcd x12 (Zar (Zao x11 q) cc 0) bb (by omega) w)) ?_
  refine xq 3 [(46, .v (.int .u64 ((ZaY x12 (Zar (Zao x11 q) cc 0) bb:Nat):Int))),(47, .v (.int .u64 ((ZaZ x12 (Zar (Zao x11 q) cc 0) bb:Nat):Int)))] [] ?_
  refine xqk 48 (.pointer (some ⟨b,o + k,none⟩)) (fun w R Q=>ZbC (t:=77) (e:=94) (x:=(Operand.tmp 37)) (ix:=(Operand.tmp 38)) (len:=(ys.length + 1)) (cap:=c) (i:=k) (by omega)) ?_
  refine ZbO (t:=94) (x:=(Operand.tmp 48)) (y:=(Operand.tmp 46)) b (o + k) (ZaY x12 (Zar (Zao x11 q) cc 0) bb) (fun w=>((Own .u64 94 w b ((zs).set (o + k) (ZaY x12 (Zar (Zao x11 q) cc 0) bb))∧Zad .u64 w A (ys))∧True)) (fun w Q=>Q.1.1) (by omega) (Or.inr rfl) (fun w w' Q hF hO=>⟨⟨hO,((Q.1.2).fr hF (fun a ha _=>hA a ha))⟩,trivial⟩) ?_
  refine xr 1 [eS1 0 (some ⟨b,o,none⟩) (ys.length + 1) c,eS1 1 A ys.length c2,(2, .v (.int .u64 ((q:Nat):Int))),(6, .v (.bool false)),(7, .v (.int .u64 ((ZaE x11 q + Zav (Zao x11 q) cc 0:Nat):Int))),(8, .v (.int .u64 ((ZaZ x12 (Zar (Zao x11 q) cc 0) bb:Nat):Int))),eS1 14 A ys.length c2,(15, .v (.int .i64 ((ys.length:Nat):Int))),(16, .v (.int .i64 ((k:Nat):Int)))] [] ?_
  refine xe (Zbk (Zab (Zaa (xq 1 [(49, .v (.int .i64 (IntKind.i64.wrap (((k:Nat):Int) + 1))))] [] ?_))))
  rw [show IntKind.i64.wrap ((((k:Nat):Int) + 1))=((k + 1:Nat):Int) from by rw [IntKind.wrap_i64]; omega]
  refine xq 1 [(16, .v (.int .i64 ((k + 1:Nat):Int)))] [] ?_
  refine xe ?_
  refine SXq.weak [(0, .v (.slice (some ⟨b,o,none⟩) (ys.length + 1) c)),(1, .v (.slice A ys.length c2)),(2, .v (.int .u64 ((q:Nat):Int))),(6, .v (.bool false)),(7, .v (.int .u64 (((ZaE x11 q + Zav (Zao x11 q) cc 0):Nat):Int))),(8, .v (.int .u64 (((ZaZ x12 (Zar (Zao x11 q) cc 0) bb):Nat):Int))),(14, .v (.slice A ys.length c2)),(15, .v (.int .i64 ((ys.length:Nat):Int))),(16, .v (.int .i64 (((k + 1):Nat):Int)))] [] (Ψ:=fun w=>(Own .u64 94 w b (((zs).set (o + k) (ZaY x12 (Zar (Zao x11 q) cc 0) bb)))∧Zad .u64 w A (ys))) (ZaB.of (by kernel_rfl)) (by kernel_rfl) (fun w Q=>⟨Q.1.1,Q.1.2⟩) ?_
  exact Za3 ((ys.length - (k + 1))) (by omega) ⟨(ZaE x11 q + Zav (Zao x11 q) cc 0),(ZaZ x12 (Zar (Zao x11 q) cc 0) bb),(k + 1),((zs).set (o + k) (ZaY x12 (Zar (Zao x11 q) cc 0) bb)),rfl,rfl,(HR.step (by omega) hx11 hx12 hy hq),by omega,rfl⟩
 ·have hb10':=of_decide_eq_false hb10
  have hzl:=HR.1
  have hbb:=HR.2.2.2.1
  obtain rfl:k=ys.length:=by omega
  refine Zbf (Zap (Zap (Zbs (Zab (Zac (Zaa (xq 6 [eS1 51 (some ⟨b,o,none⟩) (ys.length + 1) c,(53, .v (.int .i64 ((ys.length:Nat):Int))),eS1 54 (some ⟨b,o,none⟩) (ys.length + 1) c,(56, .v (.int .i64 ((ys.length:Nat):Int)))] [] ?_)))))))
  refine xqk 57 (.pointer (some ⟨b,o + ys.length,none⟩)) (fun w R Q=>ZbC (t:=77) (e:=94) (x:=(Operand.tmp 54)) (ix:=(Operand.tmp 56)) (len:=(ys.length + 1)) (cap:=c) (i:=ys.length) (by omega)) ?_
  obtain ⟨x13,hx13⟩:∃ x,zs[o + ys.length]?.getD 0=x:=⟨_,rfl⟩
  refine xqk 58 (.int .u64 ((x13:Nat):Int)) (fun w R Q=>by rw [← hx13]; exact Zb9 (t:=94) (x:=(Operand.tmp 57)) (Q.1) (j:=o + ys.length) (by omega)) ?_
  refine xq 2 [(59, .v (.int .u64 ((cc:Nat):Int))),(60, .v (.int .u64 ((bb:Nat):Int)))] [] ?_
  refine xqk 61 (.tuple #[.int .u64 ((ZaY x13 cc bb:Nat):Int), .int .u64 ((ZaZ x13 cc bb:Nat):Int)]) (fun w R Q=>Zco (args:=[Operand.tmp 58,Operand.tmp 59,Operand.tmp 60]) (ts:=#[94,94,94]) (Zcd x13 cc bb (by omega) w)) ?_
  refine xq 3 [(62, .v (.int .u64 ((ZaY x13 cc bb:Nat):Int))),(63, .v (.int .u64 ((ZaZ x13 cc bb:Nat):Int)))] [] ?_
  refine xqk 64 (.pointer (some ⟨b,o + ys.length,none⟩)) (fun w R Q=>ZbC (t:=77) (e:=94) (x:=(Operand.tmp 51)) (ix:=(Operand.tmp 53)) (len:=(ys.length + 1)) (cap:=c) (i:=ys.length) (by omega)) ?_
  refine ZbO (t:=94) (x:=(Operand.tmp 64)) (y:=(Operand.tmp 62)) b (o + ys.length) (ZaY x13 cc bb) (fun w=>(Own .u64 94 w b ((zs).set (o + ys.length) (ZaY x13 cc bb))∧Zad .u64 w A (ys))) (fun w Q=>Q.1) (by omega) (Or.inr rfl) (fun w w' Q hF hO=>⟨hO,((Q.2).fr hF (fun a ha _=>hA a ha))⟩) ?_
  refine xq 1 [(8, .v (.int .u64 ((ZaZ x13 cc bb:Nat):Int)))] [] ?_
  refine xe (Zab (Zac (Zaa (xq 3 [(6, .v (.bool ((((ZaZ x13 cc bb:Nat):Int):Int) == 1)))] [] ?_))))
  refine xe (Zab (Zai ?_))
  refine Zag (v:=.bool ((((ZaZ x13 cc bb:Nat):Int):Int) == 1)) (by kernel_rfl) (fun w' R Q=>?_)
  exact ⟨(_,_),rfl,HR.done (by omega) hx13,R,Q.1⟩
theorem Zjl (b c o:Nat) (zs0 ys:List Nat) (A:Option Addr) (c2:Nat) (w:World) (hO:Own .u64 94 w b zs0) (hY:Zad .u64 w A ys) (hA:∀ a,A=some a→a.block≠b) (ho:o + ys.length < zs0.length) (hl:zs0.length≤4294967296) (hd:Dig W64 zs0) (hy:Dig W64 ys) :
 Calls Tryz.prog 200 #[.slice (some ⟨b,o,none⟩) (ys.length + 1) c, .slice A ys.length c2] w (Zkl b w (Zf7 zs0 ys o)):=by
 refine ZeE (fun i=>i=b) (Φ:=fun w=>(Own .u64 94 w b zs0∧Zad .u64 w A ys)) Tryz.func200 rfl (by kernel_rfl) (fun w' hf=>⟨hO.ext hf,hY.ext hf⟩) ?_
 refine Zac (Zaa (xq 1 [(4, .v (.bool false))] [] ?_))
 refine xe (Zab (Zac (Zaa (xq 1 [(5, .v (.int .u64 0))] [] ?_))))
 refine xe (Zab (Zac (Zac (Zaa (xq 3 [eS1 8 A ys.length c2,(9, .v (.int .i64 ((ys.length:Nat):Int))),(10, .v (.int .i64 0))] [] ?_)))))
 refine xe (Zab (Zax ?_))
 refine SXc.weak [(0, .v (.slice (some ⟨b,o,none⟩) (ys.length + 1) c)),(1, .v (.slice A ys.length c2)),(4, .v (.bool false)),(5, .v (.int .u64 ((0:Nat):Int))),(8, .v (.slice A ys.length c2)),(9, .v (.int .i64 ((ys.length:Nat):Int))),(10, .v (.int .i64 ((0:Nat):Int)))] [] (Ψ:=fun w=>(Own .u64 94 w b (zs0)∧Zad .u64 w A (ys))) (ZaB.of (by kernel_rfl)) (by kernel_rfl) (fun w Q=>⟨Q.1,Q.2⟩) ?_
 refine Zbv (fun nn ss ff=>∃ (cc k:Nat) (zs:List Nat),ss=ofL [(0, .v (.slice (some ⟨b,o,none⟩) (ys.length + 1) c)),(1, .v (.slice A ys.length c2)),(4, .v (.bool false)),(5, .v (.int .u64 ((cc:Nat):Int))),(8, .v (.slice A ys.length c2)),(9, .v (.int .i64 ((ys.length:Nat):Int))),(10, .v (.int .i64 ((k:Nat):Int)))] []∧ff=(fun w=>(Own .u64 94 w b (zs)∧Zad .u64 w A (ys)))∧(AbR zs0 ys o k zs cc)∧(k≤ys.length)∧nn=(ys.length - k)) ((ys.length - 0)) ⟨0,0,zs0,rfl,rfl,AbR.start ys o hd,by omega,rfl⟩ ?_
 rintro nn ss ff ⟨cc,k,zs,rfl,rfl,HR,hk,rfl⟩
 refine Zac (Zaa (xq 1 [(11, .v (.bool (decide (((k:Nat):Int) < ((ys.length:Nat):Int)))))] [] ?_))
 refine xe (Zab (Zac ?_))
 refine Zas ((decide (((k:Nat):Int) < ((ys.length:Nat):Int)))) (by kernel_rfl) (fun hb10=>?_) (fun hb10=>?_)
 ·have hb10':=of_decide_eq_true hb10
  have hzl:=HR.1
  have hcc:=HR.2.2.1
  refine Zam (Zab (Zac (Zax (Zac (Zaa (xq 1 [(12, .v (.int .i64 ((k:Nat):Int)))] [] ?_))))))
  refine xqk 13 (atA A k) (fun w R Q=>ZaG (t:=77) (e:=94) (x:=(Operand.tmp 8)) (ix:=(Operand.tmp 10)) (len:=ys.length) (cap:=c2) (i:=k) ((Q.2).ne (j:=k) (by omega)) (by omega)) ?_
  obtain ⟨x11,hx11⟩:∃ x,ys[k]?.getD 0=x:=⟨_,rfl⟩
  refine xqk 14 (.int .u64 ((x11:Nat):Int)) (fun w R Q=>by rw [← hx11]; exact ZaV (t:=94) (x:=(Operand.tmp 13)) (Q.2) (j:=k) (by omega)) ?_
  refine xq 2 [(6, .v (.int .i64 ((k:Nat):Int))),(7, .v (.int .u64 ((x11:Nat):Int)))] [] ?_
  refine xe (Zab (Zaa (xq 4 [eS1 16 (some ⟨b,o,none⟩) (ys.length + 1) c,(17, .v (.int .i64 ((k:Nat):Int))),eS1 18 (some ⟨b,o,none⟩) (ys.length + 1) c,(19, .v (.int .i64 ((k:Nat):Int)))] [] ?_)))
  refine xqk 20 (.pointer (some ⟨b,o + k,none⟩)) (fun w R Q=>ZbC (t:=77) (e:=94) (x:=(Operand.tmp 18)) (ix:=(Operand.tmp 19)) (len:=(ys.length + 1)) (cap:=c) (i:=k) (by omega)) ?_
  obtain ⟨x12,hx12⟩:∃ x,zs[o + k]?.getD 0=x:=⟨_,rfl⟩
  refine xqk 21 (.int .u64 ((x12:Nat):Int)) (fun w R Q=>by rw [← hx12]; exact Zb9 (t:=94) (x:=(Operand.tmp 20)) (Q.1) (j:=o + k) (by omega)) ?_
  refine xq 2 [(22, .v (.int .u64 ((x11:Nat):Int))),(23, .v (.int .u64 ((cc:Nat):Int)))] [] ?_
  refine xqk 24 (.tuple #[.int .u64 ((Zar x12 x11 cc:Nat):Int), .int .u64 ((Zav x12 x11 cc:Nat):Int)]) (fun w R Q=>Zco (args:=[Operand.tmp 21,Operand.tmp 22,Operand.tmp 23]) (ts:=#[94,94,94]) (Zcc x12 x11 cc (by omega) w)) ?_
  refine xq 3 [(25, .v (.int .u64 ((Zar x12 x11 cc:Nat):Int))),(26, .v (.int .u64 ((Zav x12 x11 cc:Nat):Int)))] [] ?_
  refine xqk 27 (.pointer (some ⟨b,o + k,none⟩)) (fun w R Q=>ZbC (t:=77) (e:=94) (x:=(Operand.tmp 16)) (ix:=(Operand.tmp 17)) (len:=(ys.length + 1)) (cap:=c) (i:=k) (by omega)) ?_
  refine ZbO (t:=94) (x:=(Operand.tmp 27)) (y:=(Operand.tmp 25)) b (o + k) (Zar x12 x11 cc) (fun w=>(Own .u64 94 w b ((zs).set (o + k) (Zar x12 x11 cc))∧Zad .u64 w A (ys))) (fun w Q=>Q.1) (by omega) (Or.inr rfl) (fun w w' Q hF hO=>⟨hO,((Q.2).fr hF (fun a ha _=>hA a ha))⟩) ?_
  refine xq 1 [(5, .v (.int .u64 ((Zav x12 x11 cc:Nat):Int)))] [] ?_
  refine xe (Zbk (Zab (Zaa (xq 1 [(28, .v (.int .i64 (IntKind.i64.wrap (((k:Nat):Int) + 1))))] [] ?_))))
  rw [show IntKind.i64.wrap ((((k:Nat):Int) + 1))=((k + 1:Nat):Int) from by rw [IntKind.wrap_i64]; omega]
  refine xq 1 [(10, .v (.int .i64 ((k + 1:Nat):Int)))] [] ?_
  refine xe ?_
  refine SXq.weak [(0, .v (.slice (some ⟨b,o,none⟩) (ys.length + 1) c)),(1, .v (.slice A ys.length c2)),(4, .v (.bool false)),(5, .v (.int .u64 (((Zav x12 x11 cc):Nat):Int))),(8, .v (.slice A ys.length c2)),(9, .v (.int .i64 ((ys.length:Nat):Int))),(10, .v (.int .i64 (((k + 1):Nat):Int)))] [] (Ψ:=fun w=>(Own .u64 94 w b (((zs).set (o + k) (Zar x12 x11 cc)))∧Zad .u64 w A (ys))) (ZaB.of (by kernel_rfl)) (by kernel_rfl) (fun w Q=>⟨Q.1,Q.2⟩) ?_
  exact Za3 ((ys.length - (k + 1))) (by omega) ⟨(Zav x12 x11 cc),(k + 1),((zs).set (o + k) (Zar x12 x11 cc)),rfl,rfl,(HR.step (by omega) hx11 hx12 hy),by omega,rfl⟩
 ·have hb10':=of_decide_eq_false hb10
  have hzl:=HR.1
  have hcc:=HR.2.2.1
  obtain rfl:k=ys.length:=by omega
  refine Zbf (Zap (Zap (Zbs (Zab (Zac (Zaa (xq 6 [eS1 30 (some ⟨b,o,none⟩) (ys.length + 1) c,(32, .v (.int .i64 ((ys.length:Nat):Int))),eS1 33 (some ⟨b,o,none⟩) (ys.length + 1) c,(35, .v (.int .i64 ((ys.length:Nat):Int)))] [] ?_)))))))
  refine xqk 36 (.pointer (some ⟨b,o + ys.length,none⟩)) (fun w R Q=>ZbC (t:=77) (e:=94) (x:=(Operand.tmp 33)) (ix:=(Operand.tmp 35)) (len:=(ys.length + 1)) (cap:=c) (i:=ys.length) (by omega)) ?_
  obtain ⟨x13,hx13⟩:∃ x,zs[o + ys.length]?.getD 0=x:=⟨_,rfl⟩
  refine xqk 37 (.int .u64 ((x13:Nat):Int)) (fun w R Q=>by rw [← hx13]; exact Zb9 (t:=94) (x:=(Operand.tmp 36)) (Q.1) (j:=o + ys.length) (by omega)) ?_
  refine xq 1 [(38, .v (.int .u64 ((cc:Nat):Int)))] [] ?_
  refine xqk 39 (.tuple #[.int .u64 ((Zar x13 0 cc:Nat):Int), .int .u64 ((Zav x13 0 cc:Nat):Int)]) (fun w R Q=>Zco (args:=[Operand.tmp 37,Operand.const (Value.int IntKind.u64 0),Operand.tmp 38]) (ts:=#[94,94,94]) (Zcc x13 0 cc (by omega) w)) ?_
  refine xq 3 [(40, .v (.int .u64 ((Zar x13 0 cc:Nat):Int))),(41, .v (.int .u64 ((Zav x13 0 cc:Nat):Int)))] [] ?_
  refine xqk 42 (.pointer (some ⟨b,o + ys.length,none⟩)) (fun w R Q=>ZbC (t:=77) (e:=94) (x:=(Operand.tmp 30)) (ix:=(Operand.tmp 32)) (len:=(ys.length + 1)) (cap:=c) (i:=ys.length) (by omega)) ?_
  refine ZbO (t:=94) (x:=(Operand.tmp 42)) (y:=(Operand.tmp 40)) b (o + ys.length) (Zar x13 0 cc) (fun w=>(Own .u64 94 w b ((zs).set (o + ys.length) (Zar x13 0 cc))∧Zad .u64 w A (ys))) (fun w Q=>Q.1) (by omega) (Or.inr rfl) (fun w w' Q hF hO=>⟨hO,((Q.2).fr hF (fun a ha _=>hA a ha))⟩) ?_
  refine xq 1 [(5, .v (.int .u64 ((Zav x13 0 cc:Nat):Int)))] [] ?_
  refine xe (Zab (Zac (Zaa (xq 3 [(4, .v (.bool ((((Zav x13 0 cc:Nat):Int):Int) == 1)))] [] ?_))))
  refine xe (Zab (Zai ?_))
  refine Zag (v:=.bool ((((Zav x13 0 cc:Nat):Int):Int) == 1)) (by kernel_rfl) (fun w' R Q=>?_)
  exact ⟨(_,_),rfl,HR.done (by omega) hx13,R,Q.1⟩
end Go.Proofs.YtklpdkpcocnglaaGreatDoor

namespace Go.Proofs.YtklpdkpcocnglaaGreatDoor
open Go.RowKit
noncomputable def win (o n:Nat) (zs:List Nat):Nat:=val W64 ((zs.drop o).take (n + 1))
theorem ZdK {o n:Nat} {zs:List Nat} (h:o≤zs.length):val W64 (zs.take (o + n + 1))=val W64 (zs.take o) + W64 ^ o * win o n zs:=by
 unfold win
 rw [show o + n + 1=o + (n + 1) by omega,List.take_add,ZbH,List.length_take,Nat.min_eq_left h]
theorem Zl1 {o n:Nat} {zs:List Nat} (hd:Dig W64 zs):win o n zs < W64 ^ (n + 1):=by
 have:=ZaP ((hd.drop o).take (n + 1))
 refine Nat.lt_of_lt_of_le this (Nat.pow_le_pow_right Zaf (by rw [List.length_take]; exact Nat.min_le_left _ _))
def WinR (o n:Nat) (zs0 zs:List Nat):Prop:=zs.length=zs0.length∧Dig W64 zs∧zs.take o=zs0.take o∧zs.drop (o + n + 1)=zs0.drop (o + n + 1)
theorem WinR.start {o n:Nat} {zs0:List Nat} (h:Dig W64 zs0):WinR o n zs0 zs0:=⟨rfl,h,rfl,rfl⟩
theorem Zhw {o a b c d x:Nat} (h:x + W64 ^ o * a + W64 ^ o * b=x + W64 ^ o * c + W64 ^ o * d):a + b=c + d:=by
 have h2:W64 ^ o * (a + b)=W64 ^ o * (c + d):=by rw [Nat.mul_add,Nat.mul_add]; omega
 exact Nat.eq_of_mul_eq_mul_left (Nat.pow_pos Zaf) h2
theorem Zf6.win {zs0 zs1 ys zs:List Nat} {q o b:Nat} (h:Zf6 zs1 ys q o zs b) (ho:o≤zs0.length) (k:WinR o ys.length zs0 zs1):WinR o ys.length zs0 zs∧b≤1∧win o ys.length zs + q * val W64 ys=win o ys.length zs1 + W64 ^ (ys.length + 1) * b:=by
 obtain ⟨h1,h2,h3,h4,h5,h6⟩:=h
 obtain ⟨k1,k2,k3,k4⟩:=k
 refine ⟨⟨h1.trans k1,h2,h4.trans k3,h5.trans k4⟩,h3,?_⟩
 rw [ZdK (by omega),ZdK (by omega),h4,show o + ys.length + 1=o + (ys.length + 1) by omega,Nat.pow_add,Nat.mul_assoc (W64 ^ o)] at h6
 exact Zhw h6
theorem Zf7.win {zs0 zs1 ys zs:List Nat} {o c:Nat} (h:Zf7 zs1 ys o zs c) (ho:o≤zs0.length) (k:WinR o ys.length zs0 zs1):WinR o ys.length zs0 zs∧c≤1∧win o ys.length zs + W64 ^ (ys.length + 1) * c=win o ys.length zs1 + val W64 ys:=by
 obtain ⟨h1,h2,h3,h4,h5,h6⟩:=h
 obtain ⟨k1,k2,k3,k4⟩:=k
 refine ⟨⟨h1.trans k1,h2,h4.trans k3,h5.trans k4⟩,h3,?_⟩
 rw [ZdK (by omega),ZdK (by omega),h4,show o + ys.length + 1=o + (ys.length + 1) by omega,Nat.pow_add,Nat.mul_assoc (W64 ^ o)] at h6
 exact Zhw h6
theorem ZnQ {o n:Nat} {zs:List Nat} {u0 u1 u2:Nat} (hn:2≤n) (hl:o + n < zs.length) (h0:zs[o + n]?.getD 0=u0) (h1:zs[o + (n - 1)]?.getD 0=u1) (h2:zs[o + (n - 2)]?.getD 0=u2) (hd:Dig W64 zs) :
 ∃ l,l < W64 ^ (n - 2)∧win o n zs=l + W64 ^ (n - 2) * (u2 + W64 * (u1 + W64 * u0)):=by
 obtain ⟨m,rfl⟩:∃ m,n=m + 2:=⟨n - 2,by omega⟩
 refine ⟨val W64 ((zs.drop o).take m),?_,?_⟩
 ·have:=ZaP ((hd.drop o).take m)
  rw [List.length_take,List.length_drop,Nat.min_eq_left (by omega)] at this
  exact this
 ·unfold win
  simp only [show m + 2 - 1=m + 1 by omega,show m + 2 - 2=m by omega] at h1 h2 ⊢
  have g:∀ j,(zs.drop o)[j]?.getD 0=zs[o + j]?.getD 0:=fun j=>by rw [List.getElem?_drop]
  rw [ZaX (m + 2),ZaX (m + 1),ZaX m,g,g,g,h0,h1,h2]
  simp only [Nat.pow_succ,Nat.mul_add,Nat.mul_assoc,Nat.add_assoc]
theorem ZnR {n:Nat} {ys:List Nat} {t v2:Nat} (hn:2≤n) (hl:ys.length=n) (h0:ys[n - 1]?.getD 0=t) (h1:ys[n - 2]?.getD 0=v2):∃ l,val W64 ys=l + W64 ^ (n - 2) * (v2 + W64 * t):=by
 obtain ⟨m,rfl⟩:∃ m,n=m + 2:=⟨n - 2,by omega⟩
 refine ⟨val W64 (ys.take m),?_⟩
 simp only [show m + 2 - 1=m + 1 by omega,show m + 2 - 2=m by omega] at h0 h1 ⊢
 have:=ZaX (B:=W64) (xs:=ys) (m + 1)
 rw [List.take_of_length_le (by omega),ZaX m,h0,h1,Nat.pow_succ] at this
 rw [this]
 simp only [Nat.mul_add,Nat.mul_assoc,Nat.add_assoc]
theorem Zm1 {B l U V vl u0 u1 u2 v2 t:Nat} (hl:l < B) (hU:U=l + B * (u2 + W64 * (u1 + W64 * u0))) (hV:V=vl + B * (v2 + W64 * t)) (h2:u2 < W64) (h0:0 < t):U / V≤divQ u0 u1 t:=by
 unfold divQ
 rw [Nat.le_div_iff_mul_le h0]
 have h3:=Nat.div_mul_le_self U V
 generalize U / V=q at *
 have h4:q * (B * (W64 * t))≤q * V:=Nat.mul_le_mul_left _ (by rw [hV,Nat.mul_add]; omega)
 have h5:B * (q * (W64 * t)) < B * (u2 + W64 * (u1 + W64 * u0) + 1):=by
  rw [Nat.mul_left_comm,Nat.mul_add B (_ + _) 1]; omega
 have h6:=Nat.lt_of_mul_lt_mul_left h5
 have h7:W64 * (q * t) < W64 * (u1 + W64 * u0 + 1):=by
  rw [Nat.mul_left_comm,Nat.mul_add W64 (_ + _) 1]; omega
 have h8:=Nat.lt_of_mul_lt_mul_left h7
 rw [Nat.mul_comm u0]; omega
theorem Zhx {B l U V vl u0 u1 u2 v2 t g r:Nat} (hl:l < B) (hU:U=l + B * (u2 + W64 * (u1 + W64 * u0))) (hV:V=vl + B * (v2 + W64 * t)) (hr:r + g * t=u0 * W64 + u1) (h:r * W64 + u2 < g * v2) (hVp:0 < V):U / V + 1≤g:=by
 rw [Nat.add_one_le_iff,Nat.div_lt_iff_lt_mul hVp]
 have h1:u2 + W64 * (u1 + W64 * u0) + 1≤g * (v2 + W64 * t):=by
  have e:W64 * (r + g * t)=W64 * (u1 + W64 * u0):=by rw [hr,Nat.add_comm,Nat.mul_comm u0]
  rw [Nat.mul_add g,Nat.mul_left_comm g]
  rw [Nat.mul_add W64 r] at e
  rw [Nat.mul_comm r] at h
  omega
 have h2:B * (u2 + W64 * (u1 + W64 * u0) + 1)≤g * V:=by
  refine Nat.le_trans (Nat.mul_le_mul_left B h1) ?_
  rw [Nat.mul_left_comm,hV]
  exact Nat.mul_le_mul_left _ (by omega)
 rw [Nat.mul_add B (_ + _) 1] at h2
 omega
theorem Zl2 {U V:Nat} (h:U < W64 * V):U / V≤W64 - 1:=by
 have hV:0 < V:=Nat.pos_of_ne_zero (fun e=>by subst e; omega)
 have:=(Nat.div_lt_iff_lt_mul hV).2 h
 omega
theorem Zkm {hi lo r u g v:Nat} (h:lo + W64 * hi=g * v) (h1:¬ hi < r) (h2:hi=r→¬ lo≤u) (hu:u < W64):r * W64 + u < g * v:=by
 rw [← h,Nat.mul_comm r]
 rcases Nat.lt_trichotomy hi r with h3 | h3 | h3
 ·exact absurd h3 h1
 ·have:=h2 h3; subst h3; omega
 ·have:=Nat.mul_le_mul_left W64 h3
  rw [Nat.mul_succ] at this
  omega
def CorR (U V P:Nat) (g b wn:Nat):Prop:=b≤1∧wn < P∧U / V≤g∧wn + g * V=U + P * b
theorem CorR.pos {U V P g b wn:Nat} (h:CorR U V P g b wn) (hb:b=1) (hV:0 < V):U / V + 1≤g:=by
 obtain ⟨_,h2,_,h4⟩:=h
 subst hb
 rw [Nat.add_one_le_iff,Nat.div_lt_iff_lt_mul hV]
 omega
theorem CorR.step {U V P g b wn wn' c:Nat} (h:CorR U V P g b wn) (hb:b=1) (hV:0 < V) (hc:c≤1) (hw:wn' < P) (he:wn' + P * c=wn + V):CorR U V P (g - 1) (1 - c) wn':=by
 have h0:=h.pos hb hV
 obtain ⟨h1,h2,h3,h4⟩:=h
 subst hb
 unfold CorR
 generalize U / V=q at *
 refine ⟨by omega,hw,by omega,?_⟩
 obtain ⟨k,rfl⟩:∃ k,g=k + 1:=⟨g - 1,by omega⟩
 rw [Nat.add_sub_cancel]
 rw [Nat.add_mul] at h4
 rcases (by omega:c=0∨c=1) with rfl | rfl
 ·simp at he h4 ⊢; omega
 ·simp at he h4 ⊢; omega
theorem CorR.done {U V P g wn:Nat} (h:CorR U V P g 0 wn) (hV:0 < V):g=U / V∧wn=U % V:=by
 obtain ⟨h1,h2,h3,h4⟩:=h
 rw [Nat.mul_zero,Nat.add_zero] at h4
 have h5:g≤U / V:=by rw [Nat.le_div_iff_mul_le hV]; omega
 have e:g=U / V:=by omega
 refine ⟨e,?_⟩
 have:=Nat.div_add_mod U V
 rw [← e,Nat.mul_comm] at this
 omega
theorem ZoL:(18446744073709551615:Int)=((W64 - 1:Nat):Int):=by rw [Zal]; rfl
theorem Znt {a b:Nat} (h:¬ a + b < W64) (ha:a < W64) (hb:b < W64):IntKind.u64.wrap ((a:Int) + (b:Int))=((a + b - W64:Nat):Int):=by
 rw [IntKind.wrap_u64]
 rw [Zal] at *
 omega
theorem ZnS {c:Nat} (h:c≤1):(!(((c:Nat):Int) == 1))=(((1 - c:Nat):Int) == 1):=by
 rcases (by omega:c=0∨c=1) with rfl | rfl<;>rfl
def Zor (b o:Nat) (zs0 ys:List Nat) (w:World) (e:Ending) (w':World):Prop:=∃ zs,e=.returned (.int .u64 ((win o ys.length zs0 / val W64 ys:Nat):Int))∧(WinR o ys.length zs0 zs∧win o ys.length zs=win o ys.length zs0 % val W64 ys)∧Fr (fun i=>i=b) w w'∧Own .u64 94 w' b zs
theorem Zhy (b c o:Nat) (zs0 ys:List Nat) (A:Option Addr) (c2:Nat) (w:World) (hO:Own .u64 94 w b zs0) (hY:Zad .u64 w A ys) (hA:∀ a,A=some a→a.block≠b) (ho:o + ys.length < zs0.length) (hl:zs0.length≤4294967296) (hd:Dig W64 zs0) (hy:Dig W64 ys) (h2n:2≤ys.length) (hVp:0 < val W64 ys) (hUV:win o ys.length zs0 < W64 * val W64 ys) :
 Calls Tryz.prog 175 #[.slice (some ⟨b,o,none⟩) (ys.length + 1) c, .slice A ys.length c2] w (Zor b o zs0 ys w):=by
 obtain ⟨u2,hu2⟩:∃ x,zs0[o + (ys.length - 2)]?.getD 0=x:=⟨_,rfl⟩
 refine ZeE (fun i=>i=b) (Φ:=fun w=>(Own .u64 94 w b zs0∧Zad .u64 w A ys)) Tryz.func175 rfl (by kernel_rfl) (fun w' hf=>⟨hO.ext hf,hY.ext hf⟩) ?_
 refine Zac (Zaa (xq 1 [(4, .v (.int .u64 0))] [] ?_))
 refine xe (Zab (Zac (Zaa (xq 3 [(5, .v (.int .i64 ((ys.length:Nat):Int)))] [] ?_))))
 refine xe (Zab (Zac (Zaa (xq 3 [eS1 14 A ys.length c2,(16, .v (.int .i64 (IntKind.i64.wrap (((ys.length:Nat):Int) - 1))))] [] ?_))))
 rw [show IntKind.i64.wrap ((((ys.length:Nat):Int) - 1))=((ys.length - 1:Nat):Int) from by rw [IntKind.wrap_i64]; omega]
 refine xqk 17 (atA A (ys.length - 1)) (fun w R Q=>ZaG (t:=77) (e:=94) (x:=(Operand.tmp 14)) (ix:=(Operand.tmp 16)) (len:=ys.length) (cap:=c2) (i:=ys.length - 1) ((Q.2).ne (j:=ys.length - 1) (by omega)) (by omega)) ?_
 obtain ⟨x10,hx10⟩:∃ x,ys[ys.length - 1]?.getD 0=x:=⟨_,rfl⟩
 refine xqk 18 (.int .u64 ((x10:Nat):Int)) (fun w R Q=>by rw [← hx10]; exact ZaV (t:=94) (x:=(Operand.tmp 17)) (Q.2) (j:=ys.length - 1) (by omega)) ?_
 refine xq 1 [(6, .v (.int .u64 ((x10:Nat):Int)))] [] ?_
 refine xe (Zab (Zac (Zaa (xq 1 [(7, .v (.int .u64 18446744073709551615))] [] ?_))))
 rw [ZoL]
 refine xe (Zab ?_)
 refine Zjd (fun ss ff=>∃ (gg:Nat),ss=ofL [(0, .v (.slice (some ⟨b,o,none⟩) (ys.length + 1) c)),(1, .v (.slice A ys.length c2)),(7, .v (.int .u64 ((gg:Nat):Int)))] []∧ff=(fun w=>(Own .u64 94 w b (zs0)∧Zad .u64 w A (ys)))∧(win o ys.length zs0 / val W64 ys≤gg)∧(gg < W64)) ?_ ?_
 ·refine Zac (Zaa (xq 2 [eS1 19 (some ⟨b,o,none⟩) (ys.length + 1) c,(20, .v (.int .i64 ((ys.length:Nat):Int)))] [] ?_))
  refine xqk 21 (.pointer (some ⟨b,o + ys.length,none⟩)) (fun w R Q=>ZbC (t:=77) (e:=94) (x:=(Operand.tmp 19)) (ix:=(Operand.tmp 20)) (len:=(ys.length + 1)) (cap:=c) (i:=ys.length) (by omega)) ?_
  obtain ⟨x11,hx11⟩:∃ x,zs0[o + ys.length]?.getD 0=x:=⟨_,rfl⟩
  refine xqk 22 (.int .u64 ((x11:Nat):Int)) (fun w R Q=>by rw [← hx11]; exact Zb9 (t:=94) (x:=(Operand.tmp 21)) (Q.1) (j:=o + ys.length) (by omega)) ?_
  refine xq 2 [(24, .v (.bool (decide (((x11:Nat):Int) < ((x10:Nat):Int)))))] [] ?_
  refine xe (Zab ?_)
  refine Zas ((decide (((x11:Nat):Int) < ((x10:Nat):Int)))) (by kernel_rfl) (fun hb12=>?_) (fun hb12=>?_)
  ·have hb12':=of_decide_eq_true hb12
   refine Zac (Zaa (xq 1 [(8, .v (.int .u64 0))] [] ?_))
   refine xe (Zab (Zac ?_))
   refine Zi4 16 [0,0,3,7,0,0,32,112,240,0,1023,2047,4095,4095,8191,32767] (by kernel_rfl) (by kernel_rfl) ZaA ?_
   refine xqf 2 [eS1 26 (some ⟨b,o,none⟩) (ys.length + 1) c,(27, .v (.int .i64 ((ys.length:Nat):Int)))] [] ?_
   refine xqj 28 (.pointer (some ⟨b,o + ys.length,none⟩)) (fun w Q=>ZbC (t:=77) (e:=94) (x:=(Operand.tmp 26)) (ix:=(Operand.tmp 27)) (len:=(ys.length + 1)) (cap:=c) (i:=ys.length) (by omega)) ?_
   obtain ⟨x13,hx13⟩:∃ x,zs0[o + ys.length]?.getD 0=x:=⟨_,rfl⟩
   refine xqj 29 (.int .u64 ((x13:Nat):Int)) (fun w Q=>by rw [← hx13]; exact Zb9 (t:=94) (x:=(Operand.tmp 28)) (Q.1) (j:=o + ys.length) (by omega)) ?_
   obtain rfl:x11=x13:=by rw [← hx11,hx13]
   refine xqf 3 [eS1 30 (some ⟨b,o,none⟩) (ys.length + 1) c,(32, .v (.int .i64 (IntKind.i64.wrap (((ys.length:Nat):Int) - 1))))] [] ?_
   rw [show IntKind.i64.wrap ((((ys.length:Nat):Int) - 1))=((ys.length - 1:Nat):Int) from by rw [IntKind.wrap_i64]; omega]
   refine xqj 33 (.pointer (some ⟨b,o + (ys.length - 1),none⟩)) (fun w Q=>ZbC (t:=77) (e:=94) (x:=(Operand.tmp 30)) (ix:=(Operand.tmp 32)) (len:=(ys.length + 1)) (cap:=c) (i:=ys.length - 1) (by omega)) ?_
   obtain ⟨x14,hx14⟩:∃ x,zs0[o + (ys.length - 1)]?.getD 0=x:=⟨_,rfl⟩
   refine xqj 34 (.int .u64 ((x14:Nat):Int)) (fun w Q=>by rw [← hx14]; exact Zb9 (t:=94) (x:=(Operand.tmp 33)) (Q.1) (j:=o + (ys.length - 1)) (by omega)) ?_
   refine xqf 1 [(35, .v (.int .u64 ((x10:Nat):Int)))] [] ?_
   refine xqd 149 [.int .u64 ((x11:Nat):Int), .int .u64 ((x14:Nat):Int), .int .u64 ((x10:Nat):Int)] 36 (fun _:Unit=>.tuple #[.int .u64 ((divQ x11 x14 x10:Nat):Int), .int .u64 ((divR x11 x14 x10:Nat):Int)]) _ (fun w R Q=>(Zil x11 x14 x10 _ (by omega) (by rw [← hx10]; exact hy.getD Zaf _) (by rw [← hx14]; exact hd.getD Zaf _)).mono (fun _ _ h=>Zak h rfl)) (fun xx=>?_)
   refine xqf 5 [(7, .v (.int .u64 ((divQ x11 x14 x10:Nat):Int))),(8, .v (.int .u64 ((divR x11 x14 x10:Nat):Int)))] [] ?_
   refine xz (xe (Zab (Zax ?_)))
   obtain ⟨lw,hlw,hU⟩:=ZnQ (o:=o) (n:=ys.length) (by omega) (by omega) hx11 hx14 hu2 hd
   obtain ⟨y2,hy2⟩:∃ x,ys[ys.length - 2]?.getD 0=x:=⟨_,rfl⟩
   obtain ⟨vl,hV⟩:=ZnR (ys:=ys) h2n rfl hx10 hy2
   refine SXc.weak [(0, .v (.slice (some ⟨b,o,none⟩) (ys.length + 1) c)),(1, .v (.slice A ys.length c2)),(4, .v (.int .u64 0)),(5, .v (.int .i64 ((ys.length:Nat):Int))),(6, .v (.int .u64 ((x10:Nat):Int))),(7, .v (.int .u64 (((divQ x11 x14 x10):Nat):Int))),(8, .v (.int .u64 (((divR x11 x14 x10):Nat):Int)))] [] (Ψ:=fun w=>(Own .u64 94 w b (zs0)∧Zad .u64 w A (ys))) (ZaB.of (by kernel_rfl)) (by kernel_rfl) (fun w Q=>⟨Q.1.1,Q.1.2⟩) ?_
   have ht0:0 < x10:=by omega
   refine Zbv (fun nn ss ff=>∃ (gg rr:Nat),ss=ofL [(0, .v (.slice (some ⟨b,o,none⟩) (ys.length + 1) c)),(1, .v (.slice A ys.length c2)),(4, .v (.int .u64 0)),(5, .v (.int .i64 ((ys.length:Nat):Int))),(6, .v (.int .u64 ((x10:Nat):Int))),(7, .v (.int .u64 ((gg:Nat):Int))),(8, .v (.int .u64 ((rr:Nat):Int)))] []∧ff=(fun w=>(Own .u64 94 w b (zs0)∧Zad .u64 w A (ys)))∧(win o ys.length zs0 / val W64 ys≤gg)∧(gg < W64)∧(rr + gg * x10=x11 * W64 + x14)∧(rr < W64)∧nn=(1 + gg)) ((1 + (divQ x11 x14 x10))) ⟨(divQ x11 x14 x10),(divR x11 x14 x10),rfl,rfl,(Zm1 hlw hU hV (by rw [← hu2]; exact hd.getD Zaf _) ht0),(ZhI (by omega) (by rw [← hx14]; exact hd.getD Zaf _)),(by rw [Nat.add_comm]; exact Zfc _ _ _),(Nat.lt_trans (ZeU _ _ ht0) (by rw [← hx10]; exact hy.getD Zaf _)),rfl⟩ ?_
   rintro nn ss ff ⟨gg,rr,rfl,rfl,hq,hgW,hr,hrW,rfl⟩
   refine Zax (Zac (Zaa (xq 4 [(40, .v (.int .u64 ((gg:Nat):Int))),eS1 41 A ys.length c2,(43, .v (.int .i64 (IntKind.i64.wrap (((ys.length:Nat):Int) - 2))))] [] ?_)))
   rw [show IntKind.i64.wrap ((((ys.length:Nat):Int) - 2))=((ys.length - 2:Nat):Int) from by rw [IntKind.wrap_i64]; omega]
   refine xqk 44 (atA A (ys.length - 2)) (fun w R Q=>ZaG (t:=77) (e:=94) (x:=(Operand.tmp 41)) (ix:=(Operand.tmp 43)) (len:=ys.length) (cap:=c2) (i:=ys.length - 2) ((Q.2).ne (j:=ys.length - 2) (by omega)) (by omega)) ?_
   obtain ⟨x15,hx15⟩:∃ x,ys[ys.length - 2]?.getD 0=x:=⟨_,rfl⟩
   refine xqk 45 (.int .u64 ((x15:Nat):Int)) (fun w R Q=>by rw [← hx15]; exact ZaV (t:=94) (x:=(Operand.tmp 44)) (Q.2) (j:=ys.length - 2) (by omega)) ?_
   obtain rfl:y2=x15:=by rw [← hy2,hx15]
   refine xqc 145 [.int .u64 ((gg:Nat):Int), .int .u64 ((y2:Nat):Int)] 46 (fun _:Unit=>.tuple #[.int .u64 ((ZaE gg y2:Nat):Int), .int .u64 ((Zao gg y2:Nat):Int)]) _ (fun w R Q=>(Zf2 gg y2 _ hgW (by rw [← hy2]; exact hy.getD Zaf _)).mono (fun _ _ h=>Zak h rfl)) (fun xx=>?_)
   refine xq 5 [(9, .v (.int .u64 ((ZaE gg y2:Nat):Int))),(10, .v (.int .u64 ((Zao gg y2:Nat):Int)))] [] ?_
   refine xe (Zab (Zac (Zac (Zaa (xq 4 [(52, .v (.bool (decide (((ZaE gg y2:Nat):Int) < ((rr:Nat):Int)))))] [] ?_)))))
   rcases bl2 ((decide (((ZaE gg y2:Nat):Int) < ((rr:Nat):Int)))) with hb16 | hb16
   ·rw [hb16]
    have hb16':=of_decide_eq_true hb16
    refine xq 13 [(65, .v (.bool true))] [] ?_
    refine xe (Zab (xa (Zbf (Zap ?_))))
    refine Zgn (by kernel_rfl) ?_
    refine Zap (Zbs ?_)
    refine SXq.weak [(0, .v (.slice (some ⟨b,o,none⟩) (ys.length + 1) c)),(1, .v (.slice A ys.length c2)),(7, .v (.int .u64 ((gg:Nat):Int)))] [] (Ψ:=fun w=>(Own .u64 94 w b (zs0)∧Zad .u64 w A (ys))) (ZaB.of (by kernel_rfl)) (by kernel_rfl) (fun w Q=>⟨Q.1.1,Q.1.2⟩) ?_
    exact ZcZ ⟨gg,rfl,rfl,hq,hgW⟩
   ·rw [hb16]
    have hb16':=of_decide_eq_false hb16
    refine xq 4 [(56, .v (.bool ((((ZaE gg y2:Nat):Int):Int) == ((rr:Nat):Int))))] [] ?_
    rcases bl2 (((((ZaE gg y2:Nat):Int):Int) == ((rr:Nat):Int))) with hb17 | hb17
    ·rw [hb17]
     have hb17':=beq_iff_eq.1 hb17
     refine xq 4 [(57, .v (.int .u64 ((Zao gg y2:Nat):Int))),eS1 58 (some ⟨b,o,none⟩) (ys.length + 1) c,(60, .v (.int .i64 (IntKind.i64.wrap (((ys.length:Nat):Int) - 2))))] [] ?_
     rw [show IntKind.i64.wrap ((((ys.length:Nat):Int) - 2))=((ys.length - 2:Nat):Int) from by rw [IntKind.wrap_i64]; omega]
     refine xqk 61 (.pointer (some ⟨b,o + (ys.length - 2),none⟩)) (fun w R Q=>ZbC (t:=77) (e:=94) (x:=(Operand.tmp 58)) (ix:=(Operand.tmp 60)) (len:=(ys.length + 1)) (cap:=c) (i:=ys.length - 2) (by omega)) ?_
     obtain ⟨x18,hx18⟩:∃ x,zs0[o + (ys.length - 2)]?.getD 0=x:=⟨_,rfl⟩
     refine xqk 62 (.int .u64 ((x18:Nat):Int)) (fun w R Q=>by rw [← hx18]; exact Zb9 (t:=94) (x:=(Operand.tmp 61)) (Q.1.1) (j:=o + (ys.length - 2)) (by omega)) ?_
     obtain rfl:u2=x18:=by rw [← hu2,hx18]
     refine xq 3 [(65, .v (.bool (decide (((Zao gg y2:Nat):Int)≤((u2:Nat):Int)))))] [] ?_
     refine xe (Zab ?_)
     refine Zas ((decide (((Zao gg y2:Nat):Int)≤((u2:Nat):Int)))) (by kernel_rfl) (fun hb19=>?_) (fun hb19=>?_)
     ·have hb19':=of_decide_eq_true hb19
      refine Zbf (Zap ?_)
      refine Zgn (by kernel_rfl) ?_
      refine Zap (Zbs ?_)
      refine SXq.weak [(0, .v (.slice (some ⟨b,o,none⟩) (ys.length + 1) c)),(1, .v (.slice A ys.length c2)),(7, .v (.int .u64 ((gg:Nat):Int)))] [] (Ψ:=fun w=>(Own .u64 94 w b (zs0)∧Zad .u64 w A (ys))) (ZaB.of (by kernel_rfl)) (by kernel_rfl) (fun w Q=>⟨Q.1.1,Q.1.2⟩) ?_
      exact ZcZ ⟨gg,rfl,rfl,hq,hgW⟩
     ·have hb19':=of_decide_eq_false hb19
      refine Zam (Zab (Zac ?_))
      have hbr:rr * W64 + u2 < gg * y2:=Zkm (ZcM gg y2) (by omega) (fun _=>by omega) (by rw [← hu2]; exact hd.getD Zaf _)
      have hg1:=Zhx hlw hU hV hr hbr hVp
      have hg0:1≤gg:=Nat.le_trans (Nat.le_add_left 1 _) hg1
      by_cases hov:rr + x10 < W64
      ·refine Zaa (xq 2 [(67, .v (.int .u64 (IntKind.u64.wrap (((gg:Nat):Int) - 1))))] [] ?_)
       rw [show IntKind.u64.wrap ((((gg:Nat):Int) - 1))=((gg - 1:Nat):Int) from by rw [IntKind.wrap_u64]; have:=Zal; omega]
       refine xq 1 [(7, .v (.int .u64 ((gg - 1:Nat):Int)))] [] ?_
       refine xe (Zab (Zac (Zaa (xq 3 [(70, .v (.int .u64 (IntKind.u64.wrap (((rr:Nat):Int) + ((x10:Nat):Int)))))] [] ?_))))
       rw [Zhu (a:=rr) (b:=x10) hov]
       refine xq 1 [(8, .v (.int .u64 ((rr + x10:Nat):Int)))] [] ?_
       refine xe (Zab (Zac (Zaa (xq 3 [(73, .v (.bool (decide (((rr + x10:Nat):Int) < ((x10:Nat):Int)))))] [] ?_))))
       refine xe (Zab ?_)
       refine Zas ((decide (((rr + x10:Nat):Int) < ((x10:Nat):Int)))) (by kernel_rfl) (fun hb20=>?_) (fun hb20=>?_)
       ·have hb20':=of_decide_eq_true hb20
        exfalso; omega
       ·have hb20':=of_decide_eq_false hb20
        refine Zam (Zbk ?_)
        refine SXq.weak [(0, .v (.slice (some ⟨b,o,none⟩) (ys.length + 1) c)),(1, .v (.slice A ys.length c2)),(4, .v (.int .u64 0)),(5, .v (.int .i64 ((ys.length:Nat):Int))),(6, .v (.int .u64 ((x10:Nat):Int))),(7, .v (.int .u64 (((gg - 1):Nat):Int))),(8, .v (.int .u64 (((rr + x10):Nat):Int)))] [] (Ψ:=fun w=>(Own .u64 94 w b (zs0)∧Zad .u64 w A (ys))) (ZaB.of (by kernel_rfl)) (by kernel_rfl) (fun w Q=>⟨Q.1.1,Q.1.2⟩) ?_
        exact Za3 ((1 + (gg - 1))) (by omega) ⟨(gg - 1),(rr + x10),rfl,rfl,(Nat.le_sub_of_add_le hg1),(by omega),(by obtain ⟨m,rfl⟩:∃ m,gg=m + 1:=⟨gg - 1,by omega⟩; rw [Nat.add_sub_cancel]; rw [Nat.add_mul] at hr; omega),hov,rfl⟩
      ·refine Zaa (xq 2 [(67, .v (.int .u64 (IntKind.u64.wrap (((gg:Nat):Int) - 1))))] [] ?_)
       rw [show IntKind.u64.wrap ((((gg:Nat):Int) - 1))=((gg - 1:Nat):Int) from by rw [IntKind.wrap_u64]; have:=Zal; omega]
       refine xq 1 [(7, .v (.int .u64 ((gg - 1:Nat):Int)))] [] ?_
       refine xe (Zab (Zac (Zaa (xq 3 [(70, .v (.int .u64 (IntKind.u64.wrap (((rr:Nat):Int) + ((x10:Nat):Int)))))] [] ?_))))
       rw [Znt (a:=rr) (b:=x10) hov (by omega) (by rw [← hx10]; exact hy.getD Zaf _)]
       refine xq 1 [(8, .v (.int .u64 ((rr + x10 - W64:Nat):Int)))] [] ?_
       refine xe (Zab (Zac (Zaa (xq 3 [(73, .v (.bool (decide (((rr + x10 - W64:Nat):Int) < ((x10:Nat):Int)))))] [] ?_))))
       refine xe (Zab ?_)
       refine Zas ((decide (((rr + x10 - W64:Nat):Int) < ((x10:Nat):Int)))) (by kernel_rfl) (fun hb21=>?_) (fun hb21=>?_)
       ·have hb21':=of_decide_eq_true hb21
        refine Zbf ?_
        refine Zgn (by kernel_rfl) ?_
        refine Zap (Zbs ?_)
        refine SXq.weak [(0, .v (.slice (some ⟨b,o,none⟩) (ys.length + 1) c)),(1, .v (.slice A ys.length c2)),(7, .v (.int .u64 (((gg - 1):Nat):Int)))] [] (Ψ:=fun w=>(Own .u64 94 w b (zs0)∧Zad .u64 w A (ys))) (ZaB.of (by kernel_rfl)) (by kernel_rfl) (fun w Q=>⟨Q.1.1,Q.1.2⟩) ?_
        exact ZcZ ⟨(gg - 1),rfl,rfl,(Nat.le_sub_of_add_le hg1),(by omega)⟩
       ·have hb21':=of_decide_eq_false hb21
        exfalso; omega
    ·rw [hb17]
     have hb17':=Za5 hb17
     refine xq 9 [(65, .v (.bool false))] [] ?_
     refine xe (Zab (xb (Zam (Zab (Zac ?_)))))
     have hbr:rr * W64 + u2 < gg * y2:=Zkm (ZcM gg y2) (by omega) (fun e=>absurd (show (ZaE gg y2:Int)=rr by rw [e]) hb17') (by rw [← hu2]; exact hd.getD Zaf _)
     have hg1:=Zhx hlw hU hV hr hbr hVp
     have hg0:1≤gg:=Nat.le_trans (Nat.le_add_left 1 _) hg1
     by_cases hov:rr + x10 < W64
     ·refine Zaa (xq 2 [(67, .v (.int .u64 (IntKind.u64.wrap (((gg:Nat):Int) - 1))))] [] ?_)
      rw [show IntKind.u64.wrap ((((gg:Nat):Int) - 1))=((gg - 1:Nat):Int) from by rw [IntKind.wrap_u64]; have:=Zal; omega]
      refine xq 1 [(7, .v (.int .u64 ((gg - 1:Nat):Int)))] [] ?_
      refine xe (Zab (Zac (Zaa (xq 3 [(70, .v (.int .u64 (IntKind.u64.wrap (((rr:Nat):Int) + ((x10:Nat):Int)))))] [] ?_))))
      rw [Zhu (a:=rr) (b:=x10) hov]
      refine xq 1 [(8, .v (.int .u64 ((rr + x10:Nat):Int)))] [] ?_
      refine xe (Zab (Zac (Zaa (xq 3 [(73, .v (.bool (decide (((rr + x10:Nat):Int) < ((x10:Nat):Int)))))] [] ?_))))
      refine xe (Zab ?_)
      refine Zas ((decide (((rr + x10:Nat):Int) < ((x10:Nat):Int)))) (by kernel_rfl) (fun hb22=>?_) (fun hb22=>?_)
      ·have hb22':=of_decide_eq_true hb22
       exfalso; omega
      ·have hb22':=of_decide_eq_false hb22
       refine Zam (Zbk ?_)
       refine SXq.weak [(0, .v (.slice (some ⟨b,o,none⟩) (ys.length + 1) c)),(1, .v (.slice A ys.length c2)),(4, .v (.int .u64 0)),(5, .v (.int .i64 ((ys.length:Nat):Int))),(6, .v (.int .u64 ((x10:Nat):Int))),(7, .v (.int .u64 (((gg - 1):Nat):Int))),(8, .v (.int .u64 (((rr + x10):Nat):Int)))] [] (Ψ:=fun w=>(Own .u64 94 w b (zs0)∧Zad .u64 w A (ys))) (ZaB.of (by kernel_rfl)) (by kernel_rfl) (fun w Q=>⟨Q.1.1,Q.1.2⟩) ?_
       exact Za3 ((1 + (gg - 1))) (by omega) ⟨(gg - 1),(rr + x10),rfl,rfl,(Nat.le_sub_of_add_le hg1),(by omega),(by obtain ⟨m,rfl⟩:∃ m,gg=m + 1:=⟨gg - 1,by omega⟩; rw [Nat.add_sub_cancel]; rw [Nat.add_mul] at hr; omega),hov,rfl⟩
     ·refine Zaa (xq 2 [(67, .v (.int .u64 (IntKind.u64.wrap (((gg:Nat):Int) - 1))))] [] ?_)
      rw [show IntKind.u64.wrap ((((gg:Nat):Int) - 1))=((gg - 1:Nat):Int) from by rw [IntKind.wrap_u64]; have:=Zal; omega]
      refine xq 1 [(7, .v (.int .u64 ((gg - 1:Nat):Int)))] [] ?_
      refine xe (Zab (Zac (Zaa (xq 3 [(70, .v (.int .u64 (IntKind.u64.wrap (((rr:Nat):Int) + ((x10:Nat):Int)))))] [] ?_))))
      rw [Znt (a:=rr) (b:=x10) hov (by omega) (by rw [← hx10]; exact hy.getD Zaf _)]
      refine xq 1 [(8, .v (.int .u64 ((rr + x10 - W64:Nat):Int)))] [] ?_
      refine xe (Zab (Zac (Zaa (xq 3 [(73, .v (.bool (decide (((rr + x10 - W64:Nat):Int) < ((x10:Nat):Int)))))] [] ?_))))
      refine xe (Zab ?_)
      refine Zas ((decide (((rr + x10 - W64:Nat):Int) < ((x10:Nat):Int)))) (by kernel_rfl) (fun hb23=>?_) (fun hb23=>?_)
      ·have hb23':=of_decide_eq_true hb23
       refine Zbf ?_
       refine Zgn (by kernel_rfl) ?_
       refine Zap (Zbs ?_)
       refine SXq.weak [(0, .v (.slice (some ⟨b,o,none⟩) (ys.length + 1) c)),(1, .v (.slice A ys.length c2)),(7, .v (.int .u64 (((gg - 1):Nat):Int)))] [] (Ψ:=fun w=>(Own .u64 94 w b (zs0)∧Zad .u64 w A (ys))) (ZaB.of (by kernel_rfl)) (by kernel_rfl) (fun w Q=>⟨Q.1.1,Q.1.2⟩) ?_
       exact ZcZ ⟨(gg - 1),rfl,rfl,(Nat.le_sub_of_add_le hg1),(by omega)⟩
      ·have hb23':=of_decide_eq_false hb23
       exfalso; omega
  ·have hb12':=of_decide_eq_false hb12
   refine Zam ?_
   refine SXq.weak [(0, .v (.slice (some ⟨b,o,none⟩) (ys.length + 1) c)),(1, .v (.slice A ys.length c2)),(7, .v (.int .u64 (((W64 - 1):Nat):Int)))] [] (Ψ:=fun w=>(Own .u64 94 w b (zs0)∧Zad .u64 w A (ys))) (ZaB.of (by kernel_rfl)) (by kernel_rfl) (fun w Q=>⟨Q.1,Q.2⟩) ?_
   exact ZcZ ⟨(W64 - 1),rfl,rfl,Zl2 hUV,(by have:=Zaf; omega)⟩
 ·rintro ss ff ⟨gg,rfl,rfl,hq,hgW⟩
  refine Zac (Zac (Zaa (xq 3 [eS1 74 (some ⟨b,o,none⟩) (ys.length + 1) c,eS1 75 A ys.length c2,(76, .v (.int .u64 ((gg:Nat):Int)))] [] ?_)))
  refine Zfl (xs:=zs0) (α:=List Nat × Nat) 199 [.slice (some ⟨b,o,none⟩) (ys.length + 1) c, .slice A ys.length c2, .int .u64 ((gg:Nat):Int)] (d:=77) (fun x=>.bool (((x.2:Nat):Int) == 1)) (fun x=>Zf6 zs0 ys gg o x.1 x.2) (fun x=>x.1) b (fun x w=>(Own .u64 94 w b (x.1)∧Zad .u64 w A (ys))) (fun w Q=>Q.1) (by omega) (Or.inr rfl) (fun w R Q=>Zjk b _ o _ ys A _ _ Q.1 Q.2 hA (by omega) hl hd hy _ hgW) (fun x w w' hp Q hF hO=>⟨hO,((Q.2).fr hF (fun a ha _=>hA a ha))⟩) (fun x hx24=>?_)
  obtain ⟨zs24,bb24⟩:=x
  dsimp only at hx24
  have hwn:=hx24.win (by omega) (WinR.start hd)
  refine xr 1 [eS1 0 (some ⟨b,o,none⟩) (ys.length + 1) c,eS1 1 A ys.length c2,(7, .v (.int .u64 ((gg:Nat):Int))),(11, .v (.bool (((bb24:Nat):Int) == 1)))] [] ?_
  refine xe (Zab (Zax ?_))
  refine SXc.weak [(0, .v (.slice (some ⟨b,o,none⟩) (ys.length + 1) c)),(1, .v (.slice A ys.length c2)),(7, .v (.int .u64 ((gg:Nat):Int))),(11, .v (.bool (((bb24:Nat):Int) == 1)))] [] (Ψ:=fun w=>(Own .u64 94 w b (zs24)∧Zad .u64 w A (ys))) (ZaB.of (by kernel_rfl)) (by kernel_rfl) (fun w Q=>⟨Q.1,Q.2⟩) ?_
  refine Zbv (fun nn ss ff=>∃ (gg bb:Nat) (zs:List Nat),ss=ofL [(0, .v (.slice (some ⟨b,o,none⟩) (ys.length + 1) c)),(1, .v (.slice A ys.length c2)),(7, .v (.int .u64 ((gg:Nat):Int))),(11, .v (.bool (((bb:Nat):Int) == 1)))] []∧ff=(fun w=>(Own .u64 94 w b (zs)∧Zad .u64 w A (ys)))∧(WinR o ys.length zs0 zs)∧(CorR (win o ys.length zs0) (val W64 ys) (W64 ^ (ys.length + 1)) gg bb (win o ys.length zs))∧(gg < W64)∧nn=(1 + gg)) ((1 + gg)) ⟨gg,bb24,zs24,rfl,rfl,hwn.1,⟨hwn.2.1,Zl1 hwn.1.2.1,hq,hwn.2.2⟩,hgW,rfl⟩ ?_
  rintro nn ss ff ⟨gg,bb,zs,rfl,rfl,HW,HC,hgW,rfl⟩
  refine Zac (Zac (Zaa (xq 1 [(78, .v (.bool (((bb:Nat):Int) == 1)))] [] ?_)))
  refine xe (Zab ?_)
  refine Zas ((((bb:Nat):Int) == 1)) (by kernel_rfl) (fun hb25=>?_) (fun hb25=>?_)
  ·have hb25':=beq_iff_eq.1 hb25
   refine Zam (Zab (Zac (Zax ?_)))
   have hg1:=HC.pos (by omega) hVp
   have hg0:1≤gg:=Nat.le_trans (Nat.le_add_left 1 _) hg1
   refine Zaa (xq 2 [eS1 81 (some ⟨b,o,none⟩) (ys.length + 1) c,eS1 82 A ys.length c2] [] ?_)
   refine Zfl (xs:=zs) (α:=List Nat × Nat) 200 [.slice (some ⟨b,o,none⟩) (ys.length + 1) c, .slice A ys.length c2] (d:=83) (fun x=>.bool (((x.2:Nat):Int) == 1)) (fun x=>Zf7 zs ys o x.1 x.2) (fun x=>x.1) b (fun x w=>(Own .u64 94 w b (x.1)∧Zad .u64 w A (ys))) (fun w Q=>Q.1) (by have:=HW.1; omega) (Or.inr rfl) (fun w R Q=>Zjl b _ o _ ys A _ _ Q.1 Q.2 hA (by rw [HW.1]; omega) (by rw [HW.1]; exact hl) HW.2.1 hy) (fun x w w' hp Q hF hO=>⟨hO,((Q.2).fr hF (fun a ha _=>hA a ha))⟩) (fun x hx26=>?_)
   obtain ⟨zs26,bb26⟩:=x
   dsimp only at hx26
   have hwn:=hx26.win (by omega) HW
   refine xr 1 [eS1 0 (some ⟨b,o,none⟩) (ys.length + 1) c,eS1 1 A ys.length c2,(7, .v (.int .u64 ((gg:Nat):Int))),(11, .v (.bool (((bb:Nat):Int) == 1))),(84, .v (.bool (!(((bb26:Nat):Int) == 1))))] [] ?_
   rw [ZnS (c:=bb26) hwn.2.1]
   refine xq 1 [(11, .v (.bool (((1 - bb26:Nat):Int) == 1)))] [] ?_
   refine xe (Zbk (Zab (Zaa (xq 2 [(80, .v (.int .u64 (IntKind.u64.wrap (((gg:Nat):Int) - 1))))] [] ?_))))
   rw [show IntKind.u64.wrap ((((gg:Nat):Int) - 1))=((gg - 1:Nat):Int) from by rw [IntKind.wrap_u64]; have:=Zal; omega]
   refine xq 1 [(7, .v (.int .u64 ((gg - 1:Nat):Int)))] [] ?_
   refine xe ?_
   refine SXq.weak [(0, .v (.slice (some ⟨b,o,none⟩) (ys.length + 1) c)),(1, .v (.slice A ys.length c2)),(7, .v (.int .u64 (((gg - 1):Nat):Int))),(11, .v (.bool ((((1 - bb26):Nat):Int) == 1)))] [] (Ψ:=fun w=>(Own .u64 94 w b (zs26)∧Zad .u64 w A (ys))) (ZaB.of (by kernel_rfl)) (by kernel_rfl) (fun w Q=>⟨Q.1,Q.2⟩) ?_
   exact Za3 ((1 + (gg - 1))) (by omega) ⟨(gg - 1),(1 - bb26),zs26,rfl,rfl,hwn.1,(HC.step (by omega) hVp hwn.2.1 (Zl1 hwn.1.2.1) hwn.2.2),(by omega),rfl⟩
  ·have hb25':=Za5 hb25
   obtain rfl:bb=0:=by have:=HC.1; omega
   refine Zbf (Zap (Zap (Zbs (Zab (Zac (Zaa (xq 2 [(4, .v (.int .u64 ((gg:Nat):Int)))] [] ?_)))))))
   refine xe (Zab (Zai ?_))
   refine Zag (v:=.int .u64 ((gg:Nat):Int)) (by kernel_rfl) (fun w' R Q=>?_)
   obtain ⟨e1,e2⟩:=HC.done hVp
   exact ⟨zs,by rw [e1],⟨HW,e2⟩,R,Q.1⟩
end Go.Proofs.YtklpdkpcocnglaaGreatDoor
