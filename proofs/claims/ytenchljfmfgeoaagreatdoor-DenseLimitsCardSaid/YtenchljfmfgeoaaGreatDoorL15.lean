/-
 My texts Gen, Small, Rat2, SxK, Sx8, Sx9, Sx12, Sx13, Sx14, Sx15, Sx16, Sx18, Mo, Sx19, Sx20, Bu, Wl, Ms0, Ms, Bv, Pd, Pw, Fna, Nr, Ng, FlM, Fnb, Fnc put together.
-/
import Derived.Test.YtenchljfmfgeoaaGreatDoorL11
import Derived.Test.YtenchljfmfgeoaaGreatDoorL13
import Derived.Test.YtenchljfmfgeoaaGreatDoorL14
import Derived.Outline
import Derived.Test.YtenchljfmfgeoaaGreatDoorL12
import Derived.Test.YtenchljfmfgeoaaGreatDoorL01
import Derived.Deep.LoopGhost
import Derived.Test.YtenchljfmfgeoaaGreatDoorL08
import Derived.Deep.DeepCutAuto
import Derived.Deep.RegionHeld3
import Derived.Laws.CopyOwn
import Derived.Maps.AppendAt
import Derived.Laws.MakeOwn
import Derived.Lib.Builder
import Derived.Shelf.Strings.Builder1
import Derived.Test.YtenchljfmfgeoaaGreatDoorL06
import Derived.Test.YtenchljfmfgeoaaGreatDoorL03
import Derived.Test.YtenchljfmfgeoaaGreatDoorL07
set_option maxRecDepth 100000
namespace Go.Proofs.YtenchljfmfgeoaaGreatDoor
open Go.RowKit
theorem Zao:Tryz.prog.follows .mixedOrders=true:=by kernel_rfl
theorem Zcz.shp {w:World} {v:Value} {z:Int} (h:Zcz w v z):∃ (s:Bool) (A:Option Addr) (l c:Nat),v=.agg #[.bool s, .slice A l c]:=h.shape
theorem Zbo.nil (w:World):Zbo w (.agg #[.bool false, .slice none 0 0]) 0:=⟨false,_,0,rfl,Zbg.zero w,fun _=>rfl,rfl⟩
theorem Zk6 {a b c d a' b' c' d':Value} (h:Value.agg #[a,b,c,d]=.agg #[a',b',c',d']):a=a'∧b=b'∧c=c'∧d=d':=by
 injection h with h
 simpa using h
def Zbt (w:World) (v:Value) (q:Rat):Prop:=∃ (s t:Bool) (A B:Option Addr) (l c l' c':Nat),v=.agg #[.bool s, .slice A l c, .bool t, .slice B l' c']∧Zbo w (.agg #[.bool s, .slice A l c]) q.num∧Zbo w (.agg #[.bool t, .slice B l' c']) (denF q)
theorem Zbt.ext {w w':World} {v:Value} {q:Rat} (h:Zbt w v q) (hf:Ext w w'):Zbt w' v q:=by
 obtain ⟨s,t,A,B,l,c,l',c',h1,h2,h3⟩:=h
 exact ⟨s,t,A,B,l,c,l',c',h1,h2.ext hf,h3.ext hf⟩
theorem Zbt.shp {w:World} {v:Value} {q:Rat} (h:Zbt w v q):∃ (s:Bool) (A:Option Addr) (l c:Nat) (t:Bool) (B:Option Addr) (l' c':Nat),v=.agg #[.bool s, .slice A l c, .bool t, .slice B l' c']:=by
 obtain ⟨s,t,A,B,l,c,l',c',h,_⟩:=h
 exact ⟨s,A,l,c,t,B,l',c',h⟩
theorem Zbt.num {w:World} {a b c d:Value} {q:Rat} (h:Zbt w (.agg #[a,b,c,d]) q):Zbo w (.agg #[a,b]) q.num:=by
 obtain ⟨s,t,A,B,l,c,l',c',h,h1,h2⟩:=h
 obtain ⟨rfl,rfl,rfl,rfl⟩:=Zk6 h
 exact h1
theorem Zbt.den {w:World} {a b c d:Value} {q:Rat} (h:Zbt w (.agg #[a,b,c,d]) q):Zbo w (.agg #[c,d]) (denF q):=by
 obtain ⟨s,t,A,B,l,c,l',c',h,h1,h2⟩:=h
 obtain ⟨rfl,rfl,rfl,rfl⟩:=Zk6 h
 exact h2
theorem Zbt.nil (w:World):Zbt w (.agg #[.bool false, .slice none 0 0, .bool false, .slice none 0 0]) 0:=⟨_,_,_,_,_,_,_,_,rfl,Zbo.nil w,Zbo.nil w⟩
theorem ZeP {t0:TypeId} {w wb:World} {c0:Array Value} (h:w.alloc (.cells c0 t0)=wb):Blk t0 wb w.heap.size c0∧Ext w wb:=by
 subst h; exact ⟨Blk.new _ _ _,(Fr.refl _ _).alloc _⟩
theorem Zrm {t0 t1:TypeId} {w wb:World} {c0 c1:Array Value} (h:(w.alloc (.cells c0 t0)).alloc (.cells c1 t1)=wb):Blk t0 wb w.heap.size c0∧Blk t1 wb (w.heap.size + 1) c1∧Ext w wb:=by
 obtain ⟨b0,e0⟩:=ZeP (w:=w) (c0:=c0) (t0:=t0) rfl
 have e:(w.alloc (.cells c0 t0)).heap.size=w.heap.size + 1:=by simp
 obtain ⟨b1,e1⟩:=ZeP h
 rw [e] at b1
 exact ⟨b0.ext e1,b1,e0.trans e1⟩
section
variable {ops:Array Oper} {S:World→Prop} {o:Oper} {a:Act} {p:Operand} {g off:Nat} {x y z u v:Value}
theorem ym (hw:Region.wanted o (yielded ops a.tmps)=true) (ho:o.op=Op.move p) (hp:a.eval p=v):YieldsIf Tryz.prog ops S o v a :=
 Or.inl ⟨hw,fun w _=>by simp only [execOp,ho,hp]; simp [go_sem]⟩
end
end Go.Proofs.YtenchljfmfgeoaaGreatDoor

namespace Go.Proofs.YtenchljfmfgeoaaGreatDoor
open Go.RowKit
end Go.Proofs.YtenchljfmfgeoaaGreatDoor

namespace Go.Proofs.YtenchljfmfgeoaaGreatDoor
open Go.RowKit
end Go.Proofs.YtenchljfmfgeoaaGreatDoor

namespace Go.Proofs.YtenchljfmfgeoaaGreatDoor
open Go.RowKit
section
variable {S:Nat→Prop} {w w' w0:World} {k:IntKind} {A:Option Addr} {xs:List Nat}
theorem Zae.nrb (hk:k≠.i64) (h:Zae k w A xs) (hS:∀ i,S i→NRB w i) (hF:Fr S w w'):Zae k w' A xs:=by
 cases xs with
 | nil=>exact Zae.nil
 | cons x xs =>
   refine h.fr hF (fun ad hA hlt hs=>?_)
   obtain ⟨g,off,e',_,hcl⟩:=h.at (i:=0) (by simp)
   rw [e'] at hA
   injection hA with hA
   subst hA
   obtain ⟨t,cs,hB,hc⟩:=hS _ hs
   rw [hB.cell] at hcl
   exact hk (hc _ _ _ hcl)
theorem Zad.nrb {u:Value} {n:Nat} (h:Zad w u n) (hS:∀ i,S i→NRB w i) (hF:Fr S w w'):Zad w' u n:=by
 obtain ⟨A',xs,c',h1,h2,h3,h4⟩:=h
 exact ⟨A',xs,c',h1,h2,h3.nrb (by decide) hS hF,h4⟩
theorem Zcz.nrb {v:Value} {z:Int} (h:Zcz w v z) (hS:∀ i,S i→NRB w i) (hF:Fr S w w'):Zcz w' v z:=by
 obtain ⟨s',u,n,h1,h2,h3⟩:=h
 exact ⟨s',u,n,h1,h2.nrb hS hF,h3⟩
theorem Zbg.nrb {u:Value} {n:Nat} (h:Zbg w u n) (hS:∀ i,S i→NRB w i) (hF:Fr S w w'):Zbg w' u n:=by
 obtain ⟨A',xs,c',h1,h2,h3,h4⟩:=h
 exact ⟨A',xs,c',h1,h2,h3.nrb (by decide) hS hF,h4⟩
theorem Zbo.nrb {v:Value} {z:Int} (h:Zbo w v z) (hS:∀ i,S i→NRB w i) (hF:Fr S w w'):Zbo w' v z:=by
 obtain ⟨s',u,n,h1,h2,h3⟩:=h
 exact ⟨s',u,n,h1,h2.nrb hS hF,h3⟩
theorem Zbt.nrb {v:Value} {q:Rat} (h:Zbt w v q) (hS:∀ i,S i→NRB w i) (hF:Fr S w w'):Zbt w' v q:=by
 obtain ⟨s,t,A,B,l,c,l',c',h1,h2,h3⟩:=h
 exact ⟨s,t,A,B,l,c,l',c',h1,h2.nrb hS hF,h3.nrb hS hF⟩
theorem NRB.ext {i:Nat} (h:NRB w i) (he:Ext w w'):NRB w' i:=by
 obtain ⟨t,cs,hB,hc⟩:=h
 exact ⟨t,cs,hB.ext he,hc⟩
theorem boxn {φ:World→Prop} (he:Ext w w') (h:∀ S w'',(∀ i,S i→NRB w' i)→Fr S w' w''→φ w''):BoxN w w' φ:=fun S hS w'' hf=>h S w'' (fun i hi=>(hS i hi).2.ext he) hf
end
abbrev ShI:=Bool × Option Addr × Nat × Nat
abbrev ShQ:=Bool × Option Addr × Nat × Nat × Bool × Option Addr × Nat × Nat
abbrev ShN:=Option Addr × Nat × Nat
def ZiU (x:ShI):Value:=.agg #[.bool x.1, .slice x.2.1 x.2.2.1 x.2.2.2]
def ZqN (x:ShQ):Value:=.agg #[.bool x.1, .slice x.2.1 x.2.2.1 x.2.2.2.1, .bool x.2.2.2.2.1, .slice x.2.2.2.2.2.1 x.2.2.2.2.2.2.1 x.2.2.2.2.2.2.2]
def ZaA (x:ShN):Value:=.slice x.1 x.2.1 x.2.2
section
variable {w w':World} {e:Ending}
theorem Zik {z:Int} (h:ZiP w z e w'):ZbA ZiU (fun x w=>Zcz w (ZiU x) z) w e w':=by
 obtain ⟨v,rfl,hI,Q⟩:=h
 obtain ⟨s,A,l,c,rfl⟩:=hI.shp
 exact ⟨(s,A,l,c),rfl,Q,boxn Q (fun S w'' hS hF=>hI.nrb hS hF)⟩
theorem Zam {v u:Value} (h:e=.returned v∧Ext w w') (hv:v=u):ZbA (fun _:Unit=>u) (fun _ _=>True) w e w':=by
 obtain ⟨rfl,Q⟩:=h
 subst hv
 exact ⟨(),rfl,Q,BoxN.pure trivial⟩
end
end Go.Proofs.YtenchljfmfgeoaaGreatDoor

namespace Go.Proofs.YtenchljfmfgeoaaGreatDoor
open Go.RowKit
section
variable {N:Nat} {S0:Nat→Prop} {w0:World} {s s':St} {Φ Ψ Φ0:World→Prop} {L:Nat→Nat} {a:Act} {w:World} {P:Program} {ops:Array Oper} {Q:Exit→Act→World→Prop} {o:Oper}
theorem Zax.of {sl:SlL} {bl:BlL} (h:(sl.map (fun q=>s.sl q.1),bl.map (fun q=>s.bl q.1))=(sl.map (fun q=>some q.2),bl.map (fun q=>some q.2))):Zax s sl bl:=h
def ZqO (N:Nat) (S0:Nat→Prop) (w0:World) (J:Nat→St→(World→Prop)→Prop) (n:Nat) (a:Act) (w:World):Prop:=∃ n' s' Φ' L',n' < n∧J n' s' Φ'∧Inv N S0 w0 s' Φ' L' a w
theorem ZaR {c:Code} (J:Nat→St→(World→Prop)→Prop) (n0:Nat) (h0:J n0 s Φ)
 (round:∀ n s Φ,J n s Φ→SXc P N S0 w0 (Exit.then (ZqO N S0 w0 J n) Q) c s Φ):SXc P N S0 w0 Q (.loop c) s Φ:=fun L a w hi=>by
 refine wp_loop_ghost (fun n a w=>∃ s Φ L,J n s Φ∧Inv N S0 w0 s Φ L a w) n0 ⟨s,Φ,L,h0,hi⟩ ?_
 rintro n a w ⟨s,Φ,L,hJ,hi⟩
 refine wp_mono (round n s Φ hJ L a w hi) ?_
 intro e a' w' hq
 cases e with
 | normal =>
   obtain ⟨n',s',Φ',L',h1,h2,h3⟩:=hq
   exact ⟨n',h1,s',Φ',L',h2,h3⟩
 | exit id=>exact hq
 | goto l=>exact hq
 | ret=>exact hq
 | panic ch=>exact hq
 | outgrown=>exact hq
theorem ZaF {J:Nat→St→(World→Prop)→Prop} {n:Nat} (n':Nat) (hlt:n' < n) (h:J n' s Φ):SXq N S0 w0 (Exit.then (ZqO N S0 w0 J n) Q .normal) s Φ:=fun _ _ _ hi=>⟨n',s,Φ,_,hlt,h,hi⟩
theorem Zk7 {x y:Code} (J:St→(World→Prop)→Prop) (h1:SXc P N S0 w0 (Exit.then (fun a w=>∃ s' Φ' L',J s' Φ'∧Inv N S0 w0 s' Φ' L' a w) Q) x s Φ) (h2:∀ s Φ,J s Φ→SXc P N S0 w0 Q y s Φ):SXc P N S0 w0 Q (.seq x y) s Φ:=fun L a w hi=>by
 refine wp_seq (wp_mono (h1 L a w hi) ?_)
 intro e a' w' hq
 cases e with
 | normal =>
   obtain ⟨s',Φ',L',h2',h3⟩:=hq
   exact h2 s' Φ' h2' L' a' w' h3
 | exit id=>exact hq
 | goto l=>exact hq
 | ret=>exact hq
 | panic ch=>exact hq
 | outgrown=>exact hq
theorem Zdv {J:St→(World→Prop)→Prop} (h:J s Φ):SXq N S0 w0 (Exit.then (fun a w=>∃ s' Φ' L',J s' Φ'∧Inv N S0 w0 s' Φ' L' a w) Q .normal) s Φ:=fun _ _ _ hi=>⟨s,Φ,_,h,hi⟩
theorem ZhI {n i:Nat} (d:Nat) {α:Type} [hα:Nonempty α] (sh:α→Value) (φ:α→World→Prop) (hi:Nat.blt i n=true) (hm:cls (opAt ops i).op=2)
 (hw:s.wantB ops (opAt ops i)=some true) (hn:ZbK (opAt ops i).op=true) (hv:(opAt ops i).op.operands.toList.all s.vB=true) (hd:(opAt ops i).dst=some d) (hN:Nat.blt d N=true)
 (hdo:∀ w,Fr S0 w0 w→Φ w→Does P (opAt ops i) s.rho w (DoR sh φ w)) (K:∀ x,StI P N S0 w0 ops Φ0 Q n (i + 1) (s.put d (.v (sh x))) (fun w=>Φ w∧φ x w)):StI P N S0 w0 ops Φ0 Q n i s Φ:=by
 have hi':i < n:=Nat.le_of_ble_eq_true hi
 unfold StI
 rw [show n - i=(n - (i + 1)) + 1 by omega,List.range'_succ]
 exact .does hα sh φ hm hw hn hv hd (Nat.le_of_ble_eq_true hN) hdo K
end
end Go.Proofs.YtenchljfmfgeoaaGreatDoor

namespace Go.Proofs.YtenchljfmfgeoaaGreatDoor
open Go.RowKit
theorem Zgk (x:ByteArray):(x.toList == x.toList)=true:=by simp
theorem ZiV {P:Program} {ρ:Operand→Value} {w:World} {t e:TypeId} {n sz:Nat} {z:Value} {parts:Array (Nat × Operand)} {cells:Array Value} (ht:P.underlying t=some (.slice e))
 (hinfo:(P.info? e).map (fun i=>(i.zero,i.size))=some (some z,sz)) (hn:Nat.ble (n * sz) 1000=true) (hn0:Nat.beq (n * sz) 0=false)
 (hf:Instr.fill (fun i=>some (i * sz,sz)) ((List.range (n * sz)).map (fun i=>z.cells[i % z.cells.size]!)).toArray (parts.toList.map fun q=>(q.1,ρ q.2))=some cells) :
 (Instr.buildSlice t n (parts.map fun q:Nat × Operand=>(q.1,ρ q.2))).run P w=.ok (.slice (some ⟨w.heap.size,0,none⟩) n n) (w.alloc (.cells cells e)):=by
 obtain ⟨i,hi,h1⟩:=Option.map_eq_some_iff.1 hinfo
 injection h1 with h1 h2
 have hn':=Nat.le_of_ble_eq_true hn
 have hn1:¬ n * sz=0:=fun h=>by rw [h] at hn0; cases hn0
 have hn2:¬ 2 ^ 24 < n * sz:=by omega
 have e1:(Array.range (n * sz)).map (fun i=>z.cells[i % z.cells.size]!)=((List.range (n * sz)).map (fun i=>z.cells[i % z.cells.size]!)).toArray:=by
  apply Array.ext'; simp
 have e2:(parts.map fun q:Nat × Operand=>(q.1,ρ q.2)).toList=parts.toList.map fun q=>(q.1,ρ q.2):=by simp
 unfold Instr.buildSlice
 simp [underlying,ht,sizeOf,typeInfo,hi,h2,zeroValue,h1,hn1,hn2,e1,hf,newRow,newObj,Result.andThen]
 rfl
theorem Zby {P:Program} {o:Oper} {ρ:Operand→Value} {w:World} {t e:TypeId} {n sz:Nat} {z:Value} {parts:Array (Nat × Operand)} {cells:Array Value} (ho:o.op=Op.buildSlice t n parts) (ht:P.underlying t=some (.slice e))
 (hinfo:(P.info? e).map (fun i=>(i.zero,i.size))=some (some z,sz)) (hn:Nat.ble (n * sz) 1000=true) (hn0:Nat.beq (n * sz) 0=false)
 (hf:Instr.fill (fun i=>some (i * sz,sz)) ((List.range (n * sz)).map (fun i=>z.cells[i % z.cells.size]!)).toArray (parts.toList.map fun q=>(q.1,ρ q.2))=some cells) :
 Does P o ρ w (DoR (fun b:Nat=>.slice (some ⟨b,0,none⟩) n n) (fun b w=>Blk e w b cells) w):=by
 have hrun:=ZiV (w:=w) ht hinfo hn hn0 hf
 exact Or.inl ⟨_,_,by simp [execOp,ho,hrun,Result.andThen],w.heap.size,rfl,(Fr.refl _ w).alloc _,fun S hS w'' hF=>(Blk.new w e cells).fr hF (fun h=>by have:=(hS _ h).1; omega)⟩
theorem Zhb {P:Program} {o:Oper} {ρ:Operand→Value} {w:World} {t:TypeId} {x:Operand} {lo hi:Option Operand} {b r:ByteArray} (l h:Nat) (ho:o.op=Op.slice t x lo hi none) (ht:P.underlying t=some .string) (hx:ρ x=.string b)
 (hl:lo.map ρ=none∧l=0∨lo.map ρ=some (.int .i64 l)) (hh:hi.map ρ=none∧h=b.size∨hi.map ρ=some (.int .i64 h)) (h1:l≤h) (h2:h≤b.size) (hr:b.extract l h=r):(execOp ρ o).run P w=.ok (.value (.string r)) w:=by
 subst hr
 rcases hl with ⟨hl,rfl⟩ | hl<;>rcases hh with ⟨hh,rfl⟩ | hh <;>
  simp [execOp,ho,Instr.sliceAt,Instr.slice,Instr.sliceBounds,Instr.sliceBound,asIntOf,underlying,ht,hx,hl,hh,h1,h2,Result.andThen]
theorem ZeG {P:Program} {o:Oper} {ρ:Operand→Value} {w:World} {t k:TypeId} {x y:Operand} {a b r:ByteArray} (ho:o.op=Op.binOp .add t x y k) (hx:ρ x=.string a) (hy:ρ y=.string b) (hs:a.size + b.size≤1099511627776) (hr:a ++ b=r):(execOp ρ o).run P w=.ok (.value (.string r)) w:=by
 have h:¬ ((a.size + b.size:Nat):Int) > IntKind.i64.max:=by
  have:IntKind.i64.max=9223372036854775807:=by decide
  rw [this]; omega
 simp only [execOp,ho,hx,hy,eqGuard,binOp,Op.stringOp,if_neg h,hr]
 rfl
end Go.Proofs.YtenchljfmfgeoaaGreatDoor

namespace Go.Proofs.YtenchljfmfgeoaaGreatDoor
open Go.RowKit
open Classical in
theorem Fr.split {A B:Nat→Prop} {w w2:World} (h:Fr (fun i=>A i∨B i) w w2):∃ w1,Fr A w w1∧Fr B w1 w2:=by
 have hg:∀ i,i < w2.heap.size→(w2.heap.mapIdx fun i o=>if A i∨w.heap.size≤i then o else (w.heap[i]?).getD o)[i]? = if A i∨w.heap.size≤i then w2.heap[i]? else w.heap[i]? := by
  intro i hi
  rw [Array.getElem?_mapIdx,Array.getElem?_eq_getElem hi]
  by_cases hc:A i∨w.heap.size≤i
  ·simp [hc]
  ·have hlt:i < w.heap.size:=by
    rcases Nat.lt_or_ge i w.heap.size with h' | h'
    ·exact h'
    ·exact absurd (Or.inr h') hc
   simp only [hc,Option.map_some,if_false,Array.getElem?_eq_getElem hlt,Option.getD_some]
 refine ⟨{ w2 with heap:=w2.heap.mapIdx fun i o=>if A i∨w.heap.size≤i then o else (w.heap[i]?).getD o },⟨h.os,h.tape,h.output,?_,fun i hi ha=>?_⟩,⟨rfl,rfl,rfl,?_,fun i hi hb=>?_⟩⟩
 ·simpa using h.size
 ·have h2:=hg i (Nat.lt_of_lt_of_le hi h.size)
  rw [if_neg (fun hc=>hc.elim ha (fun h'=>by omega))] at h2
  exact h2
 ·simp
 ·have hi2:i < w2.heap.size:=by simpa using hi
  have h2:=hg i hi2
  by_cases hc:A i∨w.heap.size≤i
  ·rw [if_pos hc] at h2; exact h2.symm
  ·rw [if_neg hc] at h2
   have hlt:i < w.heap.size:=by
    rcases Nat.lt_or_ge i w.heap.size with h' | h'
    ·exact h'
    ·exact absurd (Or.inr h') hc
   exact (h.block i hlt (fun h'=>h'.elim (fun ha=>hc (Or.inl ha)) hb)).trans h2.symm
theorem bl2 (b:Bool):b=true∨b=false:=by cases b<;>simp
theorem Own.same {k:IntKind} {t:TypeId} {w w':World} {b:Nat} {xs:List Nat} (h:Own k t w b xs) (e:w'.heap[b]? = w.heap[b]?):Own k t w' b xs:=by
 obtain ⟨tail,h1,h2⟩:=h
 exact ⟨tail,h1,e.trans h2⟩
section
variable {N:Nat} {S0:Nat→Prop} {w0:World} {s:St} {Φ Ψ:World→Prop} {L:Nat→Nat} {a:Act} {w:World} {P:Program} {ops:Array Oper} {Q:Exit→Act→World→Prop}
theorem Inv.notOwn (h:Inv N S0 w0 s Φ L a w) {r j:Nat} {c:Value} (hc:∀ w,Φ w→w.cell? ⟨r,j,none⟩=some c):¬ s.own L r:=fun ho=>by
 have h1:=hc w h.box.self
 have key:∀ u:Value,u≠c→False:=fun u hu=>by
  have h2:=hc (w.setCell ⟨r,j,none⟩ u) (h.box _ ((Fr.refl _ _).setCell (p:=⟨r,j,none⟩) (Or.inl ho) u))
  rw [World.cell?_setCell_same _ _ _ h1] at h2
  injection h2 with h2
  exact hu h2
 by_cases e:c=.bool true
 ·exact key (.bool false) (by rw [e]; intro h; cases h)
 ·exact key (.bool true) (fun h=>e h.symm)
theorem Inv.eff (h:Inv N S0 w0 s Φ L a w) {w':World} {r:Nat} (hF:Fr (fun i=>i=r) w w') (hr:¬ s.own L r) (hnew:w0.heap.size≤r∨S0 r) (hlt:r < w.heap.size)
 (hΨ:∀ w1 w2,Φ w1→Fr (fun i=>i=r) w1 w2→w2.heap[r]? = w'.heap[r]? → Ψ w2):Inv N S0 w0 s Ψ L a w':=by
 refine ⟨h.size,h.df,h.sl,⟨fun b t cs e=>(h.mem.blk b t cs e).fr hF (fun e'=>hr ⟨b,by rw [e]; rfl,e'⟩),h.mem.inj,h.mem.old,h.mem.ext.next hF (fun i hi e=>?_),h.mem.slp,h.mem.cel⟩,fun w2 hf=>?_⟩
 ·rcases hnew with h' | h'
  ·omega
  ·rw [e]; exact h'
 ·have h2:Fr (fun i=>s.own L i∨i=r) w w2:=(hF.mono (fun i _ e=>Or.inr e)).trans (hf.mono (fun i _ e=>Or.inl e))
  obtain ⟨w1,k1,k2⟩:=h2.split
  exact hΨ w1 w2 (h.box w1 k1) k2 (hf.block r (Nat.lt_of_lt_of_le hlt hF.size) hr)
theorem Znn {α:Type} (l:List α) (j:Nat) (c:α) (h:j < l.length):Zbf l j [c]=l.set j c:=by
 unfold Zbf
 rw [List.set_eq_take_append_cons_drop,if_pos h]
 simp
theorem Zk8 {t e:TypeId} {k:IntKind} {b j:Nat} {xs:List Nat} (hs:(teOf P t).map (fun e=>e.size)=some 1) (hO:Own k e w b xs) (hj:j < xs.length) (v:Nat) :
 ∃ w',(Instr.storeAt t (.pointer (some ⟨b,j,none⟩)) (.int k (v:Int))).run P w=.ok () w'∧Own k e w' b (xs.set j v)∧Fr (fun i=>i=b) w w':=by
 obtain ⟨te,hte,h1⟩:=Option.map_eq_some_iff.1 hs
 obtain ⟨tail,ht,hO⟩:=hO
 obtain ⟨w',hr,hB,hF⟩:=ZfE (P:=P) hte (g:=b) (bt:=e) (off:=j) (cur:=(xs.map fun x:Nat=>Value.int k (x:Int)) ++ tail) (v:=.int k (v:Int)) hO (by rw [h1]; rfl) (by simp [Value.cells]; omega) (fun c hc=>by simp [Value.cells] at hc; rw [hc]; rfl)
 refine ⟨w',hr,⟨tail,ht,?_⟩,hF⟩
 have e2:Zbf ((xs.map fun x:Nat=>Value.int k (x:Int)) ++ tail) j (Value.cells (.int k (v:Int))).toList=((xs.set j v).map fun x:Nat=>Value.int k (x:Int)) ++ tail:=by
  rw [show (Value.cells (.int k (v:Int))).toList=[.int k (v:Int)] from rfl,Znn _ _ _ (by simp; omega),List.set_append_left _ _ (by simpa using hj),List.map_set]
 rw [e2] at hB
 exact hB
theorem Zb4 {i:Nat} {t e:TypeId} {k:IntKind} {x y:Operand} {xs:List Nat} (b j v:Nat) (Ψ:World→Prop) (hO:∀ w,Φ w→Own k e w b xs) (hj:j < xs.length) (hnew:w0.heap.size≤b∨S0 b)
 (hΨ:∀ w w',Φ w→Fr (fun i=>i=b) w w'→Own k e w' b (xs.set j v)→Ψ w') (K:SXi P N S0 w0 ops Q (i + 1) s Ψ)
 (hsz:Nat.blt i ops.size=true:=by kernel_rfl) (hw:s.wantB ops (opAt ops i)=some true:=by kernel_rfl) (ho:(opAt ops i).op=.store t x y:=by kernel_rfl) (hd:(opAt ops i).dst=none:=by kernel_rfl) (hs:(teOf P t).map (fun e=>e.size)=some 1:=by kernel_rfl)
 (hx:s.eval x=some (.v (.pointer (some ⟨b,j,none⟩))):=by kernel_rfl) (hy:s.eval y=some (.v (.int k (v:Int))):=by kernel_rfl):SXi P N S0 w0 ops Q i s Φ:=by
 unfold SXi
 rw [Zcx hsz]
 intro L a w hi
 refine wpList_step (fun K' hK=>?_)
 rw [if_pos (hi.want hw)]
 have hO1:=hO w hi.box.self
 obtain ⟨w',hr,hO2,hF⟩:=Zk8 (P:=P) hs hO1 hj v
 unfold Oper.wp
 have ex:=hi.eval hx
 have ey:=hi.eval hy
 have hrun:(execOp a.eval (opAt ops i)).run P w=.ok .skip w':=by simp only [execOp,ho,Sem.run_bind,ex,ey,AV.conc,hr,Result.andThen_ok,Sem.run_pure]
 rw [hrun,Oper.upon_skip,hd]
 refine hK _ _ (K L _ _ (hi.eff hF (hi.notOwn (fun w R=>(hO w R).cell hj)) hnew hO1.lt (fun w1 w2 h1 h2 h3=>hΨ w1 w2 h1 h2 (hO2.same h3))))
theorem Zgl {i d:Nat} {e:TypeId} {k:IntKind} {xs:List Nat} {α:Type} (f:FuncId) (args:List Value) (sh:α→Value) (p:α→Prop) (zs:α→List Nat) (b:Nat) (Ψ:α→World→Prop) (hO:∀ w,Φ w→Own k e w b xs) (hj:0 < xs.length) (hnew:w0.heap.size≤b∨S0 b)
 (hC:∀ w,Fr S0 w0 w→Φ w→Calls P f args.toArray w (fun en w'=>∃ x,en=.returned (sh x)∧p x∧Fr (fun i=>i=b) w w'∧Own k e w' b (zs x)))
 (hΨ:∀ x w w',p x→Φ w→Fr (fun i=>i=b) w w'→Own k e w' b (zs x)→Ψ x w') (K:∀ x,p x→SXi P N S0 w0 ops Q (i + 1) (s.put d (.v (sh x))) (Ψ x))
 (hsz:Nat.blt i ops.size=true:=by kernel_rfl) (h:ZcN P N ops (opAt ops i) s=some (f,args,d):=by kernel_rfl):SXi P N S0 w0 ops Q i s Φ:=by
 obtain ⟨hw,hq,hd,hn,hv,hk,hN⟩:=Zdi h
 unfold SXi
 rw [Zcx hsz]
 intro L a w hi
 refine wpList_step (fun K' hK=>?_)
 rw [if_pos (hi.want hw)]
 unfold Oper.wp
 rw [hi.exec hn hv,Zfh hq hk,Oper.upon_enter]
 refine Calls.mono (hC w hi.mem.ext hi.box.self) fun en w' h'=>?_
 obtain ⟨x,rfl,hp,hF,hO2⟩:=h'
 simp only [hd]
 have h0:=hi.app0 (d:=d) hN (al_v (s:=s) (sh x))
 exact hK _ _ (K x hp L _ _ (h0.eff hF (hi.notOwn (fun w R=>(hO w R).cell hj)) hnew (hO w hi.box.self).lt (fun w1 w2 h1 h2 h3=>hΨ x w1 w2 hp h1 h2 (hO2.same h3))))
theorem Zgm {i d:Nat} {t e:TypeId} {k kl kc:IntKind} {l c:Operand} (n bytes:Nat) (hn:n≤35184372088832) (hby:bytes≤8)
 (K:∀ b,w0.heap.size≤b→(∀ r,(∀ w,Φ w→r < w.heap.size)→r < b)→SXi P N S0 w0 ops Q (i + 1) (s.put d (.v (.slice (some ⟨b,0,none⟩) n n))) (fun w=>Box (fun j=>b≤j) w Φ∧Own k e w b (List.replicate n 0)))
 (hsz:Nat.blt i ops.size=true:=by kernel_rfl) (hw:s.wantB ops (opAt ops i)=some true:=by kernel_rfl) (hv:(opAt ops i).op.operands.toList.all s.vB=true:=by kernel_rfl) (ho:(opAt ops i).op=Op.makeSlice t l c:=by kernel_rfl) (hd:(opAt ops i).dst=some d:=by kernel_rfl) (hN:Nat.blt d N=true:=by kernel_rfl)
 (ht:P.underlying t=some (.slice e):=by kernel_rfl) (hinfo:(P.info? e).map (fun i=>(i.zero,i.size,i.bytes))=some (some (.int k 0),1,bytes):=by kernel_rfl) (hl:s.rho l=.int kl n:=by kernel_rfl) (hc:s.rho c=.int kc n:=by kernel_rfl):SXi P N S0 w0 ops Q i s Φ:=by
 unfold SXi
 rw [Zcx hsz]
 intro L a w hi
 refine wpList_step (fun K' hK=>?_)
 rw [if_pos (hi.want hw)]
 unfold Oper.wp
 have hns:ZbK (opAt ops i).op=true:=by rw [ho]; rfl
 have hbn:bytes * n≤8 * n:=Nat.mul_le_mul_right n hby
 rw [hi.exec hns hv]
 have hrun:=run_make_row' (P:=P) t e (.int k 0) bytes ht hinfo rfl kl kc n (by omega) (by omega) w
 rw [ZfL] at hrun
 have hrun2:(execOp s.rho (opAt ops i)).run P w=.ok (.value (.slice (some ⟨w.heap.size,0,none⟩) n n)) (w.alloc (.cells (Zbq k (List.replicate n 0) []) e)):=by simp [execOp,ho,hl,hc,hrun,Result.andThen]
 rw [hrun2,Oper.upon_value,hd]
 have R:Ext w (w.alloc (.cells (Zbq k (List.replicate n 0) []) e)):=(Fr.refl _ w).alloc _
 have h0:=hi.app0 (d:=d) (Nat.le_of_ble_eq_true hN) (al_v (s:=s) (.slice (some ⟨w.heap.size,0,none⟩) n n))
 have hO:=Own.new w e k (List.replicate n 0) []
 refine hK _ _ (K w.heap.size hi.mem.ext.size (fun r h=>h w hi.box.self) L _ _ ⟨h0.size,h0.df,h0.sl,⟨fun b t cs e=>(h0.mem.blk b t cs e).ext R,h0.mem.inj,h0.mem.old,h0.mem.ext.ext R,h0.mem.slp,h0.mem.cel⟩,fun w2 hf=>⟨fun w3 hf3=>?_,?_⟩⟩)
 ·refine hi.box w3 ⟨hf3.os.trans (hf.os.trans R.os),hf3.tape.trans (hf.tape.trans R.tape),hf3.output.trans (hf.output.trans R.output),Nat.le_trans R.size (Nat.le_trans hf.size hf3.size),fun j hj hno=>?_⟩
  have h1:=R.block j hj (fun f=>f)
  have h2:=hf.block j (Nat.lt_of_lt_of_le hj R.size) hno
  have h3:=hf3.block j (Nat.lt_of_lt_of_le hj (Nat.le_trans R.size hf.size)) (by omega)
  exact h3.trans (h2.trans h1)
 ·refine hO.fr hf (fun ho=>?_)
  obtain ⟨b,hb,eb⟩:=ho
  obtain ⟨q,eq⟩:=Option.isSome_iff_exists.1 hb
  have:=(hi.mem.blk b q.1 q.2 eq).lt
  omega
theorem SXi.know {i:Nat} {p:Prop} (h:∀ w,Fr S0 w0 w→Φ w→p) (K:p→SXi P N S0 w0 ops Q i s Φ):SXi P N S0 w0 ops Q i s Φ:=fun L a w hi=>K (h w hi.mem.ext hi.box.self) L a w hi
theorem ZpS {i d:Nat} {e:TypeId} {k:IntKind} (f:FuncId) (args:List Value) (xs:List Nat) (hC:∀ w,Fr S0 w0 w→Φ w→Calls P f args.toArray w (fun en w'=>∃ b c,en=.returned (.slice (some ⟨b,0,none⟩) xs.length c)∧w.heap.size≤b∧xs.length≤c∧Ext w w'∧Own k e w' b xs))
 (K:∀ b c,w0.heap.size≤b→xs.length≤c→(∀ r,(∀ w,Φ w→r < w.heap.size)→r < b)→SXi P N S0 w0 ops Q (i + 1) (s.put d (.v (.slice (some ⟨b,0,none⟩) xs.length c))) (fun w=>Box (fun j=>b≤j) w Φ∧Own k e w b xs))
 (hsz:Nat.blt i ops.size=true:=by kernel_rfl) (h:ZcN P N ops (opAt ops i) s=some (f,args,d):=by kernel_rfl):SXi P N S0 w0 ops Q i s Φ:=by
 obtain ⟨hw,hq,hd,hn,hv,hk,hN⟩:=Zdi h
 unfold SXi
 rw [Zcx hsz]
 intro L a w hi
 refine wpList_step (fun K' hK=>?_)
 rw [if_pos (hi.want hw)]
 unfold Oper.wp
 rw [hi.exec hn hv,Zfh hq hk,Oper.upon_enter]
 refine Calls.mono (hC w hi.mem.ext hi.box.self) fun en w' h'=>?_
 obtain ⟨b,c,rfl,hb,hc,R,hO⟩:=h'
 simp only [hd]
 have h0:=hi.app0 (d:=d) hN (al_v (s:=s) (.slice (some ⟨b,0,none⟩) xs.length c))
 refine hK _ _ (K b c (Nat.le_trans hi.mem.ext.size hb) hc (fun r h=>Nat.lt_of_lt_of_le (h w hi.box.self) hb) L _ _ ⟨h0.size,h0.df,h0.sl,⟨fun b t cs e=>(h0.mem.blk b t cs e).ext R,h0.mem.inj,h0.mem.old,h0.mem.ext.ext R,h0.mem.slp,h0.mem.cel⟩,fun w2 hf=>⟨fun w3 hf3=>?_,?_⟩⟩)
 ·refine hi.box w3 ⟨hf3.os.trans (hf.os.trans R.os),hf3.tape.trans (hf.tape.trans R.tape),hf3.output.trans (hf.output.trans R.output),Nat.le_trans R.size (Nat.le_trans hf.size hf3.size),fun j hj hno=>?_⟩
  have h1:=R.block j hj (fun f=>f)
  have h2:=hf.block j (Nat.lt_of_lt_of_le hj R.size) hno
  have h3:=hf3.block j (Nat.lt_of_lt_of_le hj (Nat.le_trans R.size hf.size)) (by omega)
  exact h3.trans (h2.trans h1)
 ·refine hO.fr hf (fun ho=>?_)
  obtain ⟨b',hb',eb⟩:=ho
  obtain ⟨q,eq⟩:=Option.isSome_iff_exists.1 hb'
  have:=(hi.mem.blk b' q.1 q.2 eq).lt
  omega
theorem Zrn {i d:Nat} {dT sT e:TypeId} {k:IntKind} {dx sx:Operand} {sp:Option Addr} {n m dc sc:Nat} {mid ys:List Nat} (b:Nat) (Ψ:World→Prop) (hn:mid.length=n) (hm:ys.length=m) (hpos:0 < mid.length) (hO:∀ w,Φ w→Own k e w b mid) (hY:∀ w,Φ w→Zae k w sp ys) (hnew:w0.heap.size≤b∨S0 b)
 (hΨ:∀ w w',Φ w→Fr (fun i=>i=b) w w'→Own k e w' b (ys.take mid.length ++ mid.drop ys.length)→Ψ w') (K:SXi P N S0 w0 ops Q (i + 1) s Ψ)
 (hsz:Nat.blt i ops.size=true:=by kernel_rfl) (hg:(opAt ops i).guard=none:=by kernel_rfl) (ho:(opAt ops i).op=.call { callee:=.builtin .copy,args:=#[dx,sx],argTypes:=#[dT,sT] }:=by kernel_rfl) (hd:(opAt ops i).dst=some d:=by kernel_rfl) (hf:(s.sl d).isNone=true:=by kernel_rfl)
 (hu:P.underlying dT=some (.slice e):=by kernel_rfl) (hs:(P.info? e).map (·.size)=some 1:=by kernel_rfl) (hx:s.eval dx=some (.v (.slice (some ⟨b,0,none⟩) n dc)):=by kernel_rfl) (hy:s.eval sx=some (.v (.slice sp m sc)):=by kernel_rfl):SXi P N S0 w0 ops Q i s Φ:=by
 unfold SXi
 rw [Zcx hsz]
 intro L a w hi
 have ex:=hi.eval hx
 have ey:=hi.eval hy
 have hO1:=hO w hi.box.self
 refine ZeC hg dx sx dT sT ho e k hu hs (some ⟨b,0,none⟩) sp n m dc sc ex ey b [] mid [] ys hn hm (by simpa using hO1) (hY w hi.box.self) (fun _=>rfl) ?_
 intro w' z hO2 _ hF _
 have hO3:Own k e w' b (ys.take mid.length ++ mid.drop ys.length):=by simpa using hO2
 have h1:=hi.eff hF (hi.notOwn (fun w R=>(hO w R).cell hpos)) hnew hO1.lt (fun w1 w2 h1 h2 h3=>hΨ w1 w2 h1 h2 (hO3.same h3))
 have hsl:s.sl d=none:=by simpa using hf
 refine K L _ _ ⟨by rw [hd]; simp [Act.put,h1.size],by rw [hd]; exact h1.df,fun j x hj=>?_,h1.mem,h1.box⟩
 have hne:d≠j:=fun e=>by rw [e,hj] at hsl; cases hsl
 have:=h1.sl j x hj
 rw [hd]
 simp [Act.put,Array.getElem?_setIfInBounds_ne hne,this]
theorem xj {Φ0:World→Prop} {n i:Nat} (d:Nat) (y:Value) (hx:∀ w,Φ0 w→(execOp s.rho (opAt ops i)).run P w=.ok (.value y) w) (K:StI P N S0 w0 ops Φ0 Q n (i + 1) (s.put d (.v y)) Φ)
 (hi:Nat.blt i n=true:=by kernel_rfl) (hk:Zg5 (opAt ops i).op=true:=by kernel_rfl) (hw:s.wantB ops (opAt ops i)=some true:=by kernel_rfl) (hv:(opAt ops i).op.operands.toList.all s.vB=true:=by kernel_rfl) (hd:(opAt ops i).dst=some d:=by kernel_rfl) (hN:Nat.blt d N=true:=by kernel_rfl):StI P N S0 w0 ops Φ0 Q n i s Φ :=
 ZeO d y hi hk hw hv hd hN hx K
end
def atA (A:Option Addr) (i:Nat):Value:=.pointer (A.map (·.add i))
section
variable {P:Program} {o:Oper} {ρ:Operand→Value} {w:World} {t e:TypeId} {x ix:Operand} {k:IntKind} {xs:List Nat}
theorem ZaS {A:Option Addr} {len cap i:Nat} (hA:A≠none) (h:i < len) (ho:o.op=Op.indexAddr t x ix:=by kernel_rfl) (ht:P.underlying t=some (.slice e):=by kernel_rfl) (hs:(P.info? e).map (fun i=>i.size)=some 1:=by kernel_rfl)
 (hx:ρ x=.slice A len cap:=by kernel_rfl) (hi:ρ ix=.int .i64 ((i:Nat):Int):=by kernel_rfl):(execOp ρ o).run P w=.ok (.value (atA A i)) w:=by
 obtain ⟨inf,hinf,h1⟩:=Option.map_eq_some_iff.1 hs
 obtain ⟨a,rfl⟩:∃ a,A=some a:=by cases A; exact absurd rfl hA; exact ⟨_,rfl⟩
 have h2:(0:Int)≤(i:Int)∧(i:Int) < (len:Int):=by omega
 simp [execOp,ho,Instr.indexAt,asIntOf,underlying,ht,hx,hi,h,sizeOf,typeInfo,hinf,h1,Result.andThen,atA]
theorem Zb0 {g off len cap i:Nat} (h:i < len) (ho:o.op=Op.indexAddr t x ix:=by kernel_rfl) (ht:P.underlying t=some (.slice e):=by kernel_rfl) (hs:(P.info? e).map (fun i=>i.size)=some 1:=by kernel_rfl)
 (hx:ρ x=.slice (some ⟨g,off,none⟩) len cap:=by kernel_rfl) (hi:ρ ix=.int .i64 ((i:Nat):Int):=by kernel_rfl):(execOp ρ o).run P w=.ok (.value (.pointer (some ⟨g,off + i,none⟩))) w:=by
 rw [ZaS (A:=some ⟨g,off,none⟩) (by simp) h ho ht hs hx hi,atA,Option.map_some,ZcG]
theorem ZbD {g len cap i:Nat} (h:i < len) (ho:o.op=Op.indexAddr t x ix:=by kernel_rfl) (ht:P.underlying t=some (.slice e):=by kernel_rfl) (hs:(P.info? e).map (fun i=>i.size)=some 1:=by kernel_rfl)
 (hx:ρ x=.slice (some ⟨g,0,none⟩) len cap:=by kernel_rfl) (hi:ρ ix=.int .i64 ((i:Nat):Int):=by kernel_rfl):(execOp ρ o).run P w=.ok (.value (.pointer (some ⟨g,i,none⟩))) w:=by
 have:=Zb0 (w:=w) h ho ht hs hx hi
 rwa [Nat.zero_add] at this
theorem Za4 {g off:Nat} {c:Value} (hc:w.cell? ⟨g,off,none⟩=some c) (ho:o.op=Op.load t x:=by kernel_rfl) (hx:ρ x=.pointer (some ⟨g,off,none⟩):=by kernel_rfl) (ha:(teOf P t).map (fun e=>e.agg)=some false:=by kernel_rfl) :
 (execOp ρ o).run P w=.ok (.value c) w:=by
 obtain ⟨e,he,h1⟩:=Option.map_eq_some_iff.1 ha
 have:=ZfD (P:=P) (w:=w) he hc h1
 simp only [execOp,ho,hx,Sem.run_bind,this,Result.andThen_ok,Sem.run_pure]
theorem Zcr {b j:Nat} (hO:Own k e w b xs) (hj:j < xs.length) (ho:o.op=Op.load t x:=by kernel_rfl) (hx:ρ x=.pointer (some ⟨b,j,none⟩):=by kernel_rfl) (ha:(teOf P t).map (fun e=>e.agg)=some false:=by kernel_rfl) :
 (execOp ρ o).run P w=.ok (.value (.int k ((xs[j]?.getD 0:Nat):Int))) w:=Za4 (hO.cell hj) ho hx ha
theorem Zbb {A:Option Addr} {j:Nat} (hS:Zae k w A xs) (hj:j < xs.length) (ho:o.op=Op.load t x:=by kernel_rfl) (hx:ρ x=atA A j:=by kernel_rfl) (ha:(teOf P t).map (fun e=>e.agg)=some false:=by kernel_rfl) :
 (execOp ρ o).run P w=.ok (.value (.int k ((xs[j]?.getD 0:Nat):Int))) w:=by
 obtain ⟨g,off,rfl,_,hc⟩:=hS.at hj
 exact Za4 hc ho (by rw [hx,atA,Option.map_some,ZcG]) ha
theorem Zsh {A:Option Addr} {len cap h:Nat} {hi:Operand} (hle:h≤cap) (ho:o.op=Op.slice t x none (some hi) none:=by kernel_rfl) (ht:P.underlying t=some (.slice e):=by kernel_rfl) (hs:(P.info? e).map (fun i=>i.size)=some 1:=by kernel_rfl)
 (hx:ρ x=.slice A len cap:=by kernel_rfl) (hh:ρ hi=.int .i64 ((h:Nat):Int):=by kernel_rfl):(execOp ρ o).run P w=.ok (.value (.slice A h cap)) w:=by
 obtain ⟨inf,hinf,_⟩:=Option.map_eq_some_iff.1 hs
 have h3:A.map (fun a=>a.add 0)=A:=by cases A with
  | none=>rfl
  | some a=>simp [Addr.add]
 simp [execOp,ho,Instr.sliceAt,Instr.slice,Instr.sliceBounds,Instr.sliceBound,asIntOf,underlying,ht,hx,hh,hle,sizeOf,typeInfo,hinf,Result.andThen,h3]
theorem Zro {g len cap off l h n m:Nat} {lo hi:Operand} (hle:l≤h) (hle2:h≤cap) (hlt:l < cap) (hn:h - l=n) (hm:cap - l=m) (ho:o.op=Op.slice t x (some lo) (some hi) none:=by kernel_rfl) (ht:P.underlying t=some (.slice e):=by kernel_rfl) (hs:(P.info? e).map (fun i=>i.size)=some 1:=by kernel_rfl)
 (hx:ρ x=.slice (some ⟨g,off,none⟩) len cap:=by kernel_rfl) (hl:ρ lo=.int .i64 ((l:Nat):Int):=by kernel_rfl) (hh:ρ hi=.int .i64 ((h:Nat):Int):=by kernel_rfl):(execOp ρ o).run P w=.ok (.value (.slice (some ⟨g,off + l,none⟩) n m)) w:=by
 subst hn hm
 obtain ⟨inf,hinf,h1⟩:=Option.map_eq_some_iff.1 hs
 have hne:¬ cap=l:=by omega
 simp [execOp,ho,Instr.sliceAt,Instr.slice,Instr.sliceBounds,Instr.sliceBound,asIntOf,underlying,ht,hx,hl,hh,hle,hle2,sizeOf,typeInfo,hinf,h1,Result.andThen,hne,ZcG]
theorem ZpT {g len cap l h n m:Nat} {lo hi:Operand} (hle:l≤h) (hle2:h≤cap) (hlt:l < cap) (hn:h - l=n) (hm:cap - l=m) (ho:o.op=Op.slice t x (some lo) (some hi) none:=by kernel_rfl) (ht:P.underlying t=some (.slice e):=by kernel_rfl) (hs:(P.info? e).map (fun i=>i.size)=some 1:=by kernel_rfl)
 (hx:ρ x=.slice (some ⟨g,0,none⟩) len cap:=by kernel_rfl) (hl:ρ lo=.int .i64 ((l:Nat):Int):=by kernel_rfl) (hh:ρ hi=.int .i64 ((h:Nat):Int):=by kernel_rfl):(execOp ρ o).run P w=.ok (.value (.slice (some ⟨g,l,none⟩) n m)) w:=by
 have:=Zro (w:=w) hle hle2 hlt hn hm ho ht hs hx hl hh
 rwa [Nat.zero_add] at this
theorem Zae.ne {A:Option Addr} (hS:Zae k w A xs) {j:Nat} (hj:j < xs.length):A≠none:=by
 obtain ⟨g,off,rfl,_⟩:=hS.at hj
 intro h; cases h
end
end Go.Proofs.YtenchljfmfgeoaaGreatDoor

namespace Go.Proofs.YtenchljfmfgeoaaGreatDoor
open Go.RowKit
def Zem (ops:Array Oper) (i k:Nat):List Nat:=((ops.toList.drop i).take k).filterMap (fun o=>o.dst)
def Zen (l:List Nat) (sl:SlL):SlL:=sl.filter (fun q => !(l.any (Nat.beq q.1)))
def ZkB (nb:BlL) (bl:BlL):BlL:=bl.filter (fun q => !(nb.any (fun p=>Nat.beq p.1 q.1)))
section
variable {N:Nat} {S0:Nat→Prop} {w0:World} {sl:SlL} {bl:BlL} {Φ Φ0:World→Prop} {P:Program} {ops:Array Oper} {Q:Exit→Act→World→Prop}
theorem xq {i:Nat} (k:Nat) (nw:SlL) (nb:BlL) (K:SXi P N S0 w0 ops Q (i + k) (ofL (nw ++ Zen (Zem ops i k) sl) (nb ++ ZkB nb bl)) Φ)
 (h:ZiH P N ops i k (ofL sl bl) (nw ++ Zen (Zem ops i k) sl) (nb ++ ZkB nb bl)=some ((nw ++ Zen (Zem ops i k) sl).map (fun q=>some q.2),(nb ++ ZkB nb bl).map (fun q=>some q.2)):=by kernel_rfl)
 (h2:wfB (nw ++ Zen (Zem ops i k) sl) (nb ++ ZkB nb bl)=true:=by kernel_rfl):SXi P N S0 w0 ops Q i (ofL sl bl) Φ:=Zok k _ _ h h2 K
theorem xqf {n i:Nat} (k:Nat) (nw:SlL) (bl':BlL) (K:StI P N S0 w0 ops Φ0 Q n (i + k) (ofL (nw ++ Zen (Zem ops i k) sl) bl') Φ)
 (h:ZfS P N ops k i (ofL sl bl) (nw ++ Zen (Zem ops i k) sl)=some ((nw ++ Zen (Zem ops i k) sl).map (fun q=>some q.2),Zc9 bl'):=by kernel_rfl) (hk:Nat.ble (i + k) n=true:=by kernel_rfl):StI P N S0 w0 ops Φ0 Q n i (ofL sl bl) Φ:=ZkV k _ _ h hk K
theorem xqg {n i:Nat} (k:Nat) (nw:SlL) (K:StI P N S0 w0 ops Φ0 Q n (i + k) (ofL (nw ++ Zen (Zem ops i k) sl) bl) Φ)
 (h:ZfS P N ops k i (ofL sl bl) (nw ++ Zen (Zem ops i k) sl)=some ((nw ++ Zen (Zem ops i k) sl).map (fun q=>some q.2),Zc9 bl):=by kernel_rfl) (hk:Nat.ble (i + k) n=true:=by kernel_rfl):StI P N S0 w0 ops Φ0 Q n i (ofL sl bl) Φ:=ZkV k _ _ h hk K
theorem xqc {i:Nat} (f:FuncId) (args:List Value) (d:Nat) {α:Type} (sh:α→Value) (φ:α→World→Prop) (hC:∀ w,Fr S0 w0 w→Φ w→Calls P f args.toArray w (ZbA sh φ w)) (K:∀ x,SXi P N S0 w0 ops Q (i + 1) (ofL ((d, .v (sh x)) :: sl) bl) (fun w=>Φ w∧φ x w))
 (hsz:Nat.blt i ops.size=true:=by kernel_rfl) (h:ZcN P N ops (opAt ops i) (ofL sl bl)=some (f,args,d):=by kernel_rfl):SXi P N S0 w0 ops Q i (ofL sl bl) Φ:=Zmm f args d sh φ hsz h hC K
theorem xqd {n i:Nat} (f:FuncId) (args:List Value) (d:Nat) {α:Type} [hα:Nonempty α] (sh:α→Value) (φ:α→World→Prop) (hC:∀ w,Fr S0 w0 w→Φ w→Calls P f args.toArray w (ZbA sh φ w)) (K:∀ x,StI P N S0 w0 ops Φ0 Q n (i + 1) (ofL ((d, .v (sh x)) :: sl) bl) (fun w=>Φ w∧φ x w))
 (hi:Nat.blt i n=true:=by kernel_rfl) (hm:cls (opAt ops i).op=2:=by kernel_rfl) (h:ZcN P N ops (opAt ops i) (ofL sl bl)=some (f,args,d):=by kernel_rfl):StI P N S0 w0 ops Φ0 Q n i (ofL sl bl) Φ:=Zmn f args d sh φ hi hm h hC K
theorem xqk {i:Nat} (d:Nat) (y:Value) (hx:∀ w,Fr S0 w0 w→Φ w→(execOp (ofL sl bl).rho (opAt ops i)).run P w=.ok (.value y) w) (K:SXi P N S0 w0 ops Q (i + 1) (ofL ((d, .v y) :: sl) bl) Φ)
 (hi:Nat.blt i ops.size=true:=by kernel_rfl) (hs:ZbK (opAt ops i).op=true:=by kernel_rfl) (hw:(ofL sl bl).wantB ops (opAt ops i)=some true:=by kernel_rfl) (hv:(opAt ops i).op.operands.toList.all (ofL sl bl).vB=true:=by kernel_rfl) (hd:(opAt ops i).dst=some d:=by kernel_rfl) (hN:Nat.blt d N=true:=by kernel_rfl):SXi P N S0 w0 ops Q i (ofL sl bl) Φ :=
 ZhE d y hi hs hw hv hd hN hx K
theorem xqj {n i:Nat} (d:Nat) (y:Value) (hx:∀ w,Φ0 w→(execOp (ofL sl bl).rho (opAt ops i)).run P w=.ok (.value y) w) (K:StI P N S0 w0 ops Φ0 Q n (i + 1) (ofL ((d, .v y) :: sl) bl) Φ)
 (hi:Nat.blt i n=true:=by kernel_rfl) (hk:Zg5 (opAt ops i).op=true:=by kernel_rfl) (hw:(ofL sl bl).wantB ops (opAt ops i)=some true:=by kernel_rfl) (hv:(opAt ops i).op.operands.toList.all (ofL sl bl).vB=true:=by kernel_rfl) (hd:(opAt ops i).dst=some d:=by kernel_rfl) (hN:Nat.blt d N=true:=by kernel_rfl):StI P N S0 w0 ops Φ0 Q n i (ofL sl bl) Φ :=
 ZeO d y hi hk hw hv hd hN hx K
end
end Go.Proofs.YtenchljfmfgeoaaGreatDoor

namespace Go.Proofs.YtenchljfmfgeoaaGreatDoor
open Go.RowKit
section
variable {N:Nat} {S0:Nat→Prop} {w0:World} {s:St} {Φ Ψ:World→Prop} {L:Nat→Nat} {a:Act} {w:World} {P:Program} {ops:Array Oper} {Q:Exit→Act→World→Prop}
end
end Go.Proofs.YtenchljfmfgeoaaGreatDoor

namespace Go.Proofs.YtenchljfmfgeoaaGreatDoor
open Go.RowKit
def frz (b g:Nat):AV→AV
 | .v x=>.v x
 | .p b' off=>bif Nat.beq b' b then .v (.pointer (some ⟨g,off,none⟩)) else .p b' off
theorem Zk9 (L:Nat→Nat) (b:Nat) (x:AV):(frz b (L b) x).conc L=x.conc L:=by
 cases x with
 | v x=>rfl
 | p b' off =>
   show (bif Nat.beq b' b then AV.v (.pointer (some ⟨L b,off,none⟩)) else .p b' off).conc L=_
   cases h:Nat.beq b' b with
   | true =>
     have e:=Nat.eq_of_beq_eq_true h
     subst e
     rfl
   | false=>rfl
section
variable {N:Nat} {S0:Nat→Prop} {w0:World} {s:St} {Φ:World→Prop} {P:Program} {Q:Exit→Act→World→Prop}
theorem SXc.freeze {c:Code} (b:Nat) (t:TypeId) (cs:List Value) (sl':Nat→SlL) (bl':BlL) (hbb:s.bl b=some (t,cs.map .v)) (hs:∀ g,(sl' g).map (fun q=>(s.sl q.1).map (frz b g))=(sl' g).map (fun q=>some q.2)) (hb:bl'.map (fun q=>s.bl q.1)=bl'.map (fun q=>some q.2))
 (hn:bl'.all (fun q => !(Nat.beq q.1 b))=true) (hw:∀ g,wfB (sl' g) bl'=true) (h:∀ g,SXc P N S0 w0 Q c (ofL (sl' g) bl') (fun w=>Φ w∧Blk t w g cs.toArray)):SXc P N S0 w0 Q c s Φ:=by
 intro L a w hi
 refine h (L b) L a w ?_
 have hwf:=hw (L b)
 unfold wfB at hwf
 rw [Bool.and_eq_true] at hwf
 have hb':∀ i x,(ofL (sl' (L b)) bl').bl i=some x→s.bl i=some x:=fun i x hx=>Zca (f:=fun q:Nat × TypeId × List AV=>s.bl q.1) (g:=fun q=>some q.2) hb (Zbp hx)
 have hne:∀ i x,(ofL (sl' (L b)) bl').bl i=some x→i≠b:=fun i x hx e=>by
  have:=List.all_eq_true.1 hn _ (Zbp hx)
  simp [e] at this
 have hbs:∀ i,((ofL (sl' (L b)) bl').bl i).isSome=true→(s.bl i).isSome=true∧i≠b:=fun i hi'=>by
  obtain ⟨q,e⟩:=Option.isSome_iff_exists.1 hi'
  exact ⟨by rw [hb' i q e]; rfl,hne i q e⟩
 have hbsome:(s.bl b).isSome=true:=by rw [hbb]; rfl
 have hB:=hi.mem.blk b t _ hbb
 refine ⟨hi.size,hi.df,fun i x hx=>?_,⟨fun c t cs e=>hi.mem.blk c t cs (hb' c _ e),fun c d hc hd=>hi.mem.inj c d (hbs c hc).1 (hbs d hd).1,fun c hc=>hi.mem.old c (hbs c hc).1,hi.mem.ext,fun i c off e=>?_,fun c t cs e x hx=>⟨(hi.mem.cel c t cs (hb' c _ e) x hx).1,fun d off e'=>?_⟩⟩,fun w' hf=>⟨hi.box w' (hf.mono (fun i _ hi'=>?_)),?_⟩⟩
 ·have h1:=Zca (f:=fun q:Nat × AV=>(s.sl q.1).map (frz b (L b))) (g:=fun q=>some q.2) (hs (L b)) (Zbp hx)
  simp only at h1
  obtain ⟨y,hy,e⟩:=Option.map_eq_some_iff.1 h1
  have:=hi.sl i y hy
  rw [this,← e,Zk9]
 ·exact List.all_eq_true.1 hwf.1 _ (Zbp e)
 ·have:=List.all_eq_true.1 (List.all_eq_true.1 hwf.2 _ (Zbp e)) x hx
  rw [e'] at this
  exact this
 ·obtain ⟨c,hc,e⟩:=hi'
  exact ⟨c,(hbs c hc).1,e⟩
 ·have:Blk t w (L b) cs.toArray:=by simpa [List.map_map,Function.comp_def,AV.conc] using hB
  refine this.fr hf (fun ho=>?_)
  obtain ⟨c,hc,e⟩:=ho
  exact (hbs c hc).2 (hi.mem.inj c b (hbs c hc).1 hbsome e)
end
end Go.Proofs.YtenchljfmfgeoaaGreatDoor

namespace Go.Proofs.YtenchljfmfgeoaaGreatDoor
open Go.RowKit
section
variable {N:Nat} {S0:Nat→Prop} {w0:World} {s:St} {Φ Ψ:World→Prop} {L:Nat→Nat} {a:Act} {w:World} {P:Program} {ops:Array Oper} {Q:Exit→Act→World→Prop}
end
end Go.Proofs.YtenchljfmfgeoaaGreatDoor

namespace Go.Proofs.YtenchljfmfgeoaaGreatDoor
open Go.RowKit
section
variable {N:Nat} {S0:Nat→Prop} {w0:World} {s:St} {Φ Ψ:World→Prop} {L:Nat→Nat} {a:Act} {w:World} {P:Program} {ops:Array Oper} {Q:Exit→Act→World→Prop}
theorem Zsi {c:Code} {sl:SlL} {tmps:Array Value} (hN:tmps.size=N) (hs:sl.map (fun q=>tmps[q.1]?.map AV.v)=sl.map (fun q=>some q.2)) (R:Box (fun _=>False) w Φ) (h:SXc P N S0 w Q c (ofL sl []) Φ):c.wp P Q { tmps:=tmps,defers:=[] } w:=by
 refine h (fun _=>0) _ w ⟨hN,rfl,fun i x hx=>?_,⟨fun b t cs e=>(by cases e),fun b c e=>(by cases e),fun b e=>(by cases e),Fr.refl _ _,fun i b off e=>?_,fun b t cs e=>(by cases e)⟩,?_⟩
 ·have h1:=Zca (f:=fun q:Nat × AV=>tmps[q.1]?.map AV.v) (g:=fun q=>some q.2) hs (Zbp hx)
  obtain ⟨v,hv,rfl⟩:=Option.map_eq_some_iff.1 h1
  exact hv
 ·have h1:=Zca (f:=fun q:Nat × AV=>tmps[q.1]?.map AV.v) (g:=fun q=>some q.2) hs (Zbp e)
  obtain ⟨v,hv,e'⟩:=Option.map_eq_some_iff.1 h1
  cases e'
 ·intro w' hf'
  exact R w' (hf'.mono (fun i _ h'=>by obtain ⟨b,e,_⟩:=h'; cases e))
end
end Go.Proofs.YtenchljfmfgeoaaGreatDoor

namespace Go.Proofs.YtenchljfmfgeoaaGreatDoor
open Go.RowKit
end Go.Proofs.YtenchljfmfgeoaaGreatDoor

namespace Go.Proofs.YtenchljfmfgeoaaGreatDoor
open Go.RowKit
section
variable {N:Nat} {S0:Nat→Prop} {w0:World} {s:St} {Φ Ψ:World→Prop} {L:Nat→Nat} {a:Act} {w:World} {P:Program} {ops:Array Oper} {Q:Exit→Act→World→Prop}
theorem SXc.freezeN {c:Code} (b:Nat) (t:TypeId) (cs:List Value) (sl':Nat→SlL) (bl':BlL) (hbb:s.bl b=some (t,cs.map .v)) (hs:∀ g,(sl' g).map (fun q=>(s.sl q.1).map (frz b g))=(sl' g).map (fun q=>some q.2)) (hb:bl'.map (fun q=>s.bl q.1)=bl'.map (fun q=>some q.2))
 (hn:bl'.all (fun q => !(Nat.beq q.1 b))=true) (hw:∀ g,wfB (sl' g) bl'=true) (h:∀ g,(w0.heap.size≤g∨S0 g)→SXc P N S0 w0 Q c (ofL (sl' g) bl') (fun w=>Φ w∧Blk t w g cs.toArray)):SXc P N S0 w0 Q c s Φ:=by
 intro L a w hi
 refine h (L b) (hi.mem.old b (by rw [hbb]; rfl)) L a w ?_
 have hwf:=hw (L b)
 unfold wfB at hwf
 rw [Bool.and_eq_true] at hwf
 have hb':∀ i x,(ofL (sl' (L b)) bl').bl i=some x→s.bl i=some x:=fun i x hx=>Zca (f:=fun q:Nat × TypeId × List AV=>s.bl q.1) (g:=fun q=>some q.2) hb (Zbp hx)
 have hne:∀ i x,(ofL (sl' (L b)) bl').bl i=some x→i≠b:=fun i x hx e=>by
  have:=List.all_eq_true.1 hn _ (Zbp hx)
  simp [e] at this
 have hbs:∀ i,((ofL (sl' (L b)) bl').bl i).isSome=true→(s.bl i).isSome=true∧i≠b:=fun i hi'=>by
  obtain ⟨q,e⟩:=Option.isSome_iff_exists.1 hi'
  exact ⟨by rw [hb' i q e]; rfl,hne i q e⟩
 have hbsome:(s.bl b).isSome=true:=by rw [hbb]; rfl
 have hB:=hi.mem.blk b t _ hbb
 refine ⟨hi.size,hi.df,fun i x hx=>?_,⟨fun c t cs e=>hi.mem.blk c t cs (hb' c _ e),fun c d hc hd=>hi.mem.inj c d (hbs c hc).1 (hbs d hd).1,fun c hc=>hi.mem.old c (hbs c hc).1,hi.mem.ext,fun i c off e=>?_,fun c t cs e x hx=>⟨(hi.mem.cel c t cs (hb' c _ e) x hx).1,fun d off e'=>?_⟩⟩,fun w' hf=>⟨hi.box w' (hf.mono (fun i _ hi'=>?_)),?_⟩⟩
 ·have h1:=Zca (f:=fun q:Nat × AV=>(s.sl q.1).map (frz b (L b))) (g:=fun q=>some q.2) (hs (L b)) (Zbp hx)
  simp only at h1
  obtain ⟨y,hy,e⟩:=Option.map_eq_some_iff.1 h1
  have:=hi.sl i y hy
  rw [this,← e,Zk9]
 ·exact List.all_eq_true.1 hwf.1 _ (Zbp e)
 ·have:=List.all_eq_true.1 (List.all_eq_true.1 hwf.2 _ (Zbp e)) x hx
  rw [e'] at this
  exact this
 ·obtain ⟨c,hc,e⟩:=hi'
  exact ⟨c,(hbs c hc).1,e⟩
 ·have:Blk t w (L b) cs.toArray:=by simpa [List.map_map,Function.comp_def,AV.conc] using hB
  refine this.fr hf (fun ho=>?_)
  obtain ⟨c,hc,e⟩:=ho
  exact (hbs c hc).2 (hi.mem.inj c b (hbs c hc).1 hbsome e)
end
end Go.Proofs.YtenchljfmfgeoaaGreatDoor

namespace Go.Proofs.YtenchljfmfgeoaaGreatDoor
open Go.RowKit
section
variable {N:Nat} {S0:Nat→Prop} {w0:World} {s:St} {Φ Ψ:World→Prop} {L:Nat→Nat} {a:Act} {w:World} {P:Program} {ops:Array Oper} {Q:Exit→Act→World→Prop}
end
end Go.Proofs.YtenchljfmfgeoaaGreatDoor

namespace Go.Proofs.YtenchljfmfgeoaaGreatDoor
open Go.RowKit Go.Lib
end Go.Proofs.YtenchljfmfgeoaaGreatDoor

namespace Go.Proofs.YtenchljfmfgeoaaGreatDoor
open Go.RowKit
end Go.Proofs.YtenchljfmfgeoaaGreatDoor

namespace Go.Proofs.YtenchljfmfgeoaaGreatDoor
open Go.RowKit
section
variable {P:Program} {ops:Array Oper} {Q:Exit→Act→World→Prop} {a:Act} {w:World} {l:List Oper} {o:Oper}
end
end Go.Proofs.YtenchljfmfgeoaaGreatDoor

namespace Go.Proofs.YtenchljfmfgeoaaGreatDoor
open Go.RowKit
section
variable {N:Nat} {S0:Nat→Prop} {w0:World} {s:St} {Φ Φ0:World→Prop} {L:Nat→Nat} {a:Act} {w:World} {P:Program} {ops:Array Oper} {Q:Exit→Act→World→Prop} {fin:St→(World→Prop)→Prop}
end
end Go.Proofs.YtenchljfmfgeoaaGreatDoor

namespace Go.Proofs.YtenchljfmfgeoaaGreatDoor
open Go.RowKit Go.Lib
end Go.Proofs.YtenchljfmfgeoaaGreatDoor

namespace Go.Proofs.YtenchljfmfgeoaaGreatDoor
open Go.RowKit
structure TermR where
 coef:ByteArray
 A:Option Addr
 cap:Nat
 exps:List Int
instance:Inhabited TermR:=⟨⟨⟨#[]⟩,none,0,[]⟩⟩
section
variable {P:Program} {o:Oper} {ρ:Operand→Value} {w:World} {t e:TypeId} {x ix:Operand}
theorem Zb1 {A:Option Addr} {len cap i sz:Nat} (hA:A≠none) (h:i < len) (ho:o.op=Op.indexAddr t x ix:=by kernel_rfl) (ht:P.underlying t=some (.slice e):=by kernel_rfl) (hs:(P.info? e).map (fun i=>i.size)=some sz:=by kernel_rfl)
 (hx:ρ x=.slice A len cap:=by kernel_rfl) (hi:ρ ix=.int .i64 ((i:Nat):Int):=by kernel_rfl):(execOp ρ o).run P w=.ok (.value (atA A (i * sz))) w:=by
 obtain ⟨inf,hinf,h1⟩:=Option.map_eq_some_iff.1 hs
 obtain ⟨a,rfl⟩:∃ a,A=some a:=by cases A; exact absurd rfl hA; exact ⟨_,rfl⟩
 have h2:(0:Int)≤(i:Int)∧(i:Int) < (len:Int):=by omega
 simp [execOp,ho,Instr.indexAt,asIntOf,underlying,ht,hx,hi,h,sizeOf,typeInfo,hinf,h1,Result.andThen,atA]
theorem Zrq {bt:TypeId} {g:Nat} {cs:List Value} (hB:Blk bt w g cs.toArray) (ho:o.op=Op.load t x:=by kernel_rfl) (hx:ρ x=.pointer (some ⟨g,0,none⟩):=by kernel_rfl) (ha:(teOf P t).map (fun e=>(e.agg,e.size))=some (true,cs.length):=by kernel_rfl) :
 (execOp ρ o).run P w=.ok (.value (.agg cs.toArray)) w:=by
 obtain ⟨te,hte,h⟩:=Option.map_eq_some_iff.1 ha
 injection h with ha hn
 have:=ZeE (P:=P) (w:=w) hte (g:=g) (off:=0) (cs:=cs) hn.symm (fun i hi=>by rw [Nat.zero_add,hB.cell]; simp [hi]) ha
 simp only [execOp,ho,hx,Sem.run_bind,this,Result.andThen_ok,Sem.run_pure]
end
end Go.Proofs.YtenchljfmfgeoaaGreatDoor

namespace Go.Proofs.YtenchljfmfgeoaaGreatDoor
open Go.RowKit
theorem Zau {w w':World} {e:Ending} {n:Nat} (h:Za2 w n e w'):ZbA ZaA (fun x w=>Zad w (ZaA x) n) w e w':=by
 obtain ⟨v,rfl,h2,Q⟩:=h
 obtain ⟨A,l,c,rfl⟩:=h2.slice
 exact ⟨(A,l,c),rfl,Q,boxn Q (fun S w'' hS hF=>h2.nrb hS hF)⟩
end Go.Proofs.YtenchljfmfgeoaaGreatDoor

namespace Go.Proofs.YtenchljfmfgeoaaGreatDoor
open Go.RowKit
theorem ZcP {P:Program} {o:Oper} {ρ:Operand→Value} {w:World} {y:Value} {f:FuncId} {args:List Operand} {ts:Array TypeId} {vs:List Value} (h:(callFunc f vs.toArray).run P w=.ok (.value y) w)
 (ho:o.op=.call { callee:=.value (.func f),args:=args.toArray,argTypes:=ts }:=by kernel_rfl) (hv:args.map ρ=vs:=by kernel_rfl) (hf:ρ (.func f)=.func (.func f) #[] #[]:=by kernel_rfl):(execOp ρ o).run P w=.ok (.value y) w:=by
 subst hv
 have e2:(#[] ++ args.toArray.map ρ ++ #[]:Array Value)=(args.map ρ).toArray:=by simp
 simp only [execOp,ho,resolve,hf,Deferred.ofValue,Sem.run_bind,Sem.run_pure,Result.andThen_ok,invoke,e2,h]
theorem tdq (a c:Nat) (h:a < 9223372036854775808):IntKind.i64.wrap (((a:Nat):Int).tdiv (c:Int))=((a / c:Nat):Int):=by
 rw [← Int.ofNat_tdiv,IntKind.wrap_i64]
 have:=Nat.div_le_self a c
 generalize a / c=q at *
 omega
theorem tdr (a c:Nat):(((a:Nat):Int).tmod (c:Int))=((a % c:Nat):Int):=(Int.ofNat_tmod a c).symm
theorem Zbh {a b:Int} (h:((a:Int) == b)=false):a≠b:=by simpa using h
theorem Zhd {a b:Int} (h:((a:Int) != b)=true):a≠b:=by simpa using h
theorem Zhe {a b:Int} (h:((a:Int) != b)=false):a=b:=by simpa using h
section
variable {P:Program} {o:Oper} {ρ:Operand→Value} {w:World} {x y:Operand} {t k:TypeId}
theorem Zld {a n:Nat} (hn:n≤64) (ho:o.op=Op.binOp .shr t x y k:=by kernel_rfl) (hx:ρ x=.int .u64 ((a:Nat):Int):=by kernel_rfl) {ky:IntKind} (hy:ρ y=.int ky ((n:Nat):Int):=by kernel_rfl):(execOp ρ o).run P w=.ok (.value (.int .u64 ((a / 2 ^ n:Nat):Int))) w:=by
 have h0:¬ ((n:Int) < 0):=by omega
 have h1:min ((n:Int)).toNat IntKind.u64.bits=n:=by show min ((n:Int)).toNat 64=n; omega
 have h2:((a:Int)).fdiv (2 ^ n)=((a / 2 ^ n:Nat):Int):=by
  rw [Int.fdiv_eq_ediv_of_nonneg _ (by rw [show ((2:Int) ^ n)=((2 ^ n:Nat):Int) by rw [Int.natCast_pow]; rfl]; exact Int.natCast_nonneg _)]
  exact Zg0 a n
 simp only [execOp,ho,hx,hy,eqGuard,binOp,Op.shift,if_neg h0,h1,h2]
 rfl
theorem ZoB {a n:Nat} (hn:n≤64) (ho:o.op=Op.binOp .shl t x y k:=by kernel_rfl) (hx:ρ x=.int .u64 ((a:Nat):Int):=by kernel_rfl) {ky:IntKind} (hy:ρ y=.int ky ((n:Nat):Int):=by kernel_rfl):(execOp ρ o).run P w=.ok (.value (.int .u64 ((a * 2 ^ n % W64:Nat):Int))) w:=by
 have h0:¬ ((n:Int) < 0):=by omega
 have h1:min ((n:Int)).toNat IntKind.u64.bits=n:=by show min ((n:Int)).toNat 64=n; omega
 simp only [execOp,ho,hx,hy,eqGuard,binOp,Op.shift,if_neg h0,h1,Ze2]
 rfl
theorem ZqQ {a b r:Nat} (ha:a < W64) (hb:b < W64) (h:a ||| b=r) (ho:o.op=Op.binOp .or t x y k:=by kernel_rfl) (hx:ρ x=.int .u64 ((a:Nat):Int):=by kernel_rfl) (hy:ρ y=.int .u64 ((b:Nat):Int):=by kernel_rfl):(execOp ρ o).run P w=.ok (.value (.int .u64 ((r:Nat):Int))) w:=by
 have:=Zes ha hb
 rw [h] at this
 rw [← this]
 simp only [execOp,ho,hx,hy,eqGuard,binOp]
 rfl
end
theorem Zbe {B:Nat} {xs:List Nat} (k:Nat):val B (xs.take (k + 1))=val B (xs.take k) + B ^ k * (xs[k]?.getD 0):=by
 rcases Nat.lt_or_ge k xs.length with h | h
 ·exact Zay k h
 ·rw [List.take_of_length_le (by omega),List.take_of_length_le h,List.getElem?_eq_none h]; simp
/-! ### plus,minus -/
def ZeH (xs ys:List Nat) (k:Nat) (zs:List Nat) (c:Nat):Prop :=
 zs.length=xs.length + 1∧Dig W64 zs∧c≤1∧val W64 (zs.take k) + W64 ^ k * c=val W64 (xs.take k) + val W64 (ys.take k)
theorem ZeH.start (xs ys:List Nat):ZeH xs ys 0 (List.replicate (xs.length + 1) 0) 0:=⟨by simp,Dig.replicate Zah _,by omega,by simp⟩
theorem ZeH.step {xs ys zs:List Nat} {k c x y:Nat} (h:ZeH xs ys k zs c) (hk:k < xs.length) (ex:xs[k]?.getD 0=x) (ey:ys[k]?.getD 0=y) (hx:Dig W64 xs) (hy:Dig W64 ys):ZeH xs ys (k + 1) (zs.set k (Zaw x y c)) (ZaB x y c):=by
 obtain ⟨h1,h2,h3,h4⟩:=h
 refine ⟨by simpa using h1,h2.set k (Zdd _ _ _),Zf7 (ex ▸ hx.getD Zah k) (ey ▸ hy.getD Zah k) h3,?_⟩
 rw [ZaZ _ _ _ _ (by omega),Zbe k,Zbe k,ex,ey,Nat.pow_succ]
 exact ZkF _ _ _ _ _ _ _ _ _ _ h4 (ZcE x y c)
theorem ZeH.done {xs ys zs:List Nat} {c:Nat} (h:ZeH xs ys xs.length zs c) (hl:ys.length≤xs.length):(zs.set xs.length c).length=xs.length + 1∧Dig W64 (zs.set xs.length c)∧val W64 (zs.set xs.length c)=val W64 xs + val W64 ys:=by
 obtain ⟨h1,h2,h3,h4⟩:=h
 have e:(zs.set xs.length c).length=xs.length + 1:=by simpa using h1
 refine ⟨e,h2.set _ (by have:=ZcK; omega),?_⟩
 rw [← List.take_of_length_le (l:=zs.set xs.length c) (i:=xs.length + 1) (by omega),ZaZ _ _ _ _ (by omega),h4,List.take_of_length_le (Nat.le_refl _),List.take_of_length_le hl]
def MinR (xs ys:List Nat) (k:Nat) (zs:List Nat) (c:Nat):Prop :=
 zs.length=xs.length∧Dig W64 zs∧c≤1∧val W64 (zs.take k) + val W64 (ys.take k)=val W64 (xs.take k) + W64 ^ k * c
theorem MinR.start (xs ys:List Nat):MinR xs ys 0 (List.replicate xs.length 0) 0:=⟨by simp,Dig.replicate Zah _,by omega,by simp⟩
theorem MinR.step {xs ys zs:List Nat} {k c x y:Nat} (h:MinR xs ys k zs c) (hk:k < xs.length) (ex:xs[k]?.getD 0=x) (ey:ys[k]?.getD 0=y) (hx:Dig W64 xs) (hy:Dig W64 ys):MinR xs ys (k + 1) (zs.set k (Zbm x y c)) (Zbn x y c):=by
 obtain ⟨h1,h2,h3,h4⟩:=h
 have sp:=ZeY (ex ▸ hx.getD Zah k) (ey ▸ hy.getD Zah k) h3
 refine ⟨by simpa using h1,h2.set k (Zd5 _ _ _),Zf8 _ _ _,?_⟩
 rw [ZaZ _ _ _ _ (by omega),Zbe k,Zbe k,ex,ey,Nat.pow_succ]
 exact ZpE _ _ _ _ _ _ _ _ _ _ h4 sp
theorem MinR.done {xs ys zs:List Nat} {c:Nat} (h:MinR xs ys xs.length zs c) (hl:ys.length≤xs.length) (hle:val W64 ys≤val W64 xs):val W64 zs=val W64 xs - val W64 ys:=by
 obtain ⟨h1,h2,h3,h4⟩:=h
 rw [List.take_of_length_le (by omega),List.take_of_length_le hl,List.take_of_length_le (Nat.le_refl _)] at h4
 have hlt:=Za1 h2
 rw [h1] at hlt
 rcases (by omega:c=0∨c=1) with rfl | rfl
 ·rw [Nat.mul_zero] at h4; omega
 ·rw [Nat.mul_one] at h4; omega
/-! ### times -/
noncomputable def tmD (z x y c:Nat):Nat:=Zaw (Zaw (Zat x y) z 0) c 0
noncomputable def tmC (z x y c:Nat):Nat:=ZaN x y + ZaB (Zat x y) z 0 + ZaB (Zaw (Zat x y) z 0) c 0
theorem Zmt (z x y c:Nat):tmD z x y c + W64 * tmC z x y c=z + x * y + c:=by
 have h1:=Zde x y
 have h2:=ZcE (Zat x y) z 0
 have h3:=ZcE (Zaw (Zat x y) z 0) c 0
 unfold tmD tmC
 rw [Nat.mul_add,Nat.mul_add]
 omega
theorem Zle {z x y c:Nat} (hz:z < W64) (hx:x < W64) (hy:y < W64) (hc:c < W64):tmC z x y c < W64:=by
 have h1:=Zmt z x y c
 have h2:=Zf9 hx hy
 exact ZdY _ (by omega)
theorem ZiY {a b:Nat} (h:a + b < W64):IntKind.u64.wrap ((a:Int) + (b:Int))=((a + b:Nat):Int):=by rw [← Int.natCast_add]; exact ZbI _ h
theorem ZsQ {z x y c:Nat} (hz:z < W64) (hx:x < W64) (hy:y < W64) (hc:c < W64):ZaN x y + ZaB (Zat x y) z 0 < W64:=by have:=Zle hz hx hy hc; unfold tmC at this; omega
theorem Zhf (x y:Nat) (w:World) (hx:x < W64) (hy:y < W64):Calls Tryz.prog 161 #[.int .u64 (x:Int), .int .u64 (y:Int)] w (RetV w (.tuple #[.int .u64 ((ZaN x y:Nat):Int), .int .u64 ((Zat x y:Nat):Int)])):=by
 refine (Zeq x y hx hy w).mono ?_
 rintro e w' ⟨rfl,rfl⟩
 exact ⟨rfl,Fr.refl _ _⟩
def TimI (zs0 ys:List Nat) (x i k:Nat) (zs:List Nat) (c:Nat):Prop :=
 zs.length=zs0.length∧Dig W64 zs∧c < W64∧zs.drop (i + k)=zs0.drop (i + k)∧val W64 (zs.take (i + k)) + W64 ^ (i + k) * c=val W64 (zs0.take (i + k)) + W64 ^ i * (x * val W64 (ys.take k))
theorem TimI.start {zs0:List Nat} (ys:List Nat) (x i:Nat) (h:Dig W64 zs0):TimI zs0 ys x i 0 zs0 0:=⟨rfl,h,Zah,rfl,by simp⟩
theorem TimI.at {zs0 ys zs:List Nat} {x i k c:Nat} (h:TimI zs0 ys x i k zs c):zs[i + k]?.getD 0=zs0[i + k]?.getD 0:=by
 have:=congrArg (fun l=>l[0]?.getD 0) h.2.2.2.1
 simpa [List.getElem?_drop] using this
theorem TimI.step {zs0 ys zs:List Nat} {x i k c z y:Nat} (h:TimI zs0 ys x i k zs c) (hk:i + k < zs0.length) (ez:zs[i + k]?.getD 0=z) (ey:ys[k]?.getD 0=y) (hy:Dig W64 ys) (hx:x < W64):TimI zs0 ys x i (k + 1) (zs.set (i + k) (tmD z x y c)) (tmC z x y c):=by
 have e1:zs0[i + k]?.getD 0=z:=h.at.symm.trans ez
 obtain ⟨h1,h2,h3,h5,h4⟩:=h
 refine ⟨by simpa using h1,h2.set _ (Zdd _ _ _),Zle (ez ▸ h2.getD Zah _) hx (ey ▸ hy.getD Zah k) h3,?_,?_⟩
 ·have e:=congrArg (List.drop 1) h5
  rw [List.drop_drop,List.drop_drop] at e
  rw [List.drop_set_of_lt (by omega),show i + (k + 1)=i + k + 1 by omega]; exact e
 ·rw [show i + (k + 1)=(i + k) + 1 by omega,ZaZ _ _ _ _ (by omega),Zay (i + k) hk,Zbe k,e1,ey,Nat.pow_succ]
  have e:=congrArg (W64 ^ (i + k) * ·) (Zmt z x y c)
  have e2:W64 ^ i * (x * (val W64 (ys.take k) + W64 ^ k * y))=W64 ^ i * (x * val W64 (ys.take k)) + W64 ^ (i + k) * (x * y):=by
   rw [Nat.mul_add x,Nat.mul_add (W64 ^ i),Nat.pow_add,Nat.mul_left_comm x (W64 ^ k) y,Nat.mul_assoc (W64 ^ i)]
  simp only [Nat.mul_add] at e
  rw [e2,Nat.mul_assoc (W64 ^ (i + k)) W64]
  omega
def TimR (xs ys:List Nat) (i:Nat) (zs:List Nat):Prop :=
 zs.length=xs.length + ys.length∧Dig W64 zs∧(∀ j,i + ys.length≤j→zs[j]?.getD 0=0)∧val W64 (zs.take (i + ys.length))=val W64 (xs.take i) * val W64 ys
theorem Zjt (n j:Nat):(List.replicate n 0)[j]?.getD 0=0:=by rw [List.getElem?_replicate]; split<;>rfl
theorem TimR.start (xs ys:List Nat):TimR xs ys 0 (List.replicate (xs.length + ys.length) 0):=⟨by simp,Dig.replicate Zah _,fun j _=>Zjt _ _,by rw [List.take_replicate,Zcq]; simp⟩
theorem TimR.step {xs ys zs0 zs:List Nat} {i c x:Nat} (h:TimR xs ys i zs0) (hk:i < xs.length) (ex:xs[i]?.getD 0=x) (k:TimI zs0 ys x i ys.length zs c):TimR xs ys (i + 1) (zs.set (i + ys.length) c):=by
 obtain ⟨h1,h2,h3,h4⟩:=h
 obtain ⟨k1,k2,k3,k5,k4⟩:=k
 refine ⟨by simp; omega,k2.set _ k3,fun j hj=>?_,?_⟩
 ·rw [List.getElem?_set_ne (by omega)]
  have e:=congrArg (fun l=>l[j - (i + ys.length)]?.getD 0) k5
  simp only [List.getElem?_drop] at e
  rw [show i + ys.length + (j - (i + ys.length))=j by omega] at e
  rw [e]; exact h3 j (by omega)
 ·rw [show i + 1 + ys.length=(i + ys.length) + 1 by omega,ZaZ _ _ _ _ (by omega),k4,h4,List.take_of_length_le (Nat.le_refl ys.length),Zay i hk,ex,Nat.add_mul,Nat.mul_assoc]
theorem TimR.done {xs ys zs:List Nat} (h:TimR xs ys xs.length zs):val W64 zs=val W64 xs * val W64 ys:=by
 obtain ⟨h1,h2,h3,h4⟩:=h
 rwa [List.take_of_length_le (by omega),List.take_of_length_le (Nat.le_refl _)] at h4
theorem Zhg (A:Option Addr) (xs:List Nat) (c:Nat) (w:World) (hX:Zae .u64 w A xs) (hl:xs.length≤1099511627776) (hc:xs.length≤c) :
 Calls Tryz.prog 144 #[.slice A xs.length c] w (RetV w (.slice A (ZaX xs xs.length) c)):=by
 refine Zas (Φ:=fun w=>Zae .u64 w A xs) Tryz.func144 rfl (by kernel_rfl) (fun w' hf=>hX.ext hf) ?_
 refine Zac (Zab (xq 1 [eS1 2 none 0 0] [] ?_))
 refine xe (Zaa (Zac (Zar ?_)))
 refine SXc.weak [(0, .v (.slice A (xs.length) c))] [] (Ψ:=fun w=>Zae .u64 w A (xs)) (Zax.of (by kernel_rfl)) (by kernel_rfl) (fun w Q=>Q) ?_
 refine ZaR (fun nn ss ff=>∃ (k:Nat),ss=ofL [(0, .v (.slice A k c))] []∧ff=(fun w=>Zae .u64 w A (xs))∧(ZaX xs xs.length=ZaX xs k)∧(k≤xs.length)∧nn=(1 + k)) ((1 + (xs.length))) ⟨(xs.length),rfl,rfl,rfl,Nat.le_refl _,rfl⟩ ?_
 rintro nn ss ff ⟨k,rfl,rfl,HR,hk,rfl⟩
 refine Zac (Zac (Zab (xq 4 [(6, .v (.bool (decide (((k:Nat):Int) > 0))))] [] ?_)))
 rcases bl2 ((decide (((k:Nat):Int) > 0))) with hb10 | hb10
 ·rw [hb10]
  have hb10':=of_decide_eq_true hb10
  refine xq 4 [eS1 7 A k c,(10, .v (.int .i64 (IntKind.i64.wrap (((k:Nat):Int) - 1))))] [] ?_
  rw [show IntKind.i64.wrap ((((k:Nat):Int) - 1))=((k - 1:Nat):Int) from by rw [IntKind.wrap_i64]; omega]
  refine xqk 11 (atA A (k - 1)) (fun w R Q=>ZaS (t:=107) (e:=141) (x:=(Operand.tmp 7)) (ix:=(Operand.tmp 10)) (len:=k) (cap:=c) (i:=k - 1) ((Q).ne (j:=k - 1) (by omega)) (by omega)) ?_
  obtain ⟨x11,hx11⟩:∃ x,xs[k - 1]?.getD 0=x:=⟨_,rfl⟩
  refine xqk 12 (.int .u64 ((x11:Nat):Int)) (fun w R Q=>by rw [← hx11]; exact Zbb (t:=141) (x:=(Operand.tmp 11)) (Q) (j:=k - 1) (by omega)) ?_
  refine xq 2 [(14, .v (.bool ((((x11:Nat):Int):Int) == 0)))] [] ?_
  refine xe (Zaa ?_)
  refine Zap (((((x11:Nat):Int):Int) == 0)) (by kernel_rfl) (fun hb12=>?_) (fun hb12=>?_)
  ·have hb12':=beq_iff_eq.1 hb12
   refine Zal (Zaa (Zar (Zab (xq 4 [eS1 15 A k c,(18, .v (.int .i64 (IntKind.i64.wrap (((k:Nat):Int) - 1))))] [] ?_))))
   rw [show IntKind.i64.wrap ((((k:Nat):Int) - 1))=((k - 1:Nat):Int) from by rw [IntKind.wrap_i64]; omega]
   refine xqk 19 (.slice A (k - 1) c) (fun w R Q=>Zsh (t:=107) (e:=141) (x:=(Operand.tmp 15)) (len:=k) (cap:=c) (h:=k - 1) (hi:=(Operand.tmp 18)) (by omega)) ?_
   refine xq 1 [eS1 0 A (k - 1) c] [] ?_
   refine xe (ZaO ?_)
   refine SXq.weak [(0, .v (.slice A ((k - 1)) c))] [] (Ψ:=fun w=>Zae .u64 w A (xs)) (Zax.of (by kernel_rfl)) (by kernel_rfl) (fun w Q=>Q) ?_
   have HS:ZaX xs xs.length=ZaX xs (k - 1):=by obtain ⟨m,rfl⟩:∃ m,k=m + 1:=⟨k - 1,by omega⟩; rw [HR,ZaX,if_pos (by rw [Nat.add_sub_cancel] at hx11; omega),Nat.add_sub_cancel]
   exact ZaF ((1 + ((k - 1)))) (by omega) ⟨((k - 1)),rfl,rfl,HS,by omega,rfl⟩
  ·have hb12':=Zbh hb12
   refine ZaM (Zaj (Zaj (ZaV (Zaa (Zac (Zab (xq 2 [eS1 2 A k c] [] ?_)))))))
   refine xe (Zaa (Zag ?_))
   refine Zaf (v:=.slice A k c) (by kernel_rfl) (fun w' R Q=>?_)
   exact ⟨by obtain ⟨m,rfl⟩:∃ m,k=m + 1:=⟨k - 1,by omega⟩; rw [HR,ZaX,if_neg (by rw [Nat.add_sub_cancel] at hx11; omega)],R⟩
 ·rw [hb10]
  have hb10':=of_decide_eq_false hb10
  refine xq 8 [(14, .v (.bool false))] [] ?_
  refine xe (Zaa (xb (ZaM (Zaj (Zaj (ZaV (Zaa (Zac (Zab (xq 2 [eS1 2 A k c] [] ?_))))))))))
  refine xe (Zaa (Zag ?_))
  refine Zaf (v:=.slice A k c) (by kernel_rfl) (fun w' R Q=>?_)
  obtain rfl:k=0:=by omega
  exact ⟨by rw [HR]; rfl,R⟩
theorem Zew {b n v:Nat} {xs:List Nat} {w:World} (hO:Own .u64 141 w b xs) (hd:Dig W64 xs) (hn:xs.length=n) (hv:val W64 xs=v) (hl:n≤1099511627776):Calls Tryz.prog 144 #[.slice (some ⟨b,0,none⟩) n n] w (Za2 w v):=by
 subst hn hv
 refine (Zhg _ xs _ w hO.shows0 hl (Nat.le_refl _)).mono ?_
 rintro e w' ⟨rfl,Q⟩
 exact ⟨_,rfl,(Zad.of_own hO hd (Nat.le_refl _)).ext Q,Q⟩
theorem Zno (A A2:Option Addr) (xs ys:List Nat) (c c2:Nat) (w:World) (hX:Zae .u64 w A xs) (hY:Zae .u64 w A2 ys) (hl:xs.length≤4294967296) (hl2:ys.length≤4294967296) (hx:Dig W64 xs) (hy:Dig W64 ys) (h1:ys.length≤xs.length) (hle:val W64 ys≤val W64 xs) :
 Calls Tryz.prog 137 #[.slice A xs.length c, .slice A2 ys.length c2] w (Za2 w (val W64 xs - val W64 ys)):=by
 refine Zas (Φ:=fun w=>(Zae .u64 w A xs∧Zae .u64 w A2 ys)) Tryz.func137 rfl (by kernel_rfl) (fun w' hf=>⟨hX.ext hf,hY.ext hf⟩) ?_
 refine Zac (Zab (xq 1 [eS1 4 none 0 0] [] ?_))
 refine xe (Zaa (Zac (Zab (xq 2 [(10, .v (.int .i64 ((xs.length:Nat):Int)))] [] ?_))))
 refine Zgm (d:=11) (t:=107) (e:=141) (k:=.u64) (kl:=.i64) (kc:=.i64) (l:=(Operand.tmp 10)) (c:=(Operand.tmp 10)) (xs.length) 8 (by omega) (by decide) (fun r10 hr10 _=>?_)
 refine xr 1 [eS1 0 A xs.length c,eS1 1 A2 ys.length c2,eS1 4 none 0 0,eS1 5 (some ⟨r10,0,none⟩) (xs.length) (xs.length)] [] ?_
 refine xe (Zaa (Zac (Zab (xq 1 [(6, .v (.int .u64 0))] [] ?_))))
 refine xe (Zaa (Zac (Zac (Zab (xq 3 [(13, .v (.int .i64 ((xs.length:Nat):Int))),(14, .v (.int .i64 0))] [] ?_)))))
 refine xe (Zaa (Zar ?_))
 refine SXc.weak [(0, .v (.slice A xs.length c)),(1, .v (.slice A2 ys.length c2)),(4, .v (.slice none 0 0)),(5, .v (.slice (some ⟨r10,0,none⟩) (xs.length) (xs.length))),(6, .v (.int .u64 ((0:Nat):Int))),(13, .v (.int .i64 ((xs.length:Nat):Int))),(14, .v (.int .i64 ((0:Nat):Int)))] [] (Ψ:=fun w=>(Box (fun j=>r10≤j) w (fun w=>(Zae .u64 w A (xs)∧Zae .u64 w A2 (ys)))∧Own .u64 141 w r10 ((List.replicate (xs.length) 0)))) (Zax.of (by kernel_rfl)) (by kernel_rfl) (fun w Q=>⟨Q.1,Q.2⟩) ?_
 refine ZaR (fun nn ss ff=>∃ (cc k:Nat) (zs:List Nat),ss=ofL [(0, .v (.slice A xs.length c)),(1, .v (.slice A2 ys.length c2)),(4, .v (.slice none 0 0)),(5, .v (.slice (some ⟨r10,0,none⟩) (xs.length) (xs.length))),(6, .v (.int .u64 ((cc:Nat):Int))),(13, .v (.int .i64 ((xs.length:Nat):Int))),(14, .v (.int .i64 ((k:Nat):Int)))] []∧ff=(fun w=>(Box (fun j=>r10≤j) w (fun w=>(Zae .u64 w A (xs)∧Zae .u64 w A2 (ys)))∧Own .u64 141 w r10 (zs)))∧(MinR xs ys k zs cc)∧(k≤xs.length)∧nn=(xs.length - k)) ((xs.length - 0)) ⟨0,0,(List.replicate (xs.length) 0),rfl,rfl,MinR.start xs ys,by omega,rfl⟩ ?_
 rintro nn ss ff ⟨cc,k,zs,rfl,rfl,HR,hk,rfl⟩
 refine Zac (Zab (xq 1 [(15, .v (.bool (decide (((k:Nat):Int) < ((xs.length:Nat):Int)))))] [] ?_))
 refine xe (Zaa (Zac ?_))
 refine Zap ((decide (((k:Nat):Int) < ((xs.length:Nat):Int)))) (by kernel_rfl) (fun hb11=>?_) (fun hb11=>?_)
 ·have hb11':=of_decide_eq_true hb11
  have hzl:=HR.1
  have hcc:=HR.2.2.1
  refine Zal (Zaa (Zac (Zar (Zac (Zab (xq 2 [(7, .v (.int .i64 ((k:Nat):Int)))] [] ?_))))))
  refine xe (Zaa (Zac (Zab (xq 1 [(8, .v (.int .u64 0))] [] ?_))))
  refine xe (Zaa (Zac (Zac (Zab (xq 4 [(20, .v (.bool (decide (((k:Nat):Int) < ((ys.length:Nat):Int)))))] [] ?_)))))
  refine xe (Zaa ?_)
  refine Zap ((decide (((k:Nat):Int) < ((ys.length:Nat):Int)))) (by kernel_rfl) (fun hb12=>?_) (fun hb12=>?_)
  ·have hb12':=of_decide_eq_true hb12
   refine Zab (xq 2 [eS1 21 A2 ys.length c2,(22, .v (.int .i64 ((k:Nat):Int)))] [] ?_)
   refine xqk 23 (atA A2 k) (fun w R Q=>ZaS (t:=107) (e:=141) (x:=(Operand.tmp 21)) (ix:=(Operand.tmp 22)) (len:=ys.length) (cap:=c2) (i:=k) (((Q.1).self.2).ne (j:=k) (by omega)) (by omega)) ?_
   obtain ⟨x13,hx13⟩:∃ x,ys[k]?.getD 0=x:=⟨_,rfl⟩
   refine xqk 24 (.int .u64 ((x13:Nat):Int)) (fun w R Q=>by rw [← hx13]; exact Zbb (t:=141) (x:=(Operand.tmp 23)) ((Q.1).self.2) (j:=k) (by omega)) ?_
   refine xq 1 [(8, .v (.int .u64 ((x13:Nat):Int)))] [] ?_
   refine xe (Zaa (Zab (xq 4 [eS1 26 (some ⟨r10,0,none⟩) (xs.length) (xs.length),(27, .v (.int .i64 ((k:Nat):Int))),eS1 28 A xs.length c,(29, .v (.int .i64 ((k:Nat):Int)))] [] ?_)))
   refine xqk 30 (atA A k) (fun w R Q=>ZaS (t:=107) (e:=141) (x:=(Operand.tmp 28)) (ix:=(Operand.tmp 29)) (len:=xs.length) (cap:=c) (i:=k) (((Q.1).self.1).ne (j:=k) (by omega)) (by omega)) ?_
   obtain ⟨x14,hx14⟩:∃ x,xs[k]?.getD 0=x:=⟨_,rfl⟩
   refine xqk 31 (.int .u64 ((x14:Nat):Int)) (fun w R Q=>by rw [← hx14]; exact Zbb (t:=141) (x:=(Operand.tmp 30)) ((Q.1).self.1) (j:=k) (by omega)) ?_
   refine xq 2 [(32, .v (.int .u64 ((x13:Nat):Int))),(33, .v (.int .u64 ((cc:Nat):Int)))] [] ?_
   refine xqk 34 (.tuple #[.int .u64 ((Zbm x14 x13 cc:Nat):Int), .int .u64 ((Zbn x14 x13 cc:Nat):Int)]) (fun w R Q=>ZcP (args:=[Operand.tmp 31,Operand.tmp 32,Operand.tmp 33]) (ts:=#[141,141,141]) (Zcw x14 x13 cc (by omega) w)) ?_
   refine xq 3 [(35, .v (.int .u64 ((Zbm x14 x13 cc:Nat):Int))),(36, .v (.int .u64 ((Zbn x14 x13 cc:Nat):Int)))] [] ?_
   refine xqk 37 (.pointer (some ⟨r10,k,none⟩)) (fun w R Q=>ZbD (t:=107) (e:=141) (x:=(Operand.tmp 26)) (ix:=(Operand.tmp 27)) (len:=(xs.length)) (cap:=(xs.length)) (i:=k) (by omega)) ?_
   refine Zb4 (t:=141) (x:=(Operand.tmp 37)) (y:=(Operand.tmp 35)) r10 (k) (Zbm x14 x13 cc) (fun w=>(Box (fun j=>r10≤j) w (fun w=>(Zae .u64 w A (xs)∧Zae .u64 w A2 (ys)))∧Own .u64 141 w r10 ((zs).set (k) (Zbm x14 x13 cc)))) (fun w Q=>Q.2) (by omega) (Or.inl hr10) (fun w w' Q hF hO=>⟨((Q.1).fr (hF.mono (fun _ _ e=>by rw [e]; exact Nat.le_refl _))),hO⟩) ?_
   refine xq 1 [(6, .v (.int .u64 ((Zbn x14 x13 cc:Nat):Int)))] [] ?_
   refine xe (ZaO (Zaa (Zab (xq 1 [(38, .v (.int .i64 (IntKind.i64.wrap (((k:Nat):Int) + 1))))] [] ?_))))
   rw [show IntKind.i64.wrap ((((k:Nat):Int) + 1))=((k + 1:Nat):Int) from by rw [IntKind.wrap_i64]; omega]
   refine xq 1 [(14, .v (.int .i64 ((k + 1:Nat):Int)))] [] ?_
   refine xe ?_
   refine SXq.weak [(0, .v (.slice A xs.length c)),(1, .v (.slice A2 ys.length c2)),(4, .v (.slice none 0 0)),(5, .v (.slice (some ⟨r10,0,none⟩) (xs.length) (xs.length))),(6, .v (.int .u64 (((Zbn x14 x13 cc):Nat):Int))),(13, .v (.int .i64 ((xs.length:Nat):Int))),(14, .v (.int .i64 (((k + 1):Nat):Int)))] [] (Ψ:=fun w=>(Box (fun j=>r10≤j) w (fun w=>(Zae .u64 w A (xs)∧Zae .u64 w A2 (ys)))∧Own .u64 141 w r10 (((zs).set (k) (Zbm x14 x13 cc))))) (Zax.of (by kernel_rfl)) (by kernel_rfl) (fun w Q=>⟨Q.1,Q.2⟩) ?_
   have HS:=HR.step (k:=k) (by omega) hx14 (y:=x13) hx13 hx hy
   exact ZaF ((xs.length - (k + 1))) (by omega) ⟨(Zbn x14 x13 cc),(k + 1),((zs).set (k) (Zbm x14 x13 cc)),rfl,rfl,HS,by omega,rfl⟩
  ·have hb12':=of_decide_eq_false hb12
   refine Zal (Zaa (Zab (xq 4 [eS1 26 (some ⟨r10,0,none⟩) (xs.length) (xs.length),(27, .v (.int .i64 ((k:Nat):Int))),eS1 28 A xs.length c,(29, .v (.int .i64 ((k:Nat):Int)))] [] ?_)))
   refine xqk 30 (atA A k) (fun w R Q=>ZaS (t:=107) (e:=141) (x:=(Operand.tmp 28)) (ix:=(Operand.tmp 29)) (len:=xs.length) (cap:=c) (i:=k) (((Q.1).self.1).ne (j:=k) (by omega)) (by omega)) ?_
   obtain ⟨x15,hx15⟩:∃ x,xs[k]?.getD 0=x:=⟨_,rfl⟩
   refine xqk 31 (.int .u64 ((x15:Nat):Int)) (fun w R Q=>by rw [← hx15]; exact Zbb (t:=141) (x:=(Operand.tmp 30)) ((Q.1).self.1) (j:=k) (by omega)) ?_
   refine xq 2 [(32, .v (.int .u64 0)),(33, .v (.int .u64 ((cc:Nat):Int)))] [] ?_
   refine xqk 34 (.tuple #[.int .u64 ((Zbm x15 0 cc:Nat):Int), .int .u64 ((Zbn x15 0 cc:Nat):Int)]) (fun w R Q=>ZcP (args:=[Operand.tmp 31,Operand.tmp 32,Operand.tmp 33]) (ts:=#[141,141,141]) (Zcw x15 0 cc (by omega) w)) ?_
   refine xq 3 [(35, .v (.int .u64 ((Zbm x15 0 cc:Nat):Int))),(36, .v (.int .u64 ((Zbn x15 0 cc:Nat):Int)))] [] ?_
   refine xqk 37 (.pointer (some ⟨r10,k,none⟩)) (fun w R Q=>ZbD (t:=107) (e:=141) (x:=(Operand.tmp 26)) (ix:=(Operand.tmp 27)) (len:=(xs.length)) (cap:=(xs.length)) (i:=k) (by omega)) ?_
   refine Zb4 (t:=141) (x:=(Operand.tmp 37)) (y:=(Operand.tmp 35)) r10 (k) (Zbm x15 0 cc) (fun w=>(Box (fun j=>r10≤j) w (fun w=>(Zae .u64 w A (xs)∧Zae .u64 w A2 (ys)))∧Own .u64 141 w r10 ((zs).set (k) (Zbm x15 0 cc)))) (fun w Q=>Q.2) (by omega) (Or.inl hr10) (fun w w' Q hF hO=>⟨((Q.1).fr (hF.mono (fun _ _ e=>by rw [e]; exact Nat.le_refl _))),hO⟩) ?_
   refine xq 1 [(6, .v (.int .u64 ((Zbn x15 0 cc:Nat):Int)))] [] ?_
   refine xe (ZaO (Zaa (Zab (xq 1 [(38, .v (.int .i64 (IntKind.i64.wrap (((k:Nat):Int) + 1))))] [] ?_))))
   rw [show IntKind.i64.wrap ((((k:Nat):Int) + 1))=((k + 1:Nat):Int) from by rw [IntKind.wrap_i64]; omega]
   refine xq 1 [(14, .v (.int .i64 ((k + 1:Nat):Int)))] [] ?_
   refine xe ?_
   refine SXq.weak [(0, .v (.slice A xs.length c)),(1, .v (.slice A2 ys.length c2)),(4, .v (.slice none 0 0)),(5, .v (.slice (some ⟨r10,0,none⟩) (xs.length) (xs.length))),(6, .v (.int .u64 (((Zbn x15 0 cc):Nat):Int))),(13, .v (.int .i64 ((xs.length:Nat):Int))),(14, .v (.int .i64 (((k + 1):Nat):Int)))] [] (Ψ:=fun w=>(Box (fun j=>r10≤j) w (fun w=>(Zae .u64 w A (xs)∧Zae .u64 w A2 (ys)))∧Own .u64 141 w r10 (((zs).set (k) (Zbm x15 0 cc))))) (Zax.of (by kernel_rfl)) (by kernel_rfl) (fun w Q=>⟨Q.1,Q.2⟩) ?_
   have HS:=HR.step (k:=k) (by omega) hx15 (y:=0) (by rw [List.getElem?_eq_none (by omega)]; rfl) hx hy
   exact ZaF ((xs.length - (k + 1))) (by omega) ⟨(Zbn x15 0 cc),(k + 1),((zs).set (k) (Zbm x15 0 cc)),rfl,rfl,HS,by omega,rfl⟩
 ·have hb11':=of_decide_eq_false hb11
  obtain rfl:k=xs.length:=by omega
  refine ZaM (Zaj (Zaj (ZaV (Zaa (Zac (Zab (xq 1 [eS1 39 (some ⟨r10,0,none⟩) (xs.length) (xs.length)] [] ?_)))))))
  refine xqc 144 [.slice (some ⟨r10,0,none⟩) (xs.length) (xs.length)] 40 ZaA _ (fun w R Q=>(Zew Q.2 HR.2.1 HR.1 (HR.done h1 hle) (by omega)).mono (fun _ _=>Zau)) (fun xx=>?_)
  obtain ⟨A16,l16,c16⟩:=xx
  refine xq 1 [eS1 4 A16 l16 c16] [] ?_
  refine xe (Zaa (Zag ?_))
  refine Zaf (v:=.slice A16 l16 c16) (by kernel_rfl) (fun w' R Q=>?_)
  exact ⟨_,rfl,Q.2,R⟩
theorem ZoC (A A2:Option Addr) (xs ys:List Nat) (c c2:Nat) (w:World) (hX:Zae .u64 w A xs) (hY:Zae .u64 w A2 ys) (hl:xs.length≤4294967296) (hl2:ys.length≤4294967296) (hx:Dig W64 xs) (hy:Dig W64 ys) :
 Calls Tryz.prog 135 #[.slice A xs.length c, .slice A2 ys.length c2] w (Za2 w (val W64 xs + val W64 ys)):=by
 refine Zas (Φ:=fun w=>(Zae .u64 w A xs∧Zae .u64 w A2 ys)) Tryz.func135 rfl (by kernel_rfl) (fun w' hf=>⟨hX.ext hf,hY.ext hf⟩) ?_
 refine Zac (Zab (xq 1 [eS1 4 none 0 0] [] ?_))
 refine xe (Zaa ?_)
 refine Zk7 (fun ss ff=>∃ (B1 B2:Option Addr) (us vs:List Nat) (d1 d2:Nat),ss=ofL [(0, .v (.slice B1 us.length d1)),(1, .v (.slice B2 vs.length d2)),(4, .v (.slice none 0 0))] []∧ff=(fun w=>(Zae .u64 w B1 (us)∧Zae .u64 w B2 (vs)))∧(vs.length≤us.length)∧(Dig W64 us)∧(Dig W64 vs)∧(us.length≤4294967296)∧(val W64 us + val W64 vs=val W64 xs + val W64 ys)) ?_ ?_
 ·refine Zac (Zab (xq 5 [(13, .v (.bool (decide (((xs.length:Nat):Int) < ((ys.length:Nat):Int)))))] [] ?_))
  refine xe (Zaa ?_)
  refine Zap ((decide (((xs.length:Nat):Int) < ((ys.length:Nat):Int)))) (by kernel_rfl) (fun hb10=>?_) (fun hb10=>?_)
  ·have hb10':=of_decide_eq_true hb10
   refine Zab (xq 4 [eS1 0 A2 ys.length c2,eS1 1 A xs.length c] [] ?_)
   refine xe ?_
   refine SXq.weak [(0, .v (.slice A2 ys.length c2)),(1, .v (.slice A xs.length c)),(4, .v (.slice none 0 0))] [] (Ψ:=fun w=>(Zae .u64 w A2 (ys)∧Zae .u64 w A (xs))) (Zax.of (by kernel_rfl)) (by kernel_rfl) (fun w Q=>⟨Q.2,Q.1⟩) ?_
   exact Zdv ⟨A2,A,ys,xs,c2,c,rfl,rfl,(by omega),hy,hx,hl2,Nat.add_comm _ _⟩
  ·have hb10':=of_decide_eq_false hb10
   refine Zal ?_
   refine SXq.weak [(0, .v (.slice A xs.length c)),(1, .v (.slice A2 ys.length c2)),(4, .v (.slice none 0 0))] [] (Ψ:=fun w=>(Zae .u64 w A (xs)∧Zae .u64 w A2 (ys))) (Zax.of (by kernel_rfl)) (by kernel_rfl) (fun w Q=>⟨Q.1,Q.2⟩) ?_
   exact Zdv ⟨A,A2,xs,ys,c,c2,rfl,rfl,(by omega),hx,hy,hl,rfl⟩
 ·rintro ss ff ⟨B1,B2,us,vs,d1,d2,rfl,rfl,h1,hu,hv,hul,hsum⟩
  refine Zac (Zab (xq 3 [(18, .v (.int .i64 (IntKind.i64.wrap (((us.length:Nat):Int) + 1))))] [] ?_))
  rw [show IntKind.i64.wrap ((((us.length:Nat):Int) + 1))=((us.length + 1:Nat):Int) from by rw [IntKind.wrap_i64]; omega]
  refine Zgm (d:=19) (t:=107) (e:=141) (k:=.u64) (kl:=.i64) (kc:=.i64) (l:=(Operand.tmp 18)) (c:=(Operand.tmp 18)) (us.length + 1) 8 (by omega) (by decide) (fun r11 hr11 _=>?_)
  refine xr 1 [eS1 0 B1 us.length d1,eS1 1 B2 vs.length d2,eS1 4 none 0 0,eS1 5 (some ⟨r11,0,none⟩) (us.length + 1) (us.length + 1)] [] ?_
  refine xe (Zaa (Zac (Zab (xq 1 [(6, .v (.int .u64 0))] [] ?_))))
  refine xe (Zaa (Zac (Zac (Zab (xq 3 [(21, .v (.int .i64 ((us.length:Nat):Int))),(22, .v (.int .i64 0))] [] ?_)))))
  refine xe (Zaa (Zar ?_))
  refine SXc.weak [(0, .v (.slice B1 us.length d1)),(1, .v (.slice B2 vs.length d2)),(4, .v (.slice none 0 0)),(5, .v (.slice (some ⟨r11,0,none⟩) (us.length + 1) (us.length + 1))),(6, .v (.int .u64 ((0:Nat):Int))),(21, .v (.int .i64 ((us.length:Nat):Int))),(22, .v (.int .i64 ((0:Nat):Int)))] [] (Ψ:=fun w=>(Box (fun j=>r11≤j) w (fun w=>(Zae .u64 w B1 (us)∧Zae .u64 w B2 (vs)))∧Own .u64 141 w r11 ((List.replicate (us.length + 1) 0)))) (Zax.of (by kernel_rfl)) (by kernel_rfl) (fun w Q=>⟨Q.1,Q.2⟩) ?_
  refine ZaR (fun nn ss ff=>∃ (cc k:Nat) (zs:List Nat),ss=ofL [(0, .v (.slice B1 us.length d1)),(1, .v (.slice B2 vs.length d2)),(4, .v (.slice none 0 0)),(5, .v (.slice (some ⟨r11,0,none⟩) (us.length + 1) (us.length + 1))),(6, .v (.int .u64 ((cc:Nat):Int))),(21, .v (.int .i64 ((us.length:Nat):Int))),(22, .v (.int .i64 ((k:Nat):Int)))] []∧ff=(fun w=>(Box (fun j=>r11≤j) w (fun w=>(Zae .u64 w B1 (us)∧Zae .u64 w B2 (vs)))∧Own .u64 141 w r11 (zs)))∧(ZeH us vs k zs cc)∧(k≤us.length)∧nn=(us.length - k)) ((us.length - 0)) ⟨0,0,(List.replicate (us.length + 1) 0),rfl,rfl,ZeH.start us vs,by omega,rfl⟩ ?_
  rintro nn ss ff ⟨cc,k,zs,rfl,rfl,HR,hk,rfl⟩
  refine Zac (Zab (xq 1 [(23, .v (.bool (decide (((k:Nat):Int) < ((us.length:Nat):Int)))))] [] ?_))
  refine xe (Zaa (Zac ?_))
  refine Zap ((decide (((k:Nat):Int) < ((us.length:Nat):Int)))) (by kernel_rfl) (fun hb12=>?_) (fun hb12=>?_)
  ·have hb12':=of_decide_eq_true hb12
   have hzl:=HR.1
   have hcc:=HR.2.2.1
   refine Zal (Zaa (Zac (Zar (Zac (Zab (xq 2 [(7, .v (.int .i64 ((k:Nat):Int)))] [] ?_))))))
   refine xe (Zaa (Zac (Zab (xq 1 [(8, .v (.int .u64 0))] [] ?_))))
   refine xe (Zaa (Zac (Zac (Zab (xq 4 [(28, .v (.bool (decide (((k:Nat):Int) < ((vs.length:Nat):Int)))))] [] ?_)))))
   refine xe (Zaa ?_)
   refine Zap ((decide (((k:Nat):Int) < ((vs.length:Nat):Int)))) (by kernel_rfl) (fun hb13=>?_) (fun hb13=>?_)
   ·have hb13':=of_decide_eq_true hb13
    refine Zab (xq 2 [eS1 29 B2 vs.length d2,(30, .v (.int .i64 ((k:Nat):Int)))] [] ?_)
    refine xqk 31 (atA B2 k) (fun w R Q=>ZaS (t:=107) (e:=141) (x:=(Operand.tmp 29)) (ix:=(Operand.tmp 30)) (len:=vs.length) (cap:=d2) (i:=k) (((Q.1).self.2).ne (j:=k) (by omega)) (by omega)) ?_
    obtain ⟨x14,hx14⟩:∃ x,vs[k]?.getD 0=x:=⟨_,rfl⟩
    refine xqk 32 (.int .u64 ((x14:Nat):Int)) (fun w R Q=>by rw [← hx14]; exact Zbb (t:=141) (x:=(Operand.tmp 31)) ((Q.1).self.2) (j:=k) (by omega)) ?_
    refine xq 1 [(8, .v (.int .u64 ((x14:Nat):Int)))] [] ?_
    refine xe (Zaa (Zab (xq 4 [eS1 34 (some ⟨r11,0,none⟩) (us.length + 1) (us.length + 1),(35, .v (.int .i64 ((k:Nat):Int))),eS1 36 B1 us.length d1,(37, .v (.int .i64 ((k:Nat):Int)))] [] ?_)))
    refine xqk 38 (atA B1 k) (fun w R Q=>ZaS (t:=107) (e:=141) (x:=(Operand.tmp 36)) (ix:=(Operand.tmp 37)) (len:=us.length) (cap:=d1) (i:=k) (((Q.1).self.1).ne (j:=k) (by omega)) (by omega)) ?_
    obtain ⟨x15,hx15⟩:∃ x,us[k]?.getD 0=x:=⟨_,rfl⟩
    refine xqk 39 (.int .u64 ((x15:Nat):Int)) (fun w R Q=>by rw [← hx15]; exact Zbb (t:=141) (x:=(Operand.tmp 38)) ((Q.1).self.1) (j:=k) (by omega)) ?_
    refine xq 2 [(40, .v (.int .u64 ((x14:Nat):Int))),(41, .v (.int .u64 ((cc:Nat):Int)))] [] ?_
    refine xqk 42 (.tuple #[.int .u64 ((Zaw x15 x14 cc:Nat):Int), .int .u64 ((ZaB x15 x14 cc:Nat):Int)]) (fun w R Q=>ZcP (args:=[Operand.tmp 39,Operand.tmp 40,Operand.tmp 41]) (ts:=#[141,141,141]) (Zcv x15 x14 cc (by omega) w)) ?_
    refine xq 3 [(43, .v (.int .u64 ((Zaw x15 x14 cc:Nat):Int))),(44, .v (.int .u64 ((ZaB x15 x14 cc:Nat):Int)))] [] ?_
    refine xqk 45 (.pointer (some ⟨r11,k,none⟩)) (fun w R Q=>ZbD (t:=107) (e:=141) (x:=(Operand.tmp 34)) (ix:=(Operand.tmp 35)) (len:=(us.length + 1)) (cap:=(us.length + 1)) (i:=k) (by omega)) ?_
    refine Zb4 (t:=141) (x:=(Operand.tmp 45)) (y:=(Operand.tmp 43)) r11 (k) (Zaw x15 x14 cc) (fun w=>(Box (fun j=>r11≤j) w (fun w=>(Zae .u64 w B1 (us)∧Zae .u64 w B2 (vs)))∧Own .u64 141 w r11 ((zs).set (k) (Zaw x15 x14 cc)))) (fun w Q=>Q.2) (by omega) (Or.inl hr11) (fun w w' Q hF hO=>⟨((Q.1).fr (hF.mono (fun _ _ e=>by rw [e]; exact Nat.le_refl _))),hO⟩) ?_
    refine xq 1 [(6, .v (.int .u64 ((ZaB x15 x14 cc:Nat):Int)))] [] ?_
    refine xe (ZaO (Zaa (Zab (xq 1 [(46, .v (.int .i64 (IntKind.i64.wrap (((k:Nat):Int) + 1))))] [] ?_))))
    rw [show IntKind.i64.wrap ((((k:Nat):Int) + 1))=((k + 1:Nat):Int) from by rw [IntKind.wrap_i64]; omega]
    refine xq 1 [(22, .v (.int .i64 ((k + 1:Nat):Int)))] [] ?_
    refine xe ?_
    refine SXq.weak [(0, .v (.slice B1 us.length d1)),(1, .v (.slice B2 vs.length d2)),(4, .v (.slice none 0 0)),(5, .v (.slice (some ⟨r11,0,none⟩) (us.length + 1) (us.length + 1))),(6, .v (.int .u64 (((ZaB x15 x14 cc):Nat):Int))),(21, .v (.int .i64 ((us.length:Nat):Int))),(22, .v (.int .i64 (((k + 1):Nat):Int)))] [] (Ψ:=fun w=>(Box (fun j=>r11≤j) w (fun w=>(Zae .u64 w B1 (us)∧Zae .u64 w B2 (vs)))∧Own .u64 141 w r11 (((zs).set (k) (Zaw x15 x14 cc))))) (Zax.of (by kernel_rfl)) (by kernel_rfl) (fun w Q=>⟨Q.1,Q.2⟩) ?_
    have HS:=HR.step (k:=k) (by omega) hx15 (y:=x14) hx14 hu hv
    exact ZaF ((us.length - (k + 1))) (by omega) ⟨(ZaB x15 x14 cc),(k + 1),((zs).set (k) (Zaw x15 x14 cc)),rfl,rfl,HS,by omega,rfl⟩
   ·have hb13':=of_decide_eq_false hb13
    refine Zal (Zaa (Zab (xq 4 [eS1 34 (some ⟨r11,0,none⟩) (us.length + 1) (us.length + 1),(35, .v (.int .i64 ((k:Nat):Int))),eS1 36 B1 us.length d1,(37, .v (.int .i64 ((k:Nat):Int)))] [] ?_)))
    refine xqk 38 (atA B1 k) (fun w R Q=>ZaS (t:=107) (e:=141) (x:=(Operand.tmp 36)) (ix:=(Operand.tmp 37)) (len:=us.length) (cap:=d1) (i:=k) (((Q.1).self.1).ne (j:=k) (by omega)) (by omega)) ?_
    obtain ⟨x16,hx16⟩:∃ x,us[k]?.getD 0=x:=⟨_,rfl⟩
    refine xqk 39 (.int .u64 ((x16:Nat):Int)) (fun w R Q=>by rw [← hx16]; exact Zbb (t:=141) (x:=(Operand.tmp 38)) ((Q.1).self.1) (j:=k) (by omega)) ?_
    refine xq 2 [(40, .v (.int .u64 0)),(41, .v (.int .u64 ((cc:Nat):Int)))] [] ?_
    refine xqk 42 (.tuple #[.int .u64 ((Zaw x16 0 cc:Nat):Int), .int .u64 ((ZaB x16 0 cc:Nat):Int)]) (fun w R Q=>ZcP (args:=[Operand.tmp 39,Operand.tmp 40,Operand.tmp 41]) (ts:=#[141,141,141]) (Zcv x16 0 cc (by omega) w)) ?_
    refine xq 3 [(43, .v (.int .u64 ((Zaw x16 0 cc:Nat):Int))),(44, .v (.int .u64 ((ZaB x16 0 cc:Nat):Int)))] [] ?_
    refine xqk 45 (.pointer (some ⟨r11,k,none⟩)) (fun w R Q=>ZbD (t:=107) (e:=141) (x:=(Operand.tmp 34)) (ix:=(Operand.tmp 35)) (len:=(us.length + 1)) (cap:=(us.length + 1)) (i:=k) (by omega)) ?_
    refine Zb4 (t:=141) (x:=(Operand.tmp 45)) (y:=(Operand.tmp 43)) r11 (k) (Zaw x16 0 cc) (fun w=>(Box (fun j=>r11≤j) w (fun w=>(Zae .u64 w B1 (us)∧Zae .u64 w B2 (vs)))∧Own .u64 141 w r11 ((zs).set (k) (Zaw x16 0 cc)))) (fun w Q=>Q.2) (by omega) (Or.inl hr11) (fun w w' Q hF hO=>⟨((Q.1).fr (hF.mono (fun _ _ e=>by rw [e]; exact Nat.le_refl _))),hO⟩) ?_
    refine xq 1 [(6, .v (.int .u64 ((ZaB x16 0 cc:Nat):Int)))] [] ?_
    refine xe (ZaO (Zaa (Zab (xq 1 [(46, .v (.int .i64 (IntKind.i64.wrap (((k:Nat):Int) + 1))))] [] ?_))))
    rw [show IntKind.i64.wrap ((((k:Nat):Int) + 1))=((k + 1:Nat):Int) from by rw [IntKind.wrap_i64]; omega]
    refine xq 1 [(22, .v (.int .i64 ((k + 1:Nat):Int)))] [] ?_
    refine xe ?_
    refine SXq.weak [(0, .v (.slice B1 us.length d1)),(1, .v (.slice B2 vs.length d2)),(4, .v (.slice none 0 0)),(5, .v (.slice (some ⟨r11,0,none⟩) (us.length + 1) (us.length + 1))),(6, .v (.int .u64 (((ZaB x16 0 cc):Nat):Int))),(21, .v (.int .i64 ((us.length:Nat):Int))),(22, .v (.int .i64 (((k + 1):Nat):Int)))] [] (Ψ:=fun w=>(Box (fun j=>r11≤j) w (fun w=>(Zae .u64 w B1 (us)∧Zae .u64 w B2 (vs)))∧Own .u64 141 w r11 (((zs).set (k) (Zaw x16 0 cc))))) (Zax.of (by kernel_rfl)) (by kernel_rfl) (fun w Q=>⟨Q.1,Q.2⟩) ?_
    have HS:=HR.step (k:=k) (by omega) hx16 (y:=0) (by rw [List.getElem?_eq_none (by omega)]; rfl) hu hv
    exact ZaF ((us.length - (k + 1))) (by omega) ⟨(ZaB x16 0 cc),(k + 1),((zs).set (k) (Zaw x16 0 cc)),rfl,rfl,HS,by omega,rfl⟩
  ·have hb12':=of_decide_eq_false hb12
   obtain rfl:k=us.length:=by omega
   have hzl:=HR.1
   have HD:=HR.done h1
   refine ZaM (Zaj (Zaj (ZaV (Zaa (Zac (Zab (xq 4 [eS1 47 (some ⟨r11,0,none⟩) (us.length + 1) (us.length + 1),(49, .v (.int .i64 ((us.length:Nat):Int))),(50, .v (.int .u64 ((cc:Nat):Int)))] [] ?_)))))))
   refine xqk 51 (.pointer (some ⟨r11,us.length,none⟩)) (fun w R Q=>ZbD (t:=107) (e:=141) (x:=(Operand.tmp 47)) (ix:=(Operand.tmp 49)) (len:=(us.length + 1)) (cap:=(us.length + 1)) (i:=us.length) (by omega)) ?_
   refine Zb4 (t:=141) (x:=(Operand.tmp 51)) (y:=(Operand.tmp 50)) r11 (us.length) (cc) (fun w=>(Box (fun j=>r11≤j) w (fun w=>(Zae .u64 w B1 (us)∧Zae .u64 w B2 (vs)))∧Own .u64 141 w r11 ((zs).set (us.length) (cc)))) (fun w Q=>Q.2) (by omega) (Or.inl hr11) (fun w w' Q hF hO=>⟨((Q.1).fr (hF.mono (fun _ _ e=>by rw [e]; exact Nat.le_refl _))),hO⟩) ?_
   refine xe (Zaa (Zac (Zab (xq 1 [eS1 52 (some ⟨r11,0,none⟩) (us.length + 1) (us.length + 1)] [] ?_))))
   refine xqc 144 [.slice (some ⟨r11,0,none⟩) (us.length + 1) (us.length + 1)] 53 ZaA _ (fun w R Q=>(Zew Q.2 HD.2.1 HD.1 (HD.2.2.trans hsum) (by omega)).mono (fun _ _=>Zau)) (fun xx=>?_)
   obtain ⟨A17,l17,c17⟩:=xx
   refine xq 1 [eS1 4 A17 l17 c17] [] ?_
   refine xe (Zaa (Zag ?_))
   refine Zaf (v:=.slice A17 l17 c17) (by kernel_rfl) (fun w' R Q=>?_)
   exact ⟨_,rfl,Q.2,R⟩
theorem Znp (A A2:Option Addr) (xs ys:List Nat) (c c2:Nat) (w:World) (hX:Zae .u64 w A xs) (hY:Zae .u64 w A2 ys) (hl:xs.length≤4294967296) (hl2:ys.length≤4294967296) (hx:Dig W64 xs) (hy:Dig W64 ys) :
 Calls Tryz.prog 143 #[.slice A xs.length c, .slice A2 ys.length c2] w (Za2 w (val W64 xs * val W64 ys)):=by
 refine Zas (Φ:=fun w=>(Zae .u64 w A xs∧Zae .u64 w A2 ys)) Tryz.func143 rfl (by kernel_rfl) (fun w' hf=>⟨hX.ext hf,hY.ext hf⟩) ?_
 refine Zac (Zab (xq 1 [eS1 4 none 0 0] [] ?_))
 refine xe (Zaa (Zac (Zab (xq 5 [(18, .v (.int .i64 (IntKind.i64.wrap (((xs.length:Nat):Int) + ((ys.length:Nat):Int)))))] [] ?_))))
 rw [show IntKind.i64.wrap ((((xs.length:Nat):Int) + ((ys.length:Nat):Int)))=((xs.length + (ys.length):Nat):Int) from by rw [IntKind.wrap_i64]; omega]
 refine Zgm (d:=19) (t:=107) (e:=141) (k:=.u64) (kl:=.i64) (kc:=.i64) (l:=(Operand.tmp 18)) (c:=(Operand.tmp 18)) (xs.length + (ys.length)) 8 (by omega) (by decide) (fun r10 hr10 _=>?_)
 refine xr 1 [eS1 0 A xs.length c,eS1 1 A2 ys.length c2,eS1 4 none 0 0,(5, .v (.slice (some ⟨r10,0,none⟩) (xs.length + (ys.length)) (xs.length + (ys.length))))] [] ?_
 refine xe (Zaa (Zac (Zac (Zab (xq 3 [eS1 20 A xs.length c,(21, .v (.int .i64 ((xs.length:Nat):Int))),(22, .v (.int .i64 0))] [] ?_)))))
 refine xe (Zaa (Zar ?_))
 refine SXc.weak [(1, .v (.slice A2 ys.length c2)),(4, .v (.slice none 0 0)),(5, .v (.slice (some ⟨r10,0,none⟩) (xs.length + (ys.length)) (xs.length + (ys.length)))),(20, .v (.slice A xs.length c)),(21, .v (.int .i64 ((xs.length:Nat):Int))),(22, .v (.int .i64 ((0:Nat):Int)))] [] (Ψ:=fun w=>(Box (fun j=>r10≤j) w (fun w=>(Zae .u64 w A (xs)∧Zae .u64 w A2 (ys)))∧Own .u64 141 w r10 ((List.replicate (xs.length + (ys.length)) 0)))) (Zax.of (by kernel_rfl)) (by kernel_rfl) (fun w Q=>⟨Q.1,Q.2⟩) ?_
 refine ZaR (fun nn ss ff=>∃ (i:Nat) (zs:List Nat),ss=ofL [(1, .v (.slice A2 ys.length c2)),(4, .v (.slice none 0 0)),(5, .v (.slice (some ⟨r10,0,none⟩) (xs.length + (ys.length)) (xs.length + (ys.length)))),(20, .v (.slice A xs.length c)),(21, .v (.int .i64 ((xs.length:Nat):Int))),(22, .v (.int .i64 ((i:Nat):Int)))] []∧ff=(fun w=>(Box (fun j=>r10≤j) w (fun w=>(Zae .u64 w A (xs)∧Zae .u64 w A2 (ys)))∧Own .u64 141 w r10 (zs)))∧(TimR xs ys i zs)∧(i≤xs.length)∧nn=(xs.length - i)) ((xs.length - 0)) ⟨0,(List.replicate (xs.length + (ys.length)) 0),rfl,rfl,TimR.start xs ys,by omega,rfl⟩ ?_
 rintro nn ss ff ⟨i,zs,rfl,rfl,HR,hi,rfl⟩
 refine Zac (Zab (xq 1 [(23, .v (.bool (decide (((i:Nat):Int) < ((xs.length:Nat):Int)))))] [] ?_))
 refine xe (Zaa (Zac ?_))
 refine Zap ((decide (((i:Nat):Int) < ((xs.length:Nat):Int)))) (by kernel_rfl) (fun hb11=>?_) (fun hb11=>?_)
 ·have hb11':=of_decide_eq_true hb11
  have hzl:=HR.1
  refine Zal (Zaa (Zac (Zar (Zac (Zab (xq 1 [(24, .v (.int .i64 ((i:Nat):Int)))] [] ?_))))))
  refine xqk 25 (atA A i) (fun w R Q=>ZaS (t:=107) (e:=141) (x:=(Operand.tmp 20)) (ix:=(Operand.tmp 22)) (len:=xs.length) (cap:=c) (i:=i) (((Q.1).self.1).ne (j:=i) (by omega)) (by omega)) ?_
  obtain ⟨x12,hx12⟩:∃ x,xs[i]?.getD 0=x:=⟨_,rfl⟩
  refine xqk 26 (.int .u64 ((x12:Nat):Int)) (fun w R Q=>by rw [← hx12]; exact Zbb (t:=141) (x:=(Operand.tmp 25)) ((Q.1).self.1) (j:=i) (by omega)) ?_
  refine xq 2 [(6, .v (.int .i64 ((i:Nat):Int))),(7, .v (.int .u64 ((x12:Nat):Int)))] [] ?_
  refine xe (Zaa (Zac (Zab (xq 1 [(8, .v (.int .u64 0))] [] ?_))))
  refine xe (Zaa (Zac (Zac (Zab (xq 3 [eS1 27 A2 ys.length c2,(28, .v (.int .i64 ((ys.length:Nat):Int))),(29, .v (.int .i64 0))] [] ?_)))))
  refine xe (Zaa (Zar ?_))
  refine SXc.weak [(1, .v (.slice A2 ys.length c2)),(4, .v (.slice none 0 0)),(5, .v (.slice (some ⟨r10,0,none⟩) (xs.length + (ys.length)) (xs.length + (ys.length)))),(6, .v (.int .i64 ((i:Nat):Int))),(7, .v (.int .u64 ((x12:Nat):Int))),(8, .v (.int .u64 ((0:Nat):Int))),(20, .v (.slice A xs.length c)),(21, .v (.int .i64 ((xs.length:Nat):Int))),(22, .v (.int .i64 ((i:Nat):Int))),(27, .v (.slice A2 ys.length c2)),(28, .v (.int .i64 ((ys.length:Nat):Int))),(29, .v (.int .i64 ((0:Nat):Int)))] [] (Ψ:=fun w=>(Box (fun j=>r10≤j) w (fun w=>(Zae .u64 w A (xs)∧Zae .u64 w A2 (ys)))∧Own .u64 141 w r10 (zs))) (Zax.of (by kernel_rfl)) (by kernel_rfl) (fun w Q=>⟨Q.1,Q.2⟩) ?_
  refine ZaR (fun nn ss ff=>∃ (cc k:Nat) (vs:List Nat),ss=ofL [(1, .v (.slice A2 ys.length c2)),(4, .v (.slice none 0 0)),(5, .v (.slice (some ⟨r10,0,none⟩) (xs.length + (ys.length)) (xs.length + (ys.length)))),(6, .v (.int .i64 ((i:Nat):Int))),(7, .v (.int .u64 ((x12:Nat):Int))),(8, .v (.int .u64 ((cc:Nat):Int))),(20, .v (.slice A xs.length c)),(21, .v (.int .i64 ((xs.length:Nat):Int))),(22, .v (.int .i64 ((i:Nat):Int))),(27, .v (.slice A2 ys.length c2)),(28, .v (.int .i64 ((ys.length:Nat):Int))),(29, .v (.int .i64 ((k:Nat):Int)))] []∧ff=(fun w=>(Box (fun j=>r10≤j) w (fun w=>(Zae .u64 w A (xs)∧Zae .u64 w A2 (ys)))∧Own .u64 141 w r10 (vs)))∧(TimI zs ys x12 i k vs cc)∧(k≤ys.length)∧nn=(ys.length - k)) ((ys.length - 0)) ⟨0,0,zs,rfl,rfl,TimI.start ys x12 i HR.2.1,by omega,rfl⟩ ?_
  rintro nn ss ff ⟨cc,k,vs,rfl,rfl,HI,hk,rfl⟩
  refine Zac (Zab (xq 1 [(30, .v (.bool (decide (((k:Nat):Int) < ((ys.length:Nat):Int)))))] [] ?_))
  refine xe (Zaa (Zac ?_))
  refine Zap ((decide (((k:Nat):Int) < ((ys.length:Nat):Int)))) (by kernel_rfl) (fun hb13=>?_) (fun hb13=>?_)
  ·have hb13':=of_decide_eq_true hb13
   have hvl:=HI.1
   have hcc:=HI.2.2.1
   refine Zal (Zaa (Zac (Zar (Zac (Zab (xq 1 [(31, .v (.int .i64 ((k:Nat):Int)))] [] ?_))))))
   refine xqk 32 (atA A2 k) (fun w R Q=>ZaS (t:=107) (e:=141) (x:=(Operand.tmp 27)) (ix:=(Operand.tmp 29)) (len:=ys.length) (cap:=c2) (i:=k) (((Q.1).self.2).ne (j:=k) (by omega)) (by omega)) ?_
   obtain ⟨x14,hx14⟩:∃ x,ys[k]?.getD 0=x:=⟨_,rfl⟩
   refine xqk 33 (.int .u64 ((x14:Nat):Int)) (fun w R Q=>by rw [← hx14]; exact Zbb (t:=141) (x:=(Operand.tmp 32)) ((Q.1).self.2) (j:=k) (by omega)) ?_
   refine xq 2 [(9, .v (.int .i64 ((k:Nat):Int))),(10, .v (.int .u64 ((x14:Nat):Int)))] [] ?_
   refine xe (Zaa (Zac (Zab (xq 2 [(35, .v (.int .u64 ((x12:Nat):Int))),(36, .v (.int .u64 ((x14:Nat):Int)))] [] ?_))))
   refine xqc 161 [.int .u64 ((x12:Nat):Int), .int .u64 ((x14:Nat):Int)] 37 (fun _:Unit=>.tuple #[.int .u64 ((ZaN x12 x14:Nat):Int), .int .u64 ((Zat x12 x14:Nat):Int)]) _ (fun w R Q=>(Zhf x12 x14 _ (by rw [← hx12]; exact hx.getD Zah _) (by rw [← hx14]; exact hy.getD Zah _)).mono (fun _ _ h=>Zam h rfl)) (fun xx=>?_)
   refine xq 5 [(11, .v (.int .u64 ((ZaN x12 x14:Nat):Int))),(12, .v (.int .u64 ((Zat x12 x14:Nat):Int)))] [] ?_
   refine xe (Zaa (Zac (Zab (xq 5 [(41, .v (.int .u64 ((Zat x12 x14:Nat):Int))),(42, .v (.slice (some ⟨r10,0,none⟩) (xs.length + (ys.length)) (xs.length + (ys.length)))),(45, .v (.int .i64 (IntKind.i64.wrap (((i:Nat):Int) + ((k:Nat):Int)))))] [] ?_))))
   rw [show IntKind.i64.wrap ((((i:Nat):Int) + ((k:Nat):Int)))=((i + k:Nat):Int) from by rw [IntKind.wrap_i64]; omega]
   refine xqk 46 (.pointer (some ⟨r10,i + k,none⟩)) (fun w R Q=>ZbD (t:=107) (e:=141) (x:=(Operand.tmp 42)) (ix:=(Operand.tmp 45)) (len:=(xs.length + (ys.length))) (cap:=(xs.length + (ys.length))) (i:=i + k) (by omega)) ?_
   obtain ⟨x15,hx15⟩:∃ x,vs[i + k]?.getD 0=x:=⟨_,rfl⟩
   refine xqk 47 (.int .u64 ((x15:Nat):Int)) (fun w R Q=>by rw [← hx15]; exact Zcr (t:=141) (x:=(Operand.tmp 46)) (Q.1.2) (j:=i + k) (by omega)) ?_
   refine xqk 48 (.tuple #[.int .u64 ((Zaw (Zat x12 x14) x15 0:Nat):Int), .int .u64 ((ZaB (Zat x12 x14) x15 0:Nat):Int)]) (fun w R Q=>ZcP (args:=[Operand.tmp 41,Operand.tmp 47,Operand.const (Value.int IntKind.u64 0)]) (ts:=#[141,141,141]) (Zcv (Zat x12 x14) x15 0 (by omega) w)) ?_
   refine xq 5 [(12, .v (.int .u64 ((Zaw (Zat x12 x14) x15 0:Nat):Int))),(13, .v (.int .u64 ((ZaB (Zat x12 x14) x15 0:Nat):Int)))] [] ?_
   refine xe (Zaa (Zac (Zab (xq 3 [(53, .v (.int .u64 (IntKind.u64.wrap (((ZaN x12 x14:Nat):Int) + ((ZaB (Zat x12 x14) x15 0:Nat):Int)))))] [] ?_))))
   rw [ZiY (a:=ZaN x12 x14) (b:=ZaB (Zat x12 x14) x15 0) (ZsQ (by rw [← hx15]; exact HI.2.1.getD Zah _) (by rw [← hx12]; exact hx.getD Zah _) (by rw [← hx14]; exact hy.getD Zah _) hcc)]
   refine xq 1 [(11, .v (.int .u64 ((ZaN x12 x14 + ZaB (Zat x12 x14) x15 0:Nat):Int)))] [] ?_
   refine xe (Zaa (Zac (Zab (xq 4 [(55, .v (.slice (some ⟨r10,0,none⟩) (xs.length + (ys.length)) (xs.length + (ys.length)))),(58, .v (.int .i64 (IntKind.i64.wrap (((i:Nat):Int) + ((k:Nat):Int)))))] [] ?_))))
   rw [show IntKind.i64.wrap ((((i:Nat):Int) + ((k:Nat):Int)))=((i + k:Nat):Int) from by rw [IntKind.wrap_i64]; omega]
   refine xq 2 [(59, .v (.int .u64 ((Zaw (Zat x12 x14) x15 0:Nat):Int))),(60, .v (.int .u64 ((cc:Nat):Int)))] [] ?_
   refine xqk 61 (.tuple #[.int .u64 ((Zaw (Zaw (Zat x12 x14) x15 0) cc 0:Nat):Int), .int .u64 ((ZaB (Zaw (Zat x12 x14) x15 0) cc 0:Nat):Int)]) (fun w R Q=>ZcP (args:=[Operand.tmp 59,Operand.tmp 60,Operand.const (Value.int IntKind.u64 0)]) (ts:=#[141,141,141]) (Zcv (Zaw (Zat x12 x14) x15 0) cc 0 (by omega) w)) ?_
   refine xq 3 [(62, .v (.int .u64 ((Zaw (Zaw (Zat x12 x14) x15 0) cc 0:Nat):Int))),(63, .v (.int .u64 ((ZaB (Zaw (Zat x12 x14) x15 0) cc 0:Nat):Int)))] [] ?_
   refine xqk 64 (.pointer (some ⟨r10,i + k,none⟩)) (fun w R Q=>ZbD (t:=107) (e:=141) (x:=(Operand.tmp 55)) (ix:=(Operand.tmp 58)) (len:=(xs.length + (ys.length))) (cap:=(xs.length + (ys.length))) (i:=i + k) (by omega)) ?_
   refine Zb4 (t:=141) (x:=(Operand.tmp 64)) (y:=(Operand.tmp 62)) r10 (i + k) (Zaw (Zaw (Zat x12 x14) x15 0) cc 0) (fun w=>((Box (fun j=>r10≤j) w (fun w=>(Zae .u64 w A (xs)∧Zae .u64 w A2 (ys)))∧Own .u64 141 w r10 ((vs).set (i + k) (Zaw (Zaw (Zat x12 x14) x15 0) cc 0)))∧True)) (fun w Q=>Q.1.2) (by omega) (Or.inl hr10) (fun w w' Q hF hO=>⟨⟨((Q.1.1).fr (hF.mono (fun _ _ e=>by rw [e]; exact Nat.le_refl _))),hO⟩,trivial⟩) ?_
   refine xr 1 [eS1 1 A2 ys.length c2,eS1 4 none 0 0,(5, .v (.slice (some ⟨r10,0,none⟩) (xs.length + (ys.length)) (xs.length + (ys.length)))),(6, .v (.int .i64 ((i:Nat):Int))),(7, .v (.int .u64 ((x12:Nat):Int))),(8, .v (.int .u64 ((cc:Nat):Int))),(11, .v (.int .u64 ((ZaN x12 x14 + ZaB (Zat x12 x14) x15 0:Nat):Int))),(13, .v (.int .u64 ((ZaB (Zaw (Zat x12 x14) x15 0) cc 0:Nat):Int))),eS1 20 A xs.length c,(21, .v (.int .i64 ((xs.length:Nat):Int))),(22, .v (.int .i64 ((i:Nat):Int))),eS1 27 A2 ys.length c2,(28, .v (.int .i64 ((ys.length:Nat):Int))),(29, .v (.int .i64 ((k:Nat):Int)))] [] ?_
   refine xe (Zaa (Zab (xq 3 [(67, .v (.int .u64 (IntKind.u64.wrap (((ZaN x12 x14 + ZaB (Zat x12 x14) x15 0:Nat):Int) + ((ZaB (Zaw (Zat x12 x14) x15 0) cc 0:Nat):Int)))))] [] ?_)))
   rw [ZiY (a:=ZaN x12 x14 + ZaB (Zat x12 x14) x15 0) (b:=ZaB (Zaw (Zat x12 x14) x15 0) cc 0) (Zle (by rw [← hx15]; exact HI.2.1.getD Zah _) (by rw [← hx12]; exact hx.getD Zah _) (by rw [← hx14]; exact hy.getD Zah _) hcc)]
   refine xq 1 [(8, .v (.int .u64 ((ZaN x12 x14 + ZaB (Zat x12 x14) x15 0 + ZaB (Zaw (Zat x12 x14) x15 0) cc 0:Nat):Int)))] [] ?_
   refine xe (ZaO (Zaa (Zab (xq 1 [(68, .v (.int .i64 (IntKind.i64.wrap (((k:Nat):Int) + 1))))] [] ?_))))
   rw [show IntKind.i64.wrap ((((k:Nat):Int) + 1))=((k + 1:Nat):Int) from by rw [IntKind.wrap_i64]; omega]
   refine xq 1 [(29, .v (.int .i64 ((k + 1:Nat):Int)))] [] ?_
   refine xe ?_
   refine SXq.weak [(1, .v (.slice A2 ys.length c2)),(4, .v (.slice none 0 0)),(5, .v (.slice (some ⟨r10,0,none⟩) (xs.length + (ys.length)) (xs.length + (ys.length)))),(6, .v (.int .i64 ((i:Nat):Int))),(7, .v (.int .u64 ((x12:Nat):Int))),(8, .v (.int .u64 (((ZaN x12 x14 + ZaB (Zat x12 x14) x15 0 + ZaB (Zaw (Zat x12 x14) x15 0) cc 0):Nat):Int))),(20, .v (.slice A xs.length c)),(21, .v (.int .i64 ((xs.length:Nat):Int))),(22, .v (.int .i64 ((i:Nat):Int))),(27, .v (.slice A2 ys.length c2)),(28, .v (.int .i64 ((ys.length:Nat):Int))),(29, .v (.int .i64 (((k + 1):Nat):Int)))] [] (Ψ:=fun w=>(Box (fun j=>r10≤j) w (fun w=>(Zae .u64 w A (xs)∧Zae .u64 w A2 (ys)))∧Own .u64 141 w r10 (((vs).set (i + k) (Zaw (Zaw (Zat x12 x14) x15 0) cc 0))))) (Zax.of (by kernel_rfl)) (by kernel_rfl) (fun w Q=>⟨Q.1.1,Q.1.2⟩) ?_
   have HS:=HI.step (k:=k) (by omega) hx15 hx14 hy (by rw [← hx12]; exact hx.getD Zah _)
   exact ZaF ((ys.length - (k + 1))) (by omega) ⟨(ZaN x12 x14 + ZaB (Zat x12 x14) x15 0 + ZaB (Zaw (Zat x12 x14) x15 0) cc 0),(k + 1),((vs).set (i + k) (Zaw (Zaw (Zat x12 x14) x15 0) cc 0)),rfl,rfl,HS,by omega,rfl⟩
  ·have hb13':=of_decide_eq_false hb13
   have hvl:=HI.1
   have hcc:=HI.2.2.1
   obtain rfl:k=ys.length:=by omega
   refine ZaM (Zaj (Zaj (ZaV (Zaa (Zab (xq 5 [(69, .v (.slice (some ⟨r10,0,none⟩) (xs.length + (ys.length)) (xs.length + (ys.length)))),(73, .v (.int .i64 (IntKind.i64.wrap (((i:Nat):Int) + ((ys.length:Nat):Int)))))] [] ?_))))))
   rw [show IntKind.i64.wrap ((((i:Nat):Int) + ((ys.length:Nat):Int)))=((i + (ys.length):Nat):Int) from by rw [IntKind.wrap_i64]; omega]
   refine xq 1 [(74, .v (.int .u64 ((cc:Nat):Int)))] [] ?_
   refine xqk 75 (.pointer (some ⟨r10,i + (ys.length),none⟩)) (fun w R Q=>ZbD (t:=107) (e:=141) (x:=(Operand.tmp 69)) (ix:=(Operand.tmp 73)) (len:=(xs.length + (ys.length))) (cap:=(xs.length + (ys.length))) (i:=i + (ys.length)) (by omega)) ?_
   refine Zb4 (t:=141) (x:=(Operand.tmp 75)) (y:=(Operand.tmp 74)) r10 (i + (ys.length)) (cc) (fun w=>(Box (fun j=>r10≤j) w (fun w=>(Zae .u64 w A (xs)∧Zae .u64 w A2 (ys)))∧Own .u64 141 w r10 ((vs).set (i + (ys.length)) (cc)))) (fun w Q=>Q.2) (by omega) (Or.inl hr10) (fun w w' Q hF hO=>⟨((Q.1).fr (hF.mono (fun _ _ e=>by rw [e]; exact Nat.le_refl _))),hO⟩) ?_
   refine xe (ZaO (Zaa (Zab (xq 1 [(76, .v (.int .i64 (IntKind.i64.wrap (((i:Nat):Int) + 1))))] [] ?_))))
   rw [show IntKind.i64.wrap ((((i:Nat):Int) + 1))=((i + 1:Nat):Int) from by rw [IntKind.wrap_i64]; omega]
   refine xq 1 [(22, .v (.int .i64 ((i + 1:Nat):Int)))] [] ?_
   refine xe ?_
   refine SXq.weak [(1, .v (.slice A2 ys.length c2)),(4, .v (.slice none 0 0)),(5, .v (.slice (some ⟨r10,0,none⟩) (xs.length + (ys.length)) (xs.length + (ys.length)))),(20, .v (.slice A xs.length c)),(21, .v (.int .i64 ((xs.length:Nat):Int))),(22, .v (.int .i64 (((i + 1):Nat):Int)))] [] (Ψ:=fun w=>(Box (fun j=>r10≤j) w (fun w=>(Zae .u64 w A (xs)∧Zae .u64 w A2 (ys)))∧Own .u64 141 w r10 (((vs).set (i + (ys.length)) (cc))))) (Zax.of (by kernel_rfl)) (by kernel_rfl) (fun w Q=>⟨Q.1,Q.2⟩) ?_
   have HS:=HR.step (i:=i) (by omega) hx12 HI
   exact ZaF ((xs.length - (i + 1))) (by omega) ⟨(i + 1),((vs).set (i + (ys.length)) (cc)),rfl,rfl,HS,by omega,rfl⟩
 ·have hb11':=of_decide_eq_false hb11
  have hzl:=HR.1
  obtain rfl:i=xs.length:=by omega
  refine ZaM (Zaj (Zaj (ZaV (Zaa (Zac (Zab (xq 1 [(77, .v (.slice (some ⟨r10,0,none⟩) (xs.length + (ys.length)) (xs.length + (ys.length))))] [] ?_)))))))
  refine xqc 144 [.slice (some ⟨r10,0,none⟩) (xs.length + (ys.length)) (xs.length + (ys.length))] 78 ZaA _ (fun w R Q=>(Zew Q.2 HR.2.1 HR.1 HR.done (by omega)).mono (fun _ _=>Zau)) (fun xx=>?_)
  obtain ⟨A16,l16,c16⟩:=xx
  refine xq 1 [eS1 4 A16 l16 c16] [] ?_
  refine xe (Zaa (Zag ?_))
  refine Zaf (v:=.slice A16 l16 c16) (by kernel_rfl) (fun w' R Q=>?_)
  exact ⟨_,rfl,Q.2,R⟩
theorem Zrr (A:Option Addr) (xs:List Nat) (c k:Nat) (w:World) (hN:Zad w (.slice A xs.length c) (val W64 xs)) (hX:Zae .u64 w A xs) (hl:xs.length≤4294967296) (hd:Dig W64 xs) (hk:k≤274877906944) :
 Calls Tryz.prog 101 #[.slice A xs.length c, .int .i64 ((k:Nat):Int)] w (Za2 w (val W64 xs * 2 ^ k)):=by
 refine Zas (Φ:=fun w=>(Zad w (.slice A xs.length c) (val W64 xs)∧Zae .u64 w A xs)) Tryz.func101 rfl (by kernel_rfl) (fun w' hf=>⟨hN.ext hf,hX.ext hf⟩) ?_
 refine Zac (Zab (xq 1 [eS1 4 none 0 0] [] ?_))
 refine xe (Zaa (Zac (Zac (Zab (xq 4 [(13, .v (.bool ((((xs.length:Nat):Int):Int) == 0)))] [] ?_)))))
 rcases bl2 (((((xs.length:Nat):Int):Int) == 0)) with hb10 | hb10
 ·rw [hb10]
  have hb10':=beq_iff_eq.1 hb10
  refine xq 3 [(16, .v (.bool true))] [] ?_
  refine xe (Zaa (xa (Zac (Zab (xq 2 [eS1 4 A xs.length c] [] ?_)))))
  refine xe (Zaa (Zag (Zai ?_)))
  refine Zaf (v:=.slice A xs.length c) (by kernel_rfl) (fun w' R Q=>?_)
  exact ⟨_,rfl,(by obtain rfl:xs=[]:=List.length_eq_zero_iff.1 (by omega); rw [Zdq,Nat.zero_mul]; exact Q.1),R⟩
 ·rw [hb10]
  have hb10':=Zbh hb10
  refine xq 3 [(16, .v (.bool ((((k:Nat):Int):Int) == 0)))] [] ?_
  refine xe (Zaa ?_)
  refine Zap (((((k:Nat):Int):Int) == 0)) (by kernel_rfl) (fun hb11=>?_) (fun hb11=>?_)
  ·have hb11':=beq_iff_eq.1 hb11
   refine Zac (Zab (xq 2 [eS1 4 A xs.length c] [] ?_))
   refine xe (Zaa (Zag (Zai ?_)))
   refine Zaf (v:=.slice A xs.length c) (by kernel_rfl) (fun w' R Q=>?_)
   exact ⟨_,rfl,(by obtain rfl:k=0:=(by omega); rw [Nat.pow_zero,Nat.mul_one]; exact Q.1),R⟩
  ·have hb11':=Zbh hb11
   refine Zal (Zaa (Zac (Zab (xq 2 [(19, .v (.int .i64 (IntKind.i64.wrap ((((k:Nat):Int)).tdiv 64))))] [] ?_))))
   rw [show IntKind.i64.wrap (((((k:Nat):Int)).tdiv 64))=((k / 64:Nat):Int) from tdq (k) 64 (by omega)]
   refine xq 2 [(21, .v (.int .i64 ((((k:Nat):Int)).tmod 64)))] [] ?_
   rw [show (((k:Nat):Int)).tmod 64=((k % 64:Nat):Int) from tdr (k) 64]
   refine xq 1 [(22, .v (.int .u64 (IntKind.u64.wrap (((k % 64:Nat):Int)))))] [] ?_
   rw [show IntKind.u64.wrap (((k % 64:Nat):Int))=((k % 64:Nat):Int) from by rw [IntKind.wrap_u64]; omega]
   refine xq 2 [(5, .v (.int .i64 ((k / 64:Nat):Int))),(6, .v (.int .u64 ((k % 64:Nat):Int)))] [] ?_
   refine xe (Zaa (Zac (Zab (xq 4 [(26, .v (.int .i64 (IntKind.i64.wrap (((xs.length:Nat):Int) + ((k / 64:Nat):Int)))))] [] ?_))))
   rw [show IntKind.i64.wrap ((((xs.length:Nat):Int) + ((k / 64:Nat):Int)))=((xs.length + (k / 64):Nat):Int) from by rw [IntKind.wrap_i64]; omega]
   refine xq 1 [(27, .v (.int .i64 (IntKind.i64.wrap (((xs.length + (k / 64):Nat):Int) + 1))))] [] ?_
   rw [show IntKind.i64.wrap ((((xs.length + (k / 64):Nat):Int) + 1))=((xs.length + (k / 64) + 1:Nat):Int) from by rw [IntKind.wrap_i64]; omega]
   refine Zgm (d:=28) (t:=107) (e:=141) (k:=.u64) (kl:=.i64) (kc:=.i64) (l:=(Operand.tmp 27)) (c:=(Operand.tmp 27)) (xs.length + (k / 64) + 1) 8 (by omega) (by decide) (fun r12 hr12 _=>?_)
   refine xr 1 [eS1 0 A xs.length c,eS1 4 none 0 0,(5, .v (.int .i64 ((k / 64:Nat):Int))),(6, .v (.int .u64 ((k % 64:Nat):Int))),(7, .v (.slice (some ⟨r12,0,none⟩) (xs.length + (k / 64) + 1) (xs.length + (k / 64) + 1)))] [] ?_
   refine xe (Zaa (Zac (Zac (Zab (xq 3 [eS1 29 A xs.length c,(30, .v (.int .i64 ((xs.length:Nat):Int))),(31, .v (.int .i64 0))] [] ?_)))))
   refine xe (Zaa (Zar ?_))
   refine SXc.weak [(4, .v (.slice none 0 0)),(5, .v (.int .i64 ((k / 64:Nat):Int))),(6, .v (.int .u64 ((k % 64:Nat):Int))),(7, .v (.slice (some ⟨r12,0,none⟩) (xs.length + (k / 64) + 1) (xs.length + (k / 64) + 1))),(29, .v (.slice A xs.length c)),(30, .v (.int .i64 ((xs.length:Nat):Int))),(31, .v (.int .i64 ((0:Nat):Int)))] [] (Ψ:=fun w=>(Box (fun j=>r12≤j) w (fun w=>(Zad w (.slice A xs.length c) (val W64 xs)∧Zae .u64 w A (xs)))∧Own .u64 141 w r12 ((List.replicate (xs.length + (k / 64) + 1) 0)))) (Zax.of (by kernel_rfl)) (by kernel_rfl) (fun w Q=>⟨Q.1,Q.2⟩) ?_
   refine ZaR (fun nn ss ff=>∃ (i:Nat) (zs:List Nat),ss=ofL [(4, .v (.slice none 0 0)),(5, .v (.int .i64 ((k / 64:Nat):Int))),(6, .v (.int .u64 ((k % 64:Nat):Int))),(7, .v (.slice (some ⟨r12,0,none⟩) (xs.length + (k / 64) + 1) (xs.length + (k / 64) + 1))),(29, .v (.slice A xs.length c)),(30, .v (.int .i64 ((xs.length:Nat):Int))),(31, .v (.int .i64 ((i:Nat):Int)))] []∧ff=(fun w=>(Box (fun j=>r12≤j) w (fun w=>(Zad w (.slice A xs.length c) (val W64 xs)∧Zae .u64 w A (xs)))∧Own .u64 141 w r12 (zs)))∧(Zdg xs (k / 64) (k % 64) i zs)∧(i≤xs.length)∧nn=(xs.length - i)) ((xs.length - 0)) ⟨0,(List.replicate (xs.length + (k / 64) + 1) 0),rfl,rfl,Zdg.start xs (k / 64) (k % 64),by omega,rfl⟩ ?_
   rintro nn ss ff ⟨i,zs,rfl,rfl,HR,hi,rfl⟩
   refine Zac (Zab (xq 1 [(32, .v (.bool (decide (((i:Nat):Int) < ((xs.length:Nat):Int)))))] [] ?_))
   refine xe (Zaa (Zac ?_))
   refine Zap ((decide (((i:Nat):Int) < ((xs.length:Nat):Int)))) (by kernel_rfl) (fun hb13=>?_) (fun hb13=>?_)
   ·have hb13':=of_decide_eq_true hb13
    have hzl:=HR.1
    refine Zal (Zaa (Zac (Zar (Zac (Zab (xq 1 [(33, .v (.int .i64 ((i:Nat):Int)))] [] ?_))))))
    refine xqk 34 (atA A i) (fun w R Q=>ZaS (t:=107) (e:=141) (x:=(Operand.tmp 29)) (ix:=(Operand.tmp 31)) (len:=xs.length) (cap:=c) (i:=i) (((Q.1).self.2).ne (j:=i) (by omega)) (by omega)) ?_
    obtain ⟨x14,hx14⟩:∃ x,xs[i]?.getD 0=x:=⟨_,rfl⟩
    refine xqk 35 (.int .u64 ((x14:Nat):Int)) (fun w R Q=>by rw [← hx14]; exact Zbb (t:=141) (x:=(Operand.tmp 34)) ((Q.1).self.2) (j:=i) (by omega)) ?_
    refine xq 2 [(8, .v (.int .i64 ((i:Nat):Int))),(9, .v (.int .u64 ((x14:Nat):Int)))] [] ?_
    refine xe (Zaa (Zac (Zab (xq 4 [(36, .v (.slice (some ⟨r12,0,none⟩) (xs.length + (k / 64) + 1) (xs.length + (k / 64) + 1))),(39, .v (.int .i64 (IntKind.i64.wrap (((i:Nat):Int) + ((k / 64:Nat):Int)))))] [] ?_))))
    rw [show IntKind.i64.wrap ((((i:Nat):Int) + ((k / 64:Nat):Int)))=((i + (k / 64):Nat):Int) from by rw [IntKind.wrap_i64]; omega]
    refine xqk 40 (.pointer (some ⟨r12,i + (k / 64),none⟩)) (fun w R Q=>ZbD (t:=107) (e:=141) (x:=(Operand.tmp 36)) (ix:=(Operand.tmp 39)) (len:=(xs.length + (k / 64) + 1)) (cap:=(xs.length + (k / 64) + 1)) (i:=i + (k / 64)) (by omega)) ?_
    obtain ⟨x15,hx15⟩:∃ x,zs[i + (k / 64)]?.getD 0=x:=⟨_,rfl⟩
    refine xqk 41 (.int .u64 ((x15:Nat):Int)) (fun w R Q=>by rw [← hx15]; exact Zcr (t:=141) (x:=(Operand.tmp 40)) (Q.2) (j:=i + (k / 64)) (by omega)) ?_
    refine xq 2 [(42, .v (.int .u64 ((x14:Nat):Int))),(43, .v (.int .u64 ((k % 64:Nat):Int)))] [] ?_
    refine xqk 44 (.int .u64 ((x14 * 2 ^ (k % 64) % W64:Nat):Int)) (fun w R Q=>ZoB (t:=141) (x:=(Operand.tmp 42)) (y:=(Operand.tmp 43)) (k:=135) (ky:=.u64) (a:=x14) (n:=(k % 64)) (by omega)) ?_
    have HS:=HR.step (k:=i) (by omega) (by omega) hx15 hx14 (by rw [← hx14]; exact hd.getD Zah _)
    refine xqk 45 (.int .u64 ((x15 + x14 * 2 ^ (k % 64) % W64:Nat):Int)) (fun w R Q=>ZqQ (t:=141) (x:=(Operand.tmp 41)) (y:=(Operand.tmp 44)) (k:=141) (a:=x15) (b:=(x14 * 2 ^ (k % 64) % W64)) (by rw [← hx15]; exact HR.2.1.getD Zah _) (Nat.mod_lt _ Zah) (Zoc (by rw [← hx15]; exact HR.2.2.2) (by omega))) ?_
    refine xqk 46 (.pointer (some ⟨r12,i + (k / 64),none⟩)) (fun w R Q=>ZbD (t:=107) (e:=141) (x:=(Operand.tmp 36)) (ix:=(Operand.tmp 39)) (len:=(xs.length + (k / 64) + 1)) (cap:=(xs.length + (k / 64) + 1)) (i:=i + (k / 64)) (by omega)) ?_
    refine Zb4 (t:=141) (x:=(Operand.tmp 46)) (y:=(Operand.tmp 45)) r12 (i + (k / 64)) (x15 + x14 * 2 ^ (k % 64) % W64) (fun w=>(Box (fun j=>r12≤j) w (fun w=>(Zad w (.slice A xs.length c) (val W64 xs)∧Zae .u64 w A (xs)))∧Own .u64 141 w r12 ((zs).set (i + (k / 64)) (x15 + x14 * 2 ^ (k % 64) % W64)))) (fun w Q=>Q.2) (by omega) (Or.inl hr12) (fun w w' Q hF hO=>⟨((Q.1).fr (hF.mono (fun _ _ e=>by rw [e]; exact Nat.le_refl _))),hO⟩) ?_
    refine xe (Zaa (Zab (xq 4 [(47, .v (.slice (some ⟨r12,0,none⟩) (xs.length + (k / 64) + 1) (xs.length + (k / 64) + 1))),(50, .v (.int .i64 (IntKind.i64.wrap (((i:Nat):Int) + ((k / 64:Nat):Int)))))] [] ?_)))
    rw [show IntKind.i64.wrap ((((i:Nat):Int) + ((k / 64:Nat):Int)))=((i + (k / 64):Nat):Int) from by rw [IntKind.wrap_i64]; omega]
    refine xq 1 [(51, .v (.int .i64 (IntKind.i64.wrap (((i + (k / 64):Nat):Int) + 1))))] [] ?_
    rw [show IntKind.i64.wrap ((((i + (k / 64):Nat):Int) + 1))=((i + (k / 64) + 1:Nat):Int) from by rw [IntKind.wrap_i64]; omega]
    refine xq 3 [(52, .v (.int .u64 ((x14:Nat):Int))),(54, .v (.int .u64 (IntKind.u64.wrap (64 - ((k % 64:Nat):Int)))))] [] ?_
    rw [show IntKind.u64.wrap ((64 - ((k % 64:Nat):Int)))=((64 - (k % 64):Nat):Int) from by rw [IntKind.wrap_u64]; have:=Zan; omega]
    refine xqk 55 (.int .u64 ((x14 / 2 ^ (64 - (k % 64)):Nat):Int)) (fun w R Q=>Zld (t:=141) (x:=(Operand.tmp 52)) (y:=(Operand.tmp 54)) (k:=135) (ky:=.u64) (a:=x14) (n:=(64 - (k % 64))) (by omega)) ?_
    refine xqk 56 (.pointer (some ⟨r12,i + (k / 64) + 1,none⟩)) (fun w R Q=>ZbD (t:=107) (e:=141) (x:=(Operand.tmp 47)) (ix:=(Operand.tmp 51)) (len:=(xs.length + (k / 64) + 1)) (cap:=(xs.length + (k / 64) + 1)) (i:=i + (k / 64) + 1) (by omega)) ?_
    refine Zb4 (t:=141) (x:=(Operand.tmp 56)) (y:=(Operand.tmp 55)) r12 (i + (k / 64) + 1) (x14 / 2 ^ (64 - (k % 64))) (fun w=>(Box (fun j=>r12≤j) w (fun w=>(Zad w (.slice A xs.length c) (val W64 xs)∧Zae .u64 w A (xs)))∧Own .u64 141 w r12 (((zs).set (i + (k / 64)) (x15 + x14 * 2 ^ (k % 64) % W64)).set (i + (k / 64) + 1) (x14 / 2 ^ (64 - (k % 64)))))) (fun w Q=>Q.2) (by simp only [List.length_set]; omega) (Or.inl hr12) (fun w w' Q hF hO=>⟨((Q.1).fr (hF.mono (fun _ _ e=>by rw [e]; exact Nat.le_refl _))),hO⟩) ?_
    refine xe (ZaO (Zaa (Zab (xq 1 [(57, .v (.int .i64 (IntKind.i64.wrap (((i:Nat):Int) + 1))))] [] ?_))))
    rw [show IntKind.i64.wrap ((((i:Nat):Int) + 1))=((i + 1:Nat):Int) from by rw [IntKind.wrap_i64]; omega]
    refine xq 1 [(31, .v (.int .i64 ((i + 1:Nat):Int)))] [] ?_
    refine xe ?_
    refine SXq.weak [(4, .v (.slice none 0 0)),(5, .v (.int .i64 ((k / 64:Nat):Int))),(6, .v (.int .u64 ((k % 64:Nat):Int))),(7, .v (.slice (some ⟨r12,0,none⟩) (xs.length + (k / 64) + 1) (xs.length + (k / 64) + 1))),(29, .v (.slice A xs.length c)),(30, .v (.int .i64 ((xs.length:Nat):Int))),(31, .v (.int .i64 (((i + 1):Nat):Int)))] [] (Ψ:=fun w=>(Box (fun j=>r12≤j) w (fun w=>(Zad w (.slice A xs.length c) (val W64 xs)∧Zae .u64 w A (xs)))∧Own .u64 141 w r12 ((((zs).set (i + (k / 64)) (x15 + x14 * 2 ^ (k % 64) % W64)).set (i + (k / 64) + 1) (x14 / 2 ^ (64 - (k % 64))))))) (Zax.of (by kernel_rfl)) (by kernel_rfl) (fun w Q=>⟨Q.1,Q.2⟩) ?_
    exact ZaF ((xs.length - (i + 1))) (by omega) ⟨(i + 1),(((zs).set (i + (k / 64)) (x15 + x14 * 2 ^ (k % 64) % W64)).set (i + (k / 64) + 1) (x14 / 2 ^ (64 - (k % 64)))),rfl,rfl,HS.1,by omega,rfl⟩
   ·have hb13':=of_decide_eq_false hb13
    have hzl:=HR.1
    obtain rfl:i=xs.length:=by omega
    have HD:=HR.done
    rw [show 64 * (k / 64) + k % 64=k by omega] at HD
    refine ZaM (Zaj (Zaj (ZaV (Zaa (Zac (Zab (xq 1 [(58, .v (.slice (some ⟨r12,0,none⟩) (xs.length + (k / 64) + 1) (xs.length + (k / 64) + 1)))] [] ?_)))))))
    refine xqc 144 [.slice (some ⟨r12,0,none⟩) (xs.length + (k / 64) + 1) (xs.length + (k / 64) + 1)] 59 ZaA _ (fun w R Q=>(Zew Q.2 HR.2.1 HR.1 HD (by omega)).mono (fun _ _=>Zau)) (fun xx=>?_)
    obtain ⟨A16,l16,c16⟩:=xx
    refine xq 1 [eS1 4 A16 l16 c16] [] ?_
    refine xe (Zaa (Zag ?_))
    refine Zaf (v:=.slice A16 l16 c16) (by kernel_rfl) (fun w' R Q=>?_)
    exact ⟨_,rfl,Q.2,R⟩
theorem ZoD (A:Option Addr) (xs:List Nat) (c k:Nat) (w:World) (hN:Zad w (.slice A xs.length c) (val W64 xs)) (hX:Zae .u64 w A xs) (hl:xs.length≤4294967296) (hd:Dig W64 xs) (hk:k≤274877906944) :
 Calls Tryz.prog 140 #[.slice A xs.length c, .int .i64 ((k:Nat):Int)] w (Za2 w (val W64 xs / 2 ^ k)):=by
 refine Zas (Φ:=fun w=>(Zad w (.slice A xs.length c) (val W64 xs)∧Zae .u64 w A xs)) Tryz.func140 rfl (by kernel_rfl) (fun w' hf=>⟨hN.ext hf,hX.ext hf⟩) ?_
 refine Zac (Zab (xq 1 [eS1 4 none 0 0] [] ?_))
 refine xe (Zaa (Zac (Zab (xq 2 [(10, .v (.int .i64 (IntKind.i64.wrap ((((k:Nat):Int)).tdiv 64))))] [] ?_))))
 rw [show IntKind.i64.wrap (((((k:Nat):Int)).tdiv 64))=((k / 64:Nat):Int) from tdq (k) 64 (by omega)]
 refine xq 2 [(12, .v (.int .i64 ((((k:Nat):Int)).tmod 64)))] [] ?_
 rw [show (((k:Nat):Int)).tmod 64=((k % 64:Nat):Int) from tdr (k) 64]
 refine xq 1 [(13, .v (.int .u64 (IntKind.u64.wrap (((k % 64:Nat):Int)))))] [] ?_
 rw [show IntKind.u64.wrap (((k % 64:Nat):Int))=((k % 64:Nat):Int) from by rw [IntKind.wrap_u64]; omega]
 refine xq 2 [(5, .v (.int .i64 ((k / 64:Nat):Int))),(6, .v (.int .u64 ((k % 64:Nat):Int)))] [] ?_
 refine xe (Zaa (Zac (Zac (Zab (xq 4 [(17, .v (.bool (decide (((k / 64:Nat):Int) ≥ ((xs.length:Nat):Int)))))] [] ?_)))))
 refine xe (Zaa ?_)
 refine Zap ((decide (((k / 64:Nat):Int) ≥ ((xs.length:Nat):Int)))) (by kernel_rfl) (fun hb10=>?_) (fun hb10=>?_)
 ·have hb10':=of_decide_eq_true hb10
  refine Zac (Zab (xq 1 [eS1 4 none 0 0] [] ?_))
  refine xe (Zaa (Zag (Zai ?_)))
  refine Zaf (v:=.slice none 0 0) (by kernel_rfl) (fun w' R Q=>?_)
  exact ⟨_,rfl,by rw [Zie hd (by omega)]; exact Zad.zero _,R⟩
 ·have hb10':=of_decide_eq_false hb10
  refine Zal (Zaa (Zac (Zac (Zab (xq 2 [(19, .v (.bool ((((k:Nat):Int):Int) == 0)))] [] ?_)))))
  refine xe (Zaa ?_)
  refine Zap (((((k:Nat):Int):Int) == 0)) (by kernel_rfl) (fun hb11=>?_) (fun hb11=>?_)
  ·have hb11':=beq_iff_eq.1 hb11
   refine Zac (Zab (xq 2 [eS1 4 A xs.length c] [] ?_))
   refine xe (Zaa (Zag (Zai ?_)))
   refine Zaf (v:=.slice A xs.length c) (by kernel_rfl) (fun w' R Q=>?_)
   exact ⟨_,rfl,by obtain rfl:k=0:=(by omega); rw [Nat.pow_zero,Nat.div_one]; exact Q.1,R⟩
  ·have hb11':=Zbh hb11
   refine Zal (Zaa (Zac (Zab (xq 4 [(24, .v (.int .i64 (IntKind.i64.wrap (((xs.length:Nat):Int) - ((k / 64:Nat):Int)))))] [] ?_))))
   rw [show IntKind.i64.wrap ((((xs.length:Nat):Int) - ((k / 64:Nat):Int)))=((xs.length - (k / 64):Nat):Int) from by rw [IntKind.wrap_i64]; omega]
   refine Zgm (d:=25) (t:=107) (e:=141) (k:=.u64) (kl:=.i64) (kc:=.i64) (l:=(Operand.tmp 24)) (c:=(Operand.tmp 24)) (xs.length - (k / 64)) 8 (by omega) (by decide) (fun r12 hr12 _=>?_)
   refine xr 1 [eS1 0 A xs.length c,eS1 4 none 0 0,(5, .v (.int .i64 ((k / 64:Nat):Int))),(6, .v (.int .u64 ((k % 64:Nat):Int))),(7, .v (.slice (some ⟨r12,0,none⟩) (xs.length - (k / 64)) (xs.length - (k / 64))))] [] ?_
   refine xe (Zaa (Zac (Zac (Zab (xq 3 [(27, .v (.int .i64 ((xs.length - (k / 64):Nat):Int))),(28, .v (.int .i64 0))] [] ?_)))))
   refine xe (Zaa (Zar ?_))
   refine SXc.weak [(0, .v (.slice A xs.length c)),(4, .v (.slice none 0 0)),(5, .v (.int .i64 ((k / 64:Nat):Int))),(6, .v (.int .u64 ((k % 64:Nat):Int))),(7, .v (.slice (some ⟨r12,0,none⟩) (xs.length - (k / 64)) (xs.length - (k / 64)))),(27, .v (.int .i64 ((xs.length - (k / 64):Nat):Int))),(28, .v (.int .i64 ((0:Nat):Int)))] [] (Ψ:=fun w=>(Box (fun j=>r12≤j) w (fun w=>(Zad w (.slice A xs.length c) (val W64 xs)∧Zae .u64 w A (xs)))∧Own .u64 141 w r12 ((List.replicate (xs.length - (k / 64)) 0)))) (Zax.of (by kernel_rfl)) (by kernel_rfl) (fun w Q=>⟨Q.1,Q.2⟩) ?_
   refine ZaR (fun nn ss ff=>∃ (i:Nat) (zs:List Nat),ss=ofL [(0, .v (.slice A xs.length c)),(4, .v (.slice none 0 0)),(5, .v (.int .i64 ((k / 64:Nat):Int))),(6, .v (.int .u64 ((k % 64:Nat):Int))),(7, .v (.slice (some ⟨r12,0,none⟩) (xs.length - (k / 64)) (xs.length - (k / 64)))),(27, .v (.int .i64 ((xs.length - (k / 64):Nat):Int))),(28, .v (.int .i64 ((i:Nat):Int)))] []∧ff=(fun w=>(Box (fun j=>r12≤j) w (fun w=>(Zad w (.slice A xs.length c) (val W64 xs)∧Zae .u64 w A (xs)))∧Own .u64 141 w r12 (zs)))∧(Zdh (xs.drop (k / 64)) (k % 64) i zs)∧(i≤xs.length - k / 64)∧nn=(xs.length - k / 64 - i)) ((xs.length - k / 64 - 0)) ⟨0,(List.replicate (xs.length - (k / 64)) 0),rfl,rfl,(by have:=Zdh.start (xs.drop (k / 64)) (k % 64); rwa [List.length_drop] at this),by omega,rfl⟩ ?_
   rintro nn ss ff ⟨i,zs,rfl,rfl,HR,hi,rfl⟩
   refine Zac (Zab (xq 1 [(29, .v (.bool (decide (((i:Nat):Int) < ((xs.length - (k / 64):Nat):Int)))))] [] ?_))
   refine xe (Zaa (Zac ?_))
   refine Zap ((decide (((i:Nat):Int) < ((xs.length - (k / 64):Nat):Int)))) (by kernel_rfl) (fun hb13=>?_) (fun hb13=>?_)
   ·have hb13':=of_decide_eq_true hb13
    have hzl:zs.length=xs.length - k / 64:=by rw [HR.1,List.length_drop]
    refine Zal (Zaa (Zac (Zar (Zac (Zab (xq 2 [(8, .v (.int .i64 ((i:Nat):Int)))] [] ?_))))))
    refine xe (Zaa (Zac (Zab (xq 6 [(31, .v (.slice (some ⟨r12,0,none⟩) (xs.length - (k / 64)) (xs.length - (k / 64)))),(32, .v (.int .i64 ((i:Nat):Int))),eS1 33 A xs.length c,(36, .v (.int .i64 (IntKind.i64.wrap (((i:Nat):Int) + ((k / 64:Nat):Int)))))] [] ?_))))
    rw [show IntKind.i64.wrap ((((i:Nat):Int) + ((k / 64:Nat):Int)))=((i + (k / 64):Nat):Int) from by rw [IntKind.wrap_i64]; omega]
    refine xqk 37 (atA A (i + (k / 64))) (fun w R Q=>ZaS (t:=107) (e:=141) (x:=(Operand.tmp 33)) (ix:=(Operand.tmp 36)) (len:=xs.length) (cap:=c) (i:=i + (k / 64)) (((Q.1).self.2).ne (j:=i + (k / 64)) (by omega)) (by omega)) ?_
    obtain ⟨x14,hx14⟩:∃ x,xs[i + (k / 64)]?.getD 0=x:=⟨_,rfl⟩
    refine xqk 38 (.int .u64 ((x14:Nat):Int)) (fun w R Q=>by rw [← hx14]; exact Zbb (t:=141) (x:=(Operand.tmp 37)) ((Q.1).self.2) (j:=i + (k / 64)) (by omega)) ?_
    refine xq 1 [(39, .v (.int .u64 ((k % 64:Nat):Int)))] [] ?_
    refine xqk 40 (.int .u64 ((x14 / 2 ^ (k % 64):Nat):Int)) (fun w R Q=>Zld (t:=141) (x:=(Operand.tmp 38)) (y:=(Operand.tmp 39)) (k:=135) (ky:=.u64) (a:=x14) (n:=(k % 64)) (by omega)) ?_
    refine xqk 41 (.pointer (some ⟨r12,i,none⟩)) (fun w R Q=>ZbD (t:=107) (e:=141) (x:=(Operand.tmp 31)) (ix:=(Operand.tmp 32)) (len:=(xs.length - (k / 64))) (cap:=(xs.length - (k / 64))) (i:=i) (by omega)) ?_
    refine Zb4 (t:=141) (x:=(Operand.tmp 41)) (y:=(Operand.tmp 40)) r12 (i) (x14 / 2 ^ (k % 64)) (fun w=>(Box (fun j=>r12≤j) w (fun w=>(Zad w (.slice A xs.length c) (val W64 xs)∧Zae .u64 w A (xs)))∧Own .u64 141 w r12 ((zs).set (i) (x14 / 2 ^ (k % 64))))) (fun w Q=>Q.2) (by omega) (Or.inl hr12) (fun w w' Q hF hO=>⟨((Q.1).fr (hF.mono (fun _ _ e=>by rw [e]; exact Nat.le_refl _))),hO⟩) ?_
    refine xe (Zaa (Zac (Zab (xq 3 [(44, .v (.int .i64 (IntKind.i64.wrap (((i:Nat):Int) + ((k / 64:Nat):Int)))))] [] ?_))))
    rw [show IntKind.i64.wrap ((((i:Nat):Int) + ((k / 64:Nat):Int)))=((i + (k / 64):Nat):Int) from by rw [IntKind.wrap_i64]; omega]
    refine xq 1 [(45, .v (.int .i64 (IntKind.i64.wrap (((i + (k / 64):Nat):Int) + 1))))] [] ?_
    rw [show IntKind.i64.wrap ((((i + (k / 64):Nat):Int) + 1))=((i + (k / 64) + 1:Nat):Int) from by rw [IntKind.wrap_i64]; omega]
    refine xq 3 [(48, .v (.bool (decide (((i + (k / 64) + 1:Nat):Int) < ((xs.length:Nat):Int)))))] [] ?_
    refine xe (Zaa ?_)
    refine Zap ((decide (((i + (k / 64) + 1:Nat):Int) < ((xs.length:Nat):Int)))) (by kernel_rfl) (fun hb15=>?_) (fun hb15=>?_)
    ·have hb15':=of_decide_eq_true hb15
     refine Zif 16 [0,0,3,7,0,0,0,96,224,496,1008,0,2048,8176,16383,32767] (by kernel_rfl) (by kernel_rfl) Zao ?_
     refine xqf 2 [(49, .v (.slice (some ⟨r12,0,none⟩) (xs.length - (k / 64)) (xs.length - (k / 64)))),(50, .v (.int .i64 ((i:Nat):Int)))] [] ?_
     refine xqj 51 (.pointer (some ⟨r12,i,none⟩)) (fun w Q=>ZbD (t:=107) (e:=141) (x:=(Operand.tmp 49)) (ix:=(Operand.tmp 50)) (len:=(xs.length - (k / 64))) (cap:=(xs.length - (k / 64))) (i:=i) (by omega)) ?_
     obtain ⟨x16,hx16⟩:∃ x,((zs).set (i) (x14 / 2 ^ (k % 64)))[i]?.getD 0=x:=⟨_,rfl⟩
     refine xqj 52 (.int .u64 ((x16:Nat):Int)) (fun w Q=>by rw [← hx16]; exact Zcr (t:=141) (x:=(Operand.tmp 51)) (Q.2) (j:=i) (by simp only [List.length_set]; omega)) ?_
     obtain rfl:x16=x14 / 2 ^ (k % 64):=by rw [← hx16,List.getElem?_set_self (by omega)]; rfl
     refine xqf 4 [eS1 53 A xs.length c,(56, .v (.int .i64 (IntKind.i64.wrap (((i:Nat):Int) + ((k / 64:Nat):Int)))))] [] ?_
     rw [show IntKind.i64.wrap ((((i:Nat):Int) + ((k / 64:Nat):Int)))=((i + (k / 64):Nat):Int) from by rw [IntKind.wrap_i64]; omega]
     refine xqf 1 [(57, .v (.int .i64 (IntKind.i64.wrap (((i + (k / 64):Nat):Int) + 1))))] [] ?_
     rw [show IntKind.i64.wrap ((((i + (k / 64):Nat):Int) + 1))=((i + (k / 64) + 1:Nat):Int) from by rw [IntKind.wrap_i64]; omega]
     refine xqj 58 (atA A (i + (k / 64) + 1)) (fun w Q=>ZaS (t:=107) (e:=141) (x:=(Operand.tmp 53)) (ix:=(Operand.tmp 57)) (len:=xs.length) (cap:=c) (i:=i + (k / 64) + 1) (((Q.1).self.2).ne (j:=i + (k / 64) + 1) (by omega)) (by omega)) ?_
     obtain ⟨x17,hx17⟩:∃ x,xs[i + (k / 64) + 1]?.getD 0=x:=⟨_,rfl⟩
     refine xqj 59 (.int .u64 ((x17:Nat):Int)) (fun w Q=>by rw [← hx17]; exact Zbb (t:=141) (x:=(Operand.tmp 58)) ((Q.1).self.2) (j:=i + (k / 64) + 1) (by omega)) ?_
     refine xqf 2 [(61, .v (.int .u64 (IntKind.u64.wrap (64 - ((k % 64:Nat):Int)))))] [] ?_
     rw [show IntKind.u64.wrap ((64 - ((k % 64:Nat):Int)))=((64 - (k % 64):Nat):Int) from by rw [IntKind.wrap_u64]; have:=Zan; omega]
     refine xqj 62 (.int .u64 ((x17 * 2 ^ (64 - (k % 64)) % W64:Nat):Int)) (fun w Q=>ZoB (t:=141) (x:=(Operand.tmp 59)) (y:=(Operand.tmp 61)) (k:=135) (ky:=.u64) (a:=x17) (n:=(64 - (k % 64))) (by omega)) ?_
     have HS:=HR.step (k:=i) (x:=x14) (y:=x17) (by omega) (by rw [List.length_drop]; omega) (by rw [List.getElem?_drop,Nat.add_comm]; exact hx14) (by rw [List.getElem?_drop,show k / 64 + (i + 1)=i + k / 64 + 1 by omega]; exact hx17) (by rw [← hx14]; exact hd.getD Zah _)
     refine xqj 63 (.int .u64 ((x14 / 2 ^ (k % 64) + x17 % 2 ^ (k % 64) * 2 ^ (64 - k % 64):Nat):Int)) (fun w Q=>ZqQ (t:=141) (x:=(Operand.tmp 52)) (y:=(Operand.tmp 62)) (k:=141) (a:=((x14 / 2 ^ (k % 64)))) (b:=(x17 * 2 ^ (64 - (k % 64)) % W64)) (Nat.lt_of_le_of_lt (Nat.div_le_self _ _) (by rw [← hx14]; exact hd.getD Zah _)) (Nat.mod_lt _ Zah) (Zod (by omega) (by rw [← hx14]; exact hd.getD Zah _))) ?_
     refine xqj 64 (.pointer (some ⟨r12,i,none⟩)) (fun w Q=>ZbD (t:=107) (e:=141) (x:=(Operand.tmp 49)) (ix:=(Operand.tmp 50)) (len:=(xs.length - (k / 64))) (cap:=(xs.length - (k / 64))) (i:=i) (by omega)) ?_
     refine xz ?_
     refine Zb4 (t:=141) (x:=(Operand.tmp 64)) (y:=(Operand.tmp 63)) r12 (i) (x14 / 2 ^ (k % 64) + x17 % 2 ^ (k % 64) * 2 ^ (64 - k % 64)) (fun w=>(Box (fun j=>r12≤j) w (fun w=>(Zad w (.slice A xs.length c) (val W64 xs)∧Zae .u64 w A (xs)))∧Own .u64 141 w r12 (((zs).set (i) (x14 / 2 ^ (k % 64))).set (i) (x14 / 2 ^ (k % 64) + x17 % 2 ^ (k % 64) * 2 ^ (64 - k % 64))))) (fun w Q=>Q.2) (by simp only [List.length_set]; omega) (Or.inl hr12) (fun w w' Q hF hO=>⟨((Q.1).fr (hF.mono (fun _ _ e=>by rw [e]; exact Nat.le_refl _))),hO⟩) ?_
     refine xe (ZaO (Zaa (Zab (xq 1 [(65, .v (.int .i64 (IntKind.i64.wrap (((i:Nat):Int) + 1))))] [] ?_))))
     rw [show IntKind.i64.wrap ((((i:Nat):Int) + 1))=((i + 1:Nat):Int) from by rw [IntKind.wrap_i64]; omega]
     refine xr 1 [eS1 0 A xs.length c,eS1 4 none 0 0,(5, .v (.int .i64 ((k / 64:Nat):Int))),(6, .v (.int .u64 ((k % 64:Nat):Int))),(7, .v (.slice (some ⟨r12,0,none⟩) (xs.length - (k / 64)) (xs.length - (k / 64)))),(27, .v (.int .i64 ((xs.length - (k / 64):Nat):Int))),(28, .v (.int .i64 ((i + 1:Nat):Int)))] [] ?_
     refine xe ?_
     refine SXq.weak [(0, .v (.slice A xs.length c)),(4, .v (.slice none 0 0)),(5, .v (.int .i64 ((k / 64:Nat):Int))),(6, .v (.int .u64 ((k % 64:Nat):Int))),(7, .v (.slice (some ⟨r12,0,none⟩) (xs.length - (k / 64)) (xs.length - (k / 64)))),(27, .v (.int .i64 ((xs.length - (k / 64):Nat):Int))),(28, .v (.int .i64 (((i + 1):Nat):Int)))] [] (Ψ:=fun w=>(Box (fun j=>r12≤j) w (fun w=>(Zad w (.slice A xs.length c) (val W64 xs)∧Zae .u64 w A (xs)))∧Own .u64 141 w r12 ((((zs).set (i) (x14 / 2 ^ (k % 64))).set (i) (x14 / 2 ^ (k % 64) + x17 % 2 ^ (k % 64) * 2 ^ (64 - k % 64)))))) (Zax.of (by kernel_rfl)) (by kernel_rfl) (fun w Q=>⟨Q.1,Q.2⟩) ?_
     exact ZaF ((xs.length - k / 64 - (i + 1))) (by omega) ⟨(i + 1),(((zs).set (i) (x14 / 2 ^ (k % 64))).set (i) (x14 / 2 ^ (k % 64) + x17 % 2 ^ (k % 64) * 2 ^ (64 - k % 64))),rfl,rfl,(by rw [List.set_set]; exact HS),by omega,rfl⟩
    ·have hb15':=of_decide_eq_false hb15
     have HS:=HR.step (k:=i) (x:=x14) (y:=0) (by omega) (by rw [List.length_drop]; omega) (by rw [List.getElem?_drop,Nat.add_comm]; exact hx14) (by rw [List.getElem?_drop,List.getElem?_eq_none (by omega)]; rfl) (by rw [← hx14]; exact hd.getD Zah _)
     rw [Nat.zero_mod,Nat.zero_mul,Nat.add_zero] at HS
     refine Zal (ZaO (Zaa (Zab (xq 1 [(65, .v (.int .i64 (IntKind.i64.wrap (((i:Nat):Int) + 1))))] [] ?_))))
     rw [show IntKind.i64.wrap ((((i:Nat):Int) + 1))=((i + 1:Nat):Int) from by rw [IntKind.wrap_i64]; omega]
     refine xq 1 [(28, .v (.int .i64 ((i + 1:Nat):Int)))] [] ?_
     refine xe ?_
     refine SXq.weak [(0, .v (.slice A xs.length c)),(4, .v (.slice none 0 0)),(5, .v (.int .i64 ((k / 64:Nat):Int))),(6, .v (.int .u64 ((k % 64:Nat):Int))),(7, .v (.slice (some ⟨r12,0,none⟩) (xs.length - (k / 64)) (xs.length - (k / 64)))),(27, .v (.int .i64 ((xs.length - (k / 64):Nat):Int))),(28, .v (.int .i64 (((i + 1):Nat):Int)))] [] (Ψ:=fun w=>(Box (fun j=>r12≤j) w (fun w=>(Zad w (.slice A xs.length c) (val W64 xs)∧Zae .u64 w A (xs)))∧Own .u64 141 w r12 (((zs).set (i) (x14 / 2 ^ (k % 64)))))) (Zax.of (by kernel_rfl)) (by kernel_rfl) (fun w Q=>⟨Q.1,Q.2⟩) ?_
     exact ZaF ((xs.length - k / 64 - (i + 1))) (by omega) ⟨(i + 1),((zs).set (i) (x14 / 2 ^ (k % 64))),rfl,rfl,HS,by omega,rfl⟩
   ·have hb13':=of_decide_eq_false hb13
    have hzl:zs.length=xs.length - k / 64:=by rw [HR.1,List.length_drop]
    obtain rfl:i=xs.length - k / 64:=by omega
    have HD:=HR
    rw [← List.length_drop] at HD
    replace HD:=HD.done
    rw [Zjl xs (k / 64) (k % 64) hd (by omega),show 64 * (k / 64) + k % 64=k by omega] at HD
    refine ZaM (Zaj (Zaj (ZaV (Zaa (Zac (Zab (xq 1 [(66, .v (.slice (some ⟨r12,0,none⟩) (xs.length - (k / 64)) (xs.length - (k / 64))))] [] ?_)))))))
    refine xqc 144 [.slice (some ⟨r12,0,none⟩) (xs.length - (k / 64)) (xs.length - (k / 64))] 67 ZaA _ (fun w R Q=>(Zew Q.2 HR.2.1 hzl HD (by omega)).mono (fun _ _=>Zau)) (fun xx=>?_)
    obtain ⟨A18,l18,c18⟩:=xx
    refine xq 1 [eS1 4 A18 l18 c18] [] ?_
    refine xe (Zaa (Zag ?_))
    refine Zaf (v:=.slice A18 l18 c18) (by kernel_rfl) (fun w' R Q=>?_)
    exact ⟨_,rfl,Q.2,R⟩
end Go.Proofs.YtenchljfmfgeoaaGreatDoor

namespace Go.Proofs.YtenchljfmfgeoaaGreatDoor
open Go.RowKit
theorem Zbo.opn {w:World} {s:Bool} {A:Option Addr} {l c:Nat} {z:Int} (h:Zbo w (.agg #[.bool s, .slice A l c]) z):Zbg w (.slice A l c) z.natAbs∧z=sg s z.natAbs∧(z=0→s=false):=by
 obtain ⟨s',A',l',c',he,h1,h2,h3⟩:=h.open
 injection he with he
 simp at he
 obtain ⟨rfl,rfl,rfl,rfl⟩:=he
 exact ⟨h1,h2,h3⟩
theorem Zbo.mag {w:World} {s:Bool} {A:Option Addr} {l c:Nat} {z:Int} (h:Zbo w (.agg #[.bool s, .slice A l c]) z):Zbg w (.slice A l c) z.natAbs:=h.opn.1
theorem Zbo.sneg {w:World} {s:Bool} {A:Option Addr} {l c:Nat} {z:Int} (h:Zbo w (.agg #[.bool s, .slice A l c]) z) (hz:z < 0):s=true:=by
 obtain ⟨_,h2,h3⟩:=h.opn
 cases s with
 | true=>rfl
 | false=>simp [sg] at h2; omega
theorem Zbo.spos {w:World} {s:Bool} {A:Option Addr} {l c:Nat} {z:Int} (h:Zbo w (.agg #[.bool s, .slice A l c]) z) (hz:0≤z):s=false:=by
 obtain ⟨_,h2,h3⟩:=h.opn
 cases s with
 | false=>rfl
 | true=>simp [sg] at h2; exact h3 (by omega)
theorem Zbo.len0 {w:World} {s:Bool} {A:Option Addr} {l c:Nat} {z:Int} (h:Zbo w (.agg #[.bool s, .slice A l c]) z) (hz:z=0):l=0:=by
 obtain ⟨h1,_,_⟩:=h.opn
 obtain ⟨A',xs,c',he,_,_,hd,ht,hv⟩:=h1
 injection he with _ he
 rw [hz] at hv
 have:=Zki ht ZfU hv
 rw [this] at he
 simpa using he
theorem Zbo.lenp {w:World} {s:Bool} {A:Option Addr} {l c:Nat} {z:Int} (h:Zbo w (.agg #[.bool s, .slice A l c]) z) (hz:z≠0):0 < l:=by
 obtain ⟨h1,_,_⟩:=h.opn
 obtain ⟨A',xs,c',he,_,_,hd,ht,hv⟩:=h1
 injection he with _ he
 rcases Nat.eq_zero_or_pos l with e | e
 ·rw [e] at he
  have:xs=[]:=List.length_eq_zero_iff.1 he.symm
  rw [this] at hv
  simp at hv
  omega
 ·exact e
theorem Zmu {q:Rat} (h:¬ q.den=1):denF q≠0:=by rw [Ze6 h]; have:=q.den_nz; omega
end Go.Proofs.YtenchljfmfgeoaaGreatDoor

namespace Go.Proofs.YtenchljfmfgeoaaGreatDoor
open Go.RowKit
def blen (n:Nat):Nat:=if n=0 then 0 else n.log2 + 1
theorem ZdQ:blen 0=0:=rfl
theorem Zcs (n:Nat):n < 2 ^ blen n:=by
 unfold blen
 split
 ·rename_i h; subst h; decide
 ·rename_i h; exact (Nat.log2_lt h).1 (Nat.lt_succ_self _)
theorem Zbu {n k:Nat}:blen n≤k ↔ n < 2 ^ k:=by
 unfold blen
 split
 ·rename_i h; subst h; simp [Nat.pow_pos]
 ·rename_i h; rw [← Nat.log2_lt h]; omega
theorem Zj1 {n:Nat} (h:0 < n):blen n=blen (n / 2) + 1:=by
 have h1:blen (n / 2) + 1≤blen n:=by
  have:blen (n / 2)≤blen n - 1:=Zbu.2 (by
   have h2:=Zcs n
   have h3:0 < blen n:=by unfold blen; rw [if_neg (by omega)]; omega
   obtain ⟨k,hk⟩:∃ k,blen n=k + 1:=⟨blen n - 1,by omega⟩
   rw [hk] at h2 ⊢
   rw [Nat.pow_succ] at h2
   show n / 2 < 2 ^ (k + 1 - 1)
   rw [Nat.add_sub_cancel]
   omega)
  have h3:0 < blen n:=by unfold blen; rw [if_neg (by omega)]; omega
  omega
 have h2:blen n≤blen (n / 2) + 1:=Zbu.2 (by
  have:=Zcs (n / 2)
  rw [Nat.pow_succ]
  omega)
 omega
theorem ZpV {B k t low:Nat} (hl:low < 2 ^ (B * k)) (ht:0 < t):blen (low + 2 ^ (B * k) * t)=B * k + blen t:=by
 have h1:=Zcs t
 have h2:blen (low + 2 ^ (B * k) * t)≤B * k + blen t:=Zbu.2 (by
  rw [Nat.pow_add]
  have:2 ^ (B * k) * (t + 1)≤2 ^ (B * k) * 2 ^ blen t:=Nat.mul_le_mul_left _ h1
  rw [Nat.mul_add] at this
  omega)
 have h3:¬ blen (low + 2 ^ (B * k) * t)≤B * k + blen t - 1:=fun h=>by
  have h4:=Zbu.1 h
  obtain ⟨j,hj⟩:∃ j,blen t=j + 1:=⟨blen t - 1,by have:=Zj1 ht; omega⟩
  rw [hj,show B * k + (j + 1) - 1=B * k + j by omega,Nat.pow_add] at h4
  have h5:2 ^ j≤t:=by
   rcases Nat.lt_or_ge t (2 ^ j) with h | h
   ·have:=Zbu.2 h; omega
   ·exact h
  have:2 ^ (B * k) * 2 ^ j≤2 ^ (B * k) * t:=Nat.mul_le_mul_left _ h5
  omega
 have:0 < blen t:=by have:=Zj1 ht; omega
 omega
end Go.Proofs.YtenchljfmfgeoaaGreatDoor

namespace Go.Proofs.YtenchljfmfgeoaaGreatDoor
theorem ZcQ {n k:Nat}:k < blen n ↔ 2 ^ k≤n:=by have:=@Zbu n k; omega
theorem ZdH {n:Nat} (h:0 < n):0 < blen n:=ZcQ.2 (by rw [Nat.pow_zero]; exact h)
theorem ZhJ {n k:Nat} (h1:2 ^ k≤n) (h2:n < 2 ^ (k + 1)):blen n=k + 1:=by
 have:=ZcQ.2 h1; have:=Zbu.2 h2; omega
theorem Zgo {n:Nat} (h:0 < n):2 ^ (blen n - 1)≤n:=ZcQ.1 (by have:=ZdH h; omega)
theorem p2 (k:Nat):0 < 2 ^ k:=Nat.pow_pos (by decide)
theorem Zex {n:Nat} (h:0 < n) (j:Nat):blen (n * 2 ^ j)=blen n + j:=by
 have h1:=Zgo h
 have h2:=Zcs n
 obtain ⟨k,hk⟩:∃ k,blen n=k + 1:=⟨blen n - 1,by have:=ZdH h; omega⟩
 rw [hk] at h1 h2 ⊢
 rw [show k + 1 + j=k + j + 1 by omega]
 refine ZhJ ?_ ?_
 ·rw [Nat.pow_add]; exact Nat.mul_le_mul_right _ (by simpa using h1)
 ·rw [show k + j + 1=k + 1 + j by omega,Nat.pow_add]; exact (Nat.mul_lt_mul_right (p2 j)).2 h2
theorem ZdR (n j:Nat):blen (n / 2 ^ j)=blen n - j:=by
 rcases Nat.lt_or_ge j (blen n) with h | h
 ·have hn:0 < n:=by rcases Nat.eq_zero_or_pos n with e | e; · subst e; rw [ZdQ] at h; omega
                    ·exact e
  have h1:=Zgo hn
  have h2:=Zcs n
  obtain ⟨k,hk⟩:∃ k,blen n=j + (k + 1):=⟨blen n - j - 1,by omega⟩
  rw [hk] at h1 h2 ⊢
  rw [show j + (k + 1) - j=k + 1 by omega]
  refine ZhJ ?_ ?_
  ·rw [Nat.le_div_iff_mul_le (p2 j),← Nat.pow_add]; rw [show j + (k + 1) - 1=k + j by omega] at h1; exact h1
  ·rw [Nat.div_lt_iff_lt_mul (p2 j),← Nat.pow_add,Nat.add_comm]; exact h2
 ·rw [Nat.div_eq_of_lt (Zbu.1 h),ZdQ]; omega
def Zct (a b:Nat):Nat:=if b < 2 * (a % b)∨(2 * (a % b)=b∧a / b % 2=1) then a / b + 1 else a / b
theorem Znq {a b c:Nat} (hc:0 < c):Zct (a * c) (b * c)=Zct a b:=by
 unfold Zct
 rw [Nat.mul_mod_mul_right,Nat.mul_div_mul_right _ _ hc,← Nat.mul_assoc]
 have e1:b * c < 2 * (a % b) * c ↔ b < 2 * (a % b):=Nat.mul_lt_mul_right hc
 have e2:2 * (a % b) * c=b * c ↔ 2 * (a % b)=b:=⟨fun h=>Nat.eq_of_mul_eq_mul_right hc h,fun h=>by rw [h]⟩
 simp only [e1,e2]
theorem ZpW (a:Nat):Zct a 1=a:=by unfold Zct; rw [Nat.mod_one,Nat.div_one,if_neg (by omega)]
def ZcB (q j:Nat) (m:Bool):Nat:=if q / 2 ^ j % 2=1∧(q % 2 ^ j≠0∨q / 2 ^ (j + 1) % 2=1∨m=true) then q / 2 ^ (j + 1) + 1 else q / 2 ^ (j + 1)
theorem Znr {a b j:Nat} (hb:0 < b):Zct a (b * 2 ^ (j + 1))=ZcB (a / b) j (decide (a % b≠0)):=by
 unfold Zct ZcB
 have hq:a / (b * 2 ^ (j + 1))=a / b / 2 ^ (j + 1):=(Nat.div_div_eq_div_mul _ _ _).symm
 have h0:=Nat.div_add_mod a b
 have hr:=Nat.mod_lt a hb
 rw [hq]
 generalize a / b=q at *
 generalize a % b=r at *
 obtain ⟨h,hh⟩:∃ h,h=2 ^ j:=⟨_,rfl⟩
 have hp:0 < h:=by rw [hh]; exact p2 j
 have e1:2 ^ (j + 1)=h * 2:=by rw [Nat.pow_succ,hh]
 have h1:=Nat.div_add_mod q h
 have hz:=Nat.mod_lt q hp
 rw [e1,← hh,← Nat.div_div_eq_div_mul]
 generalize q / h=p at *
 generalize q % h=z at *
 have h2:=Nat.div_add_mod p 2
 have hs:=Nat.mod_lt p (show 0 < 2 by decide)
 generalize p / 2=u at *
 generalize p % 2=s at *
 have hR:a % (b * (h * 2))=b * (h * s + z) + r:=by
  have e:a=b * (h * 2) * u + (b * (h * s + z) + r):=by
   rw [← h0,← h1,← h2]
   simp only [Nat.mul_add,Nat.mul_assoc,Nat.add_assoc]
  have hlt:b * (h * s + z) + r < b * (h * 2):=by
   have k1:h * s + z + 1≤h * 2:=by
    have:h * s≤h * 1:=Nat.mul_le_mul_left _ (by omega)
    omega
   have k2:=Nat.mul_le_mul_left b k1
   rw [Nat.mul_add,Nat.mul_one] at k2
   omega
  rw [e,Nat.mul_add_mod,Nat.mod_eq_of_lt hlt]
 rw [hR]
 have kz:b * z + b≤b * h:=by
  have:=Nat.mul_le_mul_left b (show z + 1≤h by omega)
  rwa [Nat.mul_add,Nat.mul_one] at this
 have e3:b * (h * 2)=2 * (b * h):=by rw [← Nat.mul_assoc,Nat.mul_comm]
 have hzz:z=0∨b≤b * z:=by
  rcases Nat.eq_zero_or_pos z with e | e
  ·exact Or.inl e
  ·exact Or.inr (by have:=Nat.mul_le_mul_left b e; simpa using this)
 rcases (by omega:s=0∨s=1) with rfl | rfl
 ·rw [if_neg,if_neg (by omega)]
  rw [Nat.mul_zero,Nat.zero_add,e3]
  omega
 ·rw [Nat.mul_one,Nat.mul_add b h z,e3]
  have c1:(2 * (b * h) < 2 * (b * h + b * z + r)) ↔ (z≠0∨r≠0):=by
   constructor
   ·intro hc
    rcases Nat.eq_zero_or_pos z with e | e
    ·subst e; right; intro er; subst er; simp at hc
    ·left; omega
   ·intro hc
    rcases hzz with e | e
    ·subst e; rcases hc with hc | hc; · exact absurd rfl hc
     ·simp; omega
    ·omega
  have c2:(2 * (b * h + b * z + r)=2 * (b * h)) ↔ (z=0∧r=0):=by
   constructor
   ·intro hc
    rcases hzz with e | e
    ·subst e; refine ⟨rfl,?_⟩; rw [Nat.mul_zero] at hc; omega
    ·omega
   ·rintro ⟨rfl,rfl⟩; simp
  simp only [c1,c2]
  by_cases d1:z=0<;>by_cases d2:r=0<;>by_cases d3:u % 2=1<;>simp [d1,d2,d3]
def fa (n:Nat) (k:Int):Nat:=n * 2 ^ (-k).toNat
def fb (d:Nat) (k:Int):Nat:=d * 2 ^ k.toNat
def fq (n d:Nat) (k:Int):Nat:=fa n k / fb d k
theorem ZoE {d:Nat} (h:0 < d) (k:Int):0 < fb d k:=Nat.mul_pos h (p2 _)
theorem Zmv (n d:Nat) (k:Int) (j:Nat):∃ c,0 < c∧fa n k=fa n (k + j) * c∧fb d k * 2 ^ j=fb d (k + j) * c:=by
 unfold fa fb
 rcases Int.le_total 0 k with h | h
 ·obtain ⟨m,rfl⟩:=Int.eq_ofNat_of_zero_le h
  refine ⟨1,by decide,?_,?_⟩
  ·rw [show (-(m:Int)).toNat=0 by omega,show (-((m:Int) + j)).toNat=0 by omega]; simp
  ·rw [show ((m:Int)).toNat=m by omega,show ((m:Int) + j).toNat=m + j by omega,Nat.mul_assoc,← Nat.pow_add,Nat.mul_one]
 ·obtain ⟨m,hm⟩:=Int.eq_ofNat_of_zero_le (show 0 ≤ -k by omega)
  obtain rfl:k = -(m:Int):=by omega
  rcases Nat.le_total j m with h2 | h2
  ·refine ⟨2 ^ j,p2 j,?_,?_⟩
   ·rw [show (- -(m:Int)).toNat=m by omega,show (-(-(m:Int) + j)).toNat=m - j by omega,Nat.mul_assoc,← Nat.pow_add,Nat.sub_add_cancel h2]
   ·rw [show (-(m:Int)).toNat=0 by omega,show (-(m:Int) + j).toNat=0 by omega]
  ·refine ⟨2 ^ m,p2 m,?_,?_⟩
   ·rw [show (- -(m:Int)).toNat=m by omega,show (-(-(m:Int) + j)).toNat=0 by omega]; simp
   ·rw [show (-(m:Int)).toNat=0 by omega,show (-(m:Int) + j).toNat=j - m by omega,Nat.mul_assoc,Nat.mul_assoc,← Nat.pow_add,← Nat.pow_add,Nat.sub_add_cancel h2,Nat.zero_add]
theorem Zey (n d:Nat) (k:Int) (j:Nat):fq n d (k + j)=fq n d k / 2 ^ j:=by
 obtain ⟨c,hc,h1,h2⟩:=Zmv n d k j
 unfold fq
 rw [Nat.div_div_eq_div_mul,h1,h2,Nat.mul_div_mul_right _ _ hc]
theorem ZpX {n d:Nat} (k:Int) (j:Nat) (hd:0 < d):Zct (fa n (k + (j + 1:Nat))) (fb d (k + (j + 1:Nat)))=ZcB (fq n d k) j (decide (fa n k % fb d k≠0)):=by
 obtain ⟨c,hc,h1,h2⟩:=Zmv n d k (j + 1)
 unfold fq
 rw [← Znr (ZoE hd k),h2,h1,Znq hc]
def rk0 (n d bits:Nat):Int:=(blen n:Int) - blen d - bits
theorem Zlg {n d bits:Nat} (hn:0 < n) (hd:0 < d) (hb:0 < bits):bits≤blen (fq n d (rk0 n d bits))∧blen (fq n d (rk0 n d bits))≤bits + 1:=by
 have n1:=Zgo hn
 have n2:=Zcs n
 have d1:=Zgo hd
 have d2:=Zcs d
 obtain ⟨p,hp⟩:∃ p,blen n=p + 1:=⟨blen n - 1,by have:=ZdH hn; omega⟩
 obtain ⟨q,hq⟩:∃ q,blen d=q + 1:=⟨blen d - 1,by have:=ZdH hd; omega⟩
 obtain ⟨b,rfl⟩:∃ b,bits=b + 1:=⟨bits - 1,by omega⟩
 have key:fb d (rk0 n d (b + 1)) * 2 ^ b≤fa n (rk0 n d (b + 1))∧fa n (rk0 n d (b + 1)) < fb d (rk0 n d (b + 1)) * 2 ^ (b + 2):=by
  unfold fa fb rk0
  rw [hp] at n1 n2 ⊢
  rw [hq] at d1 d2 ⊢
  rw [Nat.add_sub_cancel] at n1 d1
  rcases Int.le_total 0 ((p + 1:Nat) - (q + 1:Nat) - (b + 1:Nat):Int) with h | h
  ·obtain ⟨m,hm⟩:=Int.eq_ofNat_of_zero_le h
   have hp2:p=q + m + b + 1:=by omega
   subst hp2
   rw [hm,show ((m:Nat):Int).toNat=m by omega,show (-((m:Nat):Int)).toNat=0 by omega]
   simp only [Nat.pow_zero,Nat.mul_one]
   constructor
   ·refine Nat.le_trans ?_ n1
    rw [show q + m + b + 1=(q + 1) + (m + b) by omega,Nat.pow_add,Nat.mul_assoc,← Nat.pow_add]
    exact Nat.mul_le_mul_right _ (Nat.le_of_lt d2)
   ·refine Nat.lt_of_lt_of_le n2 ?_
    rw [show q + m + b + 1 + 1=q + (m + (b + 2)) by omega,Nat.pow_add 2 q,Nat.mul_assoc,← Nat.pow_add 2 m]
    exact Nat.mul_le_mul_right _ d1
  ·obtain ⟨m,hm⟩:=Int.eq_ofNat_of_zero_le (show 0 ≤ -((p + 1:Nat) - (q + 1:Nat) - (b + 1:Nat):Int) by omega)
   have hp2:p + m=q + b + 1:=by omega
   rw [hm,show ((m:Nat):Int).toNat=m by omega,show ((p + 1:Nat) - (q + 1:Nat) - (b + 1:Nat):Int).toNat=0 by omega]
   simp only [Nat.pow_zero,Nat.mul_one]
   constructor
   ·refine Nat.le_trans ?_ (Nat.mul_le_mul_right _ n1)
    rw [← Nat.pow_add,hp2,show q + b + 1=(q + 1) + b by omega,Nat.pow_add]
    exact Nat.mul_le_mul_right _ (Nat.le_of_lt d2)
   ·refine Nat.lt_of_lt_of_le ((Nat.mul_lt_mul_right (p2 m)).2 n2) ?_
    rw [← Nat.pow_add,show p + 1 + m=q + (b + 2) by omega,Nat.pow_add]
    exact Nat.mul_le_mul_right _ d1
 have hfb:=ZoE hd (rk0 n d (b + 1))
 constructor
 ·have:2 ^ b≤fq n d (rk0 n d (b + 1)):=by
   unfold fq
   rw [Nat.le_div_iff_mul_le hfb,Nat.mul_comm]; exact key.1
  have:=ZcQ.2 this
  omega
 ·refine Zbu.2 ?_
  unfold fq
  rw [Nat.div_lt_iff_lt_mul hfb,Nat.mul_comm]; exact key.2
def rndK (n d bits:Nat):Int:=if blen (fq n d (rk0 n d bits))=bits then rk0 n d bits else rk0 n d bits + 1
theorem Zhh {n d bits:Nat} (hn:0 < n) (hd:0 < d) (hb:0 < bits):blen (fq n d (rndK n d bits))=bits:=by
 obtain ⟨h1,h2⟩:=Zlg hn hd hb
 unfold rndK
 split
 ·assumption
 ·have:=Zey n d (rk0 n d bits) 1
  rw [show (rk0 n d bits + 1:Int)=rk0 n d bits + (1:Nat) by simp,this,ZdR]
  omega
theorem Zmw {n d bits:Nat} (hn:0 < n) (hd:0 < d) (hb:0 < bits) {k:Int} (h:blen (fq n d k)=bits):rndK n d bits=k:=by
 have h2:=Zhh hn hd hb
 rcases Int.lt_trichotomy (rndK n d bits) k with h3 | h3 | h3
 ·obtain ⟨j,hj⟩:=Int.eq_ofNat_of_zero_le (show 0≤k - rndK n d bits by omega)
  have:=Zey n d (rndK n d bits) j
  rw [show rndK n d bits + (j:Int)=k by omega] at this
  rw [this,ZdR,h2] at h
  omega
 ·exact h3
 ·obtain ⟨j,hj⟩:=Int.eq_ofNat_of_zero_le (show 0≤rndK n d bits - k by omega)
  have:=Zey n d k j
  rw [show k + (j:Int)=rndK n d bits by omega] at this
  rw [this,ZdR,h] at h2
  omega
def rndM (n d bits:Nat):Nat:=Zct (fa n (rndK n d bits)) (fb d (rndK n d bits))
theorem Zmx (a b:Nat):a / b≤Zct a b∧Zct a b≤a / b + 1:=by unfold Zct; split<;>omega
theorem Zhi {n d bits:Nat} (hn:0 < n) (hd:0 < d) (hb:0 < bits) (k:Int) (j:Nat) (h:blen (fq n d k)=bits + (j + 1)) :
 rndK n d bits=k + (j + 1:Nat)∧rndM n d bits=ZcB (fq n d k) j (decide (fa n k % fb d k≠0)):=by
 have h1:rndK n d bits=k + (j + 1:Nat):=Zmw hn hd hb (by rw [Zey,ZdR,h]; omega)
 refine ⟨h1,?_⟩
 unfold rndM
 rw [h1,ZpX k j hd]
theorem Zrs {n bits:Nat} (hn:0 < n) (hb:0 < bits) (h:blen n≤bits):rndK n 1 bits=(blen n:Int) - bits∧rndM n 1 bits=n * 2 ^ (bits - blen n):=by
 have h1:rndK n 1 bits=(blen n:Int) - bits:=Zmw hn (by decide) hb (by
  unfold fq fa fb
  rw [show (-((blen n:Int) - bits)).toNat=bits - blen n by omega,show ((blen n:Int) - bits).toNat=0 by omega]
  simp only [Nat.pow_zero,Nat.mul_one,Nat.div_one]
  rw [Zex hn]; omega)
 refine ⟨h1,?_⟩
 unfold rndM
 rw [h1]
 unfold fa fb
 rw [show (-((blen n:Int) - bits)).toNat=bits - blen n by omega,show ((blen n:Int) - bits).toNat=0 by omega]
 simp only [Nat.pow_zero,Nat.mul_one,ZpW]
theorem Zrt {a s r bits:Nat} (hb:0 < bits) (ha:bits + 1≤blen a) (hr0:0 < r) (hr:r < 2 ^ s) :
 rndK (a * 2 ^ s + r) 1 bits=(s:Int) + (blen a:Int) - bits∧rndM (a * 2 ^ s + r) 1 bits=ZcB a (blen a - bits - 1) true:=by
 have hN:0 < a * 2 ^ s + r:=by omega
 obtain ⟨j,hj⟩:∃ j,blen a=bits + (j + 1):=⟨blen a - bits - 1,by omega⟩
 have hq:fq (a * 2 ^ s + r) 1 (s:Int)=a:=by
  unfold fq fa fb
  rw [show (-(s:Int)).toNat=0 by omega,show ((s:Int)).toNat=s by omega]
  simp only [Nat.pow_zero,Nat.mul_one,Nat.one_mul]
  rw [Nat.mul_comm,Nat.mul_add_div (p2 s),Nat.div_eq_of_lt hr,Nat.add_zero]
 have hm:fa (a * 2 ^ s + r) (s:Int) % fb 1 (s:Int)=r:=by
  unfold fa fb
  rw [show (-(s:Int)).toNat=0 by omega,show ((s:Int)).toNat=s by omega]
  simp only [Nat.pow_zero,Nat.mul_one,Nat.one_mul]
  rw [Nat.mul_comm,Nat.mul_add_mod,Nat.mod_eq_of_lt hr]
 obtain ⟨h1,h2⟩:=Zhi (n:=a * 2 ^ s + r) hN (d:=1) (by decide) hb (s:Int) j (by rw [hq]; exact hj)
 rw [hq,hm] at h2
 refine ⟨by rw [h1,hj]; omega,?_⟩
 rw [h2,hj,show bits + (j + 1) - bits - 1=j by omega,show decide (r≠0)=true from decide_eq_true (by omega)]
def tzn (n:Nat):Nat:=if h:n=0∨n % 2=1 then 0 else tzn (n / 2) + 1
termination_by n
decreasing_by omega
theorem Zmy {n:Nat} (h:n % 2=1):tzn n=0:=by rw [tzn,dif_pos (Or.inr h)]
theorem Zmz {n:Nat} (h:0 < n):tzn (n * 2)=tzn n + 1:=by
 rw [tzn,dif_neg (by omega),Nat.mul_div_cancel _ (by decide)]
theorem ZfZ {n:Nat} (h:0 < n):∀ j,tzn (n * 2 ^ j)=tzn n + j
 | 0=>by simp
 | j + 1=>by rw [Nat.pow_succ,← Nat.mul_assoc,Zmz (Nat.mul_pos h (p2 j)),ZfZ h j]; omega
theorem ZoF:∀ n:Nat,0 < n→∃ o,o % 2=1∧n=o * 2 ^ tzn n:=by
 intro n
 induction n using Nat.strongRecOn with
 | ind n ih =>
   intro h
   by_cases ho:n % 2=1
   ·exact ⟨n,ho,by rw [Zmy ho]; simp⟩
   ·obtain ⟨m,rfl⟩:∃ m,n=m * 2:=⟨n / 2,by omega⟩
    obtain ⟨o,h1,h2⟩:=ih m (by omega) (by omega)
    exact ⟨o,h1,by rw [Zmz (by omega),Nat.pow_succ,← Nat.mul_assoc,← h2]⟩
theorem Zf0 {o:Nat} (h:o % 2=1) (j:Nat):tzn (o * 2 ^ j)=j:=by rw [ZfZ (by omega),Zmy h]; omega
def oddM (n:Nat):Nat:=n / 2 ^ tzn n
theorem ZhK {o:Nat} (h:o % 2=1) (j:Nat):oddM (o * 2 ^ j)=o:=by unfold oddM; rw [Zf0 h,Nat.mul_div_cancel _ (p2 j)]
theorem Zdo {n:Nat} (h:0 < n):oddM n % 2=1∧n=oddM n * 2 ^ tzn n:=by
 obtain ⟨o,h1,h2⟩:=ZoF n h
 have:oddM n=o:=by rw [h2]; exact ZhK h1 _
 rw [this]; exact ⟨h1,h2⟩
theorem ZpY {n:Nat} (h:0 < n) (j:Nat):oddM (n * 2 ^ j)=oddM n:=by
 obtain ⟨h1,h2⟩:=Zdo h
 have:n * 2 ^ j=oddM n * 2 ^ (tzn n + j):=by rw [Nat.pow_add,← Nat.mul_assoc,← h2]
 rw [this,ZhK h1]
theorem ZoG {n:Nat} (h:0 < n) (j:Nat):tzn n < j ↔ n % 2 ^ j≠0:=by
 obtain ⟨h1,h2⟩:=Zdo h
 constructor
 ·intro hl e
  obtain ⟨d,hd⟩:∃ d,j=tzn n + (d + 1):=⟨j - tzn n - 1,by omega⟩
  have hdv:=Nat.dvd_of_mod_eq_zero e
  rw [hd,Nat.pow_add,Nat.mul_comm] at hdv
  rw [h2] at hdv
  rw [Zf0 h1] at hdv
  have:=Nat.dvd_of_mul_dvd_mul_right (p2 _) hdv
  rw [Nat.pow_succ] at this
  have:2 ∣ oddM n:=Nat.dvd_trans ⟨_,Nat.mul_comm _ _⟩ this
  omega
 ·intro hne
  refine Nat.lt_of_not_le fun hl=>hne ?_
  obtain ⟨d,hd⟩:=Nat.exists_eq_add_of_le hl
  rw [h2,hd,Nat.pow_add,← Nat.mul_assoc,Nat.mul_comm (oddM n),Nat.mul_assoc,Nat.mul_mod_right]
end Go.Proofs.YtenchljfmfgeoaaGreatDoor

namespace Go.Proofs.YtenchljfmfgeoaaGreatDoor
open Go.RowKit
section
variable {N:Nat} {S0:Nat→Prop} {w:World} {Φ:World→Prop} {P:Program}
theorem Zfm (S0:Nat→Prop) {fn:Func} {f:FuncId} {c:Code} {args:List Value} {R:Ending→World→Prop} (hf:P.funcs[f]? = some fn) (hb:fn.body=some c) (hl:Nat.ble args.length fn.ntmps=true) (Q:Box (fun _=>False) w Φ)
 (h:SXc P fn.ntmps S0 w (bodyPost P fn R) c (ofL (Zge 0 args) []) Φ):Calls P f args.toArray w R:=by
 refine calls_of_wp hf hb (h (fun _=>0) _ w ⟨?_,rfl,fun i x hx=>?_,⟨fun b t cs e=>(by cases e),fun b c e=>(by cases e),fun b e=>(by cases e),Fr.refl _ _,fun i b off e=>?_,fun b t cs e=>(by cases e)⟩,?_⟩)
 ·have:=Nat.le_of_ble_eq_true hl
  simp; omega
 ·obtain ⟨_,v,hv,rfl⟩:=ZdG args 0 i x hx
  have hlt:i < args.length:=by
   rcases Nat.lt_or_ge i args.length with h' | h'
   ·exact h'
   ·rw [List.getElem?_eq_none (by omega)] at hv; cases hv
  simp only [AV.conc]
  rw [Array.getElem?_append_left (by simpa using hlt)]
  simpa using hv
 ·obtain ⟨_,v,hv,e'⟩:=ZdG args 0 i _ e
  cases e'
 ·intro w' hf'
  exact Q w' (hf'.mono (fun i _ h'=>by obtain ⟨b,e,_⟩:=h'; cases e))
end
section
variable {P:Program} {o:Oper} {ρ:Operand→Value} {w:World} {x y:Operand} {t k:TypeId}
theorem Zru {a:Nat} (ho:o.op=Op.binOp .and t x y k:=by kernel_rfl) (hx:ρ x=.int .u64 ((a:Nat):Int):=by kernel_rfl) (hy:ρ y=.int .u64 1:=by kernel_rfl) (ha:a < W64:=by assumption):(execOp ρ o).run P w=.ok (.value (.int .u64 ((a % 2:Nat):Int))) w:=by
 have h:bits .and .u64 (a:Int) 1=((a % 2:Nat):Int):=by
  have:=bits_and_u64_nat a 1 (by rw [← Zan]; exact ha) (by decide)
  rw [Nat.and_one_is_mod] at this
  exact this
 rw [← h]
 simp only [execOp,ho,hx,hy,eqGuard,binOp]
 rfl
end
/-! ### length -/
theorem Zh0 {xs:List Nat} {k t:Nat} (hd:Dig W64 xs) (hl:xs.length=k + 1) (ht:Trim xs) (et:xs[k]?.getD 0=t):blen (val W64 xs)=64 * k + blen t:=by
 have h0:0 < t:=Nat.pos_of_ne_zero (by rw [← et]; exact ht k hl)
 have hv:=Zay (B:=W64) k (show k < xs.length by omega)
 rw [List.take_of_length_le (by omega),et] at hv
 have hlow:=Za1 (hd.take k)
 rw [List.length_take,Nat.min_eq_left (by omega),Zds] at hlow
 rw [hv,Zds]
 exact ZpV hlow h0
theorem Zh1 {t:Nat} (h:t < W64):Lib.bitLen t=blen t:=by
 rcases Nat.eq_zero_or_pos t with rfl | h0
 ·rfl
 ·obtain ⟨h1,_,h3,h4⟩:=Zc4 h0 h
  have:=ZhJ (k:=Lib.bitLen t - 1) h3 (by rw [Nat.sub_add_cancel h1]; exact h4)
  omega
theorem ZoH (t:Nat) (w:World) (h:t < W64):Calls Tryz.prog 173 #[.int .u64 (t:Int)] w (RetV w (.int .i64 ((blen t:Nat):Int))):=by
 have h2:=h
 rw [Zan] at h2
 refine (Tryz.bits_Len64 (t:Int) w (by omega) (by omega)).mono ?_
 rintro e w' ⟨rfl,rfl⟩
 exact ⟨by rw [Int.toNat_natCast,Zh1 h],Fr.refl _ _⟩
theorem Zns (t:Nat) (w:World) (h:t < W64):Calls Tryz.prog 194 #[.int .u64 (t:Int)] w (RetV w (.int .i64 ((64 - blen t:Nat):Int))):=by
 refine (Zd8 t w h).mono ?_
 rintro e w' ⟨rfl,rfl⟩
 have:blen t≤64:=Zbu.2 (by rw [Zan] at h; exact h)
 exact ⟨by rw [Zh1 h]; congr 2; omega,Fr.refl _ _⟩
/-! ### zeros -/
theorem ZpZ (x:Nat) (w:World) (hg:Glob w) (h0:0 < x) (h:x < W64):Calls Tryz.prog 200 #[.int .u64 (x:Int)] w (RetV w (.int .i64 ((tzn x:Nat):Int))):=by
 obtain ⟨h1,h2⟩:=Zdo h0
 have ht:tzn x < 64:=by
  refine Nat.lt_of_not_le fun hc=>?_
  have:=Nat.pow_le_pow_right (n:=2) (by decide) hc
  have h3:1 * 2 ^ tzn x≤oddM x * 2 ^ tzn x:=Nat.mul_le_mul_right _ (by omega)
  rw [Zan] at h
  omega
 refine (Zgc x (tzn x) (oddM x / 2) w hg (by rw [show 2 * (oddM x / 2) + 1=oddM x by omega,Nat.mul_comm]; exact h2) ht h).mono ?_
 rintro e w' ⟨rfl,rfl⟩
 exact ⟨rfl,Fr.refl _ _⟩
def ZerR (xs:List Nat) (k:Nat):Prop:=val W64 (xs.take k)=0
theorem ZerR.start (xs:List Nat):ZerR xs 0:=by unfold ZerR; simp
theorem ZerR.lt {xs:List Nat} {k:Nat} (h:ZerR xs k) (h0:0 < val W64 xs):k < xs.length:=by
 rcases Nat.lt_or_ge k xs.length with h1 | h1
 ·exact h1
 ·unfold ZerR at h; rw [List.take_of_length_le h1] at h; omega
theorem ZerR.step {xs:List Nat} {k:Nat} (h:ZerR xs k) (hk:k < xs.length) (hx:xs[k]?.getD 0=0):ZerR xs (k + 1):=by
 unfold ZerR at *
 rw [Zay k hk,h,hx]; simp
theorem Zrv {x r:Nat} (h0:0 < x) (hx:x < W64):tzn (x + W64 * r)=tzn x:=by
 obtain ⟨h1,h2⟩:=Zdo h0
 have ht:tzn x < 64:=by
  refine Nat.lt_of_not_le fun hc=>?_
  have:=Nat.pow_le_pow_right (n:=2) (by decide) hc
  have h3:1 * 2 ^ tzn x≤oddM x * 2 ^ tzn x:=Nat.mul_le_mul_right _ (by omega)
  rw [Zan] at hx
  omega
 have e:x + W64 * r=(oddM x + 2 ^ (64 - tzn x) * r) * 2 ^ tzn x:=by
  rw [Nat.add_mul,← h2,Nat.mul_right_comm,← Nat.pow_add,Nat.sub_add_cancel (by omega),Zan]
 have h5:2 ^ (64 - tzn x)=2 * 2 ^ (63 - tzn x):=by rw [show 64 - tzn x=(63 - tzn x) + 1 by omega,Nat.pow_succ,Nat.mul_comm]
 rw [e]
 exact Zf0 (by rw [h5,Nat.mul_assoc]; omega) _
theorem ZerR.done {xs:List Nat} {k x:Nat} (h:ZerR xs k) (hd:Dig W64 xs) (hk:k < xs.length) (hx:xs[k]?.getD 0=x) (h0:x≠0):tzn (val W64 xs)=64 * k + tzn x:=by
 unfold ZerR at h
 have hv:=ZaT (B:=W64) (xs:=xs) k
 rw [h,Nat.min_eq_left (by omega),ZaI k hk,hx,Nat.zero_add,Zds,Nat.mul_comm] at hv
 rw [hv,ZfZ (by omega),Zrv (by omega) (hx ▸ hd.getD Zah k),Nat.add_comm]
theorem ZerR.bound {xs:List Nat} {k x:Nat} (hd:Dig W64 xs) (hx:xs[k]?.getD 0=x) (h0:x≠0):tzn x < 64:=by
 have hxW:x < W64:=hx ▸ hd.getD Zah k
 obtain ⟨h1,h2⟩:=Zdo (show 0 < x by omega)
 refine Nat.lt_of_not_le fun hc=>?_
 have:=Nat.pow_le_pow_right (n:=2) (by decide) hc
 have h3:1 * 2 ^ tzn x≤oddM x * 2 ^ tzn x:=Nat.mul_le_mul_right _ (by omega)
 rw [Zan] at hxW
 omega
/-! ### bit -/
theorem Zrw {xs:List Nat} {i x:Nat} (hd:Dig W64 xs) (hk:i / 64 < xs.length) (hx:xs[i / 64]?.getD 0=x):val W64 xs / 2 ^ i % 2=x / 2 ^ (i % 64) % 2:=by
 have h1:=Zjl xs (i / 64) (i % 64) hd (by omega)
 rw [show 64 * (i / 64) + i % 64=i by omega] at h1
 rw [← h1,ZaI _ hk,hx]
 have ht:i % 64 < 64:=Nat.mod_lt _ (by decide)
 generalize i % 64=t at *
 generalize val W64 (xs.drop (i / 64 + 1))=r
 have e:W64 * r=2 ^ t * (2 ^ (64 - t) * r):=by rw [← Nat.mul_assoc,← Nat.pow_add,show t + (64 - t)=64 by omega,Zan]
 have h5:2 ^ (64 - t)=2 * 2 ^ (63 - t):=by rw [show 64 - t=(63 - t) + 1 by omega,Nat.pow_succ,Nat.mul_comm]
 rw [e,Nat.add_mul_div_left _ _ (p2 t),h5,Nat.mul_assoc,Nat.add_mul_mod_self_left]
theorem Zp0 {xs:List Nat} {i:Nat} (hd:Dig W64 xs) (hk:¬ i / 64 < xs.length):val W64 xs / 2 ^ i % 2=0:=by
 rw [Zie hd (by omega)]
theorem Zsj (m:Nat):(((m % 2:Nat):Int) == 1)=decide (m % 2=1):=by
 rcases Nat.mod_two_eq_zero_or_one m with h | h<;>rw [h]<;>rfl
/-! ### division by a word,in place -/
def DwR (xs:List Nat) (u k:Nat) (qs:List Nat) (r:Nat):Prop:=Zdy xs u k qs r∧qs.take k=xs.take k
theorem DwR.start {xs:List Nat} {u:Nat} (hd:Dig W64 xs) (hu:0 < u):DwR xs u xs.length xs 0 :=
 ⟨⟨rfl,hd,hu,by rw [List.drop_of_length_le (Nat.le_refl _)]; simp⟩,rfl⟩
theorem DwR.at {xs qs:List Nat} {u k r:Nat} (h:DwR xs u (k + 1) qs r):qs[k]?.getD 0=xs[k]?.getD 0:=by
 have:=congrArg (fun l=>l[k]?.getD 0) h.2
 simp only [List.getElem?_take_of_lt (show k < k + 1 by omega)] at this
 exact this
theorem DwR.step {xs qs:List Nat} {u k r x:Nat} (h:DwR xs u (k + 1) qs r) (hk:k < xs.length) (hx:qs[k]?.getD 0=x) (hxW:x < W64):DwR xs u k (qs.set k (divQ r x u)) (divR r x u):=by
 refine ⟨h.1.step hk (h.at.symm.trans hx) hxW,?_⟩
 have:=congrArg (List.take k) h.2
 rw [List.take_take,List.take_take,Nat.min_eq_left (by omega)] at this
 rw [List.take_set_of_le (Nat.le_refl k)]; exact this
theorem Zj2 (hi lo y:Nat) (w:World) (h1:hi < y) (hy:y < W64) (hlo:lo < W64):Calls Tryz.prog 174 #[.int .u64 (hi:Int), .int .u64 (lo:Int), .int .u64 (y:Int)] w (RetV w (.tuple #[.int .u64 ((divQ hi lo y:Nat):Int), .int .u64 ((divR hi lo y:Nat):Int)])):=by
 refine (Zff hi lo y w h1 hy hlo).mono ?_
 rintro e w' ⟨rfl,n,rfl⟩
 exact ⟨rfl,(Fr.refl _ _).drewN n⟩
/-! ### a multiple subtracted within a row -/
def SpR (zs0 ys:List Nat) (q o k:Nat) (zs:List Nat) (c b:Nat):Prop :=
 zs.length=zs0.length∧Dig W64 zs∧c < W64∧b≤1∧zs.take o=zs0.take o∧zs.drop (o + k)=zs0.drop (o + k) ∧
  val W64 (zs.take (o + k)) + W64 ^ o * (q * val W64 (ys.take k))=val W64 (zs0.take (o + k)) + W64 ^ (o + k) * (c + b)
theorem SpR.start {zs0:List Nat} (ys:List Nat) (q o:Nat) (h:Dig W64 zs0):SpR zs0 ys q o 0 zs0 0 0:=⟨rfl,h,Zah,by omega,rfl,rfl,by simp⟩
theorem Zd2 {zs zs0:List Nat} {k:Nat} (h:zs.drop k=zs0.drop k):zs[k]?.getD 0=zs0[k]?.getD 0:=by
 have:=congrArg (fun l=>l[0]?.getD 0) h
 simpa [List.getElem?_drop] using this
theorem Zlh {x q c:Nat} (hx:x < W64) (hq:q < W64) (hc:c < W64):ZaN x q + ZaB (Zat x q) c 0 < W64:=by
 have h1:=Zde x q
 have h2:=ZcE (Zat x q) c 0
 have h3:=Zf9 hx hq
 refine ZdY _ (Nat.lt_of_le_of_lt (m:=x * q + c) ?_ (by omega))
 rw [Nat.mul_add]; omega
theorem SpR.step {zs0 ys zs:List Nat} {q o k c b x z:Nat} (h:SpR zs0 ys q o k zs c b) (hk:o + k < zs0.length) (hx:ys[k]?.getD 0=x) (hz:zs[o + k]?.getD 0=z) (hy:Dig W64 ys) (hq:q < W64) :
 SpR zs0 ys q o (k + 1) (zs.set (o + k) (Zbm z (Zaw (Zat x q) c 0) b)) (ZaN x q + ZaB (Zat x q) c 0) (Zbn z (Zaw (Zat x q) c 0) b):=by
 obtain ⟨h1,h2,h3,h4,h5,h6,h7⟩:=h
 have hxW:x < W64:=hx ▸ hy.getD Zah k
 have hzW:z < W64:=hz ▸ h2.getD Zah _
 have e1:zs0[o + k]?.getD 0=z:=(Zd2 h6).symm.trans hz
 have m1:=Zde x q
 have m2:=ZcE (Zat x q) c 0
 have m3:=ZeY hzW (Zdd (Zat x q) c 0) h4
 refine ⟨by simpa using h1,h2.set _ (Zd5 _ _ _),Zlh hxW hq h3,Zf8 _ _ _,?_,?_,?_⟩
 ·rw [List.take_set_of_le (by omega)]; exact h5
 ·have e:=congrArg (List.drop 1) h6
  rw [List.drop_drop,List.drop_drop] at e
  rw [List.drop_set_of_lt (by omega),show o + (k + 1)=o + k + 1 by omega]; exact e
 ·rw [show o + (k + 1)=(o + k) + 1 by omega,ZaZ _ _ _ _ (by omega),Zay (o + k) hk,Zbe k,e1,hx,Nat.pow_succ]
  have key:Zbm z (Zaw (Zat x q) c 0) b + x * q + c + b=z + W64 * (ZaN x q + ZaB (Zat x q) c 0 + Zbn z (Zaw (Zat x q) c 0) b):=by
   rw [Nat.mul_add,Nat.mul_add]; omega
  have key2:=congrArg (W64 ^ (o + k) * ·) key
  simp only [Nat.mul_add] at key2
  have e2:W64 ^ o * (q * (val W64 (ys.take k) + W64 ^ k * x))=W64 ^ o * (q * val W64 (ys.take k)) + W64 ^ (o + k) * (x * q):=by
   rw [Nat.mul_add q,Nat.mul_add (W64 ^ o),Nat.pow_add,Nat.mul_left_comm q (W64 ^ k) x,Nat.mul_assoc (W64 ^ o),Nat.mul_comm q x]
  rw [e2,Nat.mul_assoc (W64 ^ (o + k)) W64]
  simp only [Nat.mul_add]
  rw [Nat.mul_add] at h7
  omega
def Zhj (zs0 ys:List Nat) (q o:Nat) (zs:List Nat) (b:Nat):Prop :=
 zs.length=zs0.length∧Dig W64 zs∧b≤1∧zs.take o=zs0.take o∧zs.drop (o + ys.length + 1)=zs0.drop (o + ys.length + 1) ∧
  val W64 (zs.take (o + ys.length + 1)) + W64 ^ o * (q * val W64 ys)=val W64 (zs0.take (o + ys.length + 1)) + W64 ^ (o + ys.length + 1) * b
theorem SpR.done {zs0 ys zs:List Nat} {q o c b z:Nat} (h:SpR zs0 ys q o ys.length zs c b) (hk:o + ys.length < zs0.length) (hz:zs[o + ys.length]?.getD 0=z):Zhj zs0 ys q o (zs.set (o + ys.length) (Zbm z c b)) (Zbn z c b):=by
 obtain ⟨h1,h2,h3,h4,h5,h6,h7⟩:=h
 have hzW:z < W64:=hz ▸ h2.getD Zah _
 have e1:zs0[o + ys.length]?.getD 0=z:=(Zd2 h6).symm.trans hz
 have m3:=ZeY hzW h3 h4
 refine ⟨by simpa using h1,h2.set _ (Zd5 _ _ _),Zf8 _ _ _,?_,?_,?_⟩
 ·rw [List.take_set_of_le (by omega)]; exact h5
 ·have e:=congrArg (List.drop 1) h6
  rw [List.drop_drop,List.drop_drop] at e
  rw [List.drop_set_of_lt (by omega)]; exact e
 ·rw [List.take_of_length_le (Nat.le_refl ys.length)] at h7
  rw [ZaZ _ _ _ _ (by omega),Zay _ hk,e1,Nat.pow_succ]
  have key2:=congrArg (W64 ^ (o + ys.length) * ·) m3
  simp only [Nat.mul_add] at key2
  rw [Nat.mul_assoc (W64 ^ (o + ys.length)) W64]
  rw [Nat.mul_add] at h7
  omega
/-! ### the divisor added within a row -/
def AbR (zs0 ys:List Nat) (o k:Nat) (zs:List Nat) (c:Nat):Prop :=
 zs.length=zs0.length∧Dig W64 zs∧c≤1∧zs.take o=zs0.take o∧zs.drop (o + k)=zs0.drop (o + k) ∧
  val W64 (zs.take (o + k)) + W64 ^ (o + k) * c=val W64 (zs0.take (o + k)) + W64 ^ o * val W64 (ys.take k)
theorem AbR.start {zs0:List Nat} (ys:List Nat) (o:Nat) (h:Dig W64 zs0):AbR zs0 ys o 0 zs0 0:=⟨rfl,h,by omega,rfl,rfl,by simp⟩
theorem AbR.step {zs0 ys zs:List Nat} {o k c x z:Nat} (h:AbR zs0 ys o k zs c) (hk:o + k < zs0.length) (hx:ys[k]?.getD 0=x) (hz:zs[o + k]?.getD 0=z) (hy:Dig W64 ys):AbR zs0 ys o (k + 1) (zs.set (o + k) (Zaw z x c)) (ZaB z x c):=by
 obtain ⟨h1,h2,h4,h5,h6,h7⟩:=h
 have e1:zs0[o + k]?.getD 0=z:=(Zd2 h6).symm.trans hz
 refine ⟨by simpa using h1,h2.set _ (Zdd _ _ _),Zf7 (hz ▸ h2.getD Zah _) (hx ▸ hy.getD Zah k) h4,?_,?_,?_⟩
 ·rw [List.take_set_of_le (by omega)]; exact h5
 ·have e:=congrArg (List.drop 1) h6
  rw [List.drop_drop,List.drop_drop] at e
  rw [List.drop_set_of_lt (by omega),show o + (k + 1)=o + k + 1 by omega]; exact e
 ·rw [show o + (k + 1)=(o + k) + 1 by omega,ZaZ _ _ _ _ (by omega),Zay (o + k) hk,Zbe k,e1,hx,Nat.pow_succ]
  have key2:=congrArg (W64 ^ (o + k) * ·) (ZcE z x c)
  simp only [Nat.mul_add] at key2
  rw [Nat.mul_add (W64 ^ o),← Nat.mul_assoc (W64 ^ o) (W64 ^ k),← Nat.pow_add,Nat.mul_assoc (W64 ^ (o + k)) W64]
  omega
def Zhk (zs0 ys:List Nat) (o:Nat) (zs:List Nat) (c:Nat):Prop :=
 zs.length=zs0.length∧Dig W64 zs∧c≤1∧zs.take o=zs0.take o∧zs.drop (o + ys.length + 1)=zs0.drop (o + ys.length + 1) ∧
  val W64 (zs.take (o + ys.length + 1)) + W64 ^ (o + ys.length + 1) * c=val W64 (zs0.take (o + ys.length + 1)) + W64 ^ o * val W64 ys
theorem AbR.done {zs0 ys zs:List Nat} {o c z:Nat} (h:AbR zs0 ys o ys.length zs c) (hk:o + ys.length < zs0.length) (hz:zs[o + ys.length]?.getD 0=z):Zhk zs0 ys o (zs.set (o + ys.length) (Zaw z 0 c)) (ZaB z 0 c):=by
 obtain ⟨h1,h2,h4,h5,h6,h7⟩:=h
 have e1:zs0[o + ys.length]?.getD 0=z:=(Zd2 h6).symm.trans hz
 refine ⟨by simpa using h1,h2.set _ (Zdd _ _ _),Zf7 (hz ▸ h2.getD Zah _) Zah h4,?_,?_,?_⟩
 ·rw [List.take_set_of_le (by omega)]; exact h5
 ·have e:=congrArg (List.drop 1) h6
  rw [List.drop_drop,List.drop_drop] at e
  rw [List.drop_set_of_lt (by omega)]; exact e
 ·rw [List.take_of_length_le (Nat.le_refl ys.length)] at h7
  rw [ZaZ _ _ _ _ (by omega),Zay _ hk,e1,Nat.pow_succ]
  have key2:=congrArg (W64 ^ (o + ys.length) * ·) (ZcE z 0 c)
  simp only [Nat.mul_add] at key2
  rw [Nat.mul_assoc (W64 ^ (o + ys.length)) W64]
  omega
theorem Zl5 (A:Option Addr) (xs:List Nat) (c:Nat) (w:World) (hX:Zae .u64 w A xs) (hl:xs.length≤4294967296) (hd:Dig W64 xs) (ht:Trim xs) :
 Calls Tryz.prog 139 #[.slice A xs.length c] w (RetV w (.int .i64 ((blen (val W64 xs):Nat):Int))):=by
 refine Zas (Φ:=fun w=>Zae .u64 w A xs) Tryz.func139 rfl (by kernel_rfl) (fun w' hf=>hX.ext hf) ?_
 refine Zac (Zab (xq 1 [(2, .v (.int .i64 0))] [] ?_))
 refine xe (Zaa (Zac (Zac (Zab (xq 3 [(5, .v (.bool ((((xs.length:Nat):Int):Int) == 0)))] [] ?_)))))
 refine xe (Zaa ?_)
 refine Zap (((((xs.length:Nat):Int):Int) == 0)) (by kernel_rfl) (fun hb10=>?_) (fun hb10=>?_)
 ·have hb10':=beq_iff_eq.1 hb10
  refine Zac (Zab (xq 1 [(2, .v (.int .i64 0))] [] ?_))
  refine xe (Zaa (Zag (Zai ?_)))
  refine Zaf (v:=.int .i64 0) (by kernel_rfl) (fun w' R Q=>?_)
  exact ⟨by obtain rfl:xs=[]:=List.length_eq_zero_iff.1 (by omega); rfl,R⟩
 ·have hb10':=Zbh hb10
  refine Zal (Zaa (Zac (Zab (xq 3 [(8, .v (.int .i64 (IntKind.i64.wrap (((xs.length:Nat):Int) - 1))))] [] ?_))))
  rw [show IntKind.i64.wrap ((((xs.length:Nat):Int) - 1))=((xs.length - 1:Nat):Int) from by rw [IntKind.wrap_i64]; omega]
  refine xq 1 [(9, .v (.int .i64 (IntKind.i64.wrap (64 * ((xs.length - 1:Nat):Int)))))] [] ?_
  rw [show IntKind.i64.wrap (64 * ((xs.length - 1:Nat):Int))=((64 * (xs.length - 1):Nat):Int) from by rw [IntKind.wrap_i64]; omega]
  refine xq 4 [eS1 10 A xs.length c,(13, .v (.int .i64 (IntKind.i64.wrap (((xs.length:Nat):Int) - 1))))] [] ?_
  rw [show IntKind.i64.wrap ((((xs.length:Nat):Int) - 1))=((xs.length - 1:Nat):Int) from by rw [IntKind.wrap_i64]; omega]
  refine xqk 14 (atA A (xs.length - 1)) (fun w R Q=>ZaS (t:=107) (e:=141) (x:=(Operand.tmp 10)) (ix:=(Operand.tmp 13)) (len:=xs.length) (cap:=c) (i:=xs.length - 1) ((Q).ne (j:=xs.length - 1) (by omega)) (by omega)) ?_
  obtain ⟨x11,hx11⟩:∃ x,xs[xs.length - 1]?.getD 0=x:=⟨_,rfl⟩
  refine xqk 15 (.int .u64 ((x11:Nat):Int)) (fun w R Q=>by rw [← hx11]; exact Zbb (t:=141) (x:=(Operand.tmp 14)) (Q) (j:=xs.length - 1) (by omega)) ?_
  refine xqc 173 [.int .u64 ((x11:Nat):Int)] 16 (fun _:Unit=>.int .i64 ((blen x11:Nat):Int)) _ (fun w R Q=>(ZoH x11 _ (by rw [← hx11]; exact hd.getD Zah _)).mono (fun _ _ h=>Zam h rfl)) (fun xx=>?_)
  refine xq 1 [(17, .v (.int .i64 (IntKind.i64.wrap (((64 * (xs.length - 1):Nat):Int) + ((blen x11:Nat):Int)))))] [] ?_
  rw [show IntKind.i64.wrap (((64 * (xs.length - 1):Nat):Int) + ((blen x11:Nat):Int))=((blen (val W64 xs):Nat):Int) from by rw [Zh0 (k:=xs.length - 1) hd (by omega) ht hx11,IntKind.wrap_i64]; have:=Zbu.2 (show x11 < 2 ^ 64 by have h':x11 < W64:=(by rw [← hx11]; exact hd.getD Zah _); rw [Zan] at h'; exact h'); omega]
  refine xq 1 [(2, .v (.int .i64 ((blen (val W64 xs):Nat):Int)))] [] ?_
  refine xe (Zaa (Zag ?_))
  refine Zaf (v:=.int .i64 ((blen (val W64 xs):Nat):Int)) (by kernel_rfl) (fun w' R Q=>?_)
  exact ⟨rfl,R⟩
theorem Znt (A:Option Addr) (xs:List Nat) (c:Nat) (w:World) (hX:Zae .u64 w A xs) (hl:xs.length≤4294967296) (hd:Dig W64 xs) (hg:Glob w) (h0:0 < val W64 xs) :
 Calls Tryz.prog 171 #[.slice A xs.length c] w (RetV w (.int .i64 ((tzn (val W64 xs):Nat):Int))):=by
 refine Zas (Φ:=fun w=>(Zae .u64 w A xs∧Glob w)) Tryz.func171 rfl (by kernel_rfl) (fun w' hf=>⟨hX.ext hf,hg.ext hf⟩) ?_
 refine Zac (Zab (xq 1 [(2, .v (.int .i64 0))] [] ?_))
 refine xe (Zaa (Zac (Zab (xq 1 [(3, .v (.int .i64 0))] [] ?_))))
 refine xe (Zaa (Zac (Zar ?_)))
 refine SXc.weak [(0, .v (.slice A xs.length c)),(2, .v (.int .i64 0)),(3, .v (.int .i64 ((0:Nat):Int)))] [] (Ψ:=fun w=>(Zae .u64 w A (xs)∧Glob w)) (Zax.of (by kernel_rfl)) (by kernel_rfl) (fun w Q=>⟨Q.1,Q.2⟩) ?_
 refine ZaR (fun nn ss ff=>∃ (k:Nat),ss=ofL [(0, .v (.slice A xs.length c)),(2, .v (.int .i64 0)),(3, .v (.int .i64 ((k:Nat):Int)))] []∧ff=(fun w=>(Zae .u64 w A (xs)∧Glob w))∧(ZerR xs k)∧nn=(xs.length - k)) ((xs.length - 0)) ⟨0,rfl,rfl,ZerR.start xs,rfl⟩ ?_
 rintro nn ss ff ⟨k,rfl,rfl,HR,rfl⟩
 refine Zac (Zac ?_)
 have hkl:=HR.lt h0
 refine Zab (xq 2 [eS1 4 A xs.length c,(5, .v (.int .i64 ((k:Nat):Int)))] [] ?_)
 refine xqk 6 (atA A k) (fun w R Q=>ZaS (t:=107) (e:=141) (x:=(Operand.tmp 4)) (ix:=(Operand.tmp 5)) (len:=xs.length) (cap:=c) (i:=k) ((Q.1).ne (j:=k) (by omega)) (by omega)) ?_
 obtain ⟨x10,hx10⟩:∃ x,xs[k]?.getD 0=x:=⟨_,rfl⟩
 refine xqk 7 (.int .u64 ((x10:Nat):Int)) (fun w R Q=>by rw [← hx10]; exact Zbb (t:=141) (x:=(Operand.tmp 6)) (Q.1) (j:=k) (by omega)) ?_
 refine xq 1 [(8, .v (.bool ((((x10:Nat):Int):Int) == 0)))] [] ?_
 refine xe (Zaa ?_)
 refine Zap (((((x10:Nat):Int):Int) == 0)) (by kernel_rfl) (fun hb11=>?_) (fun hb11=>?_)
 ·have hb11':=beq_iff_eq.1 hb11
  refine Zal (Zaa (Zar (Zab (xq 2 [(10, .v (.int .i64 (IntKind.i64.wrap (((k:Nat):Int) + 1))))] [] ?_))))
  rw [show IntKind.i64.wrap ((((k:Nat):Int) + 1))=((k + 1:Nat):Int) from by rw [IntKind.wrap_i64]; omega]
  refine xq 1 [(3, .v (.int .i64 ((k + 1:Nat):Int)))] [] ?_
  refine xe (ZaO ?_)
  refine SXq.weak [(0, .v (.slice A xs.length c)),(2, .v (.int .i64 0)),(3, .v (.int .i64 (((k + 1):Nat):Int)))] [] (Ψ:=fun w=>(Zae .u64 w A (xs)∧Glob w)) (Zax.of (by kernel_rfl)) (by kernel_rfl) (fun w Q=>⟨Q.1,Q.2⟩) ?_
  exact ZaF ((xs.length - (k + 1))) (by omega) ⟨(k + 1),rfl,rfl,(HR.step hkl (by rw [hx10]; omega)),rfl⟩
 ·have hb11':=Zbh hb11
  refine ZaM (Zaj (Zaj (ZaV (Zaa (Zac (Zab (xq 2 [(12, .v (.int .i64 (IntKind.i64.wrap (64 * ((k:Nat):Int)))))] [] ?_)))))))
  rw [show IntKind.i64.wrap (64 * ((k:Nat):Int))=((64 * k:Nat):Int) from by rw [IntKind.wrap_i64]; omega]
  refine xq 2 [eS1 13 A xs.length c,(14, .v (.int .i64 ((k:Nat):Int)))] [] ?_
  refine xqk 15 (atA A k) (fun w R Q=>ZaS (t:=107) (e:=141) (x:=(Operand.tmp 13)) (ix:=(Operand.tmp 14)) (len:=xs.length) (cap:=c) (i:=k) ((Q.1).ne (j:=k) (by omega)) (by omega)) ?_
  obtain ⟨x12,hx12⟩:∃ x,xs[k]?.getD 0=x:=⟨_,rfl⟩
  refine xqk 16 (.int .u64 ((x12:Nat):Int)) (fun w R Q=>by rw [← hx12]; exact Zbb (t:=141) (x:=(Operand.tmp 15)) (Q.1) (j:=k) (by omega)) ?_
  obtain rfl:x10=x12:=by rw [← hx10,hx12]
  refine xqc 200 [.int .u64 ((x10:Nat):Int)] 17 (fun _:Unit=>.int .i64 ((tzn x10:Nat):Int)) _ (fun w R Q=>(ZpZ x10 _ Q.2 (by omega) (by rw [← hx10]; exact hd.getD Zah _)).mono (fun _ _ h=>Zam h rfl)) (fun xx=>?_)
  refine xq 1 [(18, .v (.int .i64 (IntKind.i64.wrap (((64 * k:Nat):Int) + ((tzn x10:Nat):Int)))))] [] ?_
  rw [show IntKind.i64.wrap (((64 * k:Nat):Int) + ((tzn x10:Nat):Int))=((tzn (val W64 xs):Nat):Int) from by rw [HR.done hd hkl hx10 (by omega),IntKind.wrap_i64]; have:=ZerR.bound hd hx10 (by omega); omega]
  refine xq 1 [(2, .v (.int .i64 ((tzn (val W64 xs):Nat):Int)))] [] ?_
  refine xe (Zaa (Zag ?_))
  refine Zaf (v:=.int .i64 ((tzn (val W64 xs):Nat):Int)) (by kernel_rfl) (fun w' R Q=>?_)
  exact ⟨rfl,R⟩
theorem Zp1 (A:Option Addr) (xs:List Nat) (c:Nat) (w:World) (hX:Zae .u64 w A xs) (hd:Dig W64 xs) (i:Nat) (hi:i≤274877906944) :
 Calls Tryz.prog 170 #[.slice A xs.length c, .int .i64 ((i:Nat):Int)] w (RetV w (.bool (decide (val W64 xs / 2 ^ i % 2=1)))):=by
 refine Zas (Φ:=fun w=>Zae .u64 w A xs) Tryz.func170 rfl (by kernel_rfl) (fun w' hf=>hX.ext hf) ?_
 refine Zac (Zab (xq 1 [(4, .v (.bool false))] [] ?_))
 refine xe (Zaa (Zac (Zab (xq 2 [(6, .v (.int .i64 (IntKind.i64.wrap ((((i:Nat):Int)).tdiv 64))))] [] ?_))))
 rw [show IntKind.i64.wrap (((((i:Nat):Int)).tdiv 64))=((i / 64:Nat):Int) from tdq (i) 64 (by omega)]
 refine xq 4 [(10, .v (.bool (decide (((i / 64:Nat):Int) < ((xs.length:Nat):Int)))))] [] ?_
 rcases bl2 ((decide (((i / 64:Nat):Int) < ((xs.length:Nat):Int)))) with hb10 | hb10
 ·rw [hb10]
  have hb10':=of_decide_eq_true hb10
  have hlt:i / 64 < xs.length:=by omega
  refine xq 3 [eS1 11 A xs.length c,(13, .v (.int .i64 (IntKind.i64.wrap ((((i:Nat):Int)).tdiv 64))))] [] ?_
  rw [show IntKind.i64.wrap (((((i:Nat):Int)).tdiv 64))=((i / 64:Nat):Int) from tdq (i) 64 (by omega)]
  refine xqk 14 (atA A (i / 64)) (fun w R Q=>ZaS (t:=107) (e:=141) (x:=(Operand.tmp 11)) (ix:=(Operand.tmp 13)) (len:=xs.length) (cap:=c) (i:=i / 64) ((Q).ne (j:=i / 64) (by omega)) (by omega)) ?_
  obtain ⟨x11,hx11⟩:∃ x,xs[i / 64]?.getD 0=x:=⟨_,rfl⟩
  refine xqk 15 (.int .u64 ((x11:Nat):Int)) (fun w R Q=>by rw [← hx11]; exact Zbb (t:=141) (x:=(Operand.tmp 14)) (Q) (j:=i / 64) (by omega)) ?_
  refine xq 2 [(17, .v (.int .i64 ((((i:Nat):Int)).tmod 64)))] [] ?_
  rw [show (((i:Nat):Int)).tmod 64=((i % 64:Nat):Int) from tdr (i) 64]
  refine xqk 18 (.int .u64 ((x11 / 2 ^ (i % 64):Nat):Int)) (fun w R Q=>Zld (t:=141) (x:=(Operand.tmp 15)) (y:=(Operand.tmp 17)) (k:=3) (ky:=.i64) (a:=x11) (n:=(i % 64)) (by omega)) ?_
  refine xqk 19 (.int .u64 (((x11 / 2 ^ (i % 64)) % 2:Nat):Int)) (fun w R Q=>Zru (t:=141) (x:=(Operand.tmp 18)) (y:=(Operand.const (Value.int IntKind.u64 1))) (k:=141) (a:=(x11 / 2 ^ (i % 64))) (ha:=Nat.lt_of_le_of_lt (Nat.div_le_self _ _) (by rw [← hx11]; exact hd.getD Zah _))) ?_
  refine xq 1 [(20, .v (.bool (((((x11 / 2 ^ (i % 64)) % 2:Nat):Int):Int) == 1)))] [] ?_
  rw [show ((((x11 / 2 ^ (i % 64)) % 2:Nat):Int) == 1)=decide (val W64 xs / 2 ^ i % 2=1) from (Zsj _).trans (by rw [Zrw hd hlt hx11])]
  refine xq 2 [(4, .v (.bool (decide (val W64 xs / 2 ^ i % 2=1))))] [] ?_
  refine xe (Zaa (Zag ?_))
  refine Zaf (v:=.bool (decide (val W64 xs / 2 ^ i % 2=1))) (by kernel_rfl) (fun w' R Q=>?_)
  exact ⟨rfl,R⟩
 ·rw [hb10]
  have hb10':=of_decide_eq_false hb10
  have hlt:¬ i / 64 < xs.length:=by omega
  refine xq 12 [(4, .v (.bool false))] [] ?_
  refine xe (Zaa (Zag ?_))
  refine Zaf (v:=.bool false) (by kernel_rfl) (fun w' R Q=>?_)
  exact ⟨by rw [Zp0 hd hlt]; rfl,R⟩
theorem Zrx {xs ys:List Nat} {j x y:Nat} (h1:j < xs.length) (h2:j < ys.length) (h:xs.drop (j + 1)=ys.drop (j + 1)) (ex:xs[j]?.getD 0=x) (ey:ys[j]?.getD 0=y) (e:x=y):xs.drop j=ys.drop j:=by
 subst e
 rw [List.drop_eq_getElem_cons h1,List.drop_eq_getElem_cons h2,h]
 rw [List.getElem?_eq_getElem h1] at ex
 rw [List.getElem?_eq_getElem h2] at ey
 simp only [Option.getD_some] at ex ey
 rw [ex,ey]
theorem Zli (A A2:Option Addr) (xs ys:List Nat) (c c2:Nat) (w:World) (hX:Zae .u64 w A xs) (hY:Zae .u64 w A2 ys) (hl:xs.length≤4294967296) (hx:Dig W64 xs) (hy:Dig W64 ys) (tx:Trim xs) (ty:Trim ys) :
 Calls Tryz.prog 136 #[.slice A xs.length c, .slice A2 ys.length c2] w (RetV w (.int .i64 (cmpI ((val W64 xs:Nat):Int) ((val W64 ys:Nat):Int)))):=by
 refine Zas (Φ:=fun w=>(Zae .u64 w A xs∧Zae .u64 w A2 ys)) Tryz.func136 rfl (by kernel_rfl) (fun w' hf=>⟨hX.ext hf,hY.ext hf⟩) ?_
 refine Zac (Zab (xq 1 [(4, .v (.int .i64 0))] [] ?_))
 refine xe (Zaa (Zac (Zac (Zab (xq 5 [(10, .v (.bool ((((xs.length:Nat):Int):Int) != ((ys.length:Nat):Int))))] [] ?_)))))
 refine xe (Zaa ?_)
 refine Zap (((((xs.length:Nat):Int):Int) != ((ys.length:Nat):Int))) (by kernel_rfl) (fun hb10=>?_) (fun hb10=>?_)
 ·have hb10':=Zhd hb10
  refine Zac (Zac (Zab (xq 5 [(15, .v (.bool (decide (((xs.length:Nat):Int) < ((ys.length:Nat):Int)))))] [] ?_)))
  refine xe (Zaa ?_)
  refine Zap ((decide (((xs.length:Nat):Int) < ((ys.length:Nat):Int)))) (by kernel_rfl) (fun hb11=>?_) (fun hb11=>?_)
  ·have hb11':=of_decide_eq_true hb11
   refine Zac (Zab (xq 1 [(4, .v (.int .i64 (-1)))] [] ?_))
   refine xe (Zaa (Zag (Zai (Zai ?_))))
   refine Zaf (v:=.int .i64 (-1)) (by kernel_rfl) (fun w' R Q=>?_)
   exact ⟨by rw [← Zjh hx hy tx ty (by omega),ZdJ (by omega)],R⟩
  ·have hb11':=of_decide_eq_false hb11
   refine Zal (Zaa (Zac (Zab (xq 1 [(4, .v (.int .i64 1))] [] ?_))))
   refine xe (Zaa (Zag (Zai ?_)))
   refine Zaf (v:=.int .i64 1) (by kernel_rfl) (fun w' R Q=>?_)
   exact ⟨by rw [← Zjh hx hy tx ty (by omega),Zd7 (by omega)],R⟩
 ·have hb10':=Zhe hb10
  refine Zal (Zaa (Zac (Zac (Zab (xq 3 [(18, .v (.int .i64 (IntKind.i64.wrap (((xs.length:Nat):Int) - 1))))] [] ?_)))))
  rw [show IntKind.i64.wrap (((xs.length:Nat):Int) - 1)=((xs.length:Nat):Int) - 1 from by rw [IntKind.wrap_i64]; omega]
  refine xq 1 [(5, .v (.int .i64 (((xs.length:Nat):Int) - 1)))] [] ?_
  refine xe (Zaa (Zar ?_))
  refine SXc.weak [(0, .v (.slice A xs.length c)),(1, .v (.slice A2 ys.length c2)),(4, .v (.int .i64 0)),(5, .v (.int .i64 (((xs.length:Nat):Int) - 1)))] [] (Ψ:=fun w=>(Zae .u64 w A (xs)∧Zae .u64 w A2 (ys))) (Zax.of (by kernel_rfl)) (by kernel_rfl) (fun w Q=>⟨Q.1,Q.2⟩) ?_
  refine ZaR (fun nn ss ff=>∃ (k:Nat),ss=ofL [(0, .v (.slice A xs.length c)),(1, .v (.slice A2 ys.length c2)),(4, .v (.int .i64 0)),(5, .v (.int .i64 (((k:Nat):Int) - 1)))] []∧ff=(fun w=>(Zae .u64 w A (xs)∧Zae .u64 w A2 (ys)))∧(xs.drop k=ys.drop k)∧(k≤xs.length)∧nn=(1 + k)) ((1 + xs.length)) ⟨xs.length,rfl,rfl,(by rw [List.drop_of_length_le (Nat.le_refl _),List.drop_of_length_le (by omega)]),Nat.le_refl _,rfl⟩ ?_
  rintro nn ss ff ⟨k,rfl,rfl,HR,hk,rfl⟩
  refine Zac (Zac (Zab (xq 2 [(20, .v (.bool (decide ((((k:Nat):Int) - 1) ≥ 0))))] [] ?_)))
  refine xe (Zaa ?_)
  refine Zap ((decide ((((k:Nat):Int) - 1) ≥ 0))) (by kernel_rfl) (fun hb12=>?_) (fun hb12=>?_)
  ·have hb12':=of_decide_eq_true hb12
   obtain ⟨j,rfl⟩:∃ j,k=j + 1:=⟨k - 1,by omega⟩
   rw [show ((((j + 1):Nat):Int) - 1)=((j:Nat):Int) by omega]
   refine Zal (Zaa (Zac (Zar (Zac ?_))))
   refine ZaK 9 (by kernel_rfl) (by kernel_rfl) Zao ?_
   refine xqf 2 [eS1 23 A xs.length c,(24, .v (.int .i64 ((j:Nat):Int)))] [] ?_
   refine xqj 25 (atA A j) (fun w Q=>ZaS (t:=107) (e:=141) (x:=(Operand.tmp 23)) (ix:=(Operand.tmp 24)) (len:=xs.length) (cap:=c) (i:=j) ((Q.1).ne (j:=j) (by omega)) (by omega)) ?_
   obtain ⟨x13,hx13⟩:∃ x,xs[j]?.getD 0=x:=⟨_,rfl⟩
   refine xqj 26 (.int .u64 ((x13:Nat):Int)) (fun w Q=>by rw [← hx13]; exact Zbb (t:=141) (x:=(Operand.tmp 25)) (Q.1) (j:=j) (by omega)) ?_
   refine xqf 2 [eS1 27 A2 ys.length c2,(28, .v (.int .i64 ((j:Nat):Int)))] [] ?_
   refine xqj 29 (atA A2 j) (fun w Q=>ZaS (t:=107) (e:=141) (x:=(Operand.tmp 27)) (ix:=(Operand.tmp 28)) (len:=ys.length) (cap:=c2) (i:=j) ((Q.2).ne (j:=j) (by omega)) (by omega)) ?_
   obtain ⟨x14,hx14⟩:∃ x,ys[j]?.getD 0=x:=⟨_,rfl⟩
   refine xqj 30 (.int .u64 ((x14:Nat):Int)) (fun w Q=>by rw [← hx14]; exact Zbb (t:=141) (x:=(Operand.tmp 29)) (Q.2) (j:=j) (by omega)) ?_
   refine xqf 1 [(31, .v (.bool ((((x13:Nat):Int):Int) != ((x14:Nat):Int))))] [] ?_
   refine xz (xe (Zaa ?_))
   refine Zap (((((x13:Nat):Int):Int) != ((x14:Nat):Int))) (by kernel_rfl) (fun hb15=>?_) (fun hb15=>?_)
   ·have hb15':=Zhd hb15
    refine Zac (Zac ?_)
    refine ZaK 9 (by kernel_rfl) (by kernel_rfl) Zao ?_
    refine xqf 2 [eS1 32 A xs.length c,(33, .v (.int .i64 ((j:Nat):Int)))] [] ?_
    refine xqj 34 (atA A j) (fun w Q=>ZaS (t:=107) (e:=141) (x:=(Operand.tmp 32)) (ix:=(Operand.tmp 33)) (len:=xs.length) (cap:=c) (i:=j) ((Q.1).ne (j:=j) (by omega)) (by omega)) ?_
    obtain ⟨x16,hx16⟩:∃ x,xs[j]?.getD 0=x:=⟨_,rfl⟩
    refine xqj 35 (.int .u64 ((x16:Nat):Int)) (fun w Q=>by rw [← hx16]; exact Zbb (t:=141) (x:=(Operand.tmp 34)) (Q.1) (j:=j) (by omega)) ?_
    obtain rfl:x13=x16:=by rw [← hx13,hx16]
    refine xqf 2 [eS1 36 A2 ys.length c2,(37, .v (.int .i64 ((j:Nat):Int)))] [] ?_
    refine xqj 38 (atA A2 j) (fun w Q=>ZaS (t:=107) (e:=141) (x:=(Operand.tmp 36)) (ix:=(Operand.tmp 37)) (len:=ys.length) (cap:=c2) (i:=j) ((Q.2).ne (j:=j) (by omega)) (by omega)) ?_
    obtain ⟨x17,hx17⟩:∃ x,ys[j]?.getD 0=x:=⟨_,rfl⟩
    refine xqj 39 (.int .u64 ((x17:Nat):Int)) (fun w Q=>by rw [← hx17]; exact Zbb (t:=141) (x:=(Operand.tmp 38)) (Q.2) (j:=j) (by omega)) ?_
    obtain rfl:x14=x17:=by rw [← hx14,hx17]
    refine xqf 1 [(40, .v (.bool (decide (((x13:Nat):Int) < ((x14:Nat):Int)))))] [] ?_
    refine xz (xe (Zaa ?_))
    refine Zap ((decide (((x13:Nat):Int) < ((x14:Nat):Int)))) (by kernel_rfl) (fun hb18=>?_) (fun hb18=>?_)
    ·have hb18':=of_decide_eq_true hb18
     refine Zac (Zab (xq 1 [(4, .v (.int .i64 (-1)))] [] ?_))
     refine xe (Zaa (Zag (Zai (ZaQ (Zai (Zai (ZaQ (Zai ?_))))))))
     refine Zaf (v:=.int .i64 (-1)) (by kernel_rfl) (fun w' R Q=>?_)
     exact ⟨by rw [← ZgW hx hy (by omega) (k:=j) (by omega) HR hx13 hx14 (by omega),ZdJ (by omega)],R⟩
    ·have hb18':=of_decide_eq_false hb18
     refine Zal (Zaa (Zac (Zab (xq 1 [(4, .v (.int .i64 1))] [] ?_))))
     refine xe (Zaa (Zag (ZaQ (Zai (Zai (ZaQ (Zai ?_)))))))
     refine Zaf (v:=.int .i64 1) (by kernel_rfl) (fun w' R Q=>?_)
     exact ⟨by rw [← ZgW hx hy (by omega) (k:=j) (by omega) HR hx13 hx14 (by omega),Zd7 (by omega)],R⟩
   ·have hb15':=Zhe hb15
    have HS:xs.drop j=ys.drop j:=Zrx (by omega) (by omega) HR hx13 hx14 (by omega)
    refine Zal (ZaO (Zaa (Zab (xq 2 [(22, .v (.int .i64 (IntKind.i64.wrap (((j:Nat):Int) - 1))))] [] ?_))))
    rw [show IntKind.i64.wrap (((j:Nat):Int) - 1)=((j:Nat):Int) - 1 from by rw [IntKind.wrap_i64]; omega]
    refine xq 1 [(5, .v (.int .i64 (((j:Nat):Int) - 1)))] [] ?_
    refine xe ?_
    refine SXq.weak [(0, .v (.slice A xs.length c)),(1, .v (.slice A2 ys.length c2)),(4, .v (.int .i64 0)),(5, .v (.int .i64 (((j:Nat):Int) - 1)))] [] (Ψ:=fun w=>(Zae .u64 w A (xs)∧Zae .u64 w A2 (ys))) (Zax.of (by kernel_rfl)) (by kernel_rfl) (fun w Q=>⟨Q.1,Q.2⟩) ?_
    exact ZaF ((1 + j)) (by omega) ⟨j,rfl,rfl,HS,by omega,rfl⟩
  ·have hb12':=of_decide_eq_false hb12
   obtain rfl:k=0:=by omega
   refine ZaM (Zaj (Zaj (ZaV (Zaa (Zac (Zab (xq 1 [(4, .v (.int .i64 0))] [] ?_)))))))
   refine xe (Zaa (Zag ?_))
   refine Zaf (v:=.int .i64 0) (by kernel_rfl) (fun w' R Q=>?_)
   exact ⟨by rw [List.drop_zero,List.drop_zero] at HR; rw [HR,ZgV],R⟩
def Zsk (b:Nat) (xs:List Nat) (u:Nat) (w:World) (e:Ending) (w':World):Prop:=∃ qs,e=.returned (.int .u64 ((val W64 xs % u:Nat):Int))∧(qs.length=xs.length∧Dig W64 qs∧val W64 qs=val W64 xs / u)∧Fr (fun i=>i=b) w w'∧Own .u64 141 w' b qs
theorem Zfn (b c:Nat) (xs:List Nat) (u:Nat) (w:World) (hO:Own .u64 141 w b xs) (hl:xs.length≤4294967296) (hd:Dig W64 xs) (hu:0 < u) (huW:u < W64) :
 Calls Tryz.prog 146 #[.slice (some ⟨b,0,none⟩) xs.length c, .int .u64 ((u:Nat):Int)] w (Zsk b xs u w):=by
 refine Zfm (fun i=>i=b) (Φ:=fun w=>Own .u64 141 w b xs) Tryz.func146 rfl (by kernel_rfl) (fun w' hf=>hO.ext hf) ?_
 refine Zac (Zab (xq 1 [(4, .v (.int .u64 0))] [] ?_))
 refine xe (Zaa (Zac (Zab (xq 1 [(5, .v (.int .u64 0))] [] ?_))))
 refine xe (Zaa (Zac (Zac (Zab (xq 3 [(9, .v (.int .i64 (IntKind.i64.wrap (((xs.length:Nat):Int) - 1))))] [] ?_)))))
 rw [show IntKind.i64.wrap (((xs.length:Nat):Int) - 1)=((xs.length:Nat):Int) - 1 from by rw [IntKind.wrap_i64]; omega]
 refine xq 1 [(6, .v (.int .i64 (((xs.length:Nat):Int) - 1)))] [] ?_
 refine xe (Zaa (Zar ?_))
 refine SXc.weak [(0, .v (.slice (some ⟨b,0,none⟩) xs.length c)),(1, .v (.int .u64 ((u:Nat):Int))),(4, .v (.int .u64 0)),(5, .v (.int .u64 ((0:Nat):Int))),(6, .v (.int .i64 (((xs.length:Nat):Int) - 1)))] [] (Ψ:=fun w=>Own .u64 141 w b (xs)) (Zax.of (by kernel_rfl)) (by kernel_rfl) (fun w Q=>Q) ?_
 refine ZaR (fun nn ss ff=>∃ (k:Nat) (r:Nat) (qs:List Nat),ss=ofL [(0, .v (.slice (some ⟨b,0,none⟩) xs.length c)),(1, .v (.int .u64 ((u:Nat):Int))),(4, .v (.int .u64 0)),(5, .v (.int .u64 ((r:Nat):Int))),(6, .v (.int .i64 (((k:Nat):Int) - 1)))] []∧ff=(fun w=>Own .u64 141 w b (qs))∧(DwR xs u k qs r)∧(k≤xs.length)∧nn=(1 + k)) ((1 + xs.length)) ⟨xs.length,0,xs,rfl,rfl,DwR.start hd hu,Nat.le_refl _,rfl⟩ ?_
 rintro nn ss ff ⟨k,r,qs,rfl,rfl,HR,hk,rfl⟩
 refine Zac (Zac (Zab (xq 2 [(11, .v (.bool (decide ((((k:Nat):Int) - 1) ≥ 0))))] [] ?_)))
 refine xe (Zaa ?_)
 refine Zap ((decide ((((k:Nat):Int) - 1) ≥ 0))) (by kernel_rfl) (fun hb10=>?_) (fun hb10=>?_)
 ·have hb10':=of_decide_eq_true hb10
  obtain ⟨j,rfl⟩:∃ j,k=j + 1:=⟨k - 1,by omega⟩
  rw [show ((((j + 1):Nat):Int) - 1)=((j:Nat):Int) by omega]
  have hql:=HR.1.1
  refine Zal (Zaa (Zac (Zar (Zab (xq 5 [eS1 15 (some ⟨b,0,none⟩) xs.length c,(16, .v (.int .i64 ((j:Nat):Int))),(17, .v (.int .u64 ((r:Nat):Int))),eS1 18 (some ⟨b,0,none⟩) xs.length c,(19, .v (.int .i64 ((j:Nat):Int)))] [] ?_)))))
  refine xqk 20 (.pointer (some ⟨b,j,none⟩)) (fun w R Q=>ZbD (t:=107) (e:=141) (x:=(Operand.tmp 18)) (ix:=(Operand.tmp 19)) (len:=xs.length) (cap:=c) (i:=j) (by omega)) ?_
  obtain ⟨x11,hx11⟩:∃ x,qs[j]?.getD 0=x:=⟨_,rfl⟩
  refine xqk 21 (.int .u64 ((x11:Nat):Int)) (fun w R Q=>by rw [← hx11]; exact Zcr (t:=141) (x:=(Operand.tmp 20)) (Q) (j:=j) (by omega)) ?_
  refine xq 1 [(22, .v (.int .u64 ((u:Nat):Int)))] [] ?_
  refine xqc 174 [.int .u64 ((r:Nat):Int), .int .u64 ((x11:Nat):Int), .int .u64 ((u:Nat):Int)] 23 (fun _:Unit=>.tuple #[.int .u64 ((divQ r x11 u:Nat):Int), .int .u64 ((divR r x11 u:Nat):Int)]) _ (fun w R Q=>(Zj2 r x11 u _ HR.1.2.2.1 huW (by rw [← hx11]; exact HR.1.2.1.getD Zah _)).mono (fun _ _ h=>Zam h rfl)) (fun xx=>?_)
  refine xq 3 [(24, .v (.int .u64 ((divQ r x11 u:Nat):Int))),(25, .v (.int .u64 ((divR r x11 u:Nat):Int)))] [] ?_
  refine xqk 26 (.pointer (some ⟨b,j,none⟩)) (fun w R Q=>ZbD (t:=107) (e:=141) (x:=(Operand.tmp 15)) (ix:=(Operand.tmp 16)) (len:=xs.length) (cap:=c) (i:=j) (by omega)) ?_
  refine Zb4 (t:=141) (x:=(Operand.tmp 26)) (y:=(Operand.tmp 24)) b (j) (divQ r x11 u) (fun w=>(Own .u64 141 w b ((qs).set (j) (divQ r x11 u))∧True)) (fun w Q=>Q.1) (by omega) (Or.inr rfl) (fun w w' Q hF hO=>⟨hO,trivial⟩) ?_
  refine xq 1 [(5, .v (.int .u64 ((divR r x11 u:Nat):Int)))] [] ?_
  refine xe (ZaO (Zaa (Zab (xq 2 [(13, .v (.int .i64 (IntKind.i64.wrap (((j:Nat):Int) - 1))))] [] ?_))))
  rw [show IntKind.i64.wrap (((j:Nat):Int) - 1)=((j:Nat):Int) - 1 from by rw [IntKind.wrap_i64]; omega]
  refine xq 1 [(6, .v (.int .i64 (((j:Nat):Int) - 1)))] [] ?_
  refine xe ?_
  refine SXq.weak [(0, .v (.slice (some ⟨b,0,none⟩) xs.length c)),(1, .v (.int .u64 ((u:Nat):Int))),(4, .v (.int .u64 0)),(5, .v (.int .u64 (((divR r x11 u):Nat):Int))),(6, .v (.int .i64 (((j:Nat):Int) - 1)))] [] (Ψ:=fun w=>Own .u64 141 w b (((qs).set (j) (divQ r x11 u)))) (Zax.of (by kernel_rfl)) (by kernel_rfl) (fun w Q=>Q.1) ?_
  exact ZaF ((1 + j)) (by omega) ⟨j,(divR r x11 u),((qs).set (j) (divQ r x11 u)),rfl,rfl,(HR.step (by omega) hx11 (by rw [← hx11]; exact HR.1.2.1.getD Zah _)),by omega,rfl⟩
 ·have hb10':=of_decide_eq_false hb10
  obtain rfl:k=0:=by omega
  refine ZaM (Zaj (Zaj (ZaV (Zaa (Zac (Zab (xq 2 [(4, .v (.int .u64 ((r:Nat):Int)))] [] ?_)))))))
  refine xe (Zaa (Zag ?_))
  refine Zaf (v:=.int .u64 ((r:Nat):Int)) (by kernel_rfl) (fun w' R Q=>?_)
  exact ⟨qs,by rw [HR.1.done.2],⟨HR.1.1,HR.1.2.1,HR.1.done.1⟩,R,Q⟩
def ZmA (b:Nat) (w:World) (p:List Nat→Nat→Prop) (e:Ending) (w':World):Prop:=∃ x:List Nat × Nat,e=.returned (.bool (((x.2:Nat):Int) == 1))∧p x.1 x.2∧Fr (fun i=>i=b) w w'∧Own .u64 141 w' b x.1
theorem Zlj (b c o:Nat) (zs0 ys:List Nat) (A:Option Addr) (c2:Nat) (w:World) (hO:Own .u64 141 w b zs0) (hY:Zae .u64 w A ys) (hA:∀ a,A=some a→a.block≠b) (ho:o + ys.length < zs0.length) (hl:zs0.length≤4294967296) (hd:Dig W64 zs0) (hy:Dig W64 ys) (q:Nat) (hq:q < W64) :
 Calls Tryz.prog 220 #[.slice (some ⟨b,o,none⟩) (ys.length + 1) c, .slice A ys.length c2, .int .u64 ((q:Nat):Int)] w (ZmA b w (Zhj zs0 ys q o)):=by
 refine Zfm (fun i=>i=b) (Φ:=fun w=>(Own .u64 141 w b zs0∧Zae .u64 w A ys)) Tryz.func220 rfl (by kernel_rfl) (fun w' hf=>⟨hO.ext hf,hY.ext hf⟩) ?_
 refine Zac (Zab (xq 1 [(6, .v (.bool false))] [] ?_))
 refine xe (Zaa (Zac (Zab (xq 2 [(7, .v (.int .u64 0)),(8, .v (.int .u64 0))] [] ?_))))
 refine xe (Zaa (Zac (Zac (Zab (xq 3 [eS1 14 A ys.length c2,(15, .v (.int .i64 ((ys.length:Nat):Int))),(16, .v (.int .i64 0))] [] ?_)))))
 refine xe (Zaa (Zar ?_))
 refine SXc.weak [(0, .v (.slice (some ⟨b,o,none⟩) (ys.length + 1) c)),(1, .v (.slice A ys.length c2)),(2, .v (.int .u64 ((q:Nat):Int))),(6, .v (.bool false)),(7, .v (.int .u64 ((0:Nat):Int))),(8, .v (.int .u64 ((0:Nat):Int))),(14, .v (.slice A ys.length c2)),(15, .v (.int .i64 ((ys.length:Nat):Int))),(16, .v (.int .i64 ((0:Nat):Int)))] [] (Ψ:=fun w=>(Own .u64 141 w b (zs0)∧Zae .u64 w A (ys))) (Zax.of (by kernel_rfl)) (by kernel_rfl) (fun w Q=>⟨Q.1,Q.2⟩) ?_
 refine ZaR (fun nn ss ff=>∃ (cc bb k:Nat) (zs:List Nat),ss=ofL [(0, .v (.slice (some ⟨b,o,none⟩) (ys.length + 1) c)),(1, .v (.slice A ys.length c2)),(2, .v (.int .u64 ((q:Nat):Int))),(6, .v (.bool false)),(7, .v (.int .u64 ((cc:Nat):Int))),(8, .v (.int .u64 ((bb:Nat):Int))),(14, .v (.slice A ys.length c2)),(15, .v (.int .i64 ((ys.length:Nat):Int))),(16, .v (.int .i64 ((k:Nat):Int)))] []∧ff=(fun w=>(Own .u64 141 w b (zs)∧Zae .u64 w A (ys)))∧(SpR zs0 ys q o k zs cc bb)∧(k≤ys.length)∧nn=(ys.length - k)) ((ys.length - 0)) ⟨0,0,0,zs0,rfl,rfl,SpR.start ys q o hd,by omega,rfl⟩ ?_
 rintro nn ss ff ⟨cc,bb,k,zs,rfl,rfl,HR,hk,rfl⟩
 refine Zac (Zab (xq 1 [(17, .v (.bool (decide (((k:Nat):Int) < ((ys.length:Nat):Int)))))] [] ?_))
 refine xe (Zaa (Zac ?_))
 refine Zap ((decide (((k:Nat):Int) < ((ys.length:Nat):Int)))) (by kernel_rfl) (fun hb10=>?_) (fun hb10=>?_)
 ·have hb10':=of_decide_eq_true hb10
  have hzl:=HR.1
  have hbb:=HR.2.2.2.1
  refine Zal (Zaa (Zac (Zar (Zac (Zab (xq 1 [(18, .v (.int .i64 ((k:Nat):Int)))] [] ?_))))))
  refine xqk 19 (atA A k) (fun w R Q=>ZaS (t:=107) (e:=141) (x:=(Operand.tmp 14)) (ix:=(Operand.tmp 16)) (len:=ys.length) (cap:=c2) (i:=k) ((Q.2).ne (j:=k) (by omega)) (by omega)) ?_
  obtain ⟨x11,hx11⟩:∃ x,ys[k]?.getD 0=x:=⟨_,rfl⟩
  refine xqk 20 (.int .u64 ((x11:Nat):Int)) (fun w R Q=>by rw [← hx11]; exact Zbb (t:=141) (x:=(Operand.tmp 19)) (Q.2) (j:=k) (by omega)) ?_
  refine xq 2 [(9, .v (.int .i64 ((k:Nat):Int))),(10, .v (.int .u64 ((x11:Nat):Int)))] [] ?_
  refine xe (Zaa (Zac (Zab (xq 2 [(22, .v (.int .u64 ((x11:Nat):Int))),(23, .v (.int .u64 ((q:Nat):Int)))] [] ?_))))
  refine xqc 161 [.int .u64 ((x11:Nat):Int), .int .u64 ((q:Nat):Int)] 24 (fun _:Unit=>.tuple #[.int .u64 ((ZaN x11 q:Nat):Int), .int .u64 ((Zat x11 q:Nat):Int)]) _ (fun w R Q=>(Zhf x11 q _ (by rw [← hx11]; exact hy.getD Zah _) hq).mono (fun _ _ h=>Zam h rfl)) (fun xx=>?_)
  refine xq 5 [(11, .v (.int .u64 ((ZaN x11 q:Nat):Int))),(12, .v (.int .u64 ((Zat x11 q:Nat):Int)))] [] ?_
  refine xe (Zaa (Zac (Zab (xq 2 [(28, .v (.int .u64 ((Zat x11 q:Nat):Int))),(29, .v (.int .u64 ((cc:Nat):Int)))] [] ?_))))
  refine xqk 30 (.tuple #[.int .u64 ((Zaw (Zat x11 q) cc 0:Nat):Int), .int .u64 ((ZaB (Zat x11 q) cc 0:Nat):Int)]) (fun w R Q=>ZcP (args:=[Operand.tmp 28,Operand.tmp 29,Operand.const (Value.int IntKind.u64 0)]) (ts:=#[141,141,141]) (Zcv (Zat x11 q) cc 0 (by omega) w)) ?_
  refine xq 5 [(12, .v (.int .u64 ((Zaw (Zat x11 q) cc 0:Nat):Int))),(13, .v (.int .u64 ((ZaB (Zat x11 q) cc 0:Nat):Int)))] [] ?_
  refine xe (Zaa (Zac (Zab (xq 3 [(35, .v (.int .u64 (IntKind.u64.wrap (((ZaN x11 q:Nat):Int) + ((ZaB (Zat x11 q) cc 0:Nat):Int)))))] [] ?_))))
  rw [ZiY (a:=ZaN x11 q) (b:=ZaB (Zat x11 q) cc 0) (Zlh (by rw [← hx11]; exact hy.getD Zah _) hq HR.2.2.1)]
  refine xq 1 [(7, .v (.int .u64 ((ZaN x11 q + ZaB (Zat x11 q) cc 0:Nat):Int)))] [] ?_
  refine xe (Zaa (Zab (xq 4 [eS1 37 (some ⟨b,o,none⟩) (ys.length + 1) c,(38, .v (.int .i64 ((k:Nat):Int))),eS1 39 (some ⟨b,o,none⟩) (ys.length + 1) c,(40, .v (.int .i64 ((k:Nat):Int)))] [] ?_)))
  refine xqk 41 (.pointer (some ⟨b,o + k,none⟩)) (fun w R Q=>Zb0 (t:=107) (e:=141) (x:=(Operand.tmp 39)) (ix:=(Operand.tmp 40)) (len:=(ys.length + 1)) (cap:=c) (i:=k) (by omega)) ?_
  obtain ⟨x12,hx12⟩:∃ x,zs[o + k]?.getD 0=x:=⟨_,rfl⟩
  refine xqk 42 (.int .u64 ((x12:Nat):Int)) (fun w R Q=>by rw [← hx12]; exact Zcr (t:=141) (x:=(Operand.tmp 41)) (Q.1.1) (j:=o + k) (by omega)) ?_
  refine xq 2 [(43, .v (.int .u64 ((Zaw (Zat x11 q) cc 0:Nat):Int))),(44, .v (.int .u64 ((bb:Nat):Int)))] [] ?_
  refine xqk 45 (.tuple #[.int .u64 ((Zbm x12 (Zaw (Zat x11 q) cc 0) bb:Nat):Int), .int .u64 ((Zbn x12 (Zaw (Zat x11 q) cc 0) bb:Nat):Int)]) (fun w R Q=>ZcP (args:=[Operand.tmp 42,Operand.tmp 43,Operand.tmp 44]) (ts:=#[141,141,141]) (Zcw x12 (Zaw (Zat x11 q) cc 0) bb (by omega) w)) ?_
  refine xq 3 [(46, .v (.int .u64 ((Zbm x12 (Zaw (Zat x11 q) cc 0) bb:Nat):Int))),(47, .v (.int .u64 ((Zbn x12 (Zaw (Zat x11 q) cc 0) bb:Nat):Int)))] [] ?_
  refine xqk 48 (.pointer (some ⟨b,o + k,none⟩)) (fun w R Q=>Zb0 (t:=107) (e:=141) (x:=(Operand.tmp 37)) (ix:=(Operand.tmp 38)) (len:=(ys.length + 1)) (cap:=c) (i:=k) (by omega)) ?_
  refine Zb4 (t:=141) (x:=(Operand.tmp 48)) (y:=(Operand.tmp 46)) b (o + k) (Zbm x12 (Zaw (Zat x11 q) cc 0) bb) (fun w=>((Own .u64 141 w b ((zs).set (o + k) (Zbm x12 (Zaw (Zat x11 q) cc 0) bb))∧Zae .u64 w A (ys))∧True)) (fun w Q=>Q.1.1) (by omega) (Or.inr rfl) (fun w w' Q hF hO=>⟨⟨hO,((Q.1.2).fr hF (fun a ha _=>hA a ha))⟩,trivial⟩) ?_
  refine xr 1 [eS1 0 (some ⟨b,o,none⟩) (ys.length + 1) c,eS1 1 A ys.length c2,(2, .v (.int .u64 ((q:Nat):Int))),(6, .v (.bool false)),(7, .v (.int .u64 ((ZaN x11 q + ZaB (Zat x11 q) cc 0:Nat):Int))),(8, .v (.int .u64 ((Zbn x12 (Zaw (Zat x11 q) cc 0) bb:Nat):Int))),eS1 14 A ys.length c2,(15, .v (.int .i64 ((ys.length:Nat):Int))),(16, .v (.int .i64 ((k:Nat):Int)))] [] ?_
  refine xe (ZaO (Zaa (Zab (xq 1 [(49, .v (.int .i64 (IntKind.i64.wrap (((k:Nat):Int) + 1))))] [] ?_))))
  rw [show IntKind.i64.wrap ((((k:Nat):Int) + 1))=((k + 1:Nat):Int) from by rw [IntKind.wrap_i64]; omega]
  refine xq 1 [(16, .v (.int .i64 ((k + 1:Nat):Int)))] [] ?_
  refine xe ?_
  refine SXq.weak [(0, .v (.slice (some ⟨b,o,none⟩) (ys.length + 1) c)),(1, .v (.slice A ys.length c2)),(2, .v (.int .u64 ((q:Nat):Int))),(6, .v (.bool false)),(7, .v (.int .u64 (((ZaN x11 q + ZaB (Zat x11 q) cc 0):Nat):Int))),(8, .v (.int .u64 (((Zbn x12 (Zaw (Zat x11 q) cc 0) bb):Nat):Int))),(14, .v (.slice A ys.length c2)),(15, .v (.int .i64 ((ys.length:Nat):Int))),(16, .v (.int .i64 (((k + 1):Nat):Int)))] [] (Ψ:=fun w=>(Own .u64 141 w b (((zs).set (o + k) (Zbm x12 (Zaw (Zat x11 q) cc 0) bb)))∧Zae .u64 w A (ys))) (Zax.of (by kernel_rfl)) (by kernel_rfl) (fun w Q=>⟨Q.1.1,Q.1.2⟩) ?_
  exact ZaF ((ys.length - (k + 1))) (by omega) ⟨(ZaN x11 q + ZaB (Zat x11 q) cc 0),(Zbn x12 (Zaw (Zat x11 q) cc 0) bb),(k + 1),((zs).set (o + k) (Zbm x12 (Zaw (Zat x11 q) cc 0) bb)),rfl,rfl,(HR.step (by omega) hx11 hx12 hy hq),by omega,rfl⟩
 ·have hb10':=of_decide_eq_false hb10
  have hzl:=HR.1
  have hbb:=HR.2.2.2.1
  obtain rfl:k=ys.length:=by omega
  refine ZaM (Zaj (Zaj (ZaV (Zaa (Zac (Zab (xq 6 [eS1 51 (some ⟨b,o,none⟩) (ys.length + 1) c,(53, .v (.int .i64 ((ys.length:Nat):Int))),eS1 54 (some ⟨b,o,none⟩) (ys.length + 1) c,(56, .v (.int .i64 ((ys.length:Nat):Int)))] [] ?_)))))))
  refine xqk 57 (.pointer (some ⟨b,o + ys.length,none⟩)) (fun w R Q=>Zb0 (t:=107) (e:=141) (x:=(Operand.tmp 54)) (ix:=(Operand.tmp 56)) (len:=(ys.length + 1)) (cap:=c) (i:=ys.length) (by omega)) ?_
  obtain ⟨x13,hx13⟩:∃ x,zs[o + ys.length]?.getD 0=x:=⟨_,rfl⟩
  refine xqk 58 (.int .u64 ((x13:Nat):Int)) (fun w R Q=>by rw [← hx13]; exact Zcr (t:=141) (x:=(Operand.tmp 57)) (Q.1) (j:=o + ys.length) (by omega)) ?_
  refine xq 2 [(59, .v (.int .u64 ((cc:Nat):Int))),(60, .v (.int .u64 ((bb:Nat):Int)))] [] ?_
  refine xqk 61 (.tuple #[.int .u64 ((Zbm x13 cc bb:Nat):Int), .int .u64 ((Zbn x13 cc bb:Nat):Int)]) (fun w R Q=>ZcP (args:=[Operand.tmp 58,Operand.tmp 59,Operand.tmp 60]) (ts:=#[141,141,141]) (Zcw x13 cc bb (by omega) w)) ?_
  refine xq 3 [(62, .v (.int .u64 ((Zbm x13 cc bb:Nat):Int))),(63, .v (.int .u64 ((Zbn x13 cc bb:Nat):Int)))] [] ?_
  refine xqk 64 (.pointer (some ⟨b,o + ys.length,none⟩)) (fun w R Q=>Zb0 (t:=107) (e:=141) (x:=(Operand.tmp 51)) (ix:=(Operand.tmp 53)) (len:=(ys.length + 1)) (cap:=c) (i:=ys.length) (by omega)) ?_
  refine Zb4 (t:=141) (x:=(Operand.tmp 64)) (y:=(Operand.tmp 62)) b (o + ys.length) (Zbm x13 cc bb) (fun w=>(Own .u64 141 w b ((zs).set (o + ys.length) (Zbm x13 cc bb))∧Zae .u64 w A (ys))) (fun w Q=>Q.1) (by omega) (Or.inr rfl) (fun w w' Q hF hO=>⟨hO,((Q.2).fr hF (fun a ha _=>hA a ha))⟩) ?_
  refine xq 1 [(8, .v (.int .u64 ((Zbn x13 cc bb:Nat):Int)))] [] ?_
  refine xe (Zaa (Zac (Zab (xq 3 [(6, .v (.bool ((((Zbn x13 cc bb:Nat):Int):Int) == 1)))] [] ?_))))
  refine xe (Zaa (Zag ?_))
  refine Zaf (v:=.bool ((((Zbn x13 cc bb:Nat):Int):Int) == 1)) (by kernel_rfl) (fun w' R Q=>?_)
  exact ⟨(_,_),rfl,HR.done (by omega) hx13,R,Q.1⟩
theorem Zlk (b c o:Nat) (zs0 ys:List Nat) (A:Option Addr) (c2:Nat) (w:World) (hO:Own .u64 141 w b zs0) (hY:Zae .u64 w A ys) (hA:∀ a,A=some a→a.block≠b) (ho:o + ys.length < zs0.length) (hl:zs0.length≤4294967296) (hd:Dig W64 zs0) (hy:Dig W64 ys) :
 Calls Tryz.prog 221 #[.slice (some ⟨b,o,none⟩) (ys.length + 1) c, .slice A ys.length c2] w (ZmA b w (Zhk zs0 ys o)):=by
 refine Zfm (fun i=>i=b) (Φ:=fun w=>(Own .u64 141 w b zs0∧Zae .u64 w A ys)) Tryz.func221 rfl (by kernel_rfl) (fun w' hf=>⟨hO.ext hf,hY.ext hf⟩) ?_
 refine Zac (Zab (xq 1 [(4, .v (.bool false))] [] ?_))
 refine xe (Zaa (Zac (Zab (xq 1 [(5, .v (.int .u64 0))] [] ?_))))
 refine xe (Zaa (Zac (Zac (Zab (xq 3 [eS1 8 A ys.length c2,(9, .v (.int .i64 ((ys.length:Nat):Int))),(10, .v (.int .i64 0))] [] ?_)))))
 refine xe (Zaa (Zar ?_))
 refine SXc.weak [(0, .v (.slice (some ⟨b,o,none⟩) (ys.length + 1) c)),(1, .v (.slice A ys.length c2)),(4, .v (.bool false)),(5, .v (.int .u64 ((0:Nat):Int))),(8, .v (.slice A ys.length c2)),(9, .v (.int .i64 ((ys.length:Nat):Int))),(10, .v (.int .i64 ((0:Nat):Int)))] [] (Ψ:=fun w=>(Own .u64 141 w b (zs0)∧Zae .u64 w A (ys))) (Zax.of (by kernel_rfl)) (by kernel_rfl) (fun w Q=>⟨Q.1,Q.2⟩) ?_
 refine ZaR (fun nn ss ff=>∃ (cc k:Nat) (zs:List Nat),ss=ofL [(0, .v (.slice (some ⟨b,o,none⟩) (ys.length + 1) c)),(1, .v (.slice A ys.length c2)),(4, .v (.bool false)),(5, .v (.int .u64 ((cc:Nat):Int))),(8, .v (.slice A ys.length c2)),(9, .v (.int .i64 ((ys.length:Nat):Int))),(10, .v (.int .i64 ((k:Nat):Int)))] []∧ff=(fun w=>(Own .u64 141 w b (zs)∧Zae .u64 w A (ys)))∧(AbR zs0 ys o k zs cc)∧(k≤ys.length)∧nn=(ys.length - k)) ((ys.length - 0)) ⟨0,0,zs0,rfl,rfl,AbR.start ys o hd,by omega,rfl⟩ ?_
 rintro nn ss ff ⟨cc,k,zs,rfl,rfl,HR,hk,rfl⟩
 refine Zac (Zab (xq 1 [(11, .v (.bool (decide (((k:Nat):Int) < ((ys.length:Nat):Int)))))] [] ?_))
 refine xe (Zaa (Zac ?_))
 refine Zap ((decide (((k:Nat):Int) < ((ys.length:Nat):Int)))) (by kernel_rfl) (fun hb10=>?_) (fun hb10=>?_)
 ·have hb10':=of_decide_eq_true hb10
  have hzl:=HR.1
  have hcc:=HR.2.2.1
  refine Zal (Zaa (Zac (Zar (Zac (Zab (xq 1 [(12, .v (.int .i64 ((k:Nat):Int)))] [] ?_))))))
  refine xqk 13 (atA A k) (fun w R Q=>ZaS (t:=107) (e:=141) (x:=(Operand.tmp 8)) (ix:=(Operand.tmp 10)) (len:=ys.length) (cap:=c2) (i:=k) ((Q.2).ne (j:=k) (by omega)) (by omega)) ?_
  obtain ⟨x11,hx11⟩:∃ x,ys[k]?.getD 0=x:=⟨_,rfl⟩
  refine xqk 14 (.int .u64 ((x11:Nat):Int)) (fun w R Q=>by rw [← hx11]; exact Zbb (t:=141) (x:=(Operand.tmp 13)) (Q.2) (j:=k) (by omega)) ?_
  refine xq 2 [(6, .v (.int .i64 ((k:Nat):Int))),(7, .v (.int .u64 ((x11:Nat):Int)))] [] ?_
  refine xe (Zaa (Zab (xq 4 [eS1 16 (some ⟨b,o,none⟩) (ys.length + 1) c,(17, .v (.int .i64 ((k:Nat):Int))),eS1 18 (some ⟨b,o,none⟩) (ys.length + 1) c,(19, .v (.int .i64 ((k:Nat):Int)))] [] ?_)))
  refine xqk 20 (.pointer (some ⟨b,o + k,none⟩)) (fun w R Q=>Zb0 (t:=107) (e:=141) (x:=(Operand.tmp 18)) (ix:=(Operand.tmp 19)) (len:=(ys.length + 1)) (cap:=c) (i:=k) (by omega)) ?_
  obtain ⟨x12,hx12⟩:∃ x,zs[o + k]?.getD 0=x:=⟨_,rfl⟩
  refine xqk 21 (.int .u64 ((x12:Nat):Int)) (fun w R Q=>by rw [← hx12]; exact Zcr (t:=141) (x:=(Operand.tmp 20)) (Q.1) (j:=o + k) (by omega)) ?_
  refine xq 2 [(22, .v (.int .u64 ((x11:Nat):Int))),(23, .v (.int .u64 ((cc:Nat):Int)))] [] ?_
  refine xqk 24 (.tuple #[.int .u64 ((Zaw x12 x11 cc:Nat):Int), .int .u64 ((ZaB x12 x11 cc:Nat):Int)]) (fun w R Q=>ZcP (args:=[Operand.tmp 21,Operand.tmp 22,Operand.tmp 23]) (ts:=#[141,141,141]) (Zcv x12 x11 cc (by omega) w)) ?_
  refine xq 3 [(25, .v (.int .u64 ((Zaw x12 x11 cc:Nat):Int))),(26, .v (.int .u64 ((ZaB x12 x11 cc:Nat):Int)))] [] ?_
  refine xqk 27 (.pointer (some ⟨b,o + k,none⟩)) (fun w R Q=>Zb0 (t:=107) (e:=141) (x:=(Operand.tmp 16)) (ix:=(Operand.tmp 17)) (len:=(ys.length + 1)) (cap:=c) (i:=k) (by omega)) ?_
  refine Zb4 (t:=141) (x:=(Operand.tmp 27)) (y:=(Operand.tmp 25)) b (o + k) (Zaw x12 x11 cc) (fun w=>(Own .u64 141 w b ((zs).set (o + k) (Zaw x12 x11 cc))∧Zae .u64 w A (ys))) (fun w Q=>Q.1) (by omega) (Or.inr rfl) (fun w w' Q hF hO=>⟨hO,((Q.2).fr hF (fun a ha _=>hA a ha))⟩) ?_
  refine xq 1 [(5, .v (.int .u64 ((ZaB x12 x11 cc:Nat):Int)))] [] ?_
  refine xe (ZaO (Zaa (Zab (xq 1 [(28, .v (.int .i64 (IntKind.i64.wrap (((k:Nat):Int) + 1))))] [] ?_))))
  rw [show IntKind.i64.wrap ((((k:Nat):Int) + 1))=((k + 1:Nat):Int) from by rw [IntKind.wrap_i64]; omega]
  refine xq 1 [(10, .v (.int .i64 ((k + 1:Nat):Int)))] [] ?_
  refine xe ?_
  refine SXq.weak [(0, .v (.slice (some ⟨b,o,none⟩) (ys.length + 1) c)),(1, .v (.slice A ys.length c2)),(4, .v (.bool false)),(5, .v (.int .u64 (((ZaB x12 x11 cc):Nat):Int))),(8, .v (.slice A ys.length c2)),(9, .v (.int .i64 ((ys.length:Nat):Int))),(10, .v (.int .i64 (((k + 1):Nat):Int)))] [] (Ψ:=fun w=>(Own .u64 141 w b (((zs).set (o + k) (Zaw x12 x11 cc)))∧Zae .u64 w A (ys))) (Zax.of (by kernel_rfl)) (by kernel_rfl) (fun w Q=>⟨Q.1,Q.2⟩) ?_
  exact ZaF ((ys.length - (k + 1))) (by omega) ⟨(ZaB x12 x11 cc),(k + 1),((zs).set (o + k) (Zaw x12 x11 cc)),rfl,rfl,(HR.step (by omega) hx11 hx12 hy),by omega,rfl⟩
 ·have hb10':=of_decide_eq_false hb10
  have hzl:=HR.1
  have hcc:=HR.2.2.1
  obtain rfl:k=ys.length:=by omega
  refine ZaM (Zaj (Zaj (ZaV (Zaa (Zac (Zab (xq 6 [eS1 30 (some ⟨b,o,none⟩) (ys.length + 1) c,(32, .v (.int .i64 ((ys.length:Nat):Int))),eS1 33 (some ⟨b,o,none⟩) (ys.length + 1) c,(35, .v (.int .i64 ((ys.length:Nat):Int)))] [] ?_)))))))
  refine xqk 36 (.pointer (some ⟨b,o + ys.length,none⟩)) (fun w R Q=>Zb0 (t:=107) (e:=141) (x:=(Operand.tmp 33)) (ix:=(Operand.tmp 35)) (len:=(ys.length + 1)) (cap:=c) (i:=ys.length) (by omega)) ?_
  obtain ⟨x13,hx13⟩:∃ x,zs[o + ys.length]?.getD 0=x:=⟨_,rfl⟩
  refine xqk 37 (.int .u64 ((x13:Nat):Int)) (fun w R Q=>by rw [← hx13]; exact Zcr (t:=141) (x:=(Operand.tmp 36)) (Q.1) (j:=o + ys.length) (by omega)) ?_
  refine xq 1 [(38, .v (.int .u64 ((cc:Nat):Int)))] [] ?_
  refine xqk 39 (.tuple #[.int .u64 ((Zaw x13 0 cc:Nat):Int), .int .u64 ((ZaB x13 0 cc:Nat):Int)]) (fun w R Q=>ZcP (args:=[Operand.tmp 37,Operand.const (Value.int IntKind.u64 0),Operand.tmp 38]) (ts:=#[141,141,141]) (Zcv x13 0 cc (by omega) w)) ?_
  refine xq 3 [(40, .v (.int .u64 ((Zaw x13 0 cc:Nat):Int))),(41, .v (.int .u64 ((ZaB x13 0 cc:Nat):Int)))] [] ?_
  refine xqk 42 (.pointer (some ⟨b,o + ys.length,none⟩)) (fun w R Q=>Zb0 (t:=107) (e:=141) (x:=(Operand.tmp 30)) (ix:=(Operand.tmp 32)) (len:=(ys.length + 1)) (cap:=c) (i:=ys.length) (by omega)) ?_
  refine Zb4 (t:=141) (x:=(Operand.tmp 42)) (y:=(Operand.tmp 40)) b (o + ys.length) (Zaw x13 0 cc) (fun w=>(Own .u64 141 w b ((zs).set (o + ys.length) (Zaw x13 0 cc))∧Zae .u64 w A (ys))) (fun w Q=>Q.1) (by omega) (Or.inr rfl) (fun w w' Q hF hO=>⟨hO,((Q.2).fr hF (fun a ha _=>hA a ha))⟩) ?_
  refine xq 1 [(5, .v (.int .u64 ((ZaB x13 0 cc:Nat):Int)))] [] ?_
  refine xe (Zaa (Zac (Zab (xq 3 [(4, .v (.bool ((((ZaB x13 0 cc:Nat):Int):Int) == 1)))] [] ?_))))
  refine xe (Zaa (Zag ?_))
  refine Zaf (v:=.bool ((((ZaB x13 0 cc:Nat):Int):Int) == 1)) (by kernel_rfl) (fun w' R Q=>?_)
  exact ⟨(_,_),rfl,HR.done (by omega) hx13,R,Q.1⟩
end Go.Proofs.YtenchljfmfgeoaaGreatDoor

namespace Go.Proofs.YtenchljfmfgeoaaGreatDoor
open Go.RowKit
noncomputable def win (o n:Nat) (zs:List Nat):Nat:=val W64 ((zs.drop o).take (n + 1))
theorem Zed {o n:Nat} {zs:List Nat} (h:o≤zs.length):val W64 (zs.take (o + n + 1))=val W64 (zs.take o) + W64 ^ o * win o n zs:=by
 unfold win
 rw [show o + n + 1=o + (n + 1) by omega,List.take_add,ZbP,List.length_take,Nat.min_eq_left h]
theorem ZoI {o n:Nat} {zs:List Nat} (hd:Dig W64 zs):win o n zs < W64 ^ (n + 1):=by
 have:=Za1 ((hd.drop o).take (n + 1))
 refine Nat.lt_of_lt_of_le this (Nat.pow_le_pow_right Zah (by rw [List.length_take]; exact Nat.min_le_left _ _))
def WinR (o n:Nat) (zs0 zs:List Nat):Prop:=zs.length=zs0.length∧Dig W64 zs∧zs.take o=zs0.take o∧zs.drop (o + n + 1)=zs0.drop (o + n + 1)
theorem WinR.start {o n:Nat} {zs0:List Nat} (h:Dig W64 zs0):WinR o n zs0 zs0:=⟨rfl,h,rfl,rfl⟩
theorem ZiZ {o a b c d x:Nat} (h:x + W64 ^ o * a + W64 ^ o * b=x + W64 ^ o * c + W64 ^ o * d):a + b=c + d:=by
 have h2:W64 ^ o * (a + b)=W64 ^ o * (c + d):=by rw [Nat.mul_add,Nat.mul_add]; omega
 exact Nat.eq_of_mul_eq_mul_left (Nat.pow_pos Zah) h2
theorem Zhj.win {zs0 zs1 ys zs:List Nat} {q o b:Nat} (h:Zhj zs1 ys q o zs b) (ho:o≤zs0.length) (k:WinR o ys.length zs0 zs1):WinR o ys.length zs0 zs∧b≤1∧win o ys.length zs + q * val W64 ys=win o ys.length zs1 + W64 ^ (ys.length + 1) * b:=by
 obtain ⟨h1,h2,h3,h4,h5,h6⟩:=h
 obtain ⟨k1,k2,k3,k4⟩:=k
 refine ⟨⟨h1.trans k1,h2,h4.trans k3,h5.trans k4⟩,h3,?_⟩
 rw [Zed (by omega),Zed (by omega),h4,show o + ys.length + 1=o + (ys.length + 1) by omega,Nat.pow_add,Nat.mul_assoc (W64 ^ o)] at h6
 exact ZiZ h6
theorem Zhk.win {zs0 zs1 ys zs:List Nat} {o c:Nat} (h:Zhk zs1 ys o zs c) (ho:o≤zs0.length) (k:WinR o ys.length zs0 zs1):WinR o ys.length zs0 zs∧c≤1∧win o ys.length zs + W64 ^ (ys.length + 1) * c=win o ys.length zs1 + val W64 ys:=by
 obtain ⟨h1,h2,h3,h4,h5,h6⟩:=h
 obtain ⟨k1,k2,k3,k4⟩:=k
 refine ⟨⟨h1.trans k1,h2,h4.trans k3,h5.trans k4⟩,h3,?_⟩
 rw [Zed (by omega),Zed (by omega),h4,show o + ys.length + 1=o + (ys.length + 1) by omega,Nat.pow_add,Nat.mul_assoc (W64 ^ o)] at h6
 exact ZiZ h6
theorem Zry {o n:Nat} {zs:List Nat} {u0 u1 u2:Nat} (hn:2≤n) (hl:o + n < zs.length) (h0:zs[o + n]?.getD 0=u0) (h1:zs[o + (n - 1)]?.getD 0=u1) (h2:zs[o + (n - 2)]?.getD 0=u2) (hd:Dig W64 zs) :
 ∃ l,l < W64 ^ (n - 2)∧win o n zs=l + W64 ^ (n - 2) * (u2 + W64 * (u1 + W64 * u0)):=by
 obtain ⟨m,rfl⟩:∃ m,n=m + 2:=⟨n - 2,by omega⟩
 refine ⟨val W64 ((zs.drop o).take m),?_,?_⟩
 ·have:=Za1 ((hd.drop o).take m)
  rw [List.length_take,List.length_drop,Nat.min_eq_left (by omega)] at this
  exact this
 ·unfold win
  simp only [show m + 2 - 1=m + 1 by omega,show m + 2 - 2=m by omega] at h1 h2 ⊢
  have g:∀ j,(zs.drop o)[j]?.getD 0=zs[o + j]?.getD 0:=fun j=>by rw [List.getElem?_drop]
  rw [Zbe (m + 2),Zbe (m + 1),Zbe m,g,g,g,h0,h1,h2]
  simp only [Nat.pow_succ,Nat.mul_add,Nat.mul_assoc,Nat.add_assoc]
theorem Zrz {n:Nat} {ys:List Nat} {t v2:Nat} (hn:2≤n) (hl:ys.length=n) (h0:ys[n - 1]?.getD 0=t) (h1:ys[n - 2]?.getD 0=v2):∃ l,val W64 ys=l + W64 ^ (n - 2) * (v2 + W64 * t):=by
 obtain ⟨m,rfl⟩:∃ m,n=m + 2:=⟨n - 2,by omega⟩
 refine ⟨val W64 (ys.take m),?_⟩
 simp only [show m + 2 - 1=m + 1 by omega,show m + 2 - 2=m by omega] at h0 h1 ⊢
 have:=Zbe (B:=W64) (xs:=ys) (m + 1)
 rw [List.take_of_length_le (by omega),Zbe m,h0,h1,Nat.pow_succ] at this
 rw [this]
 simp only [Nat.mul_add,Nat.mul_assoc,Nat.add_assoc]
theorem Zp2 {B l U V vl u0 u1 u2 v2 t:Nat} (hl:l < B) (hU:U=l + B * (u2 + W64 * (u1 + W64 * u0))) (hV:V=vl + B * (v2 + W64 * t)) (h2:u2 < W64) (h0:0 < t):U / V≤divQ u0 u1 t:=by
 unfold divQ
 rw [Nat.le_div_iff_mul_le h0]
 have h3:=Nat.div_mul_le_self U V
 generalize U / V=q at *
 have h4:q * (B * (W64 * t))≤q * V:=Nat.mul_le_mul_left _ (by rw [hV,Nat.mul_add]; omega)
 have h5:B * (q * (W64 * t)) < B * (u2 + W64 * (u1 + W64 * u0) + 1):=by
  rw [Nat.mul_left_comm,Nat.mul_add B (_ + _) 1]; omega
 have h6:=Nat.lt_of_mul_lt_mul_left h5
 have h7:W64 * (q * t) < W64 * (u1 + W64 * u0 + 1):=by
  rw [Nat.mul_left_comm,Nat.mul_add W64 (_ + _) 1]; omega
 have h8:=Nat.lt_of_mul_lt_mul_left h7
 rw [Nat.mul_comm u0]; omega
theorem Zi0 {B l U V vl u0 u1 u2 v2 t g r:Nat} (hl:l < B) (hU:U=l + B * (u2 + W64 * (u1 + W64 * u0))) (hV:V=vl + B * (v2 + W64 * t)) (hr:r + g * t=u0 * W64 + u1) (h:r * W64 + u2 < g * v2) (hVp:0 < V):U / V + 1≤g:=by
 rw [Nat.add_one_le_iff,Nat.div_lt_iff_lt_mul hVp]
 have h1:u2 + W64 * (u1 + W64 * u0) + 1≤g * (v2 + W64 * t):=by
  have e:W64 * (r + g * t)=W64 * (u1 + W64 * u0):=by rw [hr,Nat.add_comm,Nat.mul_comm u0]
  rw [Nat.mul_add g,Nat.mul_left_comm g]
  rw [Nat.mul_add W64 r] at e
  rw [Nat.mul_comm r] at h
  omega
 have h2:B * (u2 + W64 * (u1 + W64 * u0) + 1)≤g * V:=by
  refine Nat.le_trans (Nat.mul_le_mul_left B h1) ?_
  rw [Nat.mul_left_comm,hV]
  exact Nat.mul_le_mul_left _ (by omega)
 rw [Nat.mul_add B (_ + _) 1] at h2
 omega
theorem ZoJ {U V:Nat} (h:U < W64 * V):U / V≤W64 - 1:=by
 have hV:0 < V:=Nat.pos_of_ne_zero (fun e=>by subst e; omega)
 have:=(Nat.div_lt_iff_lt_mul hV).2 h
 omega
theorem ZmB {hi lo r u g v:Nat} (h:lo + W64 * hi=g * v) (h1:¬ hi < r) (h2:hi=r→¬ lo≤u) (hu:u < W64):r * W64 + u < g * v:=by
 rw [← h,Nat.mul_comm r]
 rcases Nat.lt_trichotomy hi r with h3 | h3 | h3
 ·exact absurd h3 h1
 ·have:=h2 h3; subst h3; omega
 ·have:=Nat.mul_le_mul_left W64 h3
  rw [Nat.mul_succ] at this
  omega
def CorR (U V P:Nat) (g b wn:Nat):Prop:=b≤1∧wn < P∧U / V≤g∧wn + g * V=U + P * b
theorem CorR.pos {U V P g b wn:Nat} (h:CorR U V P g b wn) (hb:b=1) (hV:0 < V):U / V + 1≤g:=by
 obtain ⟨_,h2,_,h4⟩:=h
 subst hb
 rw [Nat.add_one_le_iff,Nat.div_lt_iff_lt_mul hV]
 omega
theorem CorR.step {U V P g b wn wn' c:Nat} (h:CorR U V P g b wn) (hb:b=1) (hV:0 < V) (hc:c≤1) (hw:wn' < P) (he:wn' + P * c=wn + V):CorR U V P (g - 1) (1 - c) wn':=by
 have h0:=h.pos hb hV
 obtain ⟨h1,h2,h3,h4⟩:=h
 subst hb
 unfold CorR
 generalize U / V=q at *
 refine ⟨by omega,hw,by omega,?_⟩
 obtain ⟨k,rfl⟩:∃ k,g=k + 1:=⟨g - 1,by omega⟩
 rw [Nat.add_sub_cancel]
 rw [Nat.add_mul] at h4
 rcases (by omega:c=0∨c=1) with rfl | rfl
 ·simp at he h4 ⊢; omega
 ·simp at he h4 ⊢; omega
theorem CorR.done {U V P g wn:Nat} (h:CorR U V P g 0 wn) (hV:0 < V):g=U / V∧wn=U % V:=by
 obtain ⟨h1,h2,h3,h4⟩:=h
 rw [Nat.mul_zero,Nat.add_zero] at h4
 have h5:g≤U / V:=by rw [Nat.le_div_iff_mul_le hV]; omega
 have e:g=U / V:=by omega
 refine ⟨e,?_⟩
 have:=Nat.div_add_mod U V
 rw [← e,Nat.mul_comm] at this
 omega
theorem ZsR:(18446744073709551615:Int)=((W64 - 1:Nat):Int):=by rw [Zan]; rfl
theorem ZqR {a b:Nat} (h:¬ a + b < W64) (ha:a < W64) (hb:b < W64):IntKind.u64.wrap ((a:Int) + (b:Int))=((a + b - W64:Nat):Int):=by
 rw [IntKind.wrap_u64]
 rw [Zan] at *
 omega
theorem ZrA {c:Nat} (h:c≤1):(!(((c:Nat):Int) == 1))=(((1 - c:Nat):Int) == 1):=by
 rcases (by omega:c=0∨c=1) with rfl | rfl<;>rfl
def Zsl (b o:Nat) (zs0 ys:List Nat) (w:World) (e:Ending) (w':World):Prop:=∃ zs,e=.returned (.int .u64 ((win o ys.length zs0 / val W64 ys:Nat):Int))∧(WinR o ys.length zs0 zs∧win o ys.length zs=win o ys.length zs0 % val W64 ys)∧Fr (fun i=>i=b) w w'∧Own .u64 141 w' b zs
theorem Zi1 (b c o:Nat) (zs0 ys:List Nat) (A:Option Addr) (c2:Nat) (w:World) (hO:Own .u64 141 w b zs0) (hY:Zae .u64 w A ys) (hA:∀ a,A=some a→a.block≠b) (ho:o + ys.length < zs0.length) (hl:zs0.length≤4294967296) (hd:Dig W64 zs0) (hy:Dig W64 ys) (h2n:2≤ys.length) (hVp:0 < val W64 ys) (hUV:win o ys.length zs0 < W64 * val W64 ys) :
 Calls Tryz.prog 195 #[.slice (some ⟨b,o,none⟩) (ys.length + 1) c, .slice A ys.length c2] w (Zsl b o zs0 ys w):=by
 obtain ⟨u2,hu2⟩:∃ x,zs0[o + (ys.length - 2)]?.getD 0=x:=⟨_,rfl⟩
 refine Zfm (fun i=>i=b) (Φ:=fun w=>(Own .u64 141 w b zs0∧Zae .u64 w A ys)) Tryz.func195 rfl (by kernel_rfl) (fun w' hf=>⟨hO.ext hf,hY.ext hf⟩) ?_
 refine Zac (Zab (xq 1 [(4, .v (.int .u64 0))] [] ?_))
 refine xe (Zaa (Zac (Zab (xq 3 [(5, .v (.int .i64 ((ys.length:Nat):Int)))] [] ?_))))
 refine xe (Zaa (Zac (Zab (xq 3 [eS1 14 A ys.length c2,(16, .v (.int .i64 (IntKind.i64.wrap (((ys.length:Nat):Int) - 1))))] [] ?_))))
 rw [show IntKind.i64.wrap ((((ys.length:Nat):Int) - 1))=((ys.length - 1:Nat):Int) from by rw [IntKind.wrap_i64]; omega]
 refine xqk 17 (atA A (ys.length - 1)) (fun w R Q=>ZaS (t:=107) (e:=141) (x:=(Operand.tmp 14)) (ix:=(Operand.tmp 16)) (len:=ys.length) (cap:=c2) (i:=ys.length - 1) ((Q.2).ne (j:=ys.length - 1) (by omega)) (by omega)) ?_
 obtain ⟨x10,hx10⟩:∃ x,ys[ys.length - 1]?.getD 0=x:=⟨_,rfl⟩
 refine xqk 18 (.int .u64 ((x10:Nat):Int)) (fun w R Q=>by rw [← hx10]; exact Zbb (t:=141) (x:=(Operand.tmp 17)) (Q.2) (j:=ys.length - 1) (by omega)) ?_
 refine xq 1 [(6, .v (.int .u64 ((x10:Nat):Int)))] [] ?_
 refine xe (Zaa (Zac (Zab (xq 1 [(7, .v (.int .u64 18446744073709551615))] [] ?_))))
 rw [ZsR]
 refine xe (Zaa ?_)
 refine Zk7 (fun ss ff=>∃ (gg:Nat),ss=ofL [(0, .v (.slice (some ⟨b,o,none⟩) (ys.length + 1) c)),(1, .v (.slice A ys.length c2)),(7, .v (.int .u64 ((gg:Nat):Int)))] []∧ff=(fun w=>(Own .u64 141 w b (zs0)∧Zae .u64 w A (ys)))∧(win o ys.length zs0 / val W64 ys≤gg)∧(gg < W64)) ?_ ?_
 ·refine Zac (Zab (xq 2 [eS1 19 (some ⟨b,o,none⟩) (ys.length + 1) c,(20, .v (.int .i64 ((ys.length:Nat):Int)))] [] ?_))
  refine xqk 21 (.pointer (some ⟨b,o + ys.length,none⟩)) (fun w R Q=>Zb0 (t:=107) (e:=141) (x:=(Operand.tmp 19)) (ix:=(Operand.tmp 20)) (len:=(ys.length + 1)) (cap:=c) (i:=ys.length) (by omega)) ?_
  obtain ⟨x11,hx11⟩:∃ x,zs0[o + ys.length]?.getD 0=x:=⟨_,rfl⟩
  refine xqk 22 (.int .u64 ((x11:Nat):Int)) (fun w R Q=>by rw [← hx11]; exact Zcr (t:=141) (x:=(Operand.tmp 21)) (Q.1) (j:=o + ys.length) (by omega)) ?_
  refine xq 2 [(24, .v (.bool (decide (((x11:Nat):Int) < ((x10:Nat):Int)))))] [] ?_
  refine xe (Zaa ?_)
  refine Zap ((decide (((x11:Nat):Int) < ((x10:Nat):Int)))) (by kernel_rfl) (fun hb12=>?_) (fun hb12=>?_)
  ·have hb12':=of_decide_eq_true hb12
   refine Zac (Zab (xq 1 [(8, .v (.int .u64 0))] [] ?_))
   refine xe (Zaa (Zac ?_))
   refine Zif 16 [0,0,3,7,0,0,32,112,240,0,1023,2047,4095,4095,8191,32767] (by kernel_rfl) (by kernel_rfl) Zao ?_
   refine xqf 2 [eS1 26 (some ⟨b,o,none⟩) (ys.length + 1) c,(27, .v (.int .i64 ((ys.length:Nat):Int)))] [] ?_
   refine xqj 28 (.pointer (some ⟨b,o + ys.length,none⟩)) (fun w Q=>Zb0 (t:=107) (e:=141) (x:=(Operand.tmp 26)) (ix:=(Operand.tmp 27)) (len:=(ys.length + 1)) (cap:=c) (i:=ys.length) (by omega)) ?_
   obtain ⟨x13,hx13⟩:∃ x,zs0[o + ys.length]?.getD 0=x:=⟨_,rfl⟩
   refine xqj 29 (.int .u64 ((x13:Nat):Int)) (fun w Q=>by rw [← hx13]; exact Zcr (t:=141) (x:=(Operand.tmp 28)) (Q.1) (j:=o + ys.length) (by omega)) ?_
   obtain rfl:x11=x13:=by rw [← hx11,hx13]
   refine xqf 3 [eS1 30 (some ⟨b,o,none⟩) (ys.length + 1) c,(32, .v (.int .i64 (IntKind.i64.wrap (((ys.length:Nat):Int) - 1))))] [] ?_
   rw [show IntKind.i64.wrap ((((ys.length:Nat):Int) - 1))=((ys.length - 1:Nat):Int) from by rw [IntKind.wrap_i64]; omega]
   refine xqj 33 (.pointer (some ⟨b,o + (ys.length - 1),none⟩)) (fun w Q=>Zb0 (t:=107) (e:=141) (x:=(Operand.tmp 30)) (ix:=(Operand.tmp 32)) (len:=(ys.length + 1)) (cap:=c) (i:=ys.length - 1) (by omega)) ?_
   obtain ⟨x14,hx14⟩:∃ x,zs0[o + (ys.length - 1)]?.getD 0=x:=⟨_,rfl⟩
   refine xqj 34 (.int .u64 ((x14:Nat):Int)) (fun w Q=>by rw [← hx14]; exact Zcr (t:=141) (x:=(Operand.tmp 33)) (Q.1) (j:=o + (ys.length - 1)) (by omega)) ?_
   refine xqf 1 [(35, .v (.int .u64 ((x10:Nat):Int)))] [] ?_
   refine xqd 174 [.int .u64 ((x11:Nat):Int), .int .u64 ((x14:Nat):Int), .int .u64 ((x10:Nat):Int)] 36 (fun _:Unit=>.tuple #[.int .u64 ((divQ x11 x14 x10:Nat):Int), .int .u64 ((divR x11 x14 x10:Nat):Int)]) _ (fun w R Q=>(Zj2 x11 x14 x10 _ (by omega) (by rw [← hx10]; exact hy.getD Zah _) (by rw [← hx14]; exact hd.getD Zah _)).mono (fun _ _ h=>Zam h rfl)) (fun xx=>?_)
   refine xqf 5 [(7, .v (.int .u64 ((divQ x11 x14 x10:Nat):Int))),(8, .v (.int .u64 ((divR x11 x14 x10:Nat):Int)))] [] ?_
   refine xz (xe (Zaa (Zar ?_)))
   obtain ⟨lw,hlw,hU⟩:=Zry (o:=o) (n:=ys.length) (by omega) (by omega) hx11 hx14 hu2 hd
   obtain ⟨y2,hy2⟩:∃ x,ys[ys.length - 2]?.getD 0=x:=⟨_,rfl⟩
   obtain ⟨vl,hV⟩:=Zrz (ys:=ys) h2n rfl hx10 hy2
   refine SXc.weak [(0, .v (.slice (some ⟨b,o,none⟩) (ys.length + 1) c)),(1, .v (.slice A ys.length c2)),(4, .v (.int .u64 0)),(5, .v (.int .i64 ((ys.length:Nat):Int))),(6, .v (.int .u64 ((x10:Nat):Int))),(7, .v (.int .u64 (((divQ x11 x14 x10):Nat):Int))),(8, .v (.int .u64 (((divR x11 x14 x10):Nat):Int)))] [] (Ψ:=fun w=>(Own .u64 141 w b (zs0)∧Zae .u64 w A (ys))) (Zax.of (by kernel_rfl)) (by kernel_rfl) (fun w Q=>⟨Q.1.1,Q.1.2⟩) ?_
   have ht0:0 < x10:=by omega
   refine ZaR (fun nn ss ff=>∃ (gg rr:Nat),ss=ofL [(0, .v (.slice (some ⟨b,o,none⟩) (ys.length + 1) c)),(1, .v (.slice A ys.length c2)),(4, .v (.int .u64 0)),(5, .v (.int .i64 ((ys.length:Nat):Int))),(6, .v (.int .u64 ((x10:Nat):Int))),(7, .v (.int .u64 ((gg:Nat):Int))),(8, .v (.int .u64 ((rr:Nat):Int)))] []∧ff=(fun w=>(Own .u64 141 w b (zs0)∧Zae .u64 w A (ys)))∧(win o ys.length zs0 / val W64 ys≤gg)∧(gg < W64)∧(rr + gg * x10=x11 * W64 + x14)∧(rr < W64)∧nn=(1 + gg)) ((1 + (divQ x11 x14 x10))) ⟨(divQ x11 x14 x10),(divR x11 x14 x10),rfl,rfl,(Zp2 hlw hU hV (by rw [← hu2]; exact hd.getD Zah _) ht0),(Zji (by omega) (by rw [← hx14]; exact hd.getD Zah _)),(by rw [Nat.add_comm]; exact Zgb _ _ _),(Nat.lt_trans (ZfN _ _ ht0) (by rw [← hx10]; exact hy.getD Zah _)),rfl⟩ ?_
   rintro nn ss ff ⟨gg,rr,rfl,rfl,hq,hgW,hr,hrW,rfl⟩
   refine Zar (Zac (Zab (xq 4 [(40, .v (.int .u64 ((gg:Nat):Int))),eS1 41 A ys.length c2,(43, .v (.int .i64 (IntKind.i64.wrap (((ys.length:Nat):Int) - 2))))] [] ?_)))
   rw [show IntKind.i64.wrap ((((ys.length:Nat):Int) - 2))=((ys.length - 2:Nat):Int) from by rw [IntKind.wrap_i64]; omega]
   refine xqk 44 (atA A (ys.length - 2)) (fun w R Q=>ZaS (t:=107) (e:=141) (x:=(Operand.tmp 41)) (ix:=(Operand.tmp 43)) (len:=ys.length) (cap:=c2) (i:=ys.length - 2) ((Q.2).ne (j:=ys.length - 2) (by omega)) (by omega)) ?_
   obtain ⟨x15,hx15⟩:∃ x,ys[ys.length - 2]?.getD 0=x:=⟨_,rfl⟩
   refine xqk 45 (.int .u64 ((x15:Nat):Int)) (fun w R Q=>by rw [← hx15]; exact Zbb (t:=141) (x:=(Operand.tmp 44)) (Q.2) (j:=ys.length - 2) (by omega)) ?_
   obtain rfl:y2=x15:=by rw [← hy2,hx15]
   refine xqc 161 [.int .u64 ((gg:Nat):Int), .int .u64 ((y2:Nat):Int)] 46 (fun _:Unit=>.tuple #[.int .u64 ((ZaN gg y2:Nat):Int), .int .u64 ((Zat gg y2:Nat):Int)]) _ (fun w R Q=>(Zhf gg y2 _ hgW (by rw [← hy2]; exact hy.getD Zah _)).mono (fun _ _ h=>Zam h rfl)) (fun xx=>?_)
   refine xq 5 [(9, .v (.int .u64 ((ZaN gg y2:Nat):Int))),(10, .v (.int .u64 ((Zat gg y2:Nat):Int)))] [] ?_
   refine xe (Zaa (Zac (Zac (Zab (xq 4 [(52, .v (.bool (decide (((ZaN gg y2:Nat):Int) < ((rr:Nat):Int)))))] [] ?_)))))
   rcases bl2 ((decide (((ZaN gg y2:Nat):Int) < ((rr:Nat):Int)))) with hb16 | hb16
   ·rw [hb16]
    have hb16':=of_decide_eq_true hb16
    refine xq 13 [(65, .v (.bool true))] [] ?_
    refine xe (Zaa (xa (ZaM (Zaj ?_))))
    refine ZhF (by kernel_rfl) ?_
    refine Zaj (ZaV ?_)
    refine SXq.weak [(0, .v (.slice (some ⟨b,o,none⟩) (ys.length + 1) c)),(1, .v (.slice A ys.length c2)),(7, .v (.int .u64 ((gg:Nat):Int)))] [] (Ψ:=fun w=>(Own .u64 141 w b (zs0)∧Zae .u64 w A (ys))) (Zax.of (by kernel_rfl)) (by kernel_rfl) (fun w Q=>⟨Q.1.1,Q.1.2⟩) ?_
    exact Zdv ⟨gg,rfl,rfl,hq,hgW⟩
   ·rw [hb16]
    have hb16':=of_decide_eq_false hb16
    refine xq 4 [(56, .v (.bool ((((ZaN gg y2:Nat):Int):Int) == ((rr:Nat):Int))))] [] ?_
    rcases bl2 (((((ZaN gg y2:Nat):Int):Int) == ((rr:Nat):Int))) with hb17 | hb17
    ·rw [hb17]
     have hb17':=beq_iff_eq.1 hb17
     refine xq 4 [(57, .v (.int .u64 ((Zat gg y2:Nat):Int))),eS1 58 (some ⟨b,o,none⟩) (ys.length + 1) c,(60, .v (.int .i64 (IntKind.i64.wrap (((ys.length:Nat):Int) - 2))))] [] ?_
     rw [show IntKind.i64.wrap ((((ys.length:Nat):Int) - 2))=((ys.length - 2:Nat):Int) from by rw [IntKind.wrap_i64]; omega]
     refine xqk 61 (.pointer (some ⟨b,o + (ys.length - 2),none⟩)) (fun w R Q=>Zb0 (t:=107) (e:=141) (x:=(Operand.tmp 58)) (ix:=(Operand.tmp 60)) (len:=(ys.length + 1)) (cap:=c) (i:=ys.length - 2) (by omega)) ?_
     obtain ⟨x18,hx18⟩:∃ x,zs0[o + (ys.length - 2)]?.getD 0=x:=⟨_,rfl⟩
     refine xqk 62 (.int .u64 ((x18:Nat):Int)) (fun w R Q=>by rw [← hx18]; exact Zcr (t:=141) (x:=(Operand.tmp 61)) (Q.1.1) (j:=o + (ys.length - 2)) (by omega)) ?_
     obtain rfl:u2=x18:=by rw [← hu2,hx18]
     refine xq 3 [(65, .v (.bool (decide (((Zat gg y2:Nat):Int)≤((u2:Nat):Int)))))] [] ?_
     refine xe (Zaa ?_)
     refine Zap ((decide (((Zat gg y2:Nat):Int)≤((u2:Nat):Int)))) (by kernel_rfl) (fun hb19=>?_) (fun hb19=>?_)
     ·have hb19':=of_decide_eq_true hb19
      refine ZaM (Zaj ?_)
      refine ZhF (by kernel_rfl) ?_
      refine Zaj (ZaV ?_)
      refine SXq.weak [(0, .v (.slice (some ⟨b,o,none⟩) (ys.length + 1) c)),(1, .v (.slice A ys.length c2)),(7, .v (.int .u64 ((gg:Nat):Int)))] [] (Ψ:=fun w=>(Own .u64 141 w b (zs0)∧Zae .u64 w A (ys))) (Zax.of (by kernel_rfl)) (by kernel_rfl) (fun w Q=>⟨Q.1.1,Q.1.2⟩) ?_
      exact Zdv ⟨gg,rfl,rfl,hq,hgW⟩
     ·have hb19':=of_decide_eq_false hb19
      refine Zal (Zaa (Zac ?_))
      have hbr:rr * W64 + u2 < gg * y2:=ZmB (Zde gg y2) (by omega) (fun _=>by omega) (by rw [← hu2]; exact hd.getD Zah _)
      have hg1:=Zi0 hlw hU hV hr hbr hVp
      have hg0:1≤gg:=Nat.le_trans (Nat.le_add_left 1 _) hg1
      by_cases hov:rr + x10 < W64
      ·refine Zab (xq 2 [(67, .v (.int .u64 (IntKind.u64.wrap (((gg:Nat):Int) - 1))))] [] ?_)
       rw [show IntKind.u64.wrap ((((gg:Nat):Int) - 1))=((gg - 1:Nat):Int) from by rw [IntKind.wrap_u64]; have:=Zan; omega]
       refine xq 1 [(7, .v (.int .u64 ((gg - 1:Nat):Int)))] [] ?_
       refine xe (Zaa (Zac (Zab (xq 3 [(70, .v (.int .u64 (IntKind.u64.wrap (((rr:Nat):Int) + ((x10:Nat):Int)))))] [] ?_))))
       rw [ZiY (a:=rr) (b:=x10) hov]
       refine xq 1 [(8, .v (.int .u64 ((rr + x10:Nat):Int)))] [] ?_
       refine xe (Zaa (Zac (Zab (xq 3 [(73, .v (.bool (decide (((rr + x10:Nat):Int) < ((x10:Nat):Int)))))] [] ?_))))
       refine xe (Zaa ?_)
       refine Zap ((decide (((rr + x10:Nat):Int) < ((x10:Nat):Int)))) (by kernel_rfl) (fun hb20=>?_) (fun hb20=>?_)
       ·have hb20':=of_decide_eq_true hb20
        exfalso; omega
       ·have hb20':=of_decide_eq_false hb20
        refine Zal (ZaO ?_)
        refine SXq.weak [(0, .v (.slice (some ⟨b,o,none⟩) (ys.length + 1) c)),(1, .v (.slice A ys.length c2)),(4, .v (.int .u64 0)),(5, .v (.int .i64 ((ys.length:Nat):Int))),(6, .v (.int .u64 ((x10:Nat):Int))),(7, .v (.int .u64 (((gg - 1):Nat):Int))),(8, .v (.int .u64 (((rr + x10):Nat):Int)))] [] (Ψ:=fun w=>(Own .u64 141 w b (zs0)∧Zae .u64 w A (ys))) (Zax.of (by kernel_rfl)) (by kernel_rfl) (fun w Q=>⟨Q.1.1,Q.1.2⟩) ?_
        exact ZaF ((1 + (gg - 1))) (by omega) ⟨(gg - 1),(rr + x10),rfl,rfl,(Nat.le_sub_of_add_le hg1),(by omega),(by obtain ⟨m,rfl⟩:∃ m,gg=m + 1:=⟨gg - 1,by omega⟩; rw [Nat.add_sub_cancel]; rw [Nat.add_mul] at hr; omega),hov,rfl⟩
      ·refine Zab (xq 2 [(67, .v (.int .u64 (IntKind.u64.wrap (((gg:Nat):Int) - 1))))] [] ?_)
       rw [show IntKind.u64.wrap ((((gg:Nat):Int) - 1))=((gg - 1:Nat):Int) from by rw [IntKind.wrap_u64]; have:=Zan; omega]
       refine xq 1 [(7, .v (.int .u64 ((gg - 1:Nat):Int)))] [] ?_
       refine xe (Zaa (Zac (Zab (xq 3 [(70, .v (.int .u64 (IntKind.u64.wrap (((rr:Nat):Int) + ((x10:Nat):Int)))))] [] ?_))))
       rw [ZqR (a:=rr) (b:=x10) hov (by omega) (by rw [← hx10]; exact hy.getD Zah _)]
       refine xq 1 [(8, .v (.int .u64 ((rr + x10 - W64:Nat):Int)))] [] ?_
       refine xe (Zaa (Zac (Zab (xq 3 [(73, .v (.bool (decide (((rr + x10 - W64:Nat):Int) < ((x10:Nat):Int)))))] [] ?_))))
       refine xe (Zaa ?_)
       refine Zap ((decide (((rr + x10 - W64:Nat):Int) < ((x10:Nat):Int)))) (by kernel_rfl) (fun hb21=>?_) (fun hb21=>?_)
       ·have hb21':=of_decide_eq_true hb21
        refine ZaM ?_
        refine ZhF (by kernel_rfl) ?_
        refine Zaj (ZaV ?_)
        refine SXq.weak [(0, .v (.slice (some ⟨b,o,none⟩) (ys.length + 1) c)),(1, .v (.slice A ys.length c2)),(7, .v (.int .u64 (((gg - 1):Nat):Int)))] [] (Ψ:=fun w=>(Own .u64 141 w b (zs0)∧Zae .u64 w A (ys))) (Zax.of (by kernel_rfl)) (by kernel_rfl) (fun w Q=>⟨Q.1.1,Q.1.2⟩) ?_
        exact Zdv ⟨(gg - 1),rfl,rfl,(Nat.le_sub_of_add_le hg1),(by omega)⟩
       ·have hb21':=of_decide_eq_false hb21
        exfalso; omega
    ·rw [hb17]
     have hb17':=Zbh hb17
     refine xq 9 [(65, .v (.bool false))] [] ?_
     refine xe (Zaa (xb (Zal (Zaa (Zac ?_)))))
     have hbr:rr * W64 + u2 < gg * y2:=ZmB (Zde gg y2) (by omega) (fun e=>absurd (show (ZaN gg y2:Int)=rr by rw [e]) hb17') (by rw [← hu2]; exact hd.getD Zah _)
     have hg1:=Zi0 hlw hU hV hr hbr hVp
     have hg0:1≤gg:=Nat.le_trans (Nat.le_add_left 1 _) hg1
     by_cases hov:rr + x10 < W64
     ·refine Zab (xq 2 [(67, .v (.int .u64 (IntKind.u64.wrap (((gg:Nat):Int) - 1))))] [] ?_)
      rw [show IntKind.u64.wrap ((((gg:Nat):Int) - 1))=((gg - 1:Nat):Int) from by rw [IntKind.wrap_u64]; have:=Zan; omega]
      refine xq 1 [(7, .v (.int .u64 ((gg - 1:Nat):Int)))] [] ?_
      refine xe (Zaa (Zac (Zab (xq 3 [(70, .v (.int .u64 (IntKind.u64.wrap (((rr:Nat):Int) + ((x10:Nat):Int)))))] [] ?_))))
      rw [ZiY (a:=rr) (b:=x10) hov]
      refine xq 1 [(8, .v (.int .u64 ((rr + x10:Nat):Int)))] [] ?_
      refine xe (Zaa (Zac (Zab (xq 3 [(73, .v (.bool (decide (((rr + x10:Nat):Int) < ((x10:Nat):Int)))))] [] ?_))))
      refine xe (Zaa ?_)
      refine Zap ((decide (((rr + x10:Nat):Int) < ((x10:Nat):Int)))) (by kernel_rfl) (fun hb22=>?_) (fun hb22=>?_)
      ·have hb22':=of_decide_eq_true hb22
       exfalso; omega
      ·have hb22':=of_decide_eq_false hb22
       refine Zal (ZaO ?_)
       refine SXq.weak [(0, .v (.slice (some ⟨b,o,none⟩) (ys.length + 1) c)),(1, .v (.slice A ys.length c2)),(4, .v (.int .u64 0)),(5, .v (.int .i64 ((ys.length:Nat):Int))),(6, .v (.int .u64 ((x10:Nat):Int))),(7, .v (.int .u64 (((gg - 1):Nat):Int))),(8, .v (.int .u64 (((rr + x10):Nat):Int)))] [] (Ψ:=fun w=>(Own .u64 141 w b (zs0)∧Zae .u64 w A (ys))) (Zax.of (by kernel_rfl)) (by kernel_rfl) (fun w Q=>⟨Q.1.1,Q.1.2⟩) ?_
       exact ZaF ((1 + (gg - 1))) (by omega) ⟨(gg - 1),(rr + x10),rfl,rfl,(Nat.le_sub_of_add_le hg1),(by omega),(by obtain ⟨m,rfl⟩:∃ m,gg=m + 1:=⟨gg - 1,by omega⟩; rw [Nat.add_sub_cancel]; rw [Nat.add_mul] at hr; omega),hov,rfl⟩
     ·refine Zab (xq 2 [(67, .v (.int .u64 (IntKind.u64.wrap (((gg:Nat):Int) - 1))))] [] ?_)
      rw [show IntKind.u64.wrap ((((gg:Nat):Int) - 1))=((gg - 1:Nat):Int) from by rw [IntKind.wrap_u64]; have:=Zan; omega]
      refine xq 1 [(7, .v (.int .u64 ((gg - 1:Nat):Int)))] [] ?_
      refine xe (Zaa (Zac (Zab (xq 3 [(70, .v (.int .u64 (IntKind.u64.wrap (((rr:Nat):Int) + ((x10:Nat):Int)))))] [] ?_))))
      rw [ZqR (a:=rr) (b:=x10) hov (by omega) (by rw [← hx10]; exact hy.getD Zah _)]
      refine xq 1 [(8, .v (.int .u64 ((rr + x10 - W64:Nat):Int)))] [] ?_
      refine xe (Zaa (Zac (Zab (xq 3 [(73, .v (.bool (decide (((rr + x10 - W64:Nat):Int) < ((x10:Nat):Int)))))] [] ?_))))
      refine xe (Zaa ?_)
      refine Zap ((decide (((rr + x10 - W64:Nat):Int) < ((x10:Nat):Int)))) (by kernel_rfl) (fun hb23=>?_) (fun hb23=>?_)
      ·have hb23':=of_decide_eq_true hb23
       refine ZaM ?_
       refine ZhF (by kernel_rfl) ?_
       refine Zaj (ZaV ?_)
       refine SXq.weak [(0, .v (.slice (some ⟨b,o,none⟩) (ys.length + 1) c)),(1, .v (.slice A ys.length c2)),(7, .v (.int .u64 (((gg - 1):Nat):Int)))] [] (Ψ:=fun w=>(Own .u64 141 w b (zs0)∧Zae .u64 w A (ys))) (Zax.of (by kernel_rfl)) (by kernel_rfl) (fun w Q=>⟨Q.1.1,Q.1.2⟩) ?_
       exact Zdv ⟨(gg - 1),rfl,rfl,(Nat.le_sub_of_add_le hg1),(by omega)⟩
      ·have hb23':=of_decide_eq_false hb23
       exfalso; omega
  ·have hb12':=of_decide_eq_false hb12
   refine Zal ?_
   refine SXq.weak [(0, .v (.slice (some ⟨b,o,none⟩) (ys.length + 1) c)),(1, .v (.slice A ys.length c2)),(7, .v (.int .u64 (((W64 - 1):Nat):Int)))] [] (Ψ:=fun w=>(Own .u64 141 w b (zs0)∧Zae .u64 w A (ys))) (Zax.of (by kernel_rfl)) (by kernel_rfl) (fun w Q=>⟨Q.1,Q.2⟩) ?_
   exact Zdv ⟨(W64 - 1),rfl,rfl,ZoJ hUV,(by have:=Zah; omega)⟩
 ·rintro ss ff ⟨gg,rfl,rfl,hq,hgW⟩
  refine Zac (Zac (Zab (xq 3 [eS1 74 (some ⟨b,o,none⟩) (ys.length + 1) c,eS1 75 A ys.length c2,(76, .v (.int .u64 ((gg:Nat):Int)))] [] ?_)))
  refine Zgl (xs:=zs0) (α:=List Nat × Nat) 220 [.slice (some ⟨b,o,none⟩) (ys.length + 1) c, .slice A ys.length c2, .int .u64 ((gg:Nat):Int)] (d:=77) (fun x=>.bool (((x.2:Nat):Int) == 1)) (fun x=>Zhj zs0 ys gg o x.1 x.2) (fun x=>x.1) b (fun x w=>(Own .u64 141 w b (x.1)∧Zae .u64 w A (ys))) (fun w Q=>Q.1) (by omega) (Or.inr rfl) (fun w R Q=>Zlj b _ o _ ys A _ _ Q.1 Q.2 hA (by omega) hl hd hy _ hgW) (fun x w w' hp Q hF hO=>⟨hO,((Q.2).fr hF (fun a ha _=>hA a ha))⟩) (fun x hx24=>?_)
  obtain ⟨zs24,bb24⟩:=x
  dsimp only at hx24
  have hwn:=hx24.win (by omega) (WinR.start hd)
  refine xr 1 [eS1 0 (some ⟨b,o,none⟩) (ys.length + 1) c,eS1 1 A ys.length c2,(7, .v (.int .u64 ((gg:Nat):Int))),(11, .v (.bool (((bb24:Nat):Int) == 1)))] [] ?_
  refine xe (Zaa (Zar ?_))
  refine SXc.weak [(0, .v (.slice (some ⟨b,o,none⟩) (ys.length + 1) c)),(1, .v (.slice A ys.length c2)),(7, .v (.int .u64 ((gg:Nat):Int))),(11, .v (.bool (((bb24:Nat):Int) == 1)))] [] (Ψ:=fun w=>(Own .u64 141 w b (zs24)∧Zae .u64 w A (ys))) (Zax.of (by kernel_rfl)) (by kernel_rfl) (fun w Q=>⟨Q.1,Q.2⟩) ?_
  refine ZaR (fun nn ss ff=>∃ (gg bb:Nat) (zs:List Nat),ss=ofL [(0, .v (.slice (some ⟨b,o,none⟩) (ys.length + 1) c)),(1, .v (.slice A ys.length c2)),(7, .v (.int .u64 ((gg:Nat):Int))),(11, .v (.bool (((bb:Nat):Int) == 1)))] []∧ff=(fun w=>(Own .u64 141 w b (zs)∧Zae .u64 w A (ys)))∧(WinR o ys.length zs0 zs)∧(CorR (win o ys.length zs0) (val W64 ys) (W64 ^ (ys.length + 1)) gg bb (win o ys.length zs))∧(gg < W64)∧nn=(1 + gg)) ((1 + gg)) ⟨gg,bb24,zs24,rfl,rfl,hwn.1,⟨hwn.2.1,ZoI hwn.1.2.1,hq,hwn.2.2⟩,hgW,rfl⟩ ?_
  rintro nn ss ff ⟨gg,bb,zs,rfl,rfl,HW,HC,hgW,rfl⟩
  refine Zac (Zac (Zab (xq 1 [(78, .v (.bool (((bb:Nat):Int) == 1)))] [] ?_)))
  refine xe (Zaa ?_)
  refine Zap ((((bb:Nat):Int) == 1)) (by kernel_rfl) (fun hb25=>?_) (fun hb25=>?_)
  ·have hb25':=beq_iff_eq.1 hb25
   refine Zal (Zaa (Zac (Zar ?_)))
   have hg1:=HC.pos (by omega) hVp
   have hg0:1≤gg:=Nat.le_trans (Nat.le_add_left 1 _) hg1
   refine Zab (xq 2 [eS1 81 (some ⟨b,o,none⟩) (ys.length + 1) c,eS1 82 A ys.length c2] [] ?_)
   refine Zgl (xs:=zs) (α:=List Nat × Nat) 221 [.slice (some ⟨b,o,none⟩) (ys.length + 1) c, .slice A ys.length c2] (d:=83) (fun x=>.bool (((x.2:Nat):Int) == 1)) (fun x=>Zhk zs ys o x.1 x.2) (fun x=>x.1) b (fun x w=>(Own .u64 141 w b (x.1)∧Zae .u64 w A (ys))) (fun w Q=>Q.1) (by have:=HW.1; omega) (Or.inr rfl) (fun w R Q=>Zlk b _ o _ ys A _ _ Q.1 Q.2 hA (by rw [HW.1]; omega) (by rw [HW.1]; exact hl) HW.2.1 hy) (fun x w w' hp Q hF hO=>⟨hO,((Q.2).fr hF (fun a ha _=>hA a ha))⟩) (fun x hx26=>?_)
   obtain ⟨zs26,bb26⟩:=x
   dsimp only at hx26
   have hwn:=hx26.win (by omega) HW
   refine xr 1 [eS1 0 (some ⟨b,o,none⟩) (ys.length + 1) c,eS1 1 A ys.length c2,(7, .v (.int .u64 ((gg:Nat):Int))),(11, .v (.bool (((bb:Nat):Int) == 1))),(84, .v (.bool (!(((bb26:Nat):Int) == 1))))] [] ?_
   rw [ZrA (c:=bb26) hwn.2.1]
   refine xq 1 [(11, .v (.bool (((1 - bb26:Nat):Int) == 1)))] [] ?_
   refine xe (ZaO (Zaa (Zab (xq 2 [(80, .v (.int .u64 (IntKind.u64.wrap (((gg:Nat):Int) - 1))))] [] ?_))))
   rw [show IntKind.u64.wrap ((((gg:Nat):Int) - 1))=((gg - 1:Nat):Int) from by rw [IntKind.wrap_u64]; have:=Zan; omega]
   refine xq 1 [(7, .v (.int .u64 ((gg - 1:Nat):Int)))] [] ?_
   refine xe ?_
   refine SXq.weak [(0, .v (.slice (some ⟨b,o,none⟩) (ys.length + 1) c)),(1, .v (.slice A ys.length c2)),(7, .v (.int .u64 (((gg - 1):Nat):Int))),(11, .v (.bool ((((1 - bb26):Nat):Int) == 1)))] [] (Ψ:=fun w=>(Own .u64 141 w b (zs26)∧Zae .u64 w A (ys))) (Zax.of (by kernel_rfl)) (by kernel_rfl) (fun w Q=>⟨Q.1,Q.2⟩) ?_
   exact ZaF ((1 + (gg - 1))) (by omega) ⟨(gg - 1),(1 - bb26),zs26,rfl,rfl,hwn.1,(HC.step (by omega) hVp hwn.2.1 (ZoI hwn.1.2.1) hwn.2.2),(by omega),rfl⟩
  ·have hb25':=Zbh hb25
   obtain rfl:bb=0:=by have:=HC.1; omega
   refine ZaM (Zaj (Zaj (ZaV (Zaa (Zac (Zab (xq 2 [(4, .v (.int .u64 ((gg:Nat):Int)))] [] ?_)))))))
   refine xe (Zaa (Zag ?_))
   refine Zaf (v:=.int .u64 ((gg:Nat):Int)) (by kernel_rfl) (fun w' R Q=>?_)
   obtain ⟨e1,e2⟩:=HC.done hVp
   exact ⟨zs,by rw [e1],⟨HW,e2⟩,R,Q.1⟩
end Go.Proofs.YtenchljfmfgeoaaGreatDoor
