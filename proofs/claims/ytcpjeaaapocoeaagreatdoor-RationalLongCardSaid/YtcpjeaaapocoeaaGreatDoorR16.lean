/-
 My texts Gen, Small, Rat2, SxK, Sx8, Sx9, Sx12, Sx13, Sx17, Pw, Kar, Dvb, Dvc, Spl, Spl2, Print, Comb, CrtM, Fermat, DecR, RStr, Frac, Rt, Reduce put together.
-/
import Derived.Test.YtcpjeaaapocoeaaGreatDoorR13
import Derived.Test.YtcpjeaaapocoeaaGreatDoorR10
import Derived.Test.YtcpjeaaapocoeaaGreatDoorR15
import Derived.Outline
import Derived.Test.YtcpjeaaapocoeaaGreatDoorR14
import Derived.Test.YtcpjeaaapocoeaaGreatDoorR01
import Derived.Deep.LoopGhost
import Derived.Test.YtcpjeaaapocoeaaGreatDoorR06
import Derived.Test.YtcpjeaaapocoeaaGreatDoorR03
import Derived.Test.YtcpjeaaapocoeaaGreatDoorR07
import Derived.Deep.RegionLaw
import Derived.Test.YtcpjeaaapocoeaaGreatDoorR11
import Derived.Laws.IdiomStrings
import Derived.Deep.QuietTactic
import Derived.BigQuiet
import Derived.Deep.RegionWith
import Derived.Deep.DeepCutAuto
import Derived.Test.YtcpjeaaapocoeaaGreatDoorR08
set_option maxRecDepth 100000
namespace Go.Proofs.YtcpjeaaapocoeaaGreatDoor
open Go.RowKit
theorem Zaq:Tryz.prog.follows .mixedOrders=true:=by kernel_rfl
theorem Zap.shp {w:World} {v:Value} {z:Int} (h:Zap w v z):∃ (s:Bool) (A:Option Addr) (l c:Nat),v=.agg #[.bool s, .slice A l c]:=h.shape
theorem Zap.nil (w:World):Zap w (.agg #[.bool false, .slice none 0 0]) 0:=Zap.zero w
theorem Zat.nil (w:World):Zat w (.agg #[.bool false, .slice none 0 0, .bool false, .slice none 0 0]) 0:=Zat.zero w
theorem Zat.shp {w:World} {v:Value} {q:Rat} (h:Zat w v q):∃ (s:Bool) (A:Option Addr) (l c:Nat) (t:Bool) (B:Option Addr) (l' c':Nat),v=.agg #[.bool s, .slice A l c, .bool t, .slice B l' c']:=by
 obtain ⟨s,t,A,B,l,c,l',c',h,_⟩:=h
 exact ⟨s,A,l,c,t,B,l',c',h⟩
theorem ZkS {a b c d a' b' c' d':Value} (h:Value.agg #[a,b,c,d]=.agg #[a',b',c',d']):a=a'∧b=b'∧c=c'∧d=d':=by
 injection h with h
 simpa using h
theorem Zat.num {w:World} {a b c d:Value} {q:Rat} (h:Zat w (.agg #[a,b,c,d]) q):Zap w (.agg #[a,b]) q.num:=by
 obtain ⟨s,t,A,B,l,c,l',c',h,h1,h2⟩:=h
 obtain ⟨rfl,rfl,rfl,rfl⟩:=ZkS h
 exact h1
theorem Zat.den {w:World} {a b c d:Value} {q:Rat} (h:Zat w (.agg #[a,b,c,d]) q):Zap w (.agg #[c,d]) (denF q):=by
 obtain ⟨s,t,A,B,l,c,l',c',h,h1,h2⟩:=h
 obtain ⟨rfl,rfl,rfl,rfl⟩:=ZkS h
 exact h2
theorem Zat.of {w:World} {s t:Bool} {A B:Option Addr} {l c l' c':Nat} {q:Rat} (h1:Zap w (.agg #[.bool s, .slice A l c]) q.num) (h2:Zap w (.agg #[.bool t, .slice B l' c']) (denF q)):Zat w (.agg #[.bool s, .slice A l c, .bool t, .slice B l' c']) q :=
 ⟨_,_,_,_,_,_,_,_,rfl,h1,h2⟩
section
variable {ops:Array Oper} {S:World→Prop} {o:Oper} {a:Act} {p:Operand} {g off:Nat} {x y z u v:Value}
end
end Go.Proofs.YtcpjeaaapocoeaaGreatDoor

namespace Go.Proofs.YtcpjeaaapocoeaaGreatDoor
open Go.RowKit
end Go.Proofs.YtcpjeaaapocoeaaGreatDoor

namespace Go.Proofs.YtcpjeaaapocoeaaGreatDoor
open Go.RowKit
def Zcu (w:World) (q:Rat) (e:Ending) (w':World):Prop:=∃ v,e=.returned v∧Zat w' v q∧Ext w w'
theorem Zjv {fn:Func} {t:Tmp} {tmps:Array Value} {w w':World} {r:Nat} {s s':Bool} {A B:Option Addr} {l c l' c':Nat} {q:Rat} (hres:fn.results=#[.cell t 142]) (ht:tmps[t]? = some (.pointer (some ⟨r,0,none⟩)))
 (hB:Blk 142 w' r #[.bool s, .slice A l c, .bool s', .slice B l' c']) (hI:Zap w' (.agg #[.bool s, .slice A l c]) q.num) (hI':Zap w' (.agg #[.bool s', .slice B l' c']) (denF q)) (Q:Ext w w') :
 bodyPost Tryz.prog fn (Zcu w q) .ret ⟨tmps,[]⟩ w':=by
 obtain ⟨h0,h1,h2,h4,_⟩:=hB.cell4
 exact bodyPost_ret (v:=.agg #[.bool s, .slice A l c, .bool s', .slice B l' c']) (by simp [results,hres,ht,go_sem,h0,h1,h2,h4]) rfl ⟨_,rfl,⟨_,_,_,_,_,_,_,_,rfl,hI,hI'⟩,Q⟩
theorem Zet {q:Rat}:denF q=0 ↔ q.den=1:=by
 unfold denF
 have:=q.den_nz
 split<;>omega
set_option maxHeartbeats 1000000 in
theorem ZbO (a b:Value) (x y:Int) (q:Rat) (w:World) (ha:Zap w a x) (hb:Zap w b y) (hq:q.num=x∧(q.den:Int)=y):Calls Tryz.prog 123 #[a,b] w (Zcu w q):=by
 obtain ⟨s,A,l,c,rfl⟩:=ha.shape
 obtain ⟨t,B,l',c',rfl⟩:=hb.shape
 have HA:=zh ha
 have HB:=zh hb
 have HQ:=zh hq
 clear ha hb hq
 go_enter Tryz.func123,Tryz.ntmps123
 go_wp2_with fail
 generalize hwb:World.alloc (World.alloc (World.alloc w _) _) _=wb
 have Q:Ext w wb:=hwb ▸ (((Fr.refl _ _).alloc _).alloc _).alloc _
 have hB0:Blk 135 wb w.heap.size #[.bool s, .slice A l c]:=hwb ▸ ((Blk.new _ _ _).alloc _).alloc _
 have hB1:Blk 135 wb (w.heap.size + 1) #[.bool t, .slice B l' c']:=by
  have h:=(Blk.new (w.alloc (.cells #[.bool s, .slice A l c] 135)) 135 #[.bool t, .slice B l' c']).alloc (.cells #[.bool false, .slice none 0 0, .bool false, .slice none 0 0] 142)
  have e:(w.alloc (.cells #[.bool s, .slice A l c] 135)).heap.size=w.heap.size + 1:=by simp
  rw [e] at h
  exact hwb ▸ h
 have hB2:Blk 142 wb (w.heap.size + 1 + 1) #[.bool false, .slice none 0 0, .bool false, .slice none 0 0]:=by
  have h:=Blk.new ((w.alloc (.cells #[.bool s, .slice A l c] 135)).alloc (.cells #[.bool t, .slice B l' c'] 135)) 142 #[.bool false, .slice none 0 0, .bool false, .slice none 0 0]
  have e:((w.alloc (.cells #[.bool s, .slice A l c] 135)).alloc (.cells #[.bool t, .slice B l' c'] 135)).heap.size=w.heap.size + 1 + 1:=by simp
  rw [e] at h
  exact hwb ▸ h
 clear hwb
 refine (Za9 _ y _ (HB.out.ext Q)).mono ?_
 by_cases h1:y=1
 ·rw [decide_eq_true h1]
  rintro e w1 ⟨rfl,hF⟩
  have HE:=zh (Q.trans hF)
  have HB0:=zh (hB0.ext hF)
  have HB2:=zh (hB2.ext hF)
  have HD:Hid (denF q=0):=Zet.2 (by have:=HQ.out.2; omega)
  obtain ⟨x0,x1,_,_⟩:=HB0.out.cell2
  obtain ⟨y0,y1,y2,y3,y4,y5,y6,y7⟩:=HB2.out.cell4
  clear Q hF hB0 hB1 hB2 h1
  go_wp2
  refine Zjv rfl rfl (HB2.out.put4 _ _ _ _) ?_ ?_ (Fr.local_ HE.out (Fr.set4 _ _ _ _) (by omega))
  ·rw [HQ.out.1]; exact (HA.out.ext HE.out).other HB2.out Zbl (Fr.set4 _ _ _ _)
  ·rw [HD.out]; exact Zap.zero _
 ·rw [decide_eq_false h1]
  rintro e w1 ⟨rfl,hF⟩
  have HE:=zh (Q.trans hF)
  have HB0:=zh (hB0.ext hF)
  have HB1:=zh (hB1.ext hF)
  have HB2:=zh (hB2.ext hF)
  have HD:Hid (denF q=y):=by
   have:=HQ.out.2
   unfold Hid denF; rw [if_neg (by omega)]; exact this
  obtain ⟨x0,x1,_,_⟩:=HB0.out.cell2
  obtain ⟨z0,z1,_,_⟩:=HB1.out.cell2
  obtain ⟨y0,y1,y2,y3,y4,y5,y6,y7⟩:=HB2.out.cell4
  clear Q hF hB0 hB1 hB2 h1
  go_wp2
  refine Zjv rfl rfl (HB2.out.put4 _ _ _ _) ?_ ?_ (Fr.local_ HE.out (Fr.set4 _ _ _ _) (by omega))
  ·rw [HQ.out.1]; exact (HA.out.ext HE.out).other HB2.out Zbl (Fr.set4 _ _ _ _)
  ·rw [HD.out]; exact (HB.out.ext HE.out).other HB2.out Zbl (Fr.set4 _ _ _ _)
end Go.Proofs.YtcpjeaaapocoeaaGreatDoor

namespace Go.Proofs.YtcpjeaaapocoeaaGreatDoor
open Go.RowKit
section
variable {S:Nat→Prop} {w w' w0:World} {k:IntKind} {A:Option Addr} {xs:List Nat}
theorem Zai.nrb (hk:k≠.i64) (h:Zai k w A xs) (hS:∀ i,S i→NRB w i) (hF:Fr S w w'):Zai k w' A xs:=by
 cases xs with
 | nil=>exact Zai.nil
 | cons x xs =>
   refine h.fr hF (fun ad hA hlt hs=>?_)
   obtain ⟨g,off,e',_,hcl⟩:=h.at (i:=0) (by simp)
   rw [e'] at hA
   injection hA with hA
   subst hA
   obtain ⟨t,cs,hB,hc⟩:=hS _ hs
   rw [hB.cell] at hcl
   exact hk (hc _ _ _ hcl)
theorem Zad.nrb {u:Value} {n:Nat} (h:Zad w u n) (hS:∀ i,S i→NRB w i) (hF:Fr S w w'):Zad w' u n:=by
 obtain ⟨A',xs,c',h1,h2,h3,h4⟩:=h
 exact ⟨A',xs,c',h1,h2,h3.nrb (by decide) hS hF,h4⟩
theorem Zap.nrb {v:Value} {z:Int} (h:Zap w v z) (hS:∀ i,S i→NRB w i) (hF:Fr S w w'):Zap w' v z:=by
 obtain ⟨s',u,n,h1,h2,h3⟩:=h
 exact ⟨s',u,n,h1,h2.nrb hS hF,h3⟩
theorem Zat.nrb {v:Value} {q:Rat} (h:Zat w v q) (hS:∀ i,S i→NRB w i) (hF:Fr S w w'):Zat w' v q:=by
 obtain ⟨s,t,A,B,l,c,l',c',h1,h2,h3⟩:=h
 exact ⟨s,t,A,B,l,c,l',c',h1,h2.nrb hS hF,h3.nrb hS hF⟩
theorem NRB.ext {i:Nat} (h:NRB w i) (he:Ext w w'):NRB w' i:=by
 obtain ⟨t,cs,hB,hc⟩:=h
 exact ⟨t,cs,hB.ext he,hc⟩
theorem boxn {φ:World→Prop} (he:Ext w w') (h:∀ S w'',(∀ i,S i→NRB w' i)→Fr S w' w''→φ w''):BoxN w w' φ:=fun S hS w'' hf=>h S w'' (fun i hi=>(hS i hi).2.ext he) hf
end
abbrev ShI:=Bool × Option Addr × Nat × Nat
abbrev ShQ:=Bool × Option Addr × Nat × Nat × Bool × Option Addr × Nat × Nat
abbrev ShN:=Option Addr × Nat × Nat
def Zav (x:ShI):Value:=.agg #[.bool x.1, .slice x.2.1 x.2.2.1 x.2.2.2]
def Zbf (x:ShQ):Value:=.agg #[.bool x.1, .slice x.2.1 x.2.2.1 x.2.2.2.1, .bool x.2.2.2.2.1, .slice x.2.2.2.2.2.1 x.2.2.2.2.2.2.1 x.2.2.2.2.2.2.2]
def Zay (x:ShN):Value:=.slice x.1 x.2.1 x.2.2
section
variable {w w':World} {e:Ending}
theorem Zak {z:Int} (h:Zbk w z e w'):ZbI Zav (fun x w=>Zap w (Zav x) z) w e w':=by
 obtain ⟨v,rfl,hI,Q⟩:=h
 obtain ⟨s,A,l,c,rfl⟩:=hI.shp
 exact ⟨(s,A,l,c),rfl,Q,boxn Q (fun S w'' hS hF=>hI.nrb hS hF)⟩
theorem ZaK {q:Rat} (h:Zcu w q e w'):ZbI Zbf (fun x w=>Zat w (Zbf x) q) w e w':=by
 obtain ⟨v,rfl,hI,Q⟩:=h
 obtain ⟨s,A,l,c,t,B,m,d,rfl⟩:=hI.shp
 exact ⟨(s,A,l,c,t,B,m,d),rfl,Q,boxn Q (fun S w'' hS hF=>hI.nrb hS hF)⟩
def ZlS (w:World) (x y:Int) (e:Ending) (w':World):Prop:=∃ u v,e=.returned (.tuple #[u,v])∧Zap w' u x∧Zap w' v y∧Ext w w'
def ZgS (x:ShI × ShI):Value:=.tuple #[Zav x.1,Zav x.2]
theorem Zfk {a b:Int} (h:ZlS w a b e w'):ZbI ZgS (fun x w=>Zap w (Zav x.1) a∧Zap w (Zav x.2) b) w e w':=by
 obtain ⟨u,v,rfl,hI,hJ,Q⟩:=h
 obtain ⟨s,A,l,c,rfl⟩:=hI.shp
 obtain ⟨s',A',l',c',rfl⟩:=hJ.shp
 exact ⟨((s,A,l,c),(s',A',l',c')),rfl,Q,boxn Q (fun S w'' hS hF=>⟨hI.nrb hS hF,hJ.nrb hS hF⟩)⟩
theorem ZeG (x:Int):(x < 0∧x.sign = -1)∨(x=0∧x.sign=0)∨(0 < x∧x.sign=1):=by
 rcases Int.lt_trichotomy x 0 with h | h | h
 ·exact Or.inl ⟨h,Int.sign_eq_neg_one_of_neg h⟩
 ·exact Or.inr (Or.inl ⟨h,by rw [h]; rfl⟩)
 ·exact Or.inr (Or.inr ⟨h,Int.sign_eq_one_of_pos h⟩)
theorem Zae {v u:Value} (h:e=.returned v∧Ext w w') (hv:v=u):ZbI (fun _:Unit=>u) (fun _ _=>True) w e w':=by
 obtain ⟨rfl,Q⟩:=h
 subst hv
 exact ⟨(),rfl,Q,BoxN.pure trivial⟩
end
end Go.Proofs.YtcpjeaaapocoeaaGreatDoor

namespace Go.Proofs.YtcpjeaaapocoeaaGreatDoor
open Go.RowKit
section
variable {N:Nat} {S0:Nat→Prop} {w0:World} {s s':St} {Φ Ψ Φ0:World→Prop} {L:Nat→Nat} {a:Act} {w:World} {P:Program} {ops:Array Oper} {Q:Exit→Act→World→Prop} {o:Oper}
theorem Zcs.of {sl:SlL} {bl:BlL} (h:(sl.map (fun q=>s.sl q.1),bl.map (fun q=>s.bl q.1))=(sl.map (fun q=>some q.2),bl.map (fun q=>some q.2))):Zcs s sl bl:=h
def Zos (N:Nat) (S0:Nat→Prop) (w0:World) (J:Nat→St→(World→Prop)→Prop) (n:Nat) (a:Act) (w:World):Prop:=∃ n' s' Φ' L',n' < n∧J n' s' Φ'∧Inv N S0 w0 s' Φ' L' a w
theorem Zhq {c:Code} (J:Nat→St→(World→Prop)→Prop) (n0:Nat) (h0:J n0 s Φ)
 (round:∀ n s Φ,J n s Φ→SXc P N S0 w0 (Exit.then (Zos N S0 w0 J n) Q) c s Φ):SXc P N S0 w0 Q (.loop c) s Φ:=fun L a w hi=>by
 refine wp_loop_ghost (fun n a w=>∃ s Φ L,J n s Φ∧Inv N S0 w0 s Φ L a w) n0 ⟨s,Φ,L,h0,hi⟩ ?_
 rintro n a w ⟨s,Φ,L,hJ,hi⟩
 refine wp_mono (round n s Φ hJ L a w hi) ?_
 intro e a' w' hq
 cases e with
 | normal =>
   obtain ⟨n',s',Φ',L',h1,h2,h3⟩:=hq
   exact ⟨n',h1,s',Φ',L',h2,h3⟩
 | exit id=>exact hq
 | goto l=>exact hq
 | ret=>exact hq
 | panic ch=>exact hq
 | outgrown=>exact hq
theorem Zf3 {J:Nat→St→(World→Prop)→Prop} {n:Nat} (n':Nat) (hlt:n' < n) (h:J n' s Φ):SXq N S0 w0 (Exit.then (Zos N S0 w0 J n) Q .normal) s Φ:=fun _ _ _ hi=>⟨n',s,Φ,_,hlt,h,hi⟩
theorem Zpi {x y:Code} (J:St→(World→Prop)→Prop) (h1:SXc P N S0 w0 (Exit.then (fun a w=>∃ s' Φ' L',J s' Φ'∧Inv N S0 w0 s' Φ' L' a w) Q) x s Φ) (h2:∀ s Φ,J s Φ→SXc P N S0 w0 Q y s Φ):SXc P N S0 w0 Q (.seq x y) s Φ:=fun L a w hi=>by
 refine wp_seq (wp_mono (h1 L a w hi) ?_)
 intro e a' w' hq
 cases e with
 | normal =>
   obtain ⟨s',Φ',L',h2',h3⟩:=hq
   exact h2 s' Φ' h2' L' a' w' h3
 | exit id=>exact hq
 | goto l=>exact hq
 | ret=>exact hq
 | panic ch=>exact hq
 | outgrown=>exact hq
theorem ZlT {J:St→(World→Prop)→Prop} (h:J s Φ):SXq N S0 w0 (Exit.then (fun a w=>∃ s' Φ' L',J s' Φ'∧Inv N S0 w0 s' Φ' L' a w) Q .normal) s Φ:=fun _ _ _ hi=>⟨s,Φ,_,h,hi⟩
end
end Go.Proofs.YtcpjeaaapocoeaaGreatDoor

namespace Go.Proofs.YtcpjeaaapocoeaaGreatDoor
open Go.RowKit
theorem Zb6 (x:ByteArray):(x.toList == x.toList)=true:=by simp
theorem ZiP {P:Program} {ρ:Operand→Value} {w:World} {t e:TypeId} {n sz:Nat} {z:Value} {parts:Array (Nat × Operand)} {cells:Array Value} (ht:P.underlying t=some (.slice e))
 (hinfo:(P.info? e).map (fun i=>(i.zero,i.size))=some (some z,sz)) (hn:Nat.ble (n * sz) 1000=true) (hn0:Nat.beq (n * sz) 0=false)
 (hf:Instr.fill (fun i=>some (i * sz,sz)) ((List.range (n * sz)).map (fun i=>z.cells[i % z.cells.size]!)).toArray (parts.toList.map fun q=>(q.1,ρ q.2))=some cells) :
 (Instr.buildSlice t n (parts.map fun q:Nat × Operand=>(q.1,ρ q.2))).run P w=.ok (.slice (some ⟨w.heap.size,0,none⟩) n n) (w.alloc (.cells cells e)):=by
 obtain ⟨i,hi,h1⟩:=Option.map_eq_some_iff.1 hinfo
 injection h1 with h1 h2
 have hn':=Nat.le_of_ble_eq_true hn
 have hn1:¬ n * sz=0:=fun h=>by rw [h] at hn0; cases hn0
 have hn2:¬ 2 ^ 24 < n * sz:=by omega
 have e1:(Array.range (n * sz)).map (fun i=>z.cells[i % z.cells.size]!)=((List.range (n * sz)).map (fun i=>z.cells[i % z.cells.size]!)).toArray:=by
  apply Array.ext'; simp
 have e2:(parts.map fun q:Nat × Operand=>(q.1,ρ q.2)).toList=parts.toList.map fun q=>(q.1,ρ q.2):=by simp
 unfold Instr.buildSlice
 simp [underlying,ht,sizeOf,typeInfo,hi,h2,zeroValue,h1,hn1,hn2,e1,hf,newRow,newObj,Result.andThen]
 rfl
theorem ZlB {P:Program} {o:Oper} {ρ:Operand→Value} {w:World} {t e:TypeId} {n sz:Nat} {z:Value} {parts:Array (Nat × Operand)} {cells:Array Value} (ho:o.op=Op.buildSlice t n parts) (ht:P.underlying t=some (.slice e))
 (hinfo:(P.info? e).map (fun i=>(i.zero,i.size))=some (some z,sz)) (hn:Nat.ble (n * sz) 1000=true) (hn0:Nat.beq (n * sz) 0=false)
 (hf:Instr.fill (fun i=>some (i * sz,sz)) ((List.range (n * sz)).map (fun i=>z.cells[i % z.cells.size]!)).toArray (parts.toList.map fun q=>(q.1,ρ q.2))=some cells) :
 Does P o ρ w (DoR (fun b:Nat=>.slice (some ⟨b,0,none⟩) n n) (fun b w=>Blk e w b cells) w):=by
 have hrun:=ZiP (w:=w) ht hinfo hn hn0 hf
 exact Or.inl ⟨_,_,by simp [execOp,ho,hrun,Result.andThen],w.heap.size,rfl,(Fr.refl _ w).alloc _,fun S hS w'' hF=>(Blk.new w e cells).fr hF (fun h=>by have:=(hS _ h).1; omega)⟩
theorem ZgT {P:Program} {o:Oper} {ρ:Operand→Value} {w:World} {t:TypeId} {x:Operand} {lo hi:Option Operand} {b r:ByteArray} (l h:Nat) (ho:o.op=Op.slice t x lo hi none) (ht:P.underlying t=some .string) (hx:ρ x=.string b)
 (hl:lo.map ρ=none∧l=0∨lo.map ρ=some (.int .i64 l)) (hh:hi.map ρ=none∧h=b.size∨hi.map ρ=some (.int .i64 h)) (h1:l≤h) (h2:h≤b.size) (hr:b.extract l h=r):(execOp ρ o).run P w=.ok (.value (.string r)) w:=by
 subst hr
 rcases hl with ⟨hl,rfl⟩ | hl<;>rcases hh with ⟨hh,rfl⟩ | hh <;>
  simp [execOp,ho,Instr.sliceAt,Instr.slice,Instr.sliceBounds,Instr.sliceBound,asIntOf,underlying,ht,hx,hl,hh,h1,h2,Result.andThen]
end Go.Proofs.YtcpjeaaapocoeaaGreatDoor

namespace Go.Proofs.YtcpjeaaapocoeaaGreatDoor
open Go.RowKit
open Classical in
theorem Fr.split {A B:Nat→Prop} {w w2:World} (h:Fr (fun i=>A i∨B i) w w2):∃ w1,Fr A w w1∧Fr B w1 w2:=by
 have hg:∀ i,i < w2.heap.size→(w2.heap.mapIdx fun i o=>if A i∨w.heap.size≤i then o else (w.heap[i]?).getD o)[i]? = if A i∨w.heap.size≤i then w2.heap[i]? else w.heap[i]? := by
  intro i hi
  rw [Array.getElem?_mapIdx,Array.getElem?_eq_getElem hi]
  by_cases hc:A i∨w.heap.size≤i
  ·simp [hc]
  ·have hlt:i < w.heap.size:=by
    rcases Nat.lt_or_ge i w.heap.size with h' | h'
    ·exact h'
    ·exact absurd (Or.inr h') hc
   simp only [hc,Option.map_some,if_false,Array.getElem?_eq_getElem hlt,Option.getD_some]
 refine ⟨{ w2 with heap:=w2.heap.mapIdx fun i o=>if A i∨w.heap.size≤i then o else (w.heap[i]?).getD o },⟨h.os,h.tape,h.output,?_,fun i hi ha=>?_⟩,⟨rfl,rfl,rfl,?_,fun i hi hb=>?_⟩⟩
 ·simpa using h.size
 ·have h2:=hg i (Nat.lt_of_lt_of_le hi h.size)
  rw [if_neg (fun hc=>hc.elim ha (fun h'=>by omega))] at h2
  exact h2
 ·simp
 ·have hi2:i < w2.heap.size:=by simpa using hi
  have h2:=hg i hi2
  by_cases hc:A i∨w.heap.size≤i
  ·rw [if_pos hc] at h2; exact h2.symm
  ·rw [if_neg hc] at h2
   have hlt:i < w.heap.size:=by
    rcases Nat.lt_or_ge i w.heap.size with h' | h'
    ·exact h'
    ·exact absurd (Or.inr h') hc
   exact (h.block i hlt (fun h'=>h'.elim (fun ha=>hc (Or.inl ha)) hb)).trans h2.symm
theorem Own.same {k:IntKind} {t:TypeId} {w w':World} {b:Nat} {xs:List Nat} (h:Own k t w b xs) (e:w'.heap[b]? = w.heap[b]?):Own k t w' b xs:=by
 obtain ⟨tail,h1,h2⟩:=h
 exact ⟨tail,h1,e.trans h2⟩
section
variable {N:Nat} {S0:Nat→Prop} {w0:World} {s:St} {Φ Ψ:World→Prop} {L:Nat→Nat} {a:Act} {w:World} {P:Program} {ops:Array Oper} {Q:Exit→Act→World→Prop}
theorem Inv.notOwn (h:Inv N S0 w0 s Φ L a w) {r j:Nat} {c:Value} (hc:∀ w,Φ w→w.cell? ⟨r,j,none⟩=some c):¬ s.own L r:=fun ho=>by
 have h1:=hc w h.box.self
 have key:∀ u:Value,u≠c→False:=fun u hu=>by
  have h2:=hc (w.setCell ⟨r,j,none⟩ u) (h.box _ ((Fr.refl _ _).setCell (p:=⟨r,j,none⟩) (Or.inl ho) u))
  rw [World.cell?_setCell_same _ _ _ h1] at h2
  injection h2 with h2
  exact hu h2
 by_cases e:c=.bool true
 ·exact key (.bool false) (by rw [e]; intro h; cases h)
 ·exact key (.bool true) (fun h=>e h.symm)
theorem Inv.eff (h:Inv N S0 w0 s Φ L a w) {w':World} {r:Nat} (hF:Fr (fun i=>i=r) w w') (hr:¬ s.own L r) (hnew:w0.heap.size≤r∨S0 r) (hlt:r < w.heap.size)
 (hΨ:∀ w1 w2,Φ w1→Fr (fun i=>i=r) w1 w2→w2.heap[r]? = w'.heap[r]? → Ψ w2):Inv N S0 w0 s Ψ L a w':=by
 refine ⟨h.size,h.df,h.sl,⟨fun b t cs e=>(h.mem.blk b t cs e).fr hF (fun e'=>hr ⟨b,by rw [e]; rfl,e'⟩),h.mem.inj,h.mem.old,h.mem.ext.next hF (fun i hi e=>?_),h.mem.slp,h.mem.cel⟩,fun w2 hf=>?_⟩
 ·rcases hnew with h' | h'
  ·omega
  ·rw [e]; exact h'
 ·have h2:Fr (fun i=>s.own L i∨i=r) w w2:=(hF.mono (fun i _ e=>Or.inr e)).trans (hf.mono (fun i _ e=>Or.inl e))
  obtain ⟨w1,k1,k2⟩:=h2.split
  exact hΨ w1 w2 (h.box w1 k1) k2 (hf.block r (Nat.lt_of_lt_of_le hlt hF.size) hr)
theorem Zh6 {i d:Nat} {e:TypeId} {k:IntKind} {xs:List Nat} {α:Type} (f:FuncId) (args:List Value) (sh:α→Value) (p:α→Prop) (zs:α→List Nat) (b:Nat) (Ψ:α→World→Prop) (hO:∀ w,Φ w→Own k e w b xs) (hj:0 < xs.length) (hnew:w0.heap.size≤b∨S0 b)
 (hC:∀ w,Fr S0 w0 w→Φ w→Calls P f args.toArray w (fun en w'=>∃ x,en=.returned (sh x)∧p x∧Fr (fun i=>i=b) w w'∧Own k e w' b (zs x)))
 (hΨ:∀ x w w',p x→Φ w→Fr (fun i=>i=b) w w'→Own k e w' b (zs x)→Ψ x w') (K:∀ x,p x→SXi P N S0 w0 ops Q (i + 1) (s.put d (.v (sh x))) (Ψ x))
 (hsz:Nat.blt i ops.size=true:=by kernel_rfl) (h:Zdf P N ops (opAt ops i) s=some (f,args,d):=by kernel_rfl):SXi P N S0 w0 ops Q i s Φ:=by
 obtain ⟨hw,hq,hd,hn,hv,hk,hN⟩:=ZeY h
 unfold SXi
 rw [Zfh hsz]
 intro L a w hi
 refine wpList_step (fun K' hK=>?_)
 rw [if_pos (hi.want hw)]
 unfold Oper.wp
 rw [hi.exec hn hv,ZjJ hq hk,Oper.upon_enter]
 refine Calls.mono (hC w hi.mem.ext hi.box.self) fun en w' h'=>?_
 obtain ⟨x,rfl,hp,hF,hO2⟩:=h'
 simp only [hd]
 have h0:=hi.app0 (d:=d) hN (al_v (s:=s) (sh x))
 exact hK _ _ (K x hp L _ _ (h0.eff hF (hi.notOwn (fun w R=>(hO w R).cell hj)) hnew (hO w hi.box.self).lt (fun w1 w2 h1 h2 h3=>hΨ x w1 w2 hp h1 h2 (hO2.same h3))))
theorem Zkj {i d:Nat} {t e:TypeId} {k kl kc:IntKind} {l c:Operand} (n bytes:Nat) (hn:n≤35184372088832) (hby:bytes≤8)
 (K:∀ b,w0.heap.size≤b→(∀ r,(∀ w,Φ w→r < w.heap.size)→r < b)→SXi P N S0 w0 ops Q (i + 1) (s.put d (.v (.slice (some ⟨b,0,none⟩) n n))) (fun w=>Box (fun j=>b≤j) w Φ∧Own k e w b (List.replicate n 0)))
 (hsz:Nat.blt i ops.size=true:=by kernel_rfl) (hw:s.wantB ops (opAt ops i)=some true:=by kernel_rfl) (hv:(opAt ops i).op.operands.toList.all s.vB=true:=by kernel_rfl) (ho:(opAt ops i).op=Op.makeSlice t l c:=by kernel_rfl) (hd:(opAt ops i).dst=some d:=by kernel_rfl) (hN:Nat.blt d N=true:=by kernel_rfl)
 (ht:P.underlying t=some (.slice e):=by kernel_rfl) (hinfo:(P.info? e).map (fun i=>(i.zero,i.size,i.bytes))=some (some (.int k 0),1,bytes):=by kernel_rfl) (hl:s.rho l=.int kl n:=by kernel_rfl) (hc:s.rho c=.int kc n:=by kernel_rfl):SXi P N S0 w0 ops Q i s Φ:=by
 unfold SXi
 rw [Zfh hsz]
 intro L a w hi
 refine wpList_step (fun K' hK=>?_)
 rw [if_pos (hi.want hw)]
 unfold Oper.wp
 have hns:Zb0 (opAt ops i).op=true:=by rw [ho]; rfl
 have hbn:bytes * n≤8 * n:=Nat.mul_le_mul_right n hby
 rw [hi.exec hns hv]
 have hrun:=run_make_row' (P:=P) t e (.int k 0) bytes ht hinfo rfl kl kc n (by omega) (by omega) w
 rw [Zfx] at hrun
 have hrun2:(execOp s.rho (opAt ops i)).run P w=.ok (.value (.slice (some ⟨w.heap.size,0,none⟩) n n)) (w.alloc (.cells (Za2 k (List.replicate n 0) []) e)):=by simp [execOp,ho,hl,hc,hrun,Result.andThen]
 rw [hrun2,Oper.upon_value,hd]
 have R:Ext w (w.alloc (.cells (Za2 k (List.replicate n 0) []) e)):=(Fr.refl _ w).alloc _
 have h0:=hi.app0 (d:=d) (Nat.le_of_ble_eq_true hN) (al_v (s:=s) (.slice (some ⟨w.heap.size,0,none⟩) n n))
 have hO:=Own.new w e k (List.replicate n 0) []
 refine hK _ _ (K w.heap.size hi.mem.ext.size (fun r h=>h w hi.box.self) L _ _ ⟨h0.size,h0.df,h0.sl,⟨fun b t cs e=>(h0.mem.blk b t cs e).ext R,h0.mem.inj,h0.mem.old,h0.mem.ext.ext R,h0.mem.slp,h0.mem.cel⟩,fun w2 hf=>⟨fun w3 hf3=>?_,?_⟩⟩)
 ·refine hi.box w3 ⟨hf3.os.trans (hf.os.trans R.os),hf3.tape.trans (hf.tape.trans R.tape),hf3.output.trans (hf.output.trans R.output),Nat.le_trans R.size (Nat.le_trans hf.size hf3.size),fun j hj hno=>?_⟩
  have h1:=R.block j hj (fun f=>f)
  have h2:=hf.block j (Nat.lt_of_lt_of_le hj R.size) hno
  have h3:=hf3.block j (Nat.lt_of_lt_of_le hj (Nat.le_trans R.size hf.size)) (by omega)
  exact h3.trans (h2.trans h1)
 ·refine hO.fr hf (fun ho=>?_)
  obtain ⟨b,hb,eb⟩:=ho
  obtain ⟨q,eq⟩:=Option.isSome_iff_exists.1 hb
  have:=(hi.mem.blk b q.1 q.2 eq).lt
  omega
theorem SXi.know {i:Nat} {p:Prop} (h:∀ w,Fr S0 w0 w→Φ w→p) (K:p→SXi P N S0 w0 ops Q i s Φ):SXi P N S0 w0 ops Q i s Φ:=fun L a w hi=>K (h w hi.mem.ext hi.box.self) L a w hi
end
def atA (A:Option Addr) (i:Nat):Value:=.pointer (A.map (·.add i))
section
variable {P:Program} {o:Oper} {ρ:Operand→Value} {w:World} {t e:TypeId} {x ix:Operand} {k:IntKind} {xs:List Nat}
theorem ZnZ {A:Option Addr} {len cap i:Nat} (hA:A≠none) (h:i < len) (ho:o.op=Op.indexAddr t x ix:=by kernel_rfl) (ht:P.underlying t=some (.slice e):=by kernel_rfl) (hs:(P.info? e).map (fun i=>i.size)=some 1:=by kernel_rfl)
 (hx:ρ x=.slice A len cap:=by kernel_rfl) (hi:ρ ix=.int .i64 ((i:Nat):Int):=by kernel_rfl):(execOp ρ o).run P w=.ok (.value (atA A i)) w:=by
 obtain ⟨inf,hinf,h1⟩:=Option.map_eq_some_iff.1 hs
 obtain ⟨a,rfl⟩:∃ a,A=some a:=by cases A; exact absurd rfl hA; exact ⟨_,rfl⟩
 have h2:(0:Int)≤(i:Int)∧(i:Int) < (len:Int):=by omega
 simp [execOp,ho,Instr.indexAt,asIntOf,underlying,ht,hx,hi,h,sizeOf,typeInfo,hinf,h1,Result.andThen,atA]
theorem Zpj {g off:Nat} {c:Value} (hc:w.cell? ⟨g,off,none⟩=some c) (ho:o.op=Op.load t x:=by kernel_rfl) (hx:ρ x=.pointer (some ⟨g,off,none⟩):=by kernel_rfl) (ha:(teOf P t).map (fun e=>e.agg)=some false:=by kernel_rfl) :
 (execOp ρ o).run P w=.ok (.value c) w:=by
 obtain ⟨e,he,h1⟩:=Option.map_eq_some_iff.1 ha
 have:=ZhN (P:=P) (w:=w) he hc h1
 simp only [execOp,ho,hx,Sem.run_bind,this,Result.andThen_ok,Sem.run_pure]
theorem ZoQ {A:Option Addr} {j:Nat} (hS:Zai k w A xs) (hj:j < xs.length) (ho:o.op=Op.load t x:=by kernel_rfl) (hx:ρ x=atA A j:=by kernel_rfl) (ha:(teOf P t).map (fun e=>e.agg)=some false:=by kernel_rfl) :
 (execOp ρ o).run P w=.ok (.value (.int k ((xs[j]?.getD 0:Nat):Int))) w:=by
 obtain ⟨g,off,rfl,_,hc⟩:=hS.at hj
 exact Zpj hc ho (by rw [hx,atA,Option.map_some,ZeW]) ha
theorem ZgU {A:Option Addr} {len cap h:Nat} {hi:Operand} (hle:h≤cap) (ho:o.op=Op.slice t x none (some hi) none:=by kernel_rfl) (ht:P.underlying t=some (.slice e):=by kernel_rfl) (hs:(P.info? e).map (fun i=>i.size)=some 1:=by kernel_rfl)
 (hx:ρ x=.slice A len cap:=by kernel_rfl) (hh:ρ hi=.int .i64 ((h:Nat):Int):=by kernel_rfl):(execOp ρ o).run P w=.ok (.value (.slice A h cap)) w:=by
 obtain ⟨inf,hinf,_⟩:=Option.map_eq_some_iff.1 hs
 have h3:A.map (fun a=>a.add 0)=A:=by cases A with
  | none=>rfl
  | some a=>simp [Addr.add]
 simp [execOp,ho,Instr.sliceAt,Instr.slice,Instr.sliceBounds,Instr.sliceBound,asIntOf,underlying,ht,hx,hh,hle,sizeOf,typeInfo,hinf,Result.andThen,h3]
theorem Zd7 {A:Option Addr} {len cap l:Nat} {lo:Operand} (hle:l≤len) (ho:o.op=Op.slice t x (some lo) none none:=by kernel_rfl) (ht:P.underlying t=some (.slice e):=by kernel_rfl) (hs:(P.info? e).map (fun i=>i.size)=some 1:=by kernel_rfl)
 (hx:ρ x=.slice A len cap:=by kernel_rfl) (hl:ρ lo=.int .i64 ((l:Nat):Int):=by kernel_rfl):(execOp ρ o).run P w=.ok (.value (.slice (if cap=l then A else A.map (·.add l)) (len - l) (cap - l))) w:=by
 obtain ⟨inf,hinf,h1⟩:=Option.map_eq_some_iff.1 hs
 simp [execOp,ho,Instr.sliceAt,Instr.slice,Instr.sliceBounds,Instr.sliceBound,asIntOf,underlying,ht,hx,hl,hle,sizeOf,typeInfo,hinf,h1,Result.andThen]
theorem Zai.ne {A:Option Addr} (hS:Zai k w A xs) {j:Nat} (hj:j < xs.length):A≠none:=by
 obtain ⟨g,off,rfl,_⟩:=hS.at hj
 intro h; cases h
end
end Go.Proofs.YtcpjeaaapocoeaaGreatDoor

namespace Go.Proofs.YtcpjeaaapocoeaaGreatDoor
open Go.RowKit
def Zf4 (ops:Array Oper) (i k:Nat):List Nat:=((ops.toList.drop i).take k).filterMap (fun o=>o.dst)
def Zf5 (l:List Nat) (sl:SlL):SlL:=sl.filter (fun q => !(l.any (Nat.beq q.1)))
def Zkk (nb:BlL) (bl:BlL):BlL:=bl.filter (fun q => !(nb.any (fun p=>Nat.beq p.1 q.1)))
section
variable {N:Nat} {S0:Nat→Prop} {w0:World} {sl:SlL} {bl:BlL} {Φ Φ0:World→Prop} {P:Program} {ops:Array Oper} {Q:Exit→Act→World→Prop}
theorem xq {i:Nat} (k:Nat) (nw:SlL) (nb:BlL) (K:SXi P N S0 w0 ops Q (i + k) (ofL (nw ++ Zf5 (Zf4 ops i k) sl) (nb ++ Zkk nb bl)) Φ)
 (h:ZiI P N ops i k (ofL sl bl) (nw ++ Zf5 (Zf4 ops i k) sl) (nb ++ Zkk nb bl)=some ((nw ++ Zf5 (Zf4 ops i k) sl).map (fun q=>some q.2),(nb ++ Zkk nb bl).map (fun q=>some q.2)):=by kernel_rfl)
 (h2:wfB (nw ++ Zf5 (Zf4 ops i k) sl) (nb ++ Zkk nb bl)=true:=by kernel_rfl):SXi P N S0 w0 ops Q i (ofL sl bl) Φ:=Zm9 k _ _ h h2 K
theorem xqg {n i:Nat} (k:Nat) (nw:SlL) (K:StI P N S0 w0 ops Φ0 Q n (i + k) (ofL (nw ++ Zf5 (Zf4 ops i k) sl) bl) Φ)
 (h:Zhn P N ops k i (ofL sl bl) (nw ++ Zf5 (Zf4 ops i k) sl)=some ((nw ++ Zf5 (Zf4 ops i k) sl).map (fun q=>some q.2),Zde bl):=by kernel_rfl) (hk:Nat.ble (i + k) n=true:=by kernel_rfl):StI P N S0 w0 ops Φ0 Q n i (ofL sl bl) Φ:=Zne k _ _ h hk K
theorem xqc {i:Nat} (f:FuncId) (args:List Value) (d:Nat) {α:Type} (sh:α→Value) (φ:α→World→Prop) (hC:∀ w,Fr S0 w0 w→Φ w→Calls P f args.toArray w (ZbI sh φ w)) (K:∀ x,SXi P N S0 w0 ops Q (i + 1) (ofL ((d, .v (sh x)) :: sl) bl) (fun w=>Φ w∧φ x w))
 (hsz:Nat.blt i ops.size=true:=by kernel_rfl) (h:Zdf P N ops (opAt ops i) (ofL sl bl)=some (f,args,d):=by kernel_rfl):SXi P N S0 w0 ops Q i (ofL sl bl) Φ:=ZlP f args d sh φ hsz h hC K
theorem xqd {n i:Nat} (f:FuncId) (args:List Value) (d:Nat) {α:Type} [hα:Nonempty α] (sh:α→Value) (φ:α→World→Prop) (hC:∀ w,Fr S0 w0 w→Φ w→Calls P f args.toArray w (ZbI sh φ w)) (K:∀ x,StI P N S0 w0 ops Φ0 Q n (i + 1) (ofL ((d, .v (sh x)) :: sl) bl) (fun w=>Φ w∧φ x w))
 (hi:Nat.blt i n=true:=by kernel_rfl) (hm:cls (opAt ops i).op=2:=by kernel_rfl) (h:Zdf P N ops (opAt ops i) (ofL sl bl)=some (f,args,d):=by kernel_rfl):StI P N S0 w0 ops Φ0 Q n i (ofL sl bl) Φ:=ZlQ f args d sh φ hi hm h hC K
theorem xqk {i:Nat} (d:Nat) (y:Value) (hx:∀ w,Fr S0 w0 w→Φ w→(execOp (ofL sl bl).rho (opAt ops i)).run P w=.ok (.value y) w) (K:SXi P N S0 w0 ops Q (i + 1) (ofL ((d, .v y) :: sl) bl) Φ)
 (hi:Nat.blt i ops.size=true:=by kernel_rfl) (hs:Zb0 (opAt ops i).op=true:=by kernel_rfl) (hw:(ofL sl bl).wantB ops (opAt ops i)=some true:=by kernel_rfl) (hv:(opAt ops i).op.operands.toList.all (ofL sl bl).vB=true:=by kernel_rfl) (hd:(opAt ops i).dst=some d:=by kernel_rfl) (hN:Nat.blt d N=true:=by kernel_rfl):SXi P N S0 w0 ops Q i (ofL sl bl) Φ :=
 Zjp d y hi hs hw hv hd hN hx K
theorem xqj {n i:Nat} (d:Nat) (y:Value) (hx:∀ w,Φ0 w→(execOp (ofL sl bl).rho (opAt ops i)).run P w=.ok (.value y) w) (K:StI P N S0 w0 ops Φ0 Q n (i + 1) (ofL ((d, .v y) :: sl) bl) Φ)
 (hi:Nat.blt i n=true:=by kernel_rfl) (hk:ZiK (opAt ops i).op=true:=by kernel_rfl) (hw:(ofL sl bl).wantB ops (opAt ops i)=some true:=by kernel_rfl) (hv:(opAt ops i).op.operands.toList.all (ofL sl bl).vB=true:=by kernel_rfl) (hd:(opAt ops i).dst=some d:=by kernel_rfl) (hN:Nat.blt d N=true:=by kernel_rfl):StI P N S0 w0 ops Φ0 Q n i (ofL sl bl) Φ :=
 ZoP d y hi hk hw hv hd hN hx K
end
end Go.Proofs.YtcpjeaaapocoeaaGreatDoor

namespace Go.Proofs.YtcpjeaaapocoeaaGreatDoor
open Go.RowKit
def ZaH (zs:List Nat) (off:Nat) (ys:List Nat):List Nat:=zs.take off ++ (ys.take (zs.length - off) ++ (zs.drop off).drop ys.length)
theorem Ze2 {zs ys:List Nat} {off:Nat} (h:off≤zs.length):(ZaH zs off ys).length=zs.length:=by
 unfold ZaH
 simp only [List.length_append,List.length_take,List.length_drop]
 omega
theorem ZgV {B:Nat} {zs ys:List Nat} {off:Nat} (h:Dig B zs) (h':Dig B ys):Dig B (ZaH zs off ys):=(h.take off).append ((h'.take _).append ((h.drop off).drop _))
theorem ZjR {zs ys:List Nat} {off:Nat} (hd:Dig W64 zs) (hz:val W64 zs < W64 ^ off) (hl:off + ys.length≤zs.length):val W64 (ZaH zs off ys)=val W64 zs + W64 ^ off * val W64 ys:=by
 have h1:=(Zeu Zag hd off)
 have h2:val W64 (zs.drop off)=0:=by rw [h1.2,Nat.div_eq_of_lt hz]
 have h3:val W64 ((zs.drop off).drop ys.length)=0:=by rw [(Zeu Zag (hd.drop off) ys.length).2,h2,Nat.zero_div]
 unfold ZaH
 rw [ZaQ,ZaQ,h3,Nat.mul_zero,Nat.add_zero,List.take_of_length_le (l:=ys) (by omega),h1.1,Nat.mod_eq_of_lt hz,List.length_take,Nat.min_eq_left (by omega)]
section
variable {P:Program} {N:Nat} {S0:Nat→Prop} {w0:World} {ops:Array Oper} {Q:Exit→Act→World→Prop} {s:St} {Φ:World→Prop}
theorem Ze3 {i d:Nat} {dT sT e:TypeId} {k:IntKind} {dx sx:Operand} {sp:Option Addr} {n m dc sc off:Nat} {zs ys:List Nat} (b:Nat) (Ψ:World→Prop) (hoff:off < zs.length) (hn:zs.length - off=n) (hm:ys.length=m) (hO:∀ w,Φ w→Own k e w b zs) (hY:∀ w,Φ w→Zai k w sp ys) (hnew:w0.heap.size≤b∨S0 b)
 (hΨ:∀ w w',Φ w→Fr (fun i=>i=b) w w'→Own k e w' b (ZaH zs off ys)→Ψ w') (K:SXi P N S0 w0 ops Q (i + 1) s Ψ)
 (hsz:Nat.blt i ops.size=true:=by kernel_rfl) (hg:(opAt ops i).guard=none:=by kernel_rfl) (ho:(opAt ops i).op=.call { callee:=.builtin .copy,args:=#[dx,sx],argTypes:=#[dT,sT] }:=by kernel_rfl) (hd:(opAt ops i).dst=some d:=by kernel_rfl) (hf:(s.sl d).isNone=true:=by kernel_rfl)
 (hu:P.underlying dT=some (.slice e):=by kernel_rfl) (hs:(P.info? e).map (·.size)=some 1:=by kernel_rfl) (hx:s.eval dx=some (.v (.slice (some ⟨b,off,none⟩) n dc)):=by kernel_rfl) (hy:s.eval sx=some (.v (.slice sp m sc)):=by kernel_rfl):SXi P N S0 w0 ops Q i s Φ:=by
 unfold SXi
 rw [Zfh hsz]
 intro L a w hi
 have ex:=hi.eval hx
 have ey:=hi.eval hy
 have hO1:=hO w hi.box.self
 have hlt:(zs.take off).length=off:=by rw [List.length_take]; omega
 have hlm:(zs.drop off).length=zs.length - off:=List.length_drop
 refine Zbg hg dx sx dT sT ho e k hu hs (some ⟨b,off,none⟩) sp n m dc sc ex ey b (zs.take off) (zs.drop off) [] ys (by rw [hlm,hn]) hm (by rw [List.take_append_drop,List.append_nil]; exact hO1) (hY w hi.box.self) (fun _=>by rw [hlt]) ?_
 intro w' z hO2 _ hF _
 have hO3:Own k e w' b (ZaH zs off ys):=by
  rw [List.append_nil,hlm] at hO2
  exact hO2
 have h1:=hi.eff hF (hi.notOwn (fun w R=>(hO w R).cell (i:=off) hoff)) hnew hO1.lt (fun w1 w2 h1 h2 h3=>hΨ w1 w2 h1 h2 (hO3.same h3))
 have hsl:s.sl d=none:=by simpa using hf
 refine K L _ _ ⟨by rw [hd]; simp [Act.put,h1.size],by rw [hd]; exact h1.df,fun j x hj=>?_,h1.mem,h1.box⟩
 have hne:d≠j:=fun e=>by rw [e,hj] at hsl; cases hsl
 have:=h1.sl j x hj
 rw [hd]
 simp [Act.put,Array.getElem?_setIfInBounds_ne hne,this]
end
section
variable {P:Program} {o:Oper} {ρ:Operand→Value} {w:World} {t e:TypeId} {x:Operand}
theorem ZdF {g len cap l n m:Nat} {lo:Operand} (hle:l≤len) (hlt:l < cap) (hn:len - l=n) (hm:cap - l=m) (ho:o.op=Op.slice t x (some lo) none none:=by kernel_rfl) (ht:P.underlying t=some (.slice e):=by kernel_rfl) (hs:(P.info? e).map (fun i=>i.size)=some 1:=by kernel_rfl)
 (hx:ρ x=.slice (some ⟨g,0,none⟩) len cap:=by kernel_rfl) (hl:ρ lo=.int .i64 ((l:Nat):Int):=by kernel_rfl):(execOp ρ o).run P w=.ok (.value (.slice (some ⟨g,l,none⟩) n m)) w:=by
 subst hn hm
 rw [Zd7 hle ho ht hs hx hl,if_neg (by omega),Option.map_some,ZeW,Nat.zero_add]
theorem Zn2 {A:Option Addr} {len cap l h n m:Nat} {lo hi:Operand} (hle:l≤h) (hle2:h≤cap) (hlt:l < cap) (hn:h - l=n) (hm:cap - l=m) (ho:o.op=Op.slice t x (some lo) (some hi) none:=by kernel_rfl) (ht:P.underlying t=some (.slice e):=by kernel_rfl) (hs:(P.info? e).map (fun i=>i.size)=some 1:=by kernel_rfl)
 (hx:ρ x=.slice A len cap:=by kernel_rfl) (hl:ρ lo=.int .i64 ((l:Nat):Int):=by kernel_rfl) (hh:ρ hi=.int .i64 ((h:Nat):Int):=by kernel_rfl):(execOp ρ o).run P w=.ok (.value (.slice (A.map (·.add l)) n m)) w:=by
 subst hn hm
 obtain ⟨inf,hinf,h1⟩:=Option.map_eq_some_iff.1 hs
 have hne:¬ cap=l:=by omega
 simp [execOp,ho,Instr.sliceAt,Instr.slice,Instr.sliceBounds,Instr.sliceBound,asIntOf,underlying,ht,hx,hl,hh,hle,hle2,sizeOf,typeInfo,hinf,h1,Result.andThen,hne]
end
/-! ### adding a number to a row from a place on -/
theorem ZkT (b c c2 off n:Nat) (A:Option Addr) (w:World) :
 Calls Tryz.prog 302 #[.slice (some ⟨b,off,none⟩) n c, .slice A 0 c2] w fun e w'=>e=.returned (.tuple #[])∧w'=w:=by
 go_enter Tryz.func302,Tryz.ntmps302
 go_wp2
 refine wp_loop_rounds 1 ?_
 rw [rounds_succ]
 go_wp2
 refine wp_loop_rounds 1 ?_
 rw [rounds_succ]
 go_wp2
 first | (go_ret; exact ⟨rfl,rfl⟩) | (go_end0; exact ⟨rfl,rfl⟩)
theorem Zf6 (b c c2 off n m y:Nat) (zs:List Nat) (A:Option Addr) (w:World) (hO:Own .u64 217 w b zs) (hY:Zad w (.slice A m c2) y) (hA:y≠0→∀ a,A=some a→a.block≠b) (hoff:off≤zs.length) (hn:zs.length - off=n)
 (hl:zs.length≤1099511627776) (hd:Dig W64 zs) (hfit:val W64 zs + W64 ^ off * y < W64 ^ zs.length) :
 Calls Tryz.prog 302 #[.slice (some ⟨b,off,none⟩) n c, .slice A m c2] w (fun en w'=>∃ x:List Nat,en=.returned (.tuple #[])∧(x.length=zs.length∧Dig W64 x∧val W64 x=val W64 zs + W64 ^ off * y)∧Fr (fun i=>i=b) w w'∧Own .u64 217 w' b x):=by
 obtain ⟨ys,hyl,hyc,hS,hdy,hty,hyv,hyw⟩:=hY.row
 by_cases h0:y=0
 ·have hm:m=0:=by rw [hyw,h0,Zcl]
  subst hm h0
  refine (ZkT b c c2 off n A w).mono ?_
  rintro e w' ⟨rfl,rfl⟩
  exact ⟨zs,rfl,⟨rfl,hd,by rw [Nat.mul_zero,Nat.add_zero]⟩,Fr.refl _ _,hO⟩
 ·have hp:0 < W64 ^ off:=Nat.pow_pos Zag
  have hwl:wl y≤zs.length - off:=ZaC.2 (by
   have h1:W64 ^ off * y < W64 ^ off * W64 ^ (zs.length - off):=by
    rw [← Nat.pow_add,Nat.add_sub_cancel' hoff]; omega
   exact Nat.lt_of_mul_lt_mul_left h1)
  have hv:=ZaJ (B:=W64) (xs:=zs) off
  rw [Nat.min_eq_left hoff] at hv
  have hlt:(zs.take off).length=off:=by rw [List.length_take]; omega
  have hld:(zs.drop off).length=n:=by rw [List.length_drop]; omega
  refine (Zfs b c c2 off n m (zs.take off) (zs.drop off) [] ys A w hlt hld hyl (by rw [List.take_append_drop,List.append_nil]; exact hO) hS (hA h0) (by omega) (by omega) (hd.drop off) hdy).mono ?_
  rintro e w' ⟨rfl,hF,_,q,hO2,hql,hqd,k,hk⟩
  rw [List.append_nil] at hO2
  have hk0:k=0:=by
   rcases Nat.eq_zero_or_pos k with h | h
   ·exact h
   ·exfalso
    have e1:val W64 (zs.take off) + W64 ^ off * (val W64 q + W64 ^ (zs.drop off).length * k)=val W64 zs + W64 ^ off * y:=by rw [hk,hyv,Nat.mul_add,hv]; omega
    have e2:W64 ^ off * (W64 ^ (zs.drop off).length * k)=W64 ^ zs.length * k:=by rw [← Nat.mul_assoc,← Nat.pow_add,List.length_drop,Nat.add_sub_cancel' hoff]
    rw [Nat.mul_add,e2] at e1
    have e3:W64 ^ zs.length * 1≤W64 ^ zs.length * k:=Nat.mul_le_mul_left _ h
    omega
  refine ⟨_,rfl,⟨by rw [List.length_append,hlt,hql,List.length_drop]; omega,(hd.take off).append hqd,?_⟩,hF,hO2⟩
  rw [hk0,Nat.mul_zero,Nat.add_zero,hyv] at hk
  rw [ZaQ,hlt,hk,hv,Nat.mul_add]
  omega
end Go.Proofs.YtcpjeaaapocoeaaGreatDoor

namespace Go.Proofs.YtcpjeaaapocoeaaGreatDoor
open Go.RowKit
theorem Zmq {P:Program} {o:Oper} {ρ:Operand→Value} {w:World} {t:TypeId} (ho:o.op=Op.buildSlice t 1 #[(0, .const (.int .u64 1))]) (ht:P.underlying t=some (.slice 217))
 (hinfo:(P.info? 217).map (fun i=>(i.zero,i.size))=some (some (.int .u64 0),1)) (hc:ρ (.const (.int .u64 1))=.int .u64 1):Does P o ρ w (DoR Zay (fun x w=>Zad w (Zay x) 1) w):=by
 have hrun:=ZiP (n:=1) (P:=P) (ρ:=ρ) (w:=w) (z:=.int .u64 0) (cells:=#[.int .u64 ((1:Nat):Int)]) (parts:=#[(0, .const (.int .u64 1))]) ht hinfo (by decide) (by decide) (by
  show Instr.fill _ _ [(0,ρ (.const (.int .u64 1)))]=_
  rw [hc]; rfl)
 have Q:Ext w (w.alloc (.cells #[.int .u64 ((1:Nat):Int)] 217)):=(Fr.refl _ w).alloc _
 have H:(execOp ρ o).run P w=.ok (.value (.slice (some ⟨w.heap.size,0,none⟩) 1 1)) (w.alloc (.cells #[.int .u64 ((1:Nat):Int)] 217)):=by
  revert hrun
  generalize (#[(0,Operand.const (Value.int .u64 1))]:Array (Nat × Operand))=parts at ho ⊢
  intro hrun
  simp only [execOp,ho,Sem.run_bind,hrun,Result.andThen_ok,Sem.run_pure]
 refine Or.inl ⟨_,_,H,(some ⟨w.heap.size,0,none⟩,1,1),rfl,Q,boxn Q (fun S w'' hS hF=>?_)⟩
 exact (Zad.one w (x:=1) (by omega) (by rw [Zal]; decide)).nrb hS hF
theorem ZaF {w w':World} {e:Ending} {n:Nat} (h:Za0 w n e w'):ZbI Zay (fun x w=>Zad w (Zay x) n) w e w':=by
 obtain ⟨v,rfl,h2,Q⟩:=h
 obtain ⟨A,l,c,rfl⟩:=h2.slice
 exact ⟨(A,l,c),rfl,Q,boxn Q (fun S w'' hS hF=>h2.nrb hS hF)⟩
end Go.Proofs.YtcpjeaaapocoeaaGreatDoor

namespace Go.Proofs.YtcpjeaaapocoeaaGreatDoor
open Go.RowKit
def ZlU (A:Option Addr) (c v:Nat) (w:World) (e:Ending) (w':World):Prop:=∃ k,e=.returned (.slice A k c)∧Zad w' (.slice A k c) v∧Ext w w'
theorem Znm {A:Option Addr} {l c n k j:Nat} (w:World) (hN:Zad w (.slice A l c) n) (hk:k + j≤l) (hkc:k < c) (hl:l≤1099511627776) :
 Calls Tryz.prog 298 #[.slice (A.map (·.add k)) j (c - k)] w (ZlU (A.map (·.add k)) (c - k) (n / W64 ^ k % W64 ^ j) w):=by
 have h:=hN.high (k:=k) (by omega)
 rw [if_neg (by omega)] at h
 obtain ⟨xs,hxl,hc,hS,hd,ht,hv,_⟩:=h.row
 have hk':(xs.take j).length=j:=by rw [List.length_take]; omega
 refine (Za5 _ (xs.take j) j (c - k) w hk' (hS.take j) (by omega) (by omega)).mono ?_
 rintro e w' ⟨rfl,rfl⟩
 exact ⟨_,rfl,⟨_,ZaV (xs.take j),c - k,by rw [ZaR],by rw [ZaR]; exact Nat.le_trans (ZcI _ _) (by omega),(hS.take j).take _,Zca (hd.take j),ZbP _,by rw [ZaZ,(Zeu Zag hd j).1,hv]⟩,Fr.refl _ _⟩
theorem Znn {w w':World} {A:Option Addr} {c v:Nat} {e:Ending} (h:ZlU A c v w e w'):ZbI (fun k:Nat=>.slice A k c) (fun k w=>Zad w (.slice A k c) v) w e w':=by
 obtain ⟨k,rfl,h1,h2⟩:=h
 exact ⟨k,rfl,h2,boxn h2 (fun S w'' hS hF=>h1.nrb hS hF)⟩
def Zno (b n v:Nat) (w:World) (e:Ending) (w':World):Prop:=∃ k,e=.returned (.slice (some ⟨b,0,none⟩) k n)∧Zad w' (.slice (some ⟨b,0,none⟩) k n) v∧Ext w w'
theorem Zf7 {b n:Nat} {zs:List Nat} {w:World} (hO:Own .u64 217 w b zs) (hd:Dig W64 zs) (hl:zs.length=n) (hn:n≤1099511627776) :
 Calls Tryz.prog 298 #[.slice (some ⟨b,0,none⟩) n n] w (Zno b n (val W64 zs) w):=by
 subst hl
 refine (Za5 (some ⟨b,0,none⟩) zs zs.length zs.length w rfl hO.shows0 (Nat.le_refl _) hn).mono ?_
 rintro e w' ⟨rfl,rfl⟩
 exact ⟨_,rfl,Zad.of_own hO hd (Nat.le_refl _),Fr.refl _ _⟩
theorem Zf8 {w w':World} {b n v:Nat} {e:Ending} (h:Zno b n v w e w'):ZbI (fun k:Nat=>.slice (some ⟨b,0,none⟩) k n) (fun k w=>Zad w (.slice (some ⟨b,0,none⟩) k n) v) w e w':=by
 obtain ⟨k,rfl,h1,h2⟩:=h
 exact ⟨k,rfl,h2,boxn h2 (fun S w'' hS hF=>h1.nrb hS hF)⟩
theorem Ze4 (x k:Nat):wl (x % W64 ^ k)≤k:=ZaC.2 (Nat.mod_lt _ (Nat.pow_pos Zag))
theorem ZlV {x k l:Nat} (h:wl x≤l):wl (x / W64 ^ k)≤l - k:=by
 rcases Nat.lt_or_ge l k with hk | hk
 ·rw [ZfL (Nat.le_trans h (by omega)),Zcl]; omega
 ·refine ZaC.2 (Nat.div_lt_of_lt_mul ?_)
  rw [← Nat.pow_add,Nat.add_sub_cancel' hk]
  exact ZaC.1 h
theorem Zad.block_lt {w:World} {A:Option Addr} {l c n:Nat} (h:Zad w (.slice A l c) n) (h0:n≠0) {a:Addr} (ha:A=some a):a.block < w.heap.size:=by
 obtain ⟨xs,hxl,_,hS,_,_,hv,_⟩:=h.row
 refine hS.lt ?_ ha
 rcases Nat.eq_zero_or_pos xs.length with e | e
 ·rw [List.length_eq_zero_iff.1 e] at hv; exact absurd hv.symm h0
 ·exact e
theorem ZjS {w w':World} {A A2:Option Addr} {n b:Nat} {e:Ending} (h:ZaN w A A2 n e w') (hb:b < w.heap.size):ZbI (fun x:{q:ShN // ∀ a,q.1=some a→b < a.block∨q.1=A∨q.1=A2}=>Zay x.1) (fun x w=>Zad w (Zay x.1) n) w e w':=by
 obtain ⟨B,l,c,rfl,h1,h2,h3⟩:=h
 exact ⟨⟨(B,l,c),fun a ha=>(h3 a ha).imp (fun h=>Nat.lt_of_lt_of_le hb h) id⟩,rfl,h2,boxn h2 (fun S w'' hS hF=>h1.nrb hS hF)⟩
theorem ZbX {w w':World} {A A2:Option Addr} {n b:Nat} {e:Ending} (h:ZaN w A A2 n e w') (hb:b≤w.heap.size):ZbI (fun x:{q:ShN // ∀ a,q.1=some a→b≤a.block∨q.1=A∨q.1=A2}=>Zay x.1) (fun x w=>Zad w (Zay x.1) n) w e w':=by
 obtain ⟨B,l,c,rfl,h1,h2,h3⟩:=h
 exact ⟨⟨(B,l,c),fun a ha=>(h3 a ha).imp (fun h=>Nat.le_trans hb h) id⟩,rfl,h2,boxn h2 (fun S w'' hS hF=>h1.nrb hS hF)⟩
instance {b:Nat} {A A2:Option Addr}:Nonempty {q:ShN // ∀ a,q.1=some a→b < a.block∨q.1=A∨q.1=A2}:=⟨⟨(none,0,0),fun a h=>by cases h⟩⟩
theorem ZoR (X0 X1 Y0 Y1 H:Nat):X0 * Y0≤(X0 + X1) * (Y0 + Y1)∧X1 * Y1≤(X0 + X1) * (Y0 + Y1) - X0 * Y0∧X0 * Y0 + H * ((X0 + X1) * (Y0 + Y1) - X0 * Y0 - X1 * Y1) + H * H * (X1 * Y1)=(X0 + H * X1) * (Y0 + H * Y1):=by
 have e:(X0 + X1) * (Y0 + Y1)=X0 * Y0 + (X0 * Y1 + X1 * Y0) + X1 * Y1:=by
  rw [Nat.add_mul,Nat.mul_add,Nat.mul_add]; omega
 refine ⟨by omega,by omega,?_⟩
 rw [show (X0 + X1) * (Y0 + Y1) - X0 * Y0 - X1 * Y1=X0 * Y1 + X1 * Y0 by omega]
 rw [Nat.add_mul X0,Nat.mul_add,Nat.mul_add,Nat.mul_add]
 have e1:H * (X0 * Y1)=X0 * (H * Y1):=by rw [Nat.mul_left_comm]
 have e2:H * (X1 * Y0)=H * X1 * Y0:=by rw [Nat.mul_assoc]
 have e3:H * H * (X1 * Y1)=H * X1 * (H * Y1):=by rw [Nat.mul_assoc,Nat.mul_assoc,Nat.mul_left_comm X1 H Y1]
 omega
theorem ZdS (zs ys:List Nat):(ZaH zs 0 ys).length=zs.length:=Ze2 (Nat.zero_le _)
theorem ZlW {n L:Nat} (h:wl L≤n):(ZaH (List.replicate n 0) 0 (wds L)).length=n∧Dig W64 (ZaH (List.replicate n 0) 0 (wds L))∧val W64 (ZaH (List.replicate n 0) 0 (wds L))=L:=by
 have hd:=Dig.replicate Zag n
 refine ⟨by rw [ZdS,List.length_replicate],ZgV hd (Zbr L).1,?_⟩
 rw [ZjR hd (by rw [Zbd]; exact Nat.pow_pos Zag) (by rw [ZeM,List.length_replicate]; omega),Zbd,(Zbr L).2,Nat.pow_zero,Nat.one_mul,Nat.zero_add]
theorem ZkU {n k L G E P half:Nat} {zs:List Nat} (h:zs.length=n∧Dig W64 zs∧val W64 zs=L) (hL:L < W64 ^ k) (hG:k + wl G≤n) (Q:L + W64 ^ half * E + W64 ^ k * G=P) (hP:P < W64 ^ n) (hh:half≤n) (hn:n≤1099511627776) :
 (ZaH zs k (wds G)).length=n∧Dig W64 (ZaH zs k (wds G))∧val W64 (ZaH zs k (wds G)) + W64 ^ half * E=P∧half≤(ZaH zs k (wds G)).length∧(ZaH zs k (wds G)).length≤1099511627776∧val W64 (ZaH zs k (wds G)) + W64 ^ half * E < W64 ^ (ZaH zs k (wds G)).length:=by
 have h1:(ZaH zs k (wds G)).length=n:=by rw [Ze2 (by omega),h.1]
 have h2:val W64 (ZaH zs k (wds G))=L + W64 ^ k * G:=by
  rw [ZjR h.2.1 (by rw [h.2.2]; exact hL) (by rw [ZeM]; omega),h.2.2,(Zbr G).2]
 have h3:val W64 (ZaH zs k (wds G)) + W64 ^ half * E=P:=by rw [h2]; omega
 exact ⟨h1,ZgV h.2.1 (Zbr G).1,h3,by omega,by omega,by rw [h1,h3]; exact hP⟩
theorem ZjT {x y l l2 half:Nat} (hwx:l=wl x) (hwy:l2=wl y) (hle:l2≤l) (hh:(l + 1) / 2=half) (hgt:half < l2) :
 ∃ X0 X1 Y0 Y1 L G M E,x % W64 ^ half=X0∧x / W64 ^ half=X1∧y % W64 ^ half=Y0∧y / W64 ^ half=Y1∧X0 * Y0=L∧X1 * Y1=G∧(X0 + X1) * (Y0 + Y1)=M∧M - L - G=E∧L≤M∧G≤M - L ∧
   wl X0≤half∧wl X1≤half∧wl Y0≤half∧wl Y1≤half∧wl (X0 + X1)≤half + 1∧wl (Y0 + Y1)≤half + 1∧wl M≤half + 1 + (half + 1)∧wl L≤l + l2∧L < W64 ^ (2 * half)∧2 * half + wl G≤l + l2∧L + W64 ^ half * E + W64 ^ (2 * half) * G=x * y∧x * y < W64 ^ (l + l2):=by
 have k:=ZoR (x % W64 ^ half) (x / W64 ^ half) (y % W64 ^ half) (y / W64 ^ half) (W64 ^ half)
 rw [Nat.mod_add_div,Nat.mod_add_div,← Nat.pow_add,← Nat.two_mul] at k
 have w1:=Ze4 x half
 have w2:wl (x / W64 ^ half)≤l - half:=ZlV (by omega)
 have w3:=Ze4 y half
 have w4:wl (y / W64 ^ half)≤l2 - half:=ZlV (by omega)
 have w5:=Zdl (x % W64 ^ half) (y % W64 ^ half)
 have w6:=Zdl (x / W64 ^ half) (y / W64 ^ half)
 have w7:=Zgx (a:=x % W64 ^ half) (b:=x / W64 ^ half) (k:=half) w1 (by omega)
 have w8:=Zgx (a:=y % W64 ^ half) (b:=y / W64 ^ half) (k:=half) w3 (by omega)
 have w9:=Zdl (x % W64 ^ half + x / W64 ^ half) (y % W64 ^ half + y / W64 ^ half)
 refine ⟨_,_,_,_,_,_,_,_,rfl,rfl,rfl,rfl,rfl,rfl,rfl,rfl,k.1,k.2.1,w1,by omega,w3,by omega,w7,w8,by omega,by omega,ZaC.1 (by omega),by omega,k.2.2,?_⟩
 rw [Nat.pow_add]
 exact Nat.mul_lt_mul'' (ZaC.1 (by omega)) (ZaC.1 (by omega))
def ZdT (X Y n s:Nat) (q:List Nat):Prop:=q.length=n∧Dig W64 q∧val W64 q=X % W64 ^ s * Y
theorem ZdT.start (X Y n:Nat):ZdT X Y n 0 (List.replicate n 0):=⟨List.length_replicate,Dig.replicate Zag n,by rw [Zbd,Nat.pow_zero,Nat.mod_one,Nat.zero_mul]⟩
theorem Zn3 (X s j:Nat):X % W64 ^ s + W64 ^ s * (X / W64 ^ s % W64 ^ j)=X % W64 ^ (s + j):=by
 rw [Nat.pow_add,Nat.mod_mul]
theorem ZdT.fit {X Y n s l l2 j:Nat} {q:List Nat} (h:ZdT X Y n s q) (hX:wl X≤l) (hY:wl Y≤l2) (hn:n=l + l2):val W64 q + W64 ^ s * (X / W64 ^ s % W64 ^ j * Y)=X % W64 ^ (s + j) * Y∧val W64 q + W64 ^ s * (X / W64 ^ s % W64 ^ j * Y) < W64 ^ q.length:=by
 have e:val W64 q + W64 ^ s * (X / W64 ^ s % W64 ^ j * Y)=X % W64 ^ (s + j) * Y:=by
  rw [h.2.2,← Nat.mul_assoc,← Nat.add_mul,Zn3]
 refine ⟨e,?_⟩
 rw [e,h.1,hn,Nat.pow_add W64 l]
 exact Nat.mul_lt_mul'' (Nat.lt_of_le_of_lt (Nat.mod_le _ _) (ZaC.1 hX)) (ZaC.1 hY)
theorem ZdT.next {X Y n s l l2 e:Nat} {q z:List Nat} (h:ZdT X Y n s q) (hX:wl X≤l) (he:min (s + l2) l=e) (hse:s≤e) (hz:z.length=q.length∧Dig W64 z∧val W64 z=X % W64 ^ (s + (e - s)) * Y):ZdT X Y n (s + l2) z:=by
 refine ⟨hz.1.trans h.1,hz.2.1,?_⟩
 rw [hz.2.2,Nat.add_sub_cancel' hse]
 rcases Nat.le_total (s + l2) l with h1 | h1
 ·rw [show e=s + l2 by omega]
 ·rw [ZfK (Nat.le_trans hX (show l≤e by omega)),ZfK (Nat.le_trans hX (show l≤s + l2 by omega))]
theorem ZdT.done {X Y n s l:Nat} {q:List Nat} (h:ZdT X Y n s q) (hX:wl X≤l) (hs:l≤s):val W64 q=X * Y:=by rw [h.2.2,ZfK (Nat.le_trans hX hs)]
theorem Zn4 {X Y P s j r D:Nat} {A A2 B:Option Addr} (hD:X / W64 ^ s % W64 ^ j=D) (hP:D * Y=P) (h:∀ a,B=some a→r < a.block∨B=A.map (·.add s)∨B=A2) (hA:X≠0→∀ a,A=some a→a.block < r) (hA2:Y≠0→∀ a,A2=some a→a.block < r) :
 P≠0→∀ a,B=some a→a.block≠r:=by
 intro hP0 a ha
 have hY0:Y≠0:=fun e=>hP0 (by rw [← hP,e,Nat.mul_zero])
 have hX0:X≠0:=fun e=>hP0 (by rw [← hP,← hD,e,Nat.zero_div,Nat.zero_mod,Nat.zero_mul])
 rcases h a ha with h | h | h
 ·exact Nat.ne_of_gt h
 ·cases A with
  | none=>rw [ha] at h; cases h
  | some a0 =>
    rw [ha,Option.map_some] at h
    injection h with h
    rw [h]
    have e:(a0.add s).block=a0.block:=by unfold Addr.add; split<;>rfl
    rw [e]
    exact Nat.ne_of_lt (hA hX0 a0 rfl)
 ·exact Nat.ne_of_lt (hA2 hY0 a (h ▸ ha))
section
variable {P:Program} {o:Oper} {ρ:Operand→Value} {w:World}
theorem ZoS {x y:Operand} {t:TypeId} {a b:Nat} (ho:o.op=.call { callee:=.builtin .min,args:=#[x,y],argTypes:=#[t,t] }:=by kernel_rfl) (hx:ρ x=.int .i64 ((a:Nat):Int):=by kernel_rfl) (hy:ρ y=.int .i64 ((b:Nat):Int):=by kernel_rfl):(execOp ρ o).run P w=.ok (.value (.int .i64 ((min a b:Nat):Int))) w:=by
 simp [execOp,ho,hx,hy,go_sem,Builtin.min_,Builtin.min2]
 split<;>omega
end
theorem Zhz (A:Option Addr) (l c:Nat) (A2:Option Addr) (l2 c2 X Y N:Nat) (w:World) (hX:Zad w (.slice A l c) X) (hY:Zad w (.slice A2 l2 c2) Y) (half:Nat) (hle:l2≤l) (hl:l≤1073741824) (h40:40≤l2) (hh:(l + 1) / 2=half) (hgt:half < l2) (hN:half + 1≤N) (IH:∀ (B:Option Addr) (m d:Nat) (B2:Option Addr) (m2 d2 a b:Nat) (w:World),Zad w (.slice B m d) a→Zad w (.slice B2 m2 d2) b→wl a≤N→wl b≤N→Calls Tryz.prog 226 #[.slice B m d, .slice B2 m2 d2] w (ZaN w B B2 (a * b))) :
 Calls Tryz.prog 226 #[.slice A l c, .slice A2 l2 c2] w (ZaN w A A2 (X * Y)):=by
 obtain ⟨xs_,hxl,hxc,_,_,_,_,hwx⟩:=hX.row
 obtain ⟨ys_,hyl,hyc,_,_,_,_,hwy⟩:=hY.row
 have hc:l≤c:=by omega
 have hc2:l2≤c2:=by omega
 obtain ⟨X0,X1,Y0,Y1,L,G,M,E,hX0,hX1,hY0,hY1,hL,hH,hM,hE_,hLM,hGM,wX0,wX1,wY0,wY1,wS,wT,wM,hwL,hL0,hG0,hsum,hlt⟩:=ZjT hwx hwy hle hh hgt
 refine ZaA (Φ:=fun w=>(Zad w (.slice A l c) (X)∧Zad w (.slice A2 l2 c2) (Y))) Tryz.func226 rfl (by kernel_rfl) (fun w' hf=>⟨hX.ext hf,hY.ext hf⟩) ?_
 refine Zac (Zab (xq 1 [eS1 4 none 0 0] [] ?_))
 refine xe (Zaa (Zac (Zac (Zab (xq 5 [(21, .v (.bool (decide (((l:Nat):Int) < ((l2:Nat):Int)))))] [] ?_)))))
 rw [show decide (((l:Nat):Int) < ((l2:Nat):Int))=false from decide_eq_false (by omega)]
 refine xe (Zaa (xb (Zax (Zaa (Zac (Zab (xq 3 [(26, .v (.int .i64 (IntKind.i64.wrap (((l:Nat):Int) + 1))))] [] ?_)))))))
 rw [show IntKind.i64.wrap ((((l:Nat):Int) + 1))=((l + 1:Nat):Int) from by rw [IntKind.wrap_i64]; omega]
 refine xq 1 [(27, .v (.int .i64 (IntKind.i64.wrap ((((l + 1:Nat):Int)).tdiv 2))))] [] ?_
 rw [show IntKind.i64.wrap ((((l + 1:Nat):Int)).tdiv 2)=((half:Nat):Int) from by rw [← hh]; exact tdqK (l + 1) 2 (by omega)]
 refine xq 1 [(5, .v (.int .i64 ((half:Nat):Int)))] [] ?_
 refine xe (Zaa (Zac (Za4 (Zac (Zab (xq 3 [(31, .v (.bool ((((l2:Nat):Int):Int) == 0)))] [] ?_))))))
 rw [show ((((l2:Nat):Int):Int) == 0)=false from beq_eq_false_iff_ne.2 (by omega)]
 refine xq 1 [(28, .v (.bool false))] [] ?_
 refine xe (Zaa (xb (Zac (Zab (xq 3 [(35, .v (.bool ((((l2:Nat):Int):Int) == 1)))] [] ?_)))))
 rw [show ((((l2:Nat):Int):Int) == 1)=false from beq_eq_false_iff_ne.2 (by omega)]
 refine xq 7 [(32, .v (.bool false))] [] ?_
 refine xe (Zaa (xb (Zac (Zab (xq 3 [(46, .v (.bool (decide (((l2:Nat):Int) < 40))))] [] ?_)))))
 rw [show decide (((l2:Nat):Int) < 40)=false from decide_eq_false (by omega)]
 refine xq 1 [(43, .v (.bool false))] [] ?_
 refine xe (Zaa (xb (Zac (Zab (xq 4 [(83, .v (.bool (decide (((l2:Nat):Int)≤((half:Nat):Int)))))] [] ?_)))))
 rw [show decide (((l2:Nat):Int)≤((half:Nat):Int))=false from decide_eq_false (by omega)]
 refine xr 1 [eS1 0 A l c,eS1 1 A2 l2 c2,eS1 4 none 0 0,(5, .v (.int .i64 ((half:Nat):Int))),(79, .v (.bool false))] [] ?_
 refine xe (Zaa (xb (Zax (Zdq (Zaa (Zac ?_))))))
 refine ZaI 9 (by kernel_rfl) (by kernel_rfl) Zaq ?_
 refine xqg 2 [eS1 87 A l c,(88, .v (.int .i64 ((half:Nat):Int)))] ?_
 refine xqj 89 (.slice A half c) (fun w Q=>ZgU (t:=133) (e:=217) (x:=(Operand.tmp 87)) (len:=l) (cap:=c) (h:=half) (hi:=(Operand.tmp 88)) (by omega)) ?_
 refine xqd 298 [.slice A half c] 90 Zay _ (fun w R Q=>(Zdz (k:=half) _ Q.1 (by omega) (by omega)).mono (fun _ _ h=>ZaF (by rw [hX0] at h; exact h))) (fun xx=>?_)
 obtain ⟨A10,l10,c10⟩:=xx
 refine xqg 2 [eS1 91 A l c,(92, .v (.int .i64 ((half:Nat):Int)))] ?_
 refine xqj 93 (.slice (if c=half then A else (A).map (·.add half)) (l - half) (c - half)) (fun w Q=>Zd7 (t:=133) (e:=217) (x:=(Operand.tmp 91)) (len:=l) (cap:=c) (l:=half) (lo:=(Operand.tmp 92)) (by omega)) ?_
 refine xqg 2 [eS1 9 A10 l10 c10,(10, .v (.slice (if c=half then A else (A).map (·.add half)) (l - half) (c - half)))] ?_
 refine xz (xe (Zaa (Zac ?_)))
 refine ZaI 9 (by kernel_rfl) (by kernel_rfl) Zaq ?_
 refine xqg 2 [eS1 94 A2 l2 c2,(95, .v (.int .i64 ((half:Nat):Int)))] ?_
 refine xqj 96 (.slice A2 half c2) (fun w Q=>ZgU (t:=133) (e:=217) (x:=(Operand.tmp 94)) (len:=l2) (cap:=c2) (h:=half) (hi:=(Operand.tmp 95)) (by omega)) ?_
 refine xqd 298 [.slice A2 half c2] 97 Zay _ (fun w R Q=>(Zdz (k:=half) _ Q.1.2 (by omega) (by omega)).mono (fun _ _ h=>ZaF (by rw [hY0] at h; exact h))) (fun xx=>?_)
 obtain ⟨A11,l11,c11⟩:=xx
 refine xqg 2 [eS1 98 A2 l2 c2,(99, .v (.int .i64 ((half:Nat):Int)))] ?_
 refine xqj 100 (.slice (if c2=half then A2 else (A2).map (·.add half)) (l2 - half) (c2 - half)) (fun w Q=>Zd7 (t:=133) (e:=217) (x:=(Operand.tmp 98)) (len:=l2) (cap:=c2) (l:=half) (lo:=(Operand.tmp 99)) (by omega)) ?_
 refine xqg 2 [eS1 11 A11 l11 c11,(12, .v (.slice (if c2=half then A2 else (A2).map (·.add half)) (l2 - half) (c2 - half)))] ?_
 refine xz (xe (Zaa (Zac (Zab (xq 2 [eS1 101 A10 l10 c10,eS1 102 A11 l11 c11] [] ?_)))))
 refine xqc 226 [.slice A10 l10 c10, .slice A11 l11 c11] 103 Zay _ (fun w R Q=>((IH _ _ _ _ _ _ (X0) (Y0) _ Q.1.2 Q.2 (by omega) (by omega)).mono (fun _ _ h=>h.ret)).mono (fun _ _ h=>ZaF (by rw [hL] at h; exact h))) (fun xx=>?_)
 obtain ⟨A12,l12,c12⟩:=xx
 refine xq 1 [eS1 13 A12 l12 c12] [] ?_
 refine xe (Zaa (Zac (Zab (xq 2 [(104, .v (.slice (if c=half then A else (A).map (·.add half)) (l - half) (c - half))),(105, .v (.slice (if c2=half then A2 else (A2).map (·.add half)) (l2 - half) (c2 - half)))] [] ?_))))
 refine xqc 226 [.slice (if c=half then A else (A).map (·.add half)) (l - half) (c - half), .slice (if c2=half then A2 else (A2).map (·.add half)) (l2 - half) (c2 - half)] 106 Zay _ (fun w R Q=>((IH _ _ _ _ _ _ (X1) (Y1) _ (hX1 ▸ Zad.high Q.1.1.1.1 (by omega)) (hY1 ▸ Zad.high Q.1.1.1.2 (by omega)) (by omega) (by omega)).mono (fun _ _ h=>h.ret)).mono (fun _ _ h=>ZaF (by rw [hH] at h; exact h))) (fun xx=>?_)
 obtain ⟨A13,l13,c13⟩:=xx
 refine xq 1 [eS1 14 A13 l13 c13] [] ?_
 refine xe (Zaa (Zac (Zab (xq 2 [eS1 107 A10 l10 c10,(108, .v (.slice (if c=half then A else (A).map (·.add half)) (l - half) (c - half)))] [] ?_))))
 refine xqc 300 [.slice A10 l10 c10, .slice (if c=half then A else (A).map (·.add half)) (l - half) (c - half)] 109 Zay _ (fun w R Q=>(Zch _ _ (X0) (X1) _ Q.1.1.1.2 (hX1 ▸ Zad.high Q.1.1.1.1.1 (by omega)) (by omega) (by omega)).mono (fun _ _=>ZaF)) (fun xx=>?_)
 obtain ⟨A14,l14,c14⟩:=xx
 refine xq 2 [eS1 110 A11 l11 c11,(111, .v (.slice (if c2=half then A2 else (A2).map (·.add half)) (l2 - half) (c2 - half)))] [] ?_
 refine xqc 300 [.slice A11 l11 c11, .slice (if c2=half then A2 else (A2).map (·.add half)) (l2 - half) (c2 - half)] 112 Zay _ (fun w R Q=>(Zch _ _ (Y0) (Y1) _ Q.1.1.1.2 (hY1 ▸ Zad.high Q.1.1.1.1.1.2 (by omega)) (by omega) (by omega)).mono (fun _ _=>ZaF)) (fun xx=>?_)
 obtain ⟨A15,l15,c15⟩:=xx
 refine xqc 226 [.slice A14 l14 c14, .slice A15 l15 c15] 113 Zay _ (fun w R Q=>((IH _ _ _ _ _ _ (X0 + X1) (Y0 + Y1) _ Q.1.2 Q.2 (by omega) (by omega)).mono (fun _ _ h=>h.ret)).mono (fun _ _ h=>ZaF (by rw [hM] at h; exact h))) (fun xx=>?_)
 obtain ⟨A16,l16,c16⟩:=xx
 refine xr 1 [eS1 0 A l c,eS1 1 A2 l2 c2,eS1 4 none 0 0,(5, .v (.int .i64 ((half:Nat):Int))),eS1 13 A12 l12 c12,eS1 14 A13 l13 c13,eS1 15 A16 l16 c16] [] ?_
 refine xe (Zaa (Zac (Zab (xq 2 [eS1 114 A16 l16 c16,eS1 115 A12 l12 c12] [] ?_))))
 refine xqc 301 [.slice A16 l16 c16, .slice A12 l12 c12] 116 Zay _ (fun w R Q=>(Zbh _ _ M L _ Q.2 Q.1.1.1.1.2 (by omega) hLM).mono (fun _ _=>ZaF)) (fun xx=>?_)
 obtain ⟨A17,l17,c17⟩:=xx
 refine xq 1 [eS1 117 A13 l13 c13] [] ?_
 refine xqc 301 [.slice A17 l17 c17, .slice A13 l13 c13] 118 Zay _ (fun w R Q=>(Zbh _ _ (M - L) G _ Q.2 Q.1.1.1.1.2 (Nat.le_trans (ZaS (Nat.sub_le _ _)) (by omega)) hGM).mono (fun _ _ h=>ZaF (by rw [hE_] at h; exact h))) (fun xx=>?_)
 obtain ⟨A18,l18,c18⟩:=xx
 refine xq 1 [eS1 15 A18 l18 c18] [] ?_
 refine xe (Zaa (Zac (Zab (xq 5 [(123, .v (.int .i64 (IntKind.i64.wrap (((l:Nat):Int) + ((l2:Nat):Int)))))] [] ?_))))
 rw [show IntKind.i64.wrap ((((l:Nat):Int) + ((l2:Nat):Int)))=((l + l2:Nat):Int) from by rw [IntKind.wrap_i64]; omega]
 refine Zkj (d:=124) (t:=133) (e:=217) (k:=.u64) (kl:=.i64) (kc:=.i64) (l:=(Operand.tmp 123)) (c:=(Operand.tmp 123)) (l + l2) 8 (by omega) (by decide) (fun r19 hr19 lr19=>?_)
 have hEA:E≠0→∀ a,A18=some a→a.block≠r19:=fun h0 a ha=>Nat.ne_of_lt (lr19 a.block (fun w Q=>(Q.2).block_lt h0 ha))
 refine xr 1 [eS1 4 none 0 0,(5, .v (.int .i64 ((half:Nat):Int))),eS1 13 A12 l12 c12,eS1 14 A13 l13 c13,eS1 15 A18 l18 c18,eS1 16 (some ⟨r19,0,none⟩) (l + l2) (l + l2)] [] ?_
 refine xe (Zaa (Zac (Zab (xq 2 [eS1 125 (some ⟨r19,0,none⟩) (l + l2) (l + l2),eS1 126 A12 l12 c12] [] ?_))))
 refine SXi.know (p:=l12=(wds (L)).length∧(wds (L)).length≤c12) (fun w _ Q=>((Q.1).self.1.1.1.1.1.1.2).lens) (fun hln=>?_)
 refine Ze3 (d:=127) (dx:=Operand.tmp 125) (sx:=Operand.tmp 126) (dT:=133) (sT:=133) (e:=217) (k:=.u64) (sp:=A12) (zs:=List.replicate (l + l2) 0) (ys:=wds (L)) (off:=0) (n:=(l + l2)) (m:=l12) (dc:=(l + l2)) (sc:=c12) r19 (fun w=>(Box (fun j=>r19≤j) w (fun w=>((((((((((Zad w (.slice A l c) (X)∧Zad w (.slice A2 l2 c2) (Y))∧Zad w (.slice A10 l10 c10) (X0))∧Zad w (.slice A11 l11 c11) (Y0))∧Zad w (.slice A12 l12 c12) (L))∧Zad w (.slice A13 l13 c13) (G))∧Zad w (.slice A14 l14 c14) (X0 + X1))∧Zad w (.slice A15 l15 c15) (Y0 + Y1))∧Zad w (.slice A16 l16 c16) (M))∧Zad w (.slice A17 l17 c17) (M - L))∧Zad w (.slice A18 l18 c18) (E)))∧Own .u64 217 w r19 (ZaH (List.replicate (l + l2) 0) (0) (wds (L))))) (by rw [List.length_replicate]; omega) (by simp) hln.1.symm (fun w Q=>Q.2) (fun w Q=>((Q.1).self.1.1.1.1.1.1.2).shows) (Or.inl hr19) (fun w w' Q hF hO=>⟨((Q.1).fr (hF.mono (fun _ _ e=>by rw [e]; exact Nat.le_refl _))),hO⟩) ?_
 have hv1:=ZlW (n:=l + l2) hwL
 refine xr 0 [eS1 4 none 0 0,(5, .v (.int .i64 ((half:Nat):Int))),eS1 14 A13 l13 c13,eS1 15 A18 l18 c18,eS1 16 (some ⟨r19,0,none⟩) (l + l2) (l + l2)] [] ?_
 refine xe (Zaa (Zac (Zab (xq 3 [eS1 128 (some ⟨r19,0,none⟩) (l + l2) (l + l2),(130, .v (.int .i64 (IntKind.i64.wrap (2 * ((half:Nat):Int)))))] [] ?_))))
 rw [show IntKind.i64.wrap (2 * ((half:Nat):Int))=((2 * half:Nat):Int) from by rw [IntKind.wrap_i64]; omega]
 refine xqk 131 (.slice (some ⟨r19,2 * half,none⟩) ((l + l2) - (2 * half)) ((l + l2) - (2 * half))) (fun w R Q=>ZdF (t:=133) (e:=217) (x:=(Operand.tmp 128)) (len:=(l + l2)) (cap:=(l + l2)) (l:=2 * half) (lo:=(Operand.tmp 130)) (by omega) (by omega) rfl rfl) ?_
 refine xq 1 [eS1 132 A13 l13 c13] [] ?_
 refine SXi.know (p:=l13=(wds (G)).length∧(wds (G)).length≤c13) (fun w _ Q=>((Q.1).self.1.1.1.1.1.2).lens) (fun hln=>?_)
 refine Ze3 (d:=133) (dx:=Operand.tmp 131) (sx:=Operand.tmp 132) (dT:=133) (sT:=133) (e:=217) (k:=.u64) (sp:=A13) (zs:=ZaH (List.replicate (l + l2) 0) (0) (wds (L))) (ys:=wds (G)) (off:=2 * half) (n:=((l + l2) - (2 * half))) (m:=l13) (dc:=((l + l2) - (2 * half))) (sc:=c13) r19 (fun w=>(Box (fun j=>r19≤j) w (fun w=>((((((((((Zad w (.slice A l c) (X)∧Zad w (.slice A2 l2 c2) (Y))∧Zad w (.slice A10 l10 c10) (X0))∧Zad w (.slice A11 l11 c11) (Y0))∧Zad w (.slice A12 l12 c12) (L))∧Zad w (.slice A13 l13 c13) (G))∧Zad w (.slice A14 l14 c14) (X0 + X1))∧Zad w (.slice A15 l15 c15) (Y0 + Y1))∧Zad w (.slice A16 l16 c16) (M))∧Zad w (.slice A17 l17 c17) (M - L))∧Zad w (.slice A18 l18 c18) (E)))∧Own .u64 217 w r19 (ZaH (ZaH (List.replicate (l + l2) 0) (0) (wds (L))) (2 * half) (wds (G))))) (by simp only [ZdS,List.length_replicate]; omega) (by simp [ZdS]) hln.1.symm (fun w Q=>Q.2) (fun w Q=>((Q.1).self.1.1.1.1.1.2).shows) (Or.inl hr19) (fun w w' Q hF hO=>⟨((Q.1).fr (hF.mono (fun _ _ e=>by rw [e]; exact Nat.le_refl _))),hO⟩) ?_
 have hv2:=ZkU (half:=half) hv1 hL0 hG0 hsum hlt (by omega) (by omega)
 refine xr 0 [eS1 4 none 0 0,(5, .v (.int .i64 ((half:Nat):Int))),eS1 15 A18 l18 c18,eS1 16 (some ⟨r19,0,none⟩) (l + l2) (l + l2)] [] ?_
 refine xe (Zaa (Zac (Zab (xq 2 [eS1 134 (some ⟨r19,0,none⟩) (l + l2) (l + l2),(135, .v (.int .i64 ((half:Nat):Int)))] [] ?_))))
 refine xqk 136 (.slice (some ⟨r19,half,none⟩) ((l + l2) - half) ((l + l2) - half)) (fun w R Q=>ZdF (t:=133) (e:=217) (x:=(Operand.tmp 134)) (len:=(l + l2)) (cap:=(l + l2)) (l:=half) (lo:=(Operand.tmp 135)) (by omega) (by omega) rfl rfl) ?_
 refine xq 1 [eS1 137 A18 l18 c18] [] ?_
 refine Zh6 (xs:=ZaH (ZaH (List.replicate (l + l2) 0) (0) (wds (L))) (2 * half) (wds (G))) (α:=List Nat) 302 [.slice (some ⟨r19,half,none⟩) ((l + l2) - half) ((l + l2) - half), .slice A18 l18 c18] (d:=138) (fun x=>.tuple #[]) (fun x=>x.length=(ZaH (ZaH (List.replicate (l + l2) 0) (0) (wds (L))) (2 * half) (wds (G))).length∧Dig W64 x∧val W64 x=val W64 (ZaH (ZaH (List.replicate (l + l2) 0) (0) (wds (L))) (2 * half) (wds (G))) + W64 ^ half * E) (fun x=>x) r19 (fun x w=>(Box (fun j=>r19≤j) w (fun w=>((((((((((Zad w (.slice A l c) (X)∧Zad w (.slice A2 l2 c2) (Y))∧Zad w (.slice A10 l10 c10) (X0))∧Zad w (.slice A11 l11 c11) (Y0))∧Zad w (.slice A12 l12 c12) (L))∧Zad w (.slice A13 l13 c13) (G))∧Zad w (.slice A14 l14 c14) (X0 + X1))∧Zad w (.slice A15 l15 c15) (Y0 + Y1))∧Zad w (.slice A16 l16 c16) (M))∧Zad w (.slice A17 l17 c17) (M - L))∧Zad w (.slice A18 l18 c18) (E)))∧Own .u64 217 w r19 (x))) (fun w Q=>Q.2) (by rw [hv2.1]; omega) (Or.inl hr19) (fun w R Q=>Zf6 r19 (((l + l2) - half)) c18 half (((l + l2) - half)) l18 E _ A18 _ Q.2 (Q.1).self.2 hEA hv2.2.2.2.1 (by rw [hv2.1]) hv2.2.2.2.2.1 hv2.2.1 hv2.2.2.2.2.2) (fun x w w' hp Q hF hO=>⟨((Q.1).fr (hF.mono (fun _ _ e=>by rw [e]; exact Nat.le_refl _))),hO⟩) (fun x hx20=>?_)
 obtain ⟨zs20,rfl⟩:∃ y,y=x:=⟨_,rfl⟩
 refine xr 0 [eS1 4 none 0 0,eS1 16 (some ⟨r19,0,none⟩) (l + l2) (l + l2)] [] ?_
 refine xe (Zaa (Zac (Zab (xq 1 [eS1 139 (some ⟨r19,0,none⟩) (l + l2) (l + l2)] [] ?_))))
 refine xqc 298 [.slice (some ⟨r19,0,none⟩) (l + l2) (l + l2)] 140 (fun k:Nat=>.slice (some ⟨r19,0,none⟩) k (l + l2)) _ (fun w R Q=>(Zf7 Q.2 hx20.2.1 (hx20.1.trans hv2.1) (by omega)).mono (fun _ _ h=>Zf8 (by rw [show val W64 zs20=X * Y from hx20.2.2.trans hv2.2.2.1] at h; exact h))) (fun k22=>?_)
 refine xq 1 [eS1 4 (some ⟨r19,0,none⟩) k22 (l + l2)] [] ?_
 refine xe (Zaa (Zas ?_))
 refine Zam (v:=.slice (some ⟨r19,0,none⟩) k22 (l + l2)) (by kernel_rfl) (fun w' R Q=>?_)
 exact ⟨_,_,_,rfl,Q.2,R,fun a ha=>Or.inl (by injection ha with ha; subst ha; exact hr19)⟩
theorem ZgW (A:Option Addr) (l c:Nat) (A2:Option Addr) (l2 c2 X Y N:Nat) (w:World) (hX:Zad w (.slice A l c) X) (hY:Zad w (.slice A2 l2 c2) Y) (half:Nat) (hle:l2 < l) (hl:l≤1073741824) (h40:40≤l2) (hh:(l + 1) / 2=half) (hgt:half < l2) (hN:half + 1≤N) (IH:∀ (B:Option Addr) (m d:Nat) (B2:Option Addr) (m2 d2 a b:Nat) (w:World),Zad w (.slice B m d) a→Zad w (.slice B2 m2 d2) b→wl a≤N→wl b≤N→Calls Tryz.prog 226 #[.slice B m d, .slice B2 m2 d2] w (ZaN w B B2 (a * b))) :
 Calls Tryz.prog 226 #[.slice A2 l2 c2, .slice A l c] w (ZaN w A A2 (X * Y)):=by
 have hle2:l2≤l:=by omega
 obtain ⟨xs_,hxl,hxc,_,_,_,_,hwx⟩:=hX.row
 obtain ⟨ys_,hyl,hyc,_,_,_,_,hwy⟩:=hY.row
 have hc:l≤c:=by omega
 have hc2:l2≤c2:=by omega
 obtain ⟨X0,X1,Y0,Y1,L,G,M,E,hX0,hX1,hY0,hY1,hL,hH,hM,hE_,hLM,hGM,wX0,wX1,wY0,wY1,wS,wT,wM,hwL,hL0,hG0,hsum,hlt⟩:=ZjT hwx hwy hle2 hh hgt
 refine ZaA (Φ:=fun w=>(Zad w (.slice A l c) (X)∧Zad w (.slice A2 l2 c2) (Y))) Tryz.func226 rfl (by kernel_rfl) (fun w' hf=>⟨hX.ext hf,hY.ext hf⟩) ?_
 refine Zac (Zab (xq 1 [eS1 4 none 0 0] [] ?_))
 refine xe (Zaa (Zac (Zac (Zab (xq 5 [(21, .v (.bool (decide (((l2:Nat):Int) < ((l:Nat):Int)))))] [] ?_)))))
 rw [show decide (((l2:Nat):Int) < ((l:Nat):Int))=true from decide_eq_true (by omega)]
 refine xe (Zaa (xa (Zab (xq 4 [eS1 0 A l c,eS1 1 A2 l2 c2] [] ?_))))
 refine xe (Zaa (Zac (Zab (xq 3 [(26, .v (.int .i64 (IntKind.i64.wrap (((l:Nat):Int) + 1))))] [] ?_))))
 rw [show IntKind.i64.wrap ((((l:Nat):Int) + 1))=((l + 1:Nat):Int) from by rw [IntKind.wrap_i64]; omega]
 refine xq 1 [(27, .v (.int .i64 (IntKind.i64.wrap ((((l + 1:Nat):Int)).tdiv 2))))] [] ?_
 rw [show IntKind.i64.wrap ((((l + 1:Nat):Int)).tdiv 2)=((half:Nat):Int) from by rw [← hh]; exact tdqK (l + 1) 2 (by omega)]
 refine xq 1 [(5, .v (.int .i64 ((half:Nat):Int)))] [] ?_
 refine xe (Zaa (Zac (Za4 (Zac (Zab (xq 3 [(31, .v (.bool ((((l2:Nat):Int):Int) == 0)))] [] ?_))))))
 rw [show ((((l2:Nat):Int):Int) == 0)=false from beq_eq_false_iff_ne.2 (by omega)]
 refine xq 1 [(28, .v (.bool false))] [] ?_
 refine xe (Zaa (xb (Zac (Zab (xq 3 [(35, .v (.bool ((((l2:Nat):Int):Int) == 1)))] [] ?_)))))
 rw [show ((((l2:Nat):Int):Int) == 1)=false from beq_eq_false_iff_ne.2 (by omega)]
 refine xq 7 [(32, .v (.bool false))] [] ?_
 refine xe (Zaa (xb (Zac (Zab (xq 3 [(46, .v (.bool (decide (((l2:Nat):Int) < 40))))] [] ?_)))))
 rw [show decide (((l2:Nat):Int) < 40)=false from decide_eq_false (by omega)]
 refine xq 1 [(43, .v (.bool false))] [] ?_
 refine xe (Zaa (xb (Zac (Zab (xr 4 [eS1 0 A l c,eS1 1 A2 l2 c2,eS1 4 none 0 0,(5, .v (.int .i64 ((half:Nat):Int))),(83, .v (.bool (decide (((l2:Nat):Int)≤((half:Nat):Int)))))] [] ?_)))))
 rw [show decide (((l2:Nat):Int)≤((half:Nat):Int))=false from decide_eq_false (by omega)]
 refine xq 1 [(79, .v (.bool false))] [] ?_
 refine xe (Zaa (xb (Zax (Zdq (Zaa (Zac ?_))))))
 refine ZaI 9 (by kernel_rfl) (by kernel_rfl) Zaq ?_
 refine xqg 2 [eS1 87 A l c,(88, .v (.int .i64 ((half:Nat):Int)))] ?_
 refine xqj 89 (.slice A half c) (fun w Q=>ZgU (t:=133) (e:=217) (x:=(Operand.tmp 87)) (len:=l) (cap:=c) (h:=half) (hi:=(Operand.tmp 88)) (by omega)) ?_
 refine xqd 298 [.slice A half c] 90 Zay _ (fun w R Q=>(Zdz (k:=half) _ Q.1 (by omega) (by omega)).mono (fun _ _ h=>ZaF (by rw [hX0] at h; exact h))) (fun xx=>?_)
 obtain ⟨A10,l10,c10⟩:=xx
 refine xqg 2 [eS1 91 A l c,(92, .v (.int .i64 ((half:Nat):Int)))] ?_
 refine xqj 93 (.slice (if c=half then A else (A).map (·.add half)) (l - half) (c - half)) (fun w Q=>Zd7 (t:=133) (e:=217) (x:=(Operand.tmp 91)) (len:=l) (cap:=c) (l:=half) (lo:=(Operand.tmp 92)) (by omega)) ?_
 refine xqg 2 [eS1 9 A10 l10 c10,(10, .v (.slice (if c=half then A else (A).map (·.add half)) (l - half) (c - half)))] ?_
 refine xz (xe (Zaa (Zac ?_)))
 refine ZaI 9 (by kernel_rfl) (by kernel_rfl) Zaq ?_
 refine xqg 2 [eS1 94 A2 l2 c2,(95, .v (.int .i64 ((half:Nat):Int)))] ?_
 refine xqj 96 (.slice A2 half c2) (fun w Q=>ZgU (t:=133) (e:=217) (x:=(Operand.tmp 94)) (len:=l2) (cap:=c2) (h:=half) (hi:=(Operand.tmp 95)) (by omega)) ?_
 refine xqd 298 [.slice A2 half c2] 97 Zay _ (fun w R Q=>(Zdz (k:=half) _ Q.1.2 (by omega) (by omega)).mono (fun _ _ h=>ZaF (by rw [hY0] at h; exact h))) (fun xx=>?_)
 obtain ⟨A11,l11,c11⟩:=xx
 refine xqg 2 [eS1 98 A2 l2 c2,(99, .v (.int .i64 ((half:Nat):Int)))] ?_
 refine xqj 100 (.slice (if c2=half then A2 else (A2).map (·.add half)) (l2 - half) (c2 - half)) (fun w Q=>Zd7 (t:=133) (e:=217) (x:=(Operand.tmp 98)) (len:=l2) (cap:=c2) (l:=half) (lo:=(Operand.tmp 99)) (by omega)) ?_
 refine xqg 2 [eS1 11 A11 l11 c11,(12, .v (.slice (if c2=half then A2 else (A2).map (·.add half)) (l2 - half) (c2 - half)))] ?_
 refine xz (xe (Zaa (Zac (Zab (xq 2 [eS1 101 A10 l10 c10,eS1 102 A11 l11 c11] [] ?_)))))
 refine xqc 226 [.slice A10 l10 c10, .slice A11 l11 c11] 103 Zay _ (fun w R Q=>((IH _ _ _ _ _ _ (X0) (Y0) _ Q.1.2 Q.2 (by omega) (by omega)).mono (fun _ _ h=>h.ret)).mono (fun _ _ h=>ZaF (by rw [hL] at h; exact h))) (fun xx=>?_)
 obtain ⟨A12,l12,c12⟩:=xx
 refine xq 1 [eS1 13 A12 l12 c12] [] ?_
 refine xe (Zaa (Zac (Zab (xq 2 [(104, .v (.slice (if c=half then A else (A).map (·.add half)) (l - half) (c - half))),(105, .v (.slice (if c2=half then A2 else (A2).map (·.add half)) (l2 - half) (c2 - half)))] [] ?_))))
 refine xqc 226 [.slice (if c=half then A else (A).map (·.add half)) (l - half) (c - half), .slice (if c2=half then A2 else (A2).map (·.add half)) (l2 - half) (c2 - half)] 106 Zay _ (fun w R Q=>((IH _ _ _ _ _ _ (X1) (Y1) _ (hX1 ▸ Zad.high Q.1.1.1.1 (by omega)) (hY1 ▸ Zad.high Q.1.1.1.2 (by omega)) (by omega) (by omega)).mono (fun _ _ h=>h.ret)).mono (fun _ _ h=>ZaF (by rw [hH] at h; exact h))) (fun xx=>?_)
 obtain ⟨A13,l13,c13⟩:=xx
 refine xq 1 [eS1 14 A13 l13 c13] [] ?_
 refine xe (Zaa (Zac (Zab (xq 2 [eS1 107 A10 l10 c10,(108, .v (.slice (if c=half then A else (A).map (·.add half)) (l - half) (c - half)))] [] ?_))))
 refine xqc 300 [.slice A10 l10 c10, .slice (if c=half then A else (A).map (·.add half)) (l - half) (c - half)] 109 Zay _ (fun w R Q=>(Zch _ _ (X0) (X1) _ Q.1.1.1.2 (hX1 ▸ Zad.high Q.1.1.1.1.1 (by omega)) (by omega) (by omega)).mono (fun _ _=>ZaF)) (fun xx=>?_)
 obtain ⟨A14,l14,c14⟩:=xx
 refine xr 2 [eS1 0 A l c,eS1 1 A2 l2 c2,eS1 4 none 0 0,(5, .v (.int .i64 ((half:Nat):Int))),eS1 13 A12 l12 c12,eS1 14 A13 l13 c13,eS1 109 A14 l14 c14,eS1 110 A11 l11 c11,(111, .v (.slice (if c2=half then A2 else (A2).map (·.add half)) (l2 - half) (c2 - half)))] [] ?_
 refine xqc 300 [.slice A11 l11 c11, .slice (if c2=half then A2 else (A2).map (·.add half)) (l2 - half) (c2 - half)] 112 Zay _ (fun w R Q=>(Zch _ _ (Y0) (Y1) _ Q.1.1.1.2 (hY1 ▸ Zad.high Q.1.1.1.1.1.2 (by omega)) (by omega) (by omega)).mono (fun _ _=>ZaF)) (fun xx=>?_)
 obtain ⟨A15,l15,c15⟩:=xx
 refine xqc 226 [.slice A14 l14 c14, .slice A15 l15 c15] 113 Zay _ (fun w R Q=>((IH _ _ _ _ _ _ (X0 + X1) (Y0 + Y1) _ Q.1.2 Q.2 (by omega) (by omega)).mono (fun _ _ h=>h.ret)).mono (fun _ _ h=>ZaF (by rw [hM] at h; exact h))) (fun xx=>?_)
 obtain ⟨A16,l16,c16⟩:=xx
 refine xq 1 [eS1 15 A16 l16 c16] [] ?_
 refine xe (Zaa (Zac (Zab (xq 2 [eS1 114 A16 l16 c16,eS1 115 A12 l12 c12] [] ?_))))
 refine xqc 301 [.slice A16 l16 c16, .slice A12 l12 c12] 116 Zay _ (fun w R Q=>(Zbh _ _ M L _ Q.2 Q.1.1.1.1.2 (by omega) hLM).mono (fun _ _=>ZaF)) (fun xx=>?_)
 obtain ⟨A17,l17,c17⟩:=xx
 refine xq 1 [eS1 117 A13 l13 c13] [] ?_
 refine xqc 301 [.slice A17 l17 c17, .slice A13 l13 c13] 118 Zay _ (fun w R Q=>(Zbh _ _ (M - L) G _ Q.2 Q.1.1.1.1.2 (Nat.le_trans (ZaS (Nat.sub_le _ _)) (by omega)) hGM).mono (fun _ _ h=>ZaF (by rw [hE_] at h; exact h))) (fun xx=>?_)
 obtain ⟨A18,l18,c18⟩:=xx
 refine xq 1 [eS1 15 A18 l18 c18] [] ?_
 refine xe (Zaa (Zac (Zab (xq 5 [(123, .v (.int .i64 (IntKind.i64.wrap (((l:Nat):Int) + ((l2:Nat):Int)))))] [] ?_))))
 rw [show IntKind.i64.wrap ((((l:Nat):Int) + ((l2:Nat):Int)))=((l + l2:Nat):Int) from by rw [IntKind.wrap_i64]; omega]
 refine Zkj (d:=124) (t:=133) (e:=217) (k:=.u64) (kl:=.i64) (kc:=.i64) (l:=(Operand.tmp 123)) (c:=(Operand.tmp 123)) (l + l2) 8 (by omega) (by decide) (fun r19 hr19 lr19=>?_)
 have hEA:E≠0→∀ a,A18=some a→a.block≠r19:=fun h0 a ha=>Nat.ne_of_lt (lr19 a.block (fun w Q=>(Q.2).block_lt h0 ha))
 refine xr 1 [eS1 4 none 0 0,(5, .v (.int .i64 ((half:Nat):Int))),eS1 13 A12 l12 c12,eS1 14 A13 l13 c13,eS1 15 A18 l18 c18,eS1 16 (some ⟨r19,0,none⟩) (l + l2) (l + l2)] [] ?_
 refine xe (Zaa (Zac (Zab (xq 2 [eS1 125 (some ⟨r19,0,none⟩) (l + l2) (l + l2),eS1 126 A12 l12 c12] [] ?_))))
 refine SXi.know (p:=l12=(wds (L)).length∧(wds (L)).length≤c12) (fun w _ Q=>((Q.1).self.1.1.1.1.1.1.2).lens) (fun hln=>?_)
 refine Ze3 (d:=127) (dx:=Operand.tmp 125) (sx:=Operand.tmp 126) (dT:=133) (sT:=133) (e:=217) (k:=.u64) (sp:=A12) (zs:=List.replicate (l + l2) 0) (ys:=wds (L)) (off:=0) (n:=(l + l2)) (m:=l12) (dc:=(l + l2)) (sc:=c12) r19 (fun w=>(Box (fun j=>r19≤j) w (fun w=>((((((((((Zad w (.slice A l c) (X)∧Zad w (.slice A2 l2 c2) (Y))∧Zad w (.slice A10 l10 c10) (X0))∧Zad w (.slice A11 l11 c11) (Y0))∧Zad w (.slice A12 l12 c12) (L))∧Zad w (.slice A13 l13 c13) (G))∧Zad w (.slice A14 l14 c14) (X0 + X1))∧Zad w (.slice A15 l15 c15) (Y0 + Y1))∧Zad w (.slice A16 l16 c16) (M))∧Zad w (.slice A17 l17 c17) (M - L))∧Zad w (.slice A18 l18 c18) (E)))∧Own .u64 217 w r19 (ZaH (List.replicate (l + l2) 0) (0) (wds (L))))) (by rw [List.length_replicate]; omega) (by simp) hln.1.symm (fun w Q=>Q.2) (fun w Q=>((Q.1).self.1.1.1.1.1.1.2).shows) (Or.inl hr19) (fun w w' Q hF hO=>⟨((Q.1).fr (hF.mono (fun _ _ e=>by rw [e]; exact Nat.le_refl _))),hO⟩) ?_
 have hv1:=ZlW (n:=l + l2) hwL
 refine xr 0 [eS1 4 none 0 0,(5, .v (.int .i64 ((half:Nat):Int))),eS1 14 A13 l13 c13,eS1 15 A18 l18 c18,eS1 16 (some ⟨r19,0,none⟩) (l + l2) (l + l2)] [] ?_
 refine xe (Zaa (Zac (Zab (xq 3 [eS1 128 (some ⟨r19,0,none⟩) (l + l2) (l + l2),(130, .v (.int .i64 (IntKind.i64.wrap (2 * ((half:Nat):Int)))))] [] ?_))))
 rw [show IntKind.i64.wrap (2 * ((half:Nat):Int))=((2 * half:Nat):Int) from by rw [IntKind.wrap_i64]; omega]
 refine xqk 131 (.slice (some ⟨r19,2 * half,none⟩) ((l + l2) - (2 * half)) ((l + l2) - (2 * half))) (fun w R Q=>ZdF (t:=133) (e:=217) (x:=(Operand.tmp 128)) (len:=(l + l2)) (cap:=(l + l2)) (l:=2 * half) (lo:=(Operand.tmp 130)) (by omega) (by omega) rfl rfl) ?_
 refine xq 1 [eS1 132 A13 l13 c13] [] ?_
 refine SXi.know (p:=l13=(wds (G)).length∧(wds (G)).length≤c13) (fun w _ Q=>((Q.1).self.1.1.1.1.1.2).lens) (fun hln=>?_)
 refine Ze3 (d:=133) (dx:=Operand.tmp 131) (sx:=Operand.tmp 132) (dT:=133) (sT:=133) (e:=217) (k:=.u64) (sp:=A13) (zs:=ZaH (List.replicate (l + l2) 0) (0) (wds (L))) (ys:=wds (G)) (off:=2 * half) (n:=((l + l2) - (2 * half))) (m:=l13) (dc:=((l + l2) - (2 * half))) (sc:=c13) r19 (fun w=>(Box (fun j=>r19≤j) w (fun w=>((((((((((Zad w (.slice A l c) (X)∧Zad w (.slice A2 l2 c2) (Y))∧Zad w (.slice A10 l10 c10) (X0))∧Zad w (.slice A11 l11 c11) (Y0))∧Zad w (.slice A12 l12 c12) (L))∧Zad w (.slice A13 l13 c13) (G))∧Zad w (.slice A14 l14 c14) (X0 + X1))∧Zad w (.slice A15 l15 c15) (Y0 + Y1))∧Zad w (.slice A16 l16 c16) (M))∧Zad w (.slice A17 l17 c17) (M - L))∧Zad w (.slice A18 l18 c18) (E)))∧Own .u64 217 w r19 (ZaH (ZaH (List.replicate (l + l2) 0) (0) (wds (L))) (2 * half) (wds (G))))) (by simp only [ZdS,List.length_replicate]; omega) (by simp [ZdS]) hln.1.symm (fun w Q=>Q.2) (fun w Q=>((Q.1).self.1.1.1.1.1.2).shows) (Or.inl hr19) (fun w w' Q hF hO=>⟨((Q.1).fr (hF.mono (fun _ _ e=>by rw [e]; exact Nat.le_refl _))),hO⟩) ?_
 have hv2:=ZkU (half:=half) hv1 hL0 hG0 hsum hlt (by omega) (by omega)
 refine xr 0 [eS1 4 none 0 0,(5, .v (.int .i64 ((half:Nat):Int))),eS1 15 A18 l18 c18,eS1 16 (some ⟨r19,0,none⟩) (l + l2) (l + l2)] [] ?_
 refine xe (Zaa (Zac (Zab (xq 2 [eS1 134 (some ⟨r19,0,none⟩) (l + l2) (l + l2),(135, .v (.int .i64 ((half:Nat):Int)))] [] ?_))))
 refine xqk 136 (.slice (some ⟨r19,half,none⟩) ((l + l2) - half) ((l + l2) - half)) (fun w R Q=>ZdF (t:=133) (e:=217) (x:=(Operand.tmp 134)) (len:=(l + l2)) (cap:=(l + l2)) (l:=half) (lo:=(Operand.tmp 135)) (by omega) (by omega) rfl rfl) ?_
 refine xq 1 [eS1 137 A18 l18 c18] [] ?_
 refine Zh6 (xs:=ZaH (ZaH (List.replicate (l + l2) 0) (0) (wds (L))) (2 * half) (wds (G))) (α:=List Nat) 302 [.slice (some ⟨r19,half,none⟩) ((l + l2) - half) ((l + l2) - half), .slice A18 l18 c18] (d:=138) (fun x=>.tuple #[]) (fun x=>x.length=(ZaH (ZaH (List.replicate (l + l2) 0) (0) (wds (L))) (2 * half) (wds (G))).length∧Dig W64 x∧val W64 x=val W64 (ZaH (ZaH (List.replicate (l + l2) 0) (0) (wds (L))) (2 * half) (wds (G))) + W64 ^ half * E) (fun x=>x) r19 (fun x w=>(Box (fun j=>r19≤j) w (fun w=>((((((((((Zad w (.slice A l c) (X)∧Zad w (.slice A2 l2 c2) (Y))∧Zad w (.slice A10 l10 c10) (X0))∧Zad w (.slice A11 l11 c11) (Y0))∧Zad w (.slice A12 l12 c12) (L))∧Zad w (.slice A13 l13 c13) (G))∧Zad w (.slice A14 l14 c14) (X0 + X1))∧Zad w (.slice A15 l15 c15) (Y0 + Y1))∧Zad w (.slice A16 l16 c16) (M))∧Zad w (.slice A17 l17 c17) (M - L))∧Zad w (.slice A18 l18 c18) (E)))∧Own .u64 217 w r19 (x))) (fun w Q=>Q.2) (by rw [hv2.1]; omega) (Or.inl hr19) (fun w R Q=>Zf6 r19 (((l + l2) - half)) c18 half (((l + l2) - half)) l18 E _ A18 _ Q.2 (Q.1).self.2 hEA hv2.2.2.2.1 (by rw [hv2.1]) hv2.2.2.2.2.1 hv2.2.1 hv2.2.2.2.2.2) (fun x w w' hp Q hF hO=>⟨((Q.1).fr (hF.mono (fun _ _ e=>by rw [e]; exact Nat.le_refl _))),hO⟩) (fun x hx20=>?_)
 obtain ⟨zs20,rfl⟩:∃ y,y=x:=⟨_,rfl⟩
 refine xr 0 [eS1 4 none 0 0,eS1 16 (some ⟨r19,0,none⟩) (l + l2) (l + l2)] [] ?_
 refine xe (Zaa (Zac (Zab (xq 1 [eS1 139 (some ⟨r19,0,none⟩) (l + l2) (l + l2)] [] ?_))))
 refine xqc 298 [.slice (some ⟨r19,0,none⟩) (l + l2) (l + l2)] 140 (fun k:Nat=>.slice (some ⟨r19,0,none⟩) k (l + l2)) _ (fun w R Q=>(Zf7 Q.2 hx20.2.1 (hx20.1.trans hv2.1) (by omega)).mono (fun _ _ h=>Zf8 (by rw [show val W64 zs20=X * Y from hx20.2.2.trans hv2.2.2.1] at h; exact h))) (fun k22=>?_)
 refine xq 1 [eS1 4 (some ⟨r19,0,none⟩) k22 (l + l2)] [] ?_
 refine xe (Zaa (Zas ?_))
 refine Zam (v:=.slice (some ⟨r19,0,none⟩) k22 (l + l2)) (by kernel_rfl) (fun w' R Q=>?_)
 exact ⟨_,_,_,rfl,Q.2,R,fun a ha=>Or.inl (by injection ha with ha; subst ha; exact hr19)⟩
theorem Ze5 (A:Option Addr) (l c:Nat) (A2:Option Addr) (l2 c2 X Y N:Nat) (w:World) (hX:Zad w (.slice A l c) X) (hY:Zad w (.slice A2 l2 c2) Y) (hle:l2≤l) (hl:l≤1073741824) (h0:0 < l2) (hN:l2≤N) (IH:∀ (B:Option Addr) (m d:Nat) (B2:Option Addr) (m2 d2 a b:Nat) (w:World),Zad w (.slice B m d) a→Zad w (.slice B2 m2 d2) b→wl a≤N→wl b≤N→Calls Tryz.prog 226 #[.slice B m d, .slice B2 m2 d2] w (ZaN w B B2 (a * b))) :
 Calls Tryz.prog 299 #[.slice A l c, .slice A2 l2 c2] w (ZaN w A A2 (X * Y)):=by
 obtain ⟨xs_,hxl,hxc,_,_,_,_,hwx⟩:=hX.row
 obtain ⟨ys_,hyl,hyc,_,_,_,_,hwy⟩:=hY.row
 have hc:l≤c:=by omega
 have hc2:l2≤c2:=by omega
 refine ZaA (Φ:=fun w=>(Zad w (.slice A l c) (X)∧Zad w (.slice A2 l2 c2) (Y))) Tryz.func299 rfl (by kernel_rfl) (fun w' hf=>⟨hX.ext hf,hY.ext hf⟩) ?_
 refine Zac (Zab (xq 1 [eS1 4 none 0 0] [] ?_))
 refine xe (Zaa (Zac (Zab (xq 5 [(12, .v (.int .i64 (IntKind.i64.wrap (((l:Nat):Int) + ((l2:Nat):Int)))))] [] ?_))))
 rw [show IntKind.i64.wrap ((((l:Nat):Int) + ((l2:Nat):Int)))=((l + l2:Nat):Int) from by rw [IntKind.wrap_i64]; omega]
 refine Zkj (d:=13) (t:=133) (e:=217) (k:=.u64) (kl:=.i64) (kc:=.i64) (l:=(Operand.tmp 12)) (c:=(Operand.tmp 12)) (l + l2) 8 (by omega) (by decide) (fun r10 hr10 lr10=>?_)
 have hA:X≠0→∀ a,A=some a→a.block < r10:=fun h0 a ha=>lr10 a.block (fun w Q=>(Q.1).block_lt h0 ha)
 have hA2:Y≠0→∀ a,A2=some a→a.block < r10:=fun h0 a ha=>lr10 a.block (fun w Q=>(Q.2).block_lt h0 ha)
 refine xr 1 [eS1 0 A l c,eS1 1 A2 l2 c2,eS1 4 none 0 0,eS1 5 (some ⟨r10,0,none⟩) (l + l2) (l + l2)] [] ?_
 refine xe (Zaa (Zac (Zac (Zab (xq 1 [(6, .v (.int .i64 0))] [] ?_)))))
 refine xe (Zaa (Za4 ?_))
 refine SXc.weak [(0, .v (.slice A l c)),(1, .v (.slice A2 l2 c2)),(4, .v (.slice none 0 0)),(5, .v (.slice (some ⟨r10,0,none⟩) (l + l2) (l + l2))),(6, .v (.int .i64 ((0:Nat):Int)))] [] (Ψ:=fun w=>(Box (fun j=>r10≤j) w (fun w=>(Zad w (.slice A l c) (X)∧Zad w (.slice A2 l2 c2) (Y)))∧Own .u64 217 w r10 ((List.replicate (l + l2) 0)))) (Zcs.of (by kernel_rfl)) (by kernel_rfl) (fun w Q=>⟨Q.1,Q.2⟩) ?_
 refine Zhq (fun nn ss ff=>∃ (s:Nat) (q:List Nat),ss=ofL [(0, .v (.slice A l c)),(1, .v (.slice A2 l2 c2)),(4, .v (.slice none 0 0)),(5, .v (.slice (some ⟨r10,0,none⟩) (l + l2) (l + l2))),(6, .v (.int .i64 ((s:Nat):Int)))] []∧ff=(fun w=>(Box (fun j=>r10≤j) w (fun w=>(Zad w (.slice A l c) (X)∧Zad w (.slice A2 l2 c2) (Y)))∧Own .u64 217 w r10 (q)))∧(ZdT X Y (l + l2) s q)∧(s≤l + l2)∧nn=(1 + (l + l2 - s))) ((1 + (l + l2 - 0))) ⟨0,(List.replicate (l + l2) 0),rfl,rfl,(ZdT.start X Y (l + l2)),(Nat.zero_le _),rfl⟩ ?_
 rintro nn ss ff ⟨s,q,rfl,rfl,HQ,hs,rfl⟩
 refine Zac (Zac (Zab (xq 4 [(17, .v (.bool (decide (((s:Nat):Int) < ((l:Nat):Int)))))] [] ?_)))
 refine xe (Zaa ?_)
 refine Zhp ((decide (((s:Nat):Int) < ((l:Nat):Int)))) (by kernel_rfl) (fun hb11=>?_) (fun hb11=>?_)
 ·have hb11':=of_decide_eq_true hb11
  refine Zax (Zaa (Zac (Za4 (Zac (Zab (xq 4 [(25, .v (.int .i64 (IntKind.i64.wrap (((s:Nat):Int) + ((l2:Nat):Int)))))] [] ?_))))))
  rw [show IntKind.i64.wrap ((((s:Nat):Int) + ((l2:Nat):Int)))=((s + l2:Nat):Int) from by rw [IntKind.wrap_i64]; omega]
  refine xq 2 [(27, .v (.int .i64 ((l:Nat):Int)))] [] ?_
  refine xqk 28 (.int .i64 ((min (s + l2) l:Nat):Int)) (fun w R Q=>ZoS (x:=Operand.tmp 25) (y:=Operand.tmp 27) (t:=3) (a:=s + l2) (b:=l)) ?_
  refine xq 1 [(7, .v (.int .i64 ((min (s + l2) l:Nat):Int)))] [] ?_
  refine xe (Zaa ?_)
  obtain ⟨e,he⟩:∃ e,min (s + l2) l=e:=⟨_,rfl⟩
  rw [show (((min (s + l2) l:Nat):Int))=(((e:Nat):Int)) from by rw [he]]
  obtain ⟨D,hD⟩:∃ D,X / W64 ^ s % W64 ^ (e - s)=D:=⟨_,rfl⟩
  obtain ⟨P,hP⟩:∃ P,D * Y=P:=⟨_,rfl⟩
  have wD:wl D≤l2:=by rw [← hD]; exact Nat.le_trans (Ze4 _ _) (by omega)
  obtain ⟨hfv,hfit⟩:=HQ.fit (j:=e - s) (Nat.le_of_eq hwx.symm) (Nat.le_of_eq hwy.symm) rfl
  rw [hD,hP] at hfv hfit
  have hql:=HQ.1
  refine ZaI 10 (by kernel_rfl) (by kernel_rfl) Zaq ?_
  refine xqg 2 [eS1 29 (some ⟨r10,0,none⟩) (l + l2) (l + l2),(30, .v (.int .i64 ((s:Nat):Int)))] ?_
  refine xqj 31 (.slice (some ⟨r10,s,none⟩) ((l + l2) - s) ((l + l2) - s)) (fun w Q=>ZdF (t:=133) (e:=217) (x:=(Operand.tmp 29)) (len:=(l + l2)) (cap:=(l + l2)) (l:=s) (lo:=(Operand.tmp 30)) (by omega) (by omega) rfl rfl) ?_
  refine xqg 3 [eS1 32 A l c,(33, .v (.int .i64 ((s:Nat):Int))),(34, .v (.int .i64 ((e:Nat):Int)))] ?_
  refine xqj 35 (.slice (A.map (·.add s)) (e - s) (c - s)) (fun w Q=>Zn2 (t:=133) (e:=217) (x:=(Operand.tmp 32)) (len:=l) (cap:=c) (l:=s) (h:=e) (lo:=(Operand.tmp 33)) (hi:=(Operand.tmp 34)) (by omega) (by omega) (by omega) (by omega) rfl) ?_
  refine xqd 298 [.slice (A.map (·.add s)) (e - s) (c - s)] 36 (fun k:Nat=>.slice (A.map (·.add s)) k (c - s)) _ (fun w R Q=>(Znm (k:=s) (j:=e - s) _ (Q.1).self.1 (by omega) (by omega) (by omega)).mono (fun _ _ h=>Znn (by rw [hD] at h; exact h))) (fun k12=>?_)
  refine xqg 1 [eS1 37 A2 l2 c2] ?_
  refine xqd 226 [.slice (A.map (·.add s)) k12 (c - s), .slice A2 l2 c2] 38 (fun x:{q:ShN // ∀ a,q.1=some a→r10 < a.block∨q.1=(A.map (·.add s))∨q.1=A2}=>Zay x.1) _ (fun w R Q=>(IH _ _ _ _ _ _ (D) (Y) _ Q.2 (Q.1.1).self.2 (by omega) (by omega)).mono (fun _ _ h=>ZjS (b:=r10) (by rw [hP] at h; exact h) (Q.1.2).lt)) (fun xx=>?_)
  obtain ⟨⟨A13,l13,c13⟩,hF⟩:=xx
  refine xz ?_
  refine Zh6 (xs:=q) (α:=List Nat) 302 [.slice (some ⟨r10,s,none⟩) ((l + l2) - s) ((l + l2) - s), .slice A13 l13 c13] (d:=39) (fun x=>.tuple #[]) (fun x=>x.length=(q).length∧Dig W64 x∧val W64 x=val W64 (q) + W64 ^ s * P) (fun x=>x) r10 (fun x w=>(((Box (fun j=>r10≤j) w (fun w=>(Zad w (.slice A l c) (X)∧Zad w (.slice A2 l2 c2) (Y)))∧Own .u64 217 w r10 (x))∧True)∧True)) (fun w Q=>Q.1.1.2) (by omega) (Or.inl hr10) (fun w R Q=>Zf6 r10 (((l + l2) - s)) c13 s (((l + l2) - s)) l13 P _ A13 _ Q.1.1.2 Q.2 (Zn4 hD hP hF hA hA2) (by omega) (by omega) (by omega) HQ.2.1 hfit) (fun x w w' hp Q hF hO=>⟨⟨⟨((Q.1.1.1).fr (hF.mono (fun _ _ e=>by rw [e]; exact Nat.le_refl _))),hO⟩,trivial⟩,trivial⟩) (fun x hx15=>?_)
  obtain ⟨zs15,rfl⟩:∃ y,y=x:=⟨_,rfl⟩
  refine xr 0 [eS1 0 A l c,eS1 1 A2 l2 c2,eS1 4 none 0 0,eS1 5 (some ⟨r10,0,none⟩) (l + l2) (l + l2),(6, .v (.int .i64 ((s:Nat):Int)))] [] ?_
  refine xe (Zdq (Zaa (Zab (xq 4 [(21, .v (.int .i64 (IntKind.i64.wrap (((s:Nat):Int) + ((l2:Nat):Int)))))] [] ?_))))
  rw [show IntKind.i64.wrap ((((s:Nat):Int) + ((l2:Nat):Int)))=((s + l2:Nat):Int) from by rw [IntKind.wrap_i64]; omega]
  refine xq 1 [(6, .v (.int .i64 ((s + l2:Nat):Int)))] [] ?_
  refine xe ?_
  refine SXq.weak [(0, .v (.slice A l c)),(1, .v (.slice A2 l2 c2)),(4, .v (.slice none 0 0)),(5, .v (.slice (some ⟨r10,0,none⟩) (l + l2) (l + l2))),(6, .v (.int .i64 (((s + l2):Nat):Int)))] [] (Ψ:=fun w=>(Box (fun j=>r10≤j) w (fun w=>(Zad w (.slice A l c) (X)∧Zad w (.slice A2 l2 c2) (Y)))∧Own .u64 217 w r10 (zs15))) (Zcs.of (by kernel_rfl)) (by kernel_rfl) (fun w Q=>⟨Q.1.1.1,Q.1.1.2⟩) ?_
  exact Zf3 ((1 + (l + l2 - (s + l2)))) (by omega) ⟨(s + l2),zs15,rfl,rfl,(HQ.next (Nat.le_of_eq hwx.symm) he (by omega) (by rw [← hfv]; exact hx15)),(by omega),rfl⟩
 ·have hb11':=of_decide_eq_false hb11
  refine Zho (ZbW (ZbW (ZiN (Zaa (Zac (Zab (xq 1 [eS1 40 (some ⟨r10,0,none⟩) (l + l2) (l + l2)] [] ?_)))))))
  refine xqc 298 [.slice (some ⟨r10,0,none⟩) (l + l2) (l + l2)] 41 (fun k:Nat=>.slice (some ⟨r10,0,none⟩) k (l + l2)) _ (fun w R Q=>(Zf7 Q.2 HQ.2.1 HQ.1 (by omega)).mono (fun _ _ h=>Zf8 (by rw [HQ.done (Nat.le_of_eq hwx.symm) (by omega)] at h; exact h))) (fun k16=>?_)
  refine xq 1 [eS1 4 (some ⟨r10,0,none⟩) k16 (l + l2)] [] ?_
  refine xe (Zaa (Zas ?_))
  refine Zam (v:=.slice (some ⟨r10,0,none⟩) k16 (l + l2)) (by kernel_rfl) (fun w' R Q=>?_)
  exact ⟨_,_,_,rfl,Q.2,R,fun a ha=>Or.inl (by injection ha with ha; subst ha; exact hr10)⟩
theorem ZgX (A:Option Addr) (l c:Nat) (A2:Option Addr) (l2 c2 X Y N:Nat) (w:World) (hX:Zad w (.slice A l c) X) (hY:Zad w (.slice A2 l2 c2) Y) (half:Nat) (hle:l2≤l) (hl:l≤1073741824) (h40:40≤l2) (hh:(l + 1) / 2=half) (hgt:l2≤half) (hN:l2≤N) (IH:∀ (B:Option Addr) (m d:Nat) (B2:Option Addr) (m2 d2 a b:Nat) (w:World),Zad w (.slice B m d) a→Zad w (.slice B2 m2 d2) b→wl a≤N→wl b≤N→Calls Tryz.prog 226 #[.slice B m d, .slice B2 m2 d2] w (ZaN w B B2 (a * b))) :
 Calls Tryz.prog 226 #[.slice A l c, .slice A2 l2 c2] w (ZaN w A A2 (X * Y)):=by
 obtain ⟨xs_,hxl,hxc,_,_,_,_,hwx⟩:=hX.row
 obtain ⟨ys_,hyl,hyc,_,_,_,_,hwy⟩:=hY.row
 have hc:l≤c:=by omega
 have hc2:l2≤c2:=by omega
 refine ZaA (Φ:=fun w=>(Zad w (.slice A l c) (X)∧Zad w (.slice A2 l2 c2) (Y))) Tryz.func226 rfl (by kernel_rfl) (fun w' hf=>⟨hX.ext hf,hY.ext hf⟩) ?_
 refine Zac (Zab (xq 1 [eS1 4 none 0 0] [] ?_))
 refine xe (Zaa (Zac (Zac (Zab (xq 5 [(21, .v (.bool (decide (((l:Nat):Int) < ((l2:Nat):Int)))))] [] ?_)))))
 rw [show decide (((l:Nat):Int) < ((l2:Nat):Int))=false from decide_eq_false (by omega)]
 refine xe (Zaa (xb (Zax (Zaa (Zac (Zab (xq 3 [(26, .v (.int .i64 (IntKind.i64.wrap (((l:Nat):Int) + 1))))] [] ?_)))))))
 rw [show IntKind.i64.wrap ((((l:Nat):Int) + 1))=((l + 1:Nat):Int) from by rw [IntKind.wrap_i64]; omega]
 refine xq 1 [(27, .v (.int .i64 (IntKind.i64.wrap ((((l + 1:Nat):Int)).tdiv 2))))] [] ?_
 rw [show IntKind.i64.wrap ((((l + 1:Nat):Int)).tdiv 2)=((half:Nat):Int) from by rw [← hh]; exact tdqK (l + 1) 2 (by omega)]
 refine xq 1 [(5, .v (.int .i64 ((half:Nat):Int)))] [] ?_
 refine xe (Zaa (Zac (Za4 (Zac (Zab (xq 3 [(31, .v (.bool ((((l2:Nat):Int):Int) == 0)))] [] ?_))))))
 rw [show ((((l2:Nat):Int):Int) == 0)=false from beq_eq_false_iff_ne.2 (by omega)]
 refine xq 1 [(28, .v (.bool false))] [] ?_
 refine xe (Zaa (xb (Zac (Zab (xq 3 [(35, .v (.bool ((((l2:Nat):Int):Int) == 1)))] [] ?_)))))
 rw [show ((((l2:Nat):Int):Int) == 1)=false from beq_eq_false_iff_ne.2 (by omega)]
 refine xq 7 [(32, .v (.bool false))] [] ?_
 refine xe (Zaa (xb (Zac (Zab (xq 3 [(46, .v (.bool (decide (((l2:Nat):Int) < 40))))] [] ?_)))))
 rw [show decide (((l2:Nat):Int) < 40)=false from decide_eq_false (by omega)]
 refine xq 1 [(43, .v (.bool false))] [] ?_
 refine xe (Zaa (xb (Zac (Zab (xq 4 [(83, .v (.bool (decide (((l2:Nat):Int)≤((half:Nat):Int)))))] [] ?_)))))
 rw [show decide (((l2:Nat):Int)≤((half:Nat):Int))=true from decide_eq_true (by omega)]
 refine xr 1 [eS1 0 A l c,eS1 1 A2 l2 c2,eS1 4 none 0 0,(5, .v (.int .i64 ((half:Nat):Int))),(79, .v (.bool true))] [] ?_
 refine xe (Zaa (xa (Zac (Zab (xq 2 [eS1 84 A l c,eS1 85 A2 l2 c2] [] ?_)))))
 refine xqc 299 [.slice A l c, .slice A2 l2 c2] 86 (fun x:{q:ShN // ∀ a,q.1=some a→w.heap.size≤a.block∨q.1=A∨q.1=A2}=>Zay x.1) _ (fun w R Q=>(Ze5 A l c A2 l2 c2 X Y N _ Q.1 Q.2 (by omega) hl (by omega) hN IH).mono (fun _ _ h=>ZbX h R.size)) (fun xx=>?_)
 obtain ⟨⟨A10,l10,c10⟩,hG⟩:=xx
 refine xq 1 [eS1 4 A10 l10 c10] [] ?_
 refine xe (Zaa (Zas (Zc7 (Zar ?_))))
 refine Zam (v:=.slice A10 l10 c10) (by kernel_rfl) (fun w' R Q=>?_)
 exact ⟨_,_,_,rfl,Q.2,R,hG⟩
theorem Zgt (A:Option Addr) (l c:Nat) (A2:Option Addr) (l2 c2 X Y N:Nat) (w:World) (hX:Zad w (.slice A l c) X) (hY:Zad w (.slice A2 l2 c2) Y) (half:Nat) (hle:l2 < l) (hl:l≤1073741824) (h40:40≤l2) (hh:(l + 1) / 2=half) (hgt:l2≤half) (hN:l2≤N) (IH:∀ (B:Option Addr) (m d:Nat) (B2:Option Addr) (m2 d2 a b:Nat) (w:World),Zad w (.slice B m d) a→Zad w (.slice B2 m2 d2) b→wl a≤N→wl b≤N→Calls Tryz.prog 226 #[.slice B m d, .slice B2 m2 d2] w (ZaN w B B2 (a * b))) :
 Calls Tryz.prog 226 #[.slice A2 l2 c2, .slice A l c] w (ZaN w A A2 (X * Y)):=by
 obtain ⟨xs_,hxl,hxc,_,_,_,_,hwx⟩:=hX.row
 obtain ⟨ys_,hyl,hyc,_,_,_,_,hwy⟩:=hY.row
 have hc:l≤c:=by omega
 have hc2:l2≤c2:=by omega
 refine ZaA (Φ:=fun w=>(Zad w (.slice A l c) (X)∧Zad w (.slice A2 l2 c2) (Y))) Tryz.func226 rfl (by kernel_rfl) (fun w' hf=>⟨hX.ext hf,hY.ext hf⟩) ?_
 refine Zac (Zab (xq 1 [eS1 4 none 0 0] [] ?_))
 refine xe (Zaa (Zac (Zac (Zab (xq 5 [(21, .v (.bool (decide (((l2:Nat):Int) < ((l:Nat):Int)))))] [] ?_)))))
 rw [show decide (((l2:Nat):Int) < ((l:Nat):Int))=true from decide_eq_true (by omega)]
 refine xe (Zaa (xa (Zab (xq 4 [eS1 0 A l c,eS1 1 A2 l2 c2] [] ?_))))
 refine xe (Zaa (Zac (Zab (xq 3 [(26, .v (.int .i64 (IntKind.i64.wrap (((l:Nat):Int) + 1))))] [] ?_))))
 rw [show IntKind.i64.wrap ((((l:Nat):Int) + 1))=((l + 1:Nat):Int) from by rw [IntKind.wrap_i64]; omega]
 refine xq 1 [(27, .v (.int .i64 (IntKind.i64.wrap ((((l + 1:Nat):Int)).tdiv 2))))] [] ?_
 rw [show IntKind.i64.wrap ((((l + 1:Nat):Int)).tdiv 2)=((half:Nat):Int) from by rw [← hh]; exact tdqK (l + 1) 2 (by omega)]
 refine xq 1 [(5, .v (.int .i64 ((half:Nat):Int)))] [] ?_
 refine xe (Zaa (Zac (Za4 (Zac (Zab (xq 3 [(31, .v (.bool ((((l2:Nat):Int):Int) == 0)))] [] ?_))))))
 rw [show ((((l2:Nat):Int):Int) == 0)=false from beq_eq_false_iff_ne.2 (by omega)]
 refine xq 1 [(28, .v (.bool false))] [] ?_
 refine xe (Zaa (xb (Zac (Zab (xq 3 [(35, .v (.bool ((((l2:Nat):Int):Int) == 1)))] [] ?_)))))
 rw [show ((((l2:Nat):Int):Int) == 1)=false from beq_eq_false_iff_ne.2 (by omega)]
 refine xq 7 [(32, .v (.bool false))] [] ?_
 refine xe (Zaa (xb (Zac (Zab (xq 3 [(46, .v (.bool (decide (((l2:Nat):Int) < 40))))] [] ?_)))))
 rw [show decide (((l2:Nat):Int) < 40)=false from decide_eq_false (by omega)]
 refine xq 1 [(43, .v (.bool false))] [] ?_
 refine xe (Zaa (xb (Zac (Zab (xr 4 [eS1 0 A l c,eS1 1 A2 l2 c2,eS1 4 none 0 0,(5, .v (.int .i64 ((half:Nat):Int))),(83, .v (.bool (decide (((l2:Nat):Int)≤((half:Nat):Int)))))] [] ?_)))))
 rw [show decide (((l2:Nat):Int)≤((half:Nat):Int))=true from decide_eq_true (by omega)]
 refine xq 1 [(79, .v (.bool true))] [] ?_
 refine xe (Zaa (xa (Zac (Zab (xq 2 [eS1 84 A l c,eS1 85 A2 l2 c2] [] ?_)))))
 refine xqc 299 [.slice A l c, .slice A2 l2 c2] 86 (fun x:{q:ShN // ∀ a,q.1=some a→w.heap.size≤a.block∨q.1=A∨q.1=A2}=>Zay x.1) _ (fun w R Q=>(Ze5 A l c A2 l2 c2 X Y N _ Q.1 Q.2 (by omega) hl (by omega) hN IH).mono (fun _ _ h=>ZbX h R.size)) (fun xx=>?_)
 obtain ⟨⟨A10,l10,c10⟩,hG⟩:=xx
 refine xq 1 [eS1 4 A10 l10 c10] [] ?_
 refine xe (Zaa (Zas (Zc7 (Zar ?_))))
 refine Zam (v:=.slice A10 l10 c10) (by kernel_rfl) (fun w' R Q=>?_)
 exact ⟨_,_,_,rfl,Q.2,R,hG⟩
theorem ZgY:∀ (N:Nat),N≤1073741824→∀ (A:Option Addr) (l c:Nat) (A2:Option Addr) (l2 c2 x y:Nat) (w:World),Zad w (.slice A l c) x→Zad w (.slice A2 l2 c2) y→wl x≤N→wl y≤N→Calls Tryz.prog 226 #[.slice A l c, .slice A2 l2 c2] w (ZaN w A A2 (x * y)):=by
 intro N
 induction N using Nat.strongRecOn with
 | ind N ih =>
   intro hN A l c A2 l2 c2 x y w hX hY hx hy
   obtain ⟨_,_,_,_,_,_,_,hwx⟩:=hX.row
   obtain ⟨_,_,_,_,_,_,_,hwy⟩:=hY.row
   by_cases h40:l < 40∨l2 < 40
   ·exact Zer A A2 l c l2 c2 x y w hX hY (by omega) (by omega) (by omega)
   ·have ih':∀ M,M < N→∀ (B:Option Addr) (m d:Nat) (B2:Option Addr) (m2 d2 a b:Nat) (w:World),Zad w (.slice B m d) a→Zad w (.slice B2 m2 d2) b→wl a≤M→wl b≤M→Calls Tryz.prog 226 #[.slice B m d, .slice B2 m2 d2] w (ZaN w B B2 (a * b)):=fun M hM=>ih M hM (by omega)
    obtain ⟨h,eh⟩:∃ h,(l + 1) / 2=h:=⟨_,rfl⟩
    obtain ⟨h',eh'⟩:∃ h',(l2 + 1) / 2=h':=⟨_,rfl⟩
    by_cases hle:l2≤l
    ·by_cases hgt:h < l2
     ·exact Zhz A l c A2 l2 c2 x y (h + 1) w hX hY h hle (by omega) (by omega) eh hgt (Nat.le_refl _) (ih' _ (by omega))
     ·exact ZgX A l c A2 l2 c2 x y l2 w hX hY h hle (by omega) (by omega) eh (by omega) (Nat.le_refl _) (ih' _ (by omega))
    ·rw [Nat.mul_comm]
     by_cases hgt:h' < l
     ·exact (ZgW A2 l2 c2 A l c y x (h' + 1) w hY hX h' (by omega) (by omega) (by omega) eh' hgt (Nat.le_refl _) (ih' _ (by omega))).mono fun e w' h=>h.swap
     ·exact (Zgt A2 l2 c2 A l c y x l w hY hX h' (by omega) (by omega) (by omega) eh' (by omega) (Nat.le_refl _) (ih' _ (by omega))).mono fun e w' h=>h.swap
theorem ZcB (xv yv:Value) (x y:Nat) (w:World) (hX:Zad w xv x) (hY:Zad w yv y) (hx:wl x≤1073741824) (hy:wl y≤1073741824):Calls Tryz.prog 226 #[xv,yv] w (Za0 w (x * y)):=by
 obtain ⟨A,l,c,rfl⟩:=hX.opens
 obtain ⟨A2,l2,c2,rfl⟩:=hY.opens
 exact (ZgY _ (Nat.le_refl _) A l c A2 l2 c2 x y w hX hY hx hy).mono fun e w' h=>h.ret
end Go.Proofs.YtcpjeaaapocoeaaGreatDoor

namespace Go.Proofs.YtcpjeaaapocoeaaGreatDoor
open Go.RowKit
theorem Zek {a b:Nat} (h:a < W64 ^ b):wl a≤b:=ZaC.2 h
theorem Znp {y half:Nat} (hn:W64 ^ (2 * half)≤2 * y) (hy:y < W64 ^ (2 * half)) (hh:0 < half) :
 W64 ^ half≤2 * (y / W64 ^ half)∧y / W64 ^ half < W64 ^ half∧wl (y / W64 ^ half)=half:=by
 obtain ⟨m,hm⟩:∃ m,W64 ^ half=2 * m:=by
  obtain ⟨k,rfl⟩:∃ k,half=k + 1:=⟨half - 1,by omega⟩
  exact ⟨W64 ^ k * 2 ^ 63,by rw [Nat.pow_succ,show W64=2 ^ 63 * 2 from by rw [Zal],Nat.mul_comm 2,Nat.mul_assoc]⟩
 have e2:W64 ^ (2 * half)=W64 ^ half * W64 ^ half:=by rw [Nat.two_mul,Nat.pow_add]
 have hp:0 < W64 ^ half:=Nat.pow_pos Zag
 have h1:y / W64 ^ half < W64 ^ half:=Nat.div_lt_of_lt_mul (by rw [← e2]; exact hy)
 have h2:W64 ^ half≤2 * (y / W64 ^ half):=by
  have h3:m≤y / W64 ^ half:=by
   rw [Nat.le_div_iff_mul_le hp]
   have:2 * m * W64 ^ half≤2 * y:=by rw [← hm,← e2]; exact hn
   rw [Nat.mul_assoc] at this
   omega
  omega
 refine ⟨h2,h1,Nat.le_antisymm (Zek h1) ?_⟩
 rcases Nat.lt_or_ge (wl (y / W64 ^ half)) half with h4 | h4
 ·exfalso
  have h5:=Ze9 (y / W64 ^ half)
  have h6:W64 ^ (wl (y / W64 ^ half) + 1)≤W64 ^ half:=Nat.pow_le_pow_right Zag h4
  rw [Nat.pow_succ] at h6
  have h7:W64 ^ wl (y / W64 ^ half) * 2≤W64 ^ wl (y / W64 ^ half) * W64:=Nat.mul_le_mul_left _ Zfy
  omega
 ·exact h4
def ThR (x y P q r:Nat):Prop:=x + P=q * y + r∧r < P + y
theorem ThR.pos {x y P q r:Nat} (h:ThR x y P q r) (hlt:r < P):1≤q:=by
 obtain ⟨h1,h2⟩:=h
 rcases Nat.eq_zero_or_pos q with e | e
 ·rw [e,Nat.zero_mul] at h1; omega
 ·exact e
theorem ThR.step {x y P q r:Nat} (h:ThR x y P q r) (hlt:r < P):ThR x y P (q - 1) (r + y):=by
 have hq:=h.pos hlt
 obtain ⟨h1,h2⟩:=h
 obtain ⟨k,rfl⟩:∃ k,q=k + 1:=⟨q - 1,by omega⟩
 rw [Nat.add_mul,Nat.one_mul] at h1
 refine ⟨?_,by omega⟩
 rw [Nat.add_sub_cancel]
 omega
theorem ThR.done {x y P q r:Nat} (h:ThR x y P q r) (hge:P≤r) (hy:0 < y):q=x / y∧r - P=x % y:=by
 obtain ⟨h1,h2⟩:=h
 have h3:=(Nat.div_mod_unique (a:=x) (b:=y) (c:=r - P) (d:=q) hy).2 ⟨by rw [Nat.mul_comm y q]; omega,by omega⟩
 exact ⟨h3.1.symm,h3.2.symm⟩
theorem ZdA (x H:Nat):x % H + H * (x / H)=x:=Nat.mod_add_div x H
theorem ThR.low {x y H:Nat} (hH:0 < H) (hi:x / H / H < y / H):ThR x y (x / H / (y / H) * (y % H)) (x / H / (y / H)) (x % H + H * (x / H % (y / H))):=by
 have hh:0 < y / H:=Nat.lt_of_le_of_lt (Nat.zero_le _) hi
 have e1:=ZdA x H
 have e2:=ZdA y H
 have e3:=ZdA (x / H) (y / H)
 have hr:=Nat.mod_lt (x / H) hh
 have hx0:=Nat.mod_lt x hH
 generalize y / H=h at *
 generalize x / H % h=R at *
 generalize x / H / h=Q at *
 generalize x / H=T at *
 generalize x % H=x0 at *
 generalize y % H=l at *
 have e4:Q * y=Q * l + H * (h * Q):=by rw [← e2,Nat.mul_add,Nat.mul_left_comm Q H,Nat.mul_comm Q h]
 have e5:H * T=H * R + H * (h * Q):=by rw [← e3,Nat.mul_add]
 have e6:H * (R + 1)≤H * h:=Nat.mul_le_mul_left _ hr
 rw [Nat.mul_add,Nat.mul_one] at e6
 exact ⟨by omega,by omega⟩
theorem ThR.top {x y H:Nat} (hH:0 < H) (hx:x < y * H) (hge:y / H≤x / H / H) :
 H * (y / H)≤x / H∧ThR x y ((H - 1) * (y % H)) (H - 1) (x % H + H * (x / H - H * (y / H) + y / H)):=by
 have h0:H * (y / H)≤x / H:=by
  rw [Nat.mul_comm]; exact (Nat.le_div_iff_mul_le hH).1 hge
 have e1:=ZdA x H
 have e2:=ZdA y H
 generalize y / H=h at *
 generalize x / H=T at *
 generalize x % H=x0 at *
 generalize y % H=l at *
 obtain ⟨k,rfl⟩:∃ k,H=k + 1:=⟨H - 1,by omega⟩
 obtain ⟨D,rfl⟩:∃ D,T=(k + 1) * h + D:=⟨T - (k + 1) * h,by omega⟩
 rw [Nat.add_sub_cancel,Nat.add_sub_cancel_left]
 have e3:x + k * l=k * y + (x0 + (k + 1) * (D + h)):=by
  rw [← e1,← e2]
  simp only [Nat.mul_add,Nat.add_mul,Nat.one_mul]
  simp only [Nat.mul_comm,Nat.mul_left_comm]
  omega
 refine ⟨h0,e3,?_⟩
 rw [Nat.mul_add,Nat.mul_one,Nat.mul_comm y k] at hx
 omega
theorem ZkV {x y H:Nat} (hx:x < y * (H * H)):x / H < y * H:=by
 refine Nat.div_lt_of_lt_mul ?_
 rw [Nat.mul_left_comm]; exact hx
theorem Zfv {x y H:Nat} (hH:0 < H) (hy:0 < y):x % H + H * (x / H % y) < y * H∧(x % H + H * (x / H % y)) / y + H * (x / H / y)=x / y∧(x % H + H * (x / H % y)) % y=x % y:=by
 have e1:=ZdA x H
 have e2:=ZdA (x / H) y
 have h0:=Nat.mod_lt x hH
 have h1:=Nat.mod_lt (x / H) hy
 generalize x / H % y=r at *
 generalize x / H / y=q at *
 generalize x % H=x0 at *
 have e3:x=x0 + H * r + y * (H * q):=by
  rw [← e1,← e2,Nat.mul_add,Nat.mul_left_comm H y]; omega
 have e4:H * (r + 1)≤H * y:=Nat.mul_le_mul_left _ h1
 rw [Nat.mul_add,Nat.mul_one] at e4
 refine ⟨by rw [Nat.mul_comm y]; omega,?_,?_⟩
 ·rw [e3,Nat.add_mul_div_left _ _ hy]
 ·rw [e3,Nat.add_mul_mod_self_left]
theorem Zf9 {x y H:Nat} (hx:x < y * H):x / y < H:=Nat.div_lt_of_lt_mul hx
def Zdu (x:ShN × ShN):Value:=.tuple #[Zay x.1,Zay x.2]
theorem Zew {w w':World} {A A2:Option Addr} {q r b:Nat} {e:Ending} (h:Zby w A A2 q r e w') (hb:b≤w.heap.size) :
 ZbI (fun x:ShN × {q:ShN // ∀ a,q.1=some a→b≤a.block∨q.1=A∨q.1=A2}=>Zdu (x.1,x.2.1)) (fun x w=>Zad w (Zay x.1) q∧Zad w (Zay x.2.1) r) w e w':=by
 obtain ⟨D,m,d,B,l,c,rfl,h1,h2,h3,h4⟩:=h
 exact ⟨((D,m,d),⟨(B,l,c),fun a ha=>(h4 a ha).imp (fun h=>Nat.le_trans hb h) id⟩),rfl,h3,boxn h3 (fun S w'' hS hF=>⟨h1.nrb hS hF,h2.nrb hS hF⟩)⟩
theorem Zh8 {A A2:Option Addr} {l c l2 c2 x y:Nat} (w:World) (hX:Zad w (.slice A l c) x) (hY:Zad w (.slice A2 l2 c2) y) (hx:wl x≤4294967296) (hy:wl y≤4294967296) :
 Calls Tryz.prog 306 #[.slice A l c, .slice A2 l2 c2] w (fun e w'=>∃ m,e=.returned (.int .i64 (cmpI x y))∧w'=w.drewN m):=by
 obtain ⟨xs,hxl,hc,h1,h2,h3,rfl,hw⟩:=hX.row
 obtain ⟨ys,hyl,hc2,k1,k2,k3,rfl,hw2⟩:=hY.row
 subst hxl hyl
 exact (Zcg A A2 xs ys _ _ c c2 w rfl rfl h1 k1 (by omega) (by omega) h2 k2 h3 k3).mono fun e w' h=>by
  obtain ⟨rfl,m,rfl⟩:=h
  exact ⟨m,rfl,rfl⟩
def BlkR (X D n s:Nat) (zs:List Nat):Prop:=∃ hi,zs=List.replicate s 0 ++ hi∧zs.length=n∧Dig W64 zs∧val W64 hi=X / W64 ^ s / D
theorem BlkR.start {X D n s:Nat} (hs:s≤n) (hX:wl X≤s):BlkR X D n s (List.replicate n 0):=by
 refine ⟨List.replicate (n - s) 0,?_,List.length_replicate,Dig.replicate Zag n,?_⟩
 ·rw [List.replicate_append_replicate]; congr 1; omega
 ·rw [Zbd,ZfL hX,Nat.zero_div]
theorem BlkR.step {X D n s m q:Nat} {zs:List Nat} (h:BlkR X D n (s + m) zs) (hD:0 < D) (hq:q=(X / W64 ^ s % W64 ^ m + W64 ^ m * (X / W64 ^ (s + m) % D)) / D) (hl:wl q≤m):BlkR X D n s (ZaH zs s (wds q)):=by
 obtain ⟨hi,rfl,h2,h3,h4⟩:=h
 have hl2:(List.replicate (s + m) 0 ++ hi).length=s + m + hi.length:=by rw [List.length_append,List.length_replicate]
 have e:X / W64 ^ (s + m)=X / W64 ^ s / W64 ^ m:=by rw [Nat.div_div_eq_div_mul,← Nat.pow_add]
 refine ⟨wds q ++ List.replicate (m - wl q) 0 ++ hi,?_,by rw [Ze2 (by omega)]; exact h2,ZgV h3 (Zbr q).1,?_⟩
 ·unfold ZaH
  rw [hl2,List.take_of_length_le (l:=wds q) (by rw [ZeM]; omega),ZeM]
  rw [← List.replicate_append_replicate,List.append_assoc,List.take_left' List.length_replicate,List.drop_left' List.length_replicate]
  rw [List.drop_append_of_le_length (by rw [List.length_replicate]; omega),List.drop_replicate,List.append_assoc]
 ·rw [ZaQ,ZaQ,Zbd,Nat.mul_zero,Nat.add_zero,List.length_append,List.length_replicate,ZeM,Nat.add_sub_cancel' hl,(Zbr q).2,h4,hq,e]
  rw [(Zfv (x:=X / W64 ^ s) (H:=W64 ^ m) (Nat.pow_pos Zag) hD).2.1]
theorem BlkR.done {X D n:Nat} {zs:List Nat} (h:BlkR X D n 0 zs):zs.length=n∧Dig W64 zs∧val W64 zs=X / D:=by
 obtain ⟨hi,rfl,h2,h3,h4⟩:=h
 refine ⟨h2,h3,?_⟩
 rw [h4,Nat.pow_zero,Nat.div_one]
theorem Zn5 {n:Nat} {B R A2:Option Addr} (h:∀ a,B=some a→n≤a.block∨B=R∨B=A2) (hR:∀ a,R=some a→n≤a.block∨R=A2∨R=A2):∀ a,B=some a→n≤a.block∨B=A2∨B=A2:=by
 intro a ha
 rcases h a ha with h | h | h
 ·exact Or.inl h
 ·rw [h] at ha ⊢; exact hR a ha
 ·exact Or.inr (Or.inl h)
theorem ZoT {n:Nat} {B A2:Option Addr} (h:∀ a,B=some a→n≤a.block∨B=none∨B=none):∀ a,B=some a→n≤a.block∨B=A2∨B=A2:=by
 intro a ha
 rcases h a ha with h | h | h
 ·exact Or.inl h
 all_goals rw [ha] at h; cases h
theorem Zga {u v:Value} {m n:Nat} {w:World} (hu:Zad w u m) (hv:Zad w v n) (hm:wl m≤4294967296) (hn:wl n≤4294967296):Calls Tryz.prog 306 #[u,v] w (RetV w (.int .i64 (cmpI m n))):=by
 obtain ⟨A,l,c,rfl⟩:=hu.opens
 obtain ⟨A2,l2,c2,rfl⟩:=hv.opens
 refine (Zh8 w hu hv hm hn).mono ?_
 rintro e w' ⟨k,rfl,rfl⟩
 exact ⟨rfl,(Fr.refl _ _).drewN _⟩
theorem ZlX {a b:Nat} (h:a < b):decide (cmpI a b < 0)=true:=decide_eq_true (ZcK.2 (by omega))
theorem ZlY {a b:Nat} (h:¬ a < b):decide (cmpI a b < 0)=false:=decide_eq_false (fun h2=>h (by have:=ZcK.1 h2; omega))
theorem Zn6 {x y half:Nat} (hh:0 < half) (hn:W64 ^ (2 * half)≤2 * y) (hy:wl y≤2 * half) (hx:x < y * W64 ^ half) :
 ∃ x0 x1 x2 h l v,x % W64 ^ half=x0∧x / W64 ^ half=x1∧x / W64 ^ (2 * half)=x2∧y / W64 ^ half=h∧y % W64 ^ half=l∧0 + W64 ^ half * h=v∧wl h=half∧W64 ^ half≤2 * h∧wl l≤half∧wl x0≤half∧wl x1≤2 * half∧wl x2≤2 * half∧0 < h∧0 < y∧wl y≤2 * half ∧
   (x2 < h→x1 < h * W64 ^ half∧wl (x1 / h)≤half∧wl (x1 % h)≤2 * half + 1∧ThR x y (x1 / h * l) (x1 / h) (x0 + W64 ^ half * (x1 % h))) ∧
   (¬ x2 < h→v≤x1∧wl (x1 - v)≤2 * half∧wl (x1 - v + h)≤2 * half + 1∧wl (W64 ^ half - 1)≤half∧ThR x y ((W64 ^ half - 1) * l) (W64 ^ half - 1) (x0 + W64 ^ half * (x1 - v + h))):=by
 have hp:0 < W64 ^ half:=Nat.pow_pos Zag
 have hy':=ZaC.1 hy
 obtain ⟨k1,k2,k3⟩:=Znp hn hy' hh
 have e:x / W64 ^ (2 * half)=x / W64 ^ half / W64 ^ half:=by rw [Nat.div_div_eq_div_mul,← Nat.pow_add,Nat.two_mul]
 have hx1:x / W64 ^ half < y:=Nat.div_lt_of_lt_mul (by rw [Nat.mul_comm]; exact hx)
 have w1:wl (x / W64 ^ half)≤2 * half:=Nat.le_trans (ZaS (Nat.le_of_lt hx1)) hy
 have w2:wl (x / W64 ^ (2 * half))≤2 * half:=by rw [e]; exact Nat.le_trans (ZaS (Nat.div_le_self _ _)) w1
 have h0:0 < y / W64 ^ half:=by omega
 have y0:0 < y:=Nat.lt_of_lt_of_le h0 (Nat.div_le_self _ _)
 refine ⟨_,_,_,_,_,_,rfl,rfl,rfl,rfl,rfl,rfl,k3,k1,Ze4 _ _,Ze4 _ _,w1,w2,h0,y0,hy,?_,?_⟩
 ·intro hi
  rw [e] at hi
  have a1:=(Nat.div_lt_iff_lt_mul hp).1 hi
  exact ⟨a1,Zek (Zf9 a1),Nat.le_trans (ZaS (Nat.mod_le _ _)) (by omega),ThR.low hp hi⟩
 ·intro hi
  rw [e] at hi
  obtain ⟨t1,t2⟩:=ThR.top (H:=W64 ^ half) hp hx (by omega)
  rw [Nat.zero_add]
  have b1:wl (x / W64 ^ half - W64 ^ half * (y / W64 ^ half))≤2 * half:=Nat.le_trans (ZaS (Nat.sub_le _ _)) w1
  exact ⟨t1,b1,Zgx b1 (by omega),Zek (Nat.sub_lt hp Nat.one_pos),t2⟩
theorem ThR.size {x y P q r n:Nat} (h:ThR x y P q r) (hP:wl P≤n) (hy:wl y≤n):wl r≤n + 1:=Nat.le_trans (ZaS (Nat.le_of_lt h.2)) (Zgx hP hy)
theorem ZoU {n:Nat} {B R A2:Option Addr} (h:∀ a,B=some a→n≤a.block∨B=R∨B=R) (hR:∀ a,R=some a→n≤a.block∨R=A2∨R=A2):∀ a,B=some a→n≤a.block∨B=A2∨B=A2:=by
 intro a ha
 rcases h a ha with h | h | h
 ·exact Or.inl h
 all_goals rw [h] at ha ⊢; exact hR a ha
theorem tdq2 (half:Nat) (h:half≤1099511627776):IntKind.i64.wrap ((((2 * half:Nat):Nat):Int).tdiv 2)=((half:Nat):Int):=by
 rw [IntKind.wrap_i64,show ((2 * half:Nat):Int)=(half:Int) * 2 by omega,Int.mul_tdiv_cancel _ (by decide)]
 omega
section
variable {P:Program} {N:Nat} {S0:Nat→Prop} {w0:World} {ops:Array Oper} {Q:Exit→Act→World→Prop} {s:St} {Φ:World→Prop}
end
theorem Zmr (half k c m:Nat) (hk:k≤half) (hz:Nat.min k (half - k)=m):ZaH (List.replicate k c ++ List.replicate (half - k) 0) k (List.replicate k c)=List.replicate (k + m) c ++ List.replicate (half - (k + m)) 0:=by
 subst hz
 unfold ZaH
 rw [List.take_left' List.length_replicate,List.drop_left' List.length_replicate,List.length_append,List.length_replicate,List.length_replicate,List.take_replicate,List.drop_replicate,Nat.add_sub_cancel' hk,← List.append_assoc,List.replicate_append_replicate]
 congr 2
 ·congr 1
  exact Nat.min_comm _ _
 ·simp only [Nat.min_def]
  split<;>omega
theorem ZoV (n:Nat):val W64 (List.replicate n 18446744073709551615)=W64 ^ n - 1:=by
 induction n with
 | zero=>rfl
 | succ n ih =>
   have this:W64=18446744073709551616:=by rw [Zal]
   obtain ⟨m,hm⟩:∃ m,W64 ^ n=m + 1:=⟨W64 ^ n - 1,by have:=Nat.pow_pos (n:=n) Zag; omega⟩
   rw [List.replicate_succ,Zb1,ih,Nat.pow_succ,hm,Nat.add_sub_cancel,Nat.add_mul,Nat.one_mul,Nat.mul_comm W64 m]
   omega
theorem ZoW {half k b:Nat} {w:World} (h:Own .u64 217 w b (List.replicate k 18446744073709551615 ++ List.replicate (half - k) 0)) (hk:k=half):Zad w (.slice (some ⟨b,0,none⟩) half half) (W64 ^ half - 1):=by
 subst hk
 rw [Nat.sub_self,List.replicate_zero,List.append_nil] at h
 refine ⟨_,List.replicate k 18446744073709551615,k,by rw [List.length_replicate],by rw [List.length_replicate]; exact Nat.le_refl _,h.shows0,fun x hx=>?_,fun j hj=>?_,ZoV k⟩
 ·rw [List.eq_of_mem_replicate hx,Zal]; decide
 ·rw [List.length_replicate] at hj
  rw [List.getElem?_replicate,if_pos (by omega)]
  decide
theorem Zn7 (h:Nat) (w:World) (hh:h < W64):Calls Tryz.prog 411 #[.int .u64 1, .int .u64 (h:Int)] w (RetV w (.tuple #[.int .u64 0, .int .u64 (h:Int)])):=by
 have HM:=zh (Zep 1 h (by rw [Zal]; decide) hh w)
 rw [show Zco 1 h=0 by unfold Zco; rw [Nat.one_mul]; exact Nat.div_eq_of_lt hh,show Zbo 1 h=h by unfold Zbo; rw [Nat.one_mul]; exact Nat.mod_eq_of_lt hh] at HM
 clear hh
 go_enter Tryz.func411,Tryz.ntmps411
 go_wp2_with (go_at_call 353; refine HM.out.mono ?_; rintro e w' ⟨rfl,rfl⟩)
 go_ret2
 exact ⟨rfl,Fr.refl _ _⟩
theorem Blk.own1K {w:World} {b r:Nat} (h:Blk 217 w b #[.int .u64 ((r:Nat):Int)]):Own .u64 217 w b [r]:=⟨[],by simp,h⟩
theorem Zms {P:Program} {ops:Array Oper} {o:Oper} {a:Act} {w:World} {K:Act→World→Prop} {Q:Exit→Act→World→Prop} {E:Prop} (hg:o.guard=none) (dd:Nat) (hdd:o.dst=some dd) (d s:Operand) (dT sT:TypeId) (ho:o.op=.call { callee:=.builtin .copy,args:=#[d,s],argTypes:=#[dT,sT] }) (e:TypeId) (hu:P.underlying dT=some (.slice e)) (hsz:(P.info? e).map (·.size)=some 1)
 (b k half c m dCap sCap:Nat) (hd:a.eval d=.slice (some ⟨b,k,none⟩) (half - k) dCap) (hs:a.eval s=.slice (some ⟨b,0,none⟩) k sCap) (hk:k≤half) (hm:Nat.min k (half - k)=m) (hO:Own .u64 e w b (List.replicate k c ++ List.replicate (half - k) 0))
 (hK:∀ w',Own .u64 e w' b (List.replicate (k + m) c ++ List.replicate (half - (k + m)) 0)→Fr (· = b) w w'→K (a.put (some dd) (.int .i64 ((m:Nat):Int))) w') :
 if Region.wanted o (yielded ops a.tmps)=true then Oper.wp P o a w K Q else E:=by
 have hw:Region.wanted o (yielded ops a.tmps)=true:=by simp [Region.wanted,hg]
 rw [if_pos hw]
 have hS:=hO.shows0.take k
 rw [List.take_left' List.length_replicate] at hS
 have hP:=Zmr half k c m hk hm
 unfold ZaH at hP
 rw [List.take_left' List.length_replicate,List.drop_left' List.length_replicate,List.length_append,List.length_replicate,List.length_replicate,Nat.add_sub_cancel_left] at hP
 have Q2:∀ w',Own .u64 e w' b (List.replicate k c ++ ((List.replicate k c).take (List.replicate (half - k) 0).length ++ (List.replicate (half - k) 0).drop (List.replicate k c).length) ++ [])→Own .u64 e w' b (List.replicate (k + m) c ++ List.replicate (half - (k + m)) 0):=by
  intro w' h1
  rw [List.append_nil,List.length_replicate,List.length_replicate] at h1
  rw [← hP]
  exact h1
 refine Zgm d s dT sT ho e .u64 hu hsz _ _ _ _ dCap sCap hd hs b m (List.replicate k c) (List.replicate (half - k) 0) [] (List.replicate k c) (by rw [List.length_replicate,List.length_replicate]; exact hm) List.length_replicate List.length_replicate (by rw [List.append_nil]; exact hO) hS (fun _=>by rw [List.length_replicate]) (fun w' h1 _ h3 _=>by rw [hdd]; exact hK w' (Q2 w' h1) h3)
set_option maxHeartbeats 1000000 in
theorem Zmt (half:Nat) {b:Nat} (w:World) (hB:Blk 217 w b #[.int .u64 18446744073709551615]) (h1:1≤half) (hh:half≤268435456) :
 Calls Tryz.prog 410 #[.slice (some ⟨b,0,none⟩) 1 1, .int .i64 ((half:Nat):Int)] w (Za0 w (W64 ^ half - 1)):=by
 have HB:=zh hB
 have hW:Hid (half < W64):=by unfold Hid; rw [Zal]; omega
 clear hB
 go_enter Tryz.func410,Tryz.ntmps410
 go_wp2_with (first
  | (go_at_call 411; refine (Zn7 half _ hW.out).mono ?_; rintro e w' ⟨rfl,hF0⟩; have HF0:=zh hF0; clear hF0)
  | (at_make
     refine ZaD rfl _ _ _ rfl _ _ _ Tryz.underlying133 ZbR _ _ _ _ half rfl rfl (by omega) (by omega) (by omega) (by omega) ?_
     intro R w1 hR hO1 _ hF1 hs1
     have HO1:=zh hO1
     have HF1:=zh hF1
     have HR:=zh hR
     clear hO1 hF1 hR hs1)
  | (with_reducible refine Zeo rfl (.tmp 31) (.tmp 32) _ _ rfl _ _ Tryz.underlying133 Zda _ _ _ _ _ _ rfl rfl R 1 [] (List.replicate half 0) [] [18446744073709551615] (by rw [List.length_replicate]; simp only [List.length_singleton,Nat.min_def]; split<;>omega) (by rw [List.length_replicate]) rfl (by rw [List.nil_append,List.append_nil]; exact HO1.out) ((Blk.own1K (r:=18446744073709551615) HB.out).shows0.ext (HF0.out.ext HF1.out)) (fun _=>rfl) ?_
     intro w3 hO3 _ hF3 _
     have HO3:=zh hO3
     have HF3:=zh hF3
     clear hO3 hF3))
 have HO4:Hid (Own .u64 217 w3 R (List.replicate 1 18446744073709551615 ++ List.replicate (half - 1) 0)):=by
  have h:=HO3.out
  rw [List.nil_append,List.append_nil,List.length_replicate,List.take_of_length_le (by simpa using h1),List.drop_replicate] at h
  exact h
 have HF4:Hid (Ext w w3):=(HF0.out.ext HF1.out).next HF3.out (fun i hi e=>by have:=HR.out; have:=HF0.out.size; omega)
 clear HO3 HF3 HO1 HF1 HB hW
 go_loopw [8] (fun i wr=>∃ k:Nat,1≤k∧k≤half∧i=.int .i64 (k:Int)∧Hid (Own .u64 217 wr R (List.replicate k 18446744073709551615 ++ List.replicate (half - k) 0))∧Hid (Ext w wr)) (fun i _=>half - (intOf i).toNat)
 case atStart=>exact ⟨1,Nat.le_refl _,h1,rfl,HO4.out,HF4.out⟩
 case round =>
  obtain ⟨k,hk1,hk2,rfl,hO,hF⟩:=hrel
  by_cases hlt:k < half
  ·obtain ⟨m,hm⟩:∃ m,Nat.min k (half - k)=m:=⟨_,rfl⟩
   have hm1:1≤m∧m≤half - k:=by simp only [Nat.min_def] at hm; split at hm<;>omega
   have HM:=zh hm
   have hO2:Own .u64 217 wr.drew R _:=hO.out.drewN 1
   have HO:=zh hO2
   have hne:¬ half=k:=by omega
   clear hO2
   go_wp2
   go_region_law (refine Zms rfl 45 rfl (.tmp 41) (.tmp 44) 133 133 rfl 217 Tryz.underlying133 Zda R k half 18446744073709551615 m (half - k) half (by simp [Act.eval,Act.put]) (by simp [Act.eval,Act.put]) hk2 HM.out HO.out (fun w4 hO4 hF4=>?_))
   have hF5:Ext w w4:=(hF.out.drewN 1).next hF4 (fun i hi e=>by have:=HR.out; have:=HF0.out.size; omega)
   have HF5:=zh hF5
   have HO5:=zh hO4
   clear hF5 hO4 hF4 HO
   simp only [List.getElem_toArray,List.getElem_cons_succ,List.getElem_cons_zero,Act.put]
   simp only [List.setIfInBounds_toArray,List.set_cons_succ,List.set_cons_zero]
   rw [show IntKind.i64.wrap ((k:Int) + (m:Int))=((k + m:Nat):Int) by rw [IntKind.wrap_i64]; omega]
   go_wp2
   go_roundw
   case rel=>exact ⟨k + m,by omega,by omega,by go_num,HO5.out,HF5.out⟩
   case measure=>simp [intOf]; omega
  ·obtain rfl:k=half:=by omega
   have HN:=zh (ZoW hO.out rfl)
   go_wp2
   go_ret
   exact ⟨_,rfl,HN.out,hF.out⟩
theorem Zot {n:Nat} {B A A2:Option Addr} (h:∀ a,B=some a→n≤a.block∨B=A∨B=A):∀ a,B=some a→n≤a.block∨B=A∨B=A2:=fun a ha=>(h a ha).imp id fun h=>Or.inl (h.elim id id)
theorem ZpA {n:Nat} {B A A2:Option Addr} (h:∀ a,B=some a→n≤a.block∨B=A2∨B=A2):∀ a,B=some a→n≤a.block∨B=A∨B=A2:=fun a ha=>(h a ha).imp id fun h=>Or.inr (h.elim id id)
theorem Zn8 {n:Nat} (h:n % 2=1):((n:Nat):Int).tmod 2=1:=by rw [Int.tmod_eq_emod_of_nonneg (Int.natCast_nonneg _)]; omega
theorem Znq {n:Nat} (h:n % 2=0):((n:Nat):Int).tmod 2=0:=by rw [Int.tmod_eq_emod_of_nonneg (Int.natCast_nonneg _)]; omega
theorem Zn9 {x y half:Nat} (hx:x < y * W64 ^ (2 * half)) (h0:0 < y) (hwy:wl y=2 * half) :
 ∃ x0 x1 R1 Q2,x % W64 ^ half=x0∧x / W64 ^ half=x1∧x1 % y=R1∧(x0 + W64 ^ half * R1) / y=Q2∧x1 < y * W64 ^ half∧(x0 + W64 ^ half * R1 < y * W64 ^ half∧(x0 + W64 ^ half * R1) % y=x % y)∧Q2 + W64 ^ half * (x1 / y)=x / y∧wl x0≤half∧wl R1≤2 * half∧wl (x1 / y)≤half∧wl Q2≤half∧wl x≤4 * half:=by
 have wX:wl x≤4 * half:=by
  refine Zek (Nat.lt_of_lt_of_le (Nat.lt_trans hx (Nat.mul_lt_mul_of_pos_right (ZaC.1 (Nat.le_of_eq hwy)) (Nat.pow_pos Zag))) ?_)
  rw [← Nat.pow_add]
  exact Nat.pow_le_pow_right Zag (by omega)
 have hp:0 < W64 ^ half:=Nat.pow_pos Zag
 have e2:W64 ^ (2 * half)=W64 ^ half * W64 ^ half:=by rw [Nat.two_mul,Nat.pow_add]
 rw [e2] at hx
 obtain ⟨n1,n2,n3⟩:=Zfv (x:=x) (H:=W64 ^ half) hp h0
 have f1:=ZkV hx
 exact ⟨_,_,_,_,rfl,rfl,rfl,rfl,f1,⟨n1,n3⟩,n2,Ze4 _ _,Nat.le_trans (ZaS (Nat.le_of_lt (Nat.mod_lt _ h0))) (Nat.le_of_eq hwy),Zek (Zf9 f1),Zek (Zf9 n1),wX⟩
theorem Zh9 (A:Option Addr) (l c:Nat) (A2:Option Addr) (l2 c2 X Y half:Nat) (w:World) (hX:Zad w (.slice A l c) X) (hY:Zad w (.slice A2 l2 c2) Y) (hl2:l2=2 * half) (h40:40≤half) (hb:half≤268435456) (hn:W64 ^ (2 * half)≤2 * Y) (hx:X < Y * W64 ^ half) (IH:∀ (B:Option Addr) (m d:Nat) (B2:Option Addr) (m2 d2 a b:Nat) (w:World),Zad w (.slice B m d) a→Zad w (.slice B2 m2 d2) b→wl b=half→W64 ^ half≤2 * b→a < b * W64 ^ half→Calls Tryz.prog 390 #[.slice B m d, .slice B2 m2 d2] w (Zby w B B2 (a / b) (a % b))) :
 Calls Tryz.prog 406 #[.slice A l c, .slice A2 l2 c2] w (Zby w A2 A2 (X / Y) (X % Y)):=by
 obtain ⟨xs_,hxl,hxc,_,_,_,_,hwx⟩:=hX.row
 obtain ⟨ys_,hyl,hyc,_,_,_,_,hwy⟩:=hY.row
 have hc:l≤c:=by omega
 have hc2:l2≤c2:=by omega
 have wX:wl X≤3 * half:=ZaC.2 (Nat.lt_of_lt_of_le (Nat.mul_lt_mul_of_pos_right (show Y < W64 ^ (2 * half) from ZaC.1 (by omega)) (Nat.pow_pos Zag)) (by rw [← Nat.pow_add]; exact Nat.pow_le_pow_right Zag (by omega)) |> Nat.lt_trans hx)
 obtain ⟨x0,x1,x2,h,lo,v,hx0,hx1,hx2,hh1,hlo,hv,wh,hh2,wlo,wx0,wx1,wx2,h0,y0,wY,hcase,hcase2⟩:=Zn6 (half:=half) (by omega) hn (by omega) hx
 refine ZaA (Φ:=fun w=>(Zad w (.slice A l c) (X)∧Zad w (.slice A2 l2 c2) (Y))) Tryz.func406 rfl (by kernel_rfl) (fun w' hf=>⟨hX.ext hf,hY.ext hf⟩) ?_
 refine Zac (Zab (xq 2 [eS1 4 none 0 0,eS1 5 none 0 0] [] ?_))
 refine xe (Zaa (Zac (Zab (xq 3 [(15, .v (.int .i64 (IntKind.i64.wrap ((((l2:Nat):Int)).tdiv 2))))] [] ?_))))
 rw [show IntKind.i64.wrap ((((l2:Nat):Int)).tdiv 2)=((half:Nat):Int) from by rw [hl2]; exact tdq2 half (by omega)]
 refine xq 1 [(6, .v (.int .i64 ((half:Nat):Int)))] [] ?_
 refine xe (Zaa (Zac ?_))
 refine ZaI 9 (by kernel_rfl) (by kernel_rfl) Zaq ?_
 refine xqg 2 [eS1 16 A2 l2 c2,(17, .v (.int .i64 ((half:Nat):Int)))] ?_
 refine xqj 18 (.slice A2 half c2) (fun w S=>ZgU (t:=133) (e:=217) (x:=(Operand.tmp 16)) (len:=l2) (cap:=c2) (h:=half) (hi:=(Operand.tmp 17)) (by omega)) ?_
 refine xqd 298 [.slice A2 half c2] 19 Zay _ (fun w T S=>(Zdz (k:=half) _ S.2 (by omega) (by omega)).mono (fun _ _ h=>ZaF (by rw [hlo] at h; exact h))) (fun xx=>?_)
 obtain ⟨A10,l10,c10⟩:=xx
 refine xqg 2 [eS1 20 A2 l2 c2,(21, .v (.int .i64 ((half:Nat):Int)))] ?_
 refine xqj 22 (.slice (if c2=half then A2 else (A2).map (·.add half)) (l2 - half) (c2 - half)) (fun w S=>Zd7 (t:=133) (e:=217) (x:=(Operand.tmp 20)) (len:=l2) (cap:=c2) (l:=half) (lo:=(Operand.tmp 21)) (by omega)) ?_
 refine xqg 2 [eS1 7 A10 l10 c10,(8, .v (.slice (if c2=half then A2 else (A2).map (·.add half)) (l2 - half) (c2 - half)))] ?_
 refine xz (xe (Zaa (Zac (Zab (xq 2 [eS1 23 A l c,(24, .v (.int .i64 ((half:Nat):Int)))] [] ?_)))))
 refine xqc 389 [.slice A l c, .int .i64 ((half:Nat):Int)] 25 Zay _ (fun w T S=>(ZcQ _ (X) (half) _ S.1.1).mono (fun _ _ h=>ZaF (by rw [hx1] at h; exact h))) (fun xx=>?_)
 obtain ⟨A11,l11,c11⟩:=xx
 refine xq 1 [eS1 9 A11 l11 c11] [] ?_
 refine xe (Zaa (Zac (Zab (xq 2 [eS1 10 none 0 0,eS1 11 none 0 0] [] ?_))))
 refine xe (Zaa ?_)
 refine Zpi (fun ss ff=>∃ (QA:Option Addr) (Ql Qc:Nat) (RA:Option Addr) (Rl Rc Q R:Nat),ss=ofL [(0, .v (.slice A l c)),(1, .v (.slice A2 l2 c2)),(6, .v (.int .i64 ((half:Nat):Int))),(7, .v (.slice A10 l10 c10)),(10, .v (.slice QA Ql Qc)),(11, .v (.slice RA Rl Rc))] []∧ff=(fun w=>((((Zad w (.slice A l c) (X)∧Zad w (.slice A2 l2 c2) (Y))∧Zad w (.slice A10 l10 c10) (lo))∧Zad w (.slice QA Ql Qc) (Q))∧Zad w (.slice RA Rl Rc) (R)))∧(ThR X Y (Q * lo) Q (x0 + W64 ^ half * R))∧(wl Q≤half)∧(wl R≤2 * half + 1)) ?_ ?_
 ·refine Zac ?_
  by_cases hlt:x2 < h
  ·refine Zab (xq 3 [eS1 26 A l c,(28, .v (.int .i64 (IntKind.i64.wrap (2 * ((half:Nat):Int)))))] [] ?_)
   rw [show IntKind.i64.wrap (2 * ((half:Nat):Int))=((2 * half:Nat):Int) from by rw [IntKind.wrap_i64]; omega]
   refine xqc 389 [.slice A l c, .int .i64 ((2 * half:Nat):Int)] 29 Zay _ (fun w T S=>(ZcQ _ (X) (2 * half) _ S.1.1.1).mono (fun _ _ h=>ZaF (by rw [hx2] at h; exact h))) (fun xx=>?_)
   obtain ⟨A12,l12,c12⟩:=xx
   refine xq 1 [(30, .v (.slice (if c2=half then A2 else (A2).map (·.add half)) (l2 - half) (c2 - half)))] [] ?_
   refine xqc 306 [.slice A12 l12 c12, .slice (if c2=half then A2 else (A2).map (·.add half)) (l2 - half) (c2 - half)] 31 (fun _:Unit=>.int .i64 (cmpI ((x2:Nat):Int) ((h:Nat):Int))) _ (fun w T S=>(Zga S.2 (hh1 ▸ Zad.high S.1.1.1.2 (by omega)) (by omega) (by omega)).mono (fun _ _ h=>Zae h rfl)) (fun xx=>?_)
   refine xq 1 [(32, .v (.bool (decide ((cmpI ((x2:Nat):Int) ((h:Nat):Int)) < 0))))] [] ?_
   rw [ZlX hlt]
   refine xr 0 [eS1 0 A l c,eS1 1 A2 l2 c2,eS1 4 none 0 0,eS1 5 none 0 0,(6, .v (.int .i64 ((half:Nat):Int))),eS1 7 A10 l10 c10,(8, .v (.slice (if c2=half then A2 else (A2).map (·.add half)) (l2 - half) (c2 - half))),eS1 9 A11 l11 c11,eS1 10 none 0 0,eS1 11 none 0 0,(32, .v (.bool true))] [] ?_
   refine xe (Zaa (xa (Zab (xq 2 [eS1 34 A11 l11 c11,(35, .v (.slice (if c2=half then A2 else (A2).map (·.add half)) (l2 - half) (c2 - half)))] [] ?_))))
   refine xqc 390 [.slice A11 l11 c11, .slice (if c2=half then A2 else (A2).map (·.add half)) (l2 - half) (c2 - half)] 36 (fun x:ShN × {q:ShN // ∀ a,q.1=some a→w.heap.size≤a.block∨q.1=A11∨q.1=(if c2=half then A2 else (A2).map (·.add half))}=>Zdu (x.1,x.2.1)) _ (fun w T S=>(IH _ _ _ _ _ _ x1 h _ S.1.1.2 (hh1 ▸ Zad.high S.1.1.1.1.2 (by omega)) wh hh2 (hcase hlt).1).mono (fun _ _ h=>Zew h T.size)) (fun xx=>?_)
   obtain ⟨⟨A13,l13,c13⟩,⟨⟨A14,l14,c14⟩,hG14⟩⟩:=xx
   refine xq 5 [eS1 10 A13 l13 c13,eS1 11 A14 l14 c14] [] ?_
   refine xe ?_
   refine SXq.weak [(0, .v (.slice A l c)),(1, .v (.slice A2 l2 c2)),(6, .v (.int .i64 ((half:Nat):Int))),(7, .v (.slice A10 l10 c10)),(10, .v (.slice A13 l13 c13)),(11, .v (.slice A14 l14 c14))] [] (Ψ:=fun w=>((((Zad w (.slice A l c) (X)∧Zad w (.slice A2 l2 c2) (Y))∧Zad w (.slice A10 l10 c10) (lo))∧Zad w (.slice A13 l13 c13) ((x1 / h)))∧Zad w (.slice A14 l14 c14) ((x1 % h)))) (Zcs.of (by kernel_rfl)) (by kernel_rfl) (fun w S=>⟨⟨⟨⟨S.1.1.1.1.1.1,S.1.1.1.1.1.2⟩,S.1.1.1.1.2⟩,S.2.1⟩,S.2.2⟩) ?_
   exact ZlT ⟨A13,l13,c13,A14,l14,c14,(x1 / h),(x1 % h),rfl,rfl,(hcase hlt).2.2.2,(hcase hlt).2.1,(hcase hlt).2.2.1⟩
  ·refine Zab (xq 3 [eS1 26 A l c,(28, .v (.int .i64 (IntKind.i64.wrap (2 * ((half:Nat):Int)))))] [] ?_)
   rw [show IntKind.i64.wrap (2 * ((half:Nat):Int))=((2 * half:Nat):Int) from by rw [IntKind.wrap_i64]; omega]
   refine xqc 389 [.slice A l c, .int .i64 ((2 * half:Nat):Int)] 29 Zay _ (fun w T S=>(ZcQ _ (X) (2 * half) _ S.1.1.1).mono (fun _ _ h=>ZaF (by rw [hx2] at h; exact h))) (fun xx=>?_)
   obtain ⟨A15,l15,c15⟩:=xx
   refine xq 1 [(30, .v (.slice (if c2=half then A2 else (A2).map (·.add half)) (l2 - half) (c2 - half)))] [] ?_
   refine xqc 306 [.slice A15 l15 c15, .slice (if c2=half then A2 else (A2).map (·.add half)) (l2 - half) (c2 - half)] 31 (fun _:Unit=>.int .i64 (cmpI ((x2:Nat):Int) ((h:Nat):Int))) _ (fun w T S=>(Zga S.2 (hh1 ▸ Zad.high S.1.1.1.2 (by omega)) (by omega) (by omega)).mono (fun _ _ h=>Zae h rfl)) (fun xx=>?_)
   refine xq 1 [(32, .v (.bool (decide ((cmpI ((x2:Nat):Int) ((h:Nat):Int)) < 0))))] [] ?_
   rw [ZlY hlt]
   refine xr 0 [eS1 0 A l c,eS1 1 A2 l2 c2,eS1 4 none 0 0,eS1 5 none 0 0,(6, .v (.int .i64 ((half:Nat):Int))),eS1 7 A10 l10 c10,(8, .v (.slice (if c2=half then A2 else (A2).map (·.add half)) (l2 - half) (c2 - half))),eS1 9 A11 l11 c11,eS1 10 none 0 0,eS1 11 none 0 0,(32, .v (.bool false))] [] ?_
   refine xe (Zaa (xb (Zac (Zab ?_))))
   refine Zhm (d:=39) (fun zb:Nat=>.slice (some ⟨zb,0,none⟩) 1 1) (fun zb zw=>Blk 217 zw zb #[.int .u64 18446744073709551615]) (by kernel_rfl) (by kernel_rfl) (by kernel_rfl) (by kernel_rfl) (by kernel_rfl) (by kernel_rfl) (fun w T S=>ZlB (t:=133) (e:=217) (n:=1) (sz:=1) (z:=.int .u64 0) (parts:=#[(0,Operand.const (Value.int IntKind.u64 18446744073709551615))]) (by kernel_rfl) (by kernel_rfl) (by kernel_rfl) (by kernel_rfl) (by kernel_rfl) (by kernel_rfl)) (fun b16=>?_)
   refine xr 1 [eS1 0 A l c,eS1 1 A2 l2 c2,eS1 4 none 0 0,eS1 5 none 0 0,(6, .v (.int .i64 ((half:Nat):Int))),eS1 7 A10 l10 c10,(8, .v (.slice (if c2=half then A2 else (A2).map (·.add half)) (l2 - half) (c2 - half))),eS1 9 A11 l11 c11,eS1 10 none 0 0,eS1 11 none 0 0,eS1 39 (some ⟨b16,0,none⟩) 1 1,(40, .v (.int .i64 ((half:Nat):Int)))] [] ?_
   refine xqc 410 [.slice (some ⟨b16,0,none⟩) 1 1, .int .i64 ((half:Nat):Int)] 41 Zay _ (fun w T S=>(Zmt half _ S.2 (by omega) (by omega)).mono (fun _ _=>ZaF)) (fun xx=>?_)
   obtain ⟨A17,l17,c17⟩:=xx
   refine xq 1 [eS1 10 A17 l17 c17] [] ?_
   refine xe (Zaa (Zab (xq 3 [eS1 42 A11 l11 c11,(43, .v (.slice (if c2=half then A2 else (A2).map (·.add half)) (l2 - half) (c2 - half))),(44, .v (.int .i64 ((half:Nat):Int)))] [] ?_)))
   refine xqc 391 [.slice (if c2=half then A2 else (A2).map (·.add half)) (l2 - half) (c2 - half), .slice none 0 0, .int .i64 ((half:Nat):Int)] 45 (fun x:{q:ShN // ∀ a,q.1=some a→w.heap.size≤a.block∨q.1=none∨q.1=none}=>Zay x.1) _ (fun w T S=>(Zev _ _ (h) (0) half _ (hh1 ▸ Zad.high S.1.1.1.1.1.1.2 (by omega)) (Zad.zero _) (by omega) (by first | omega | exact Nat.le_trans (Nat.le_of_eq Zcl) (Nat.zero_le _)) (by omega) (by omega)).mono (fun _ _ h=>ZbX (by rw [hv] at h; exact h) T.size)) (fun xx=>?_)
   obtain ⟨⟨A18,l18,c18⟩,hG18⟩:=xx
   refine xqc 301 [.slice A11 l11 c11, .slice A18 l18 c18] 46 (fun x:{q:ShN // ∀ a,q.1=some a→w.heap.size≤a.block∨q.1=A11∨q.1=A11}=>Zay x.1) _ (fun w T S=>(Zcp A11 A18 _ _ _ _ x1 v _ S.1.1.1.1.1.2 S.2 (by omega) (hcase2 hlt).1).mono (fun _ _ h=>ZbX h T.size)) (fun xx=>?_)
   obtain ⟨⟨A19,l19,c19⟩,hG19⟩:=xx
   refine xq 1 [(47, .v (.slice (if c2=half then A2 else (A2).map (·.add half)) (l2 - half) (c2 - half)))] [] ?_
   refine xqc 300 [.slice A19 l19 c19, .slice (if c2=half then A2 else (A2).map (·.add half)) (l2 - half) (c2 - half)] 48 (fun x:{q:ShN // ∀ a,q.1=some a→w.heap.size≤a.block∨q.1=A19∨q.1=(if c2=half then A2 else (A2).map (·.add half))}=>Zay x.1) _ (fun w T S=>(Zez _ _ _ _ _ _ (x1 - v) (h) _ S.2 (hh1 ▸ Zad.high S.1.1.1.1.1.1.1.1.2 (by omega)) (by omega) (by omega)).mono (fun _ _ h=>ZbX h T.size)) (fun xx=>?_)
   obtain ⟨⟨A20,l20,c20⟩,hG20⟩:=xx
   refine xq 1 [eS1 11 A20 l20 c20] [] ?_
   refine xe ?_
   refine SXq.weak [(0, .v (.slice A l c)),(1, .v (.slice A2 l2 c2)),(6, .v (.int .i64 ((half:Nat):Int))),(7, .v (.slice A10 l10 c10)),(10, .v (.slice A17 l17 c17)),(11, .v (.slice A20 l20 c20))] [] (Ψ:=fun w=>((((Zad w (.slice A l c) (X)∧Zad w (.slice A2 l2 c2) (Y))∧Zad w (.slice A10 l10 c10) (lo))∧Zad w (.slice A17 l17 c17) ((W64 ^ half - 1)))∧Zad w (.slice A20 l20 c20) ((x1 - v + h)))) (Zcs.of (by kernel_rfl)) (by kernel_rfl) (fun w S=>⟨⟨⟨⟨S.1.1.1.1.1.1.1.1.1.1,S.1.1.1.1.1.1.1.1.1.2⟩,S.1.1.1.1.1.1.1.1.2⟩,S.1.1.1.2⟩,S.2⟩) ?_
   exact ZlT ⟨A17,l17,c17,A20,l20,c20,(W64 ^ half - 1),(x1 - v + h),rfl,rfl,(hcase2 hlt).2.2.2.2,(hcase2 hlt).2.2.2.1,(hcase2 hlt).2.2.1⟩
 ·rintro ss ff ⟨QA,Ql,Qc,RA,Rl,Rc,Q,R,rfl,rfl,HT,wQ,wR⟩
  refine Zac (Zab (xq 2 [eS1 49 QA Ql Qc,eS1 50 A10 l10 c10] [] ?_))
  refine xqc 226 [.slice QA Ql Qc, .slice A10 l10 c10] 51 Zay _ (fun w T S=>(ZcB _ _ (Q) (lo) _ S.1.2 S.1.1.2 (by omega) (by omega)).mono (fun _ _=>ZaF)) (fun xx=>?_)
  obtain ⟨A21,l21,c21⟩:=xx
  refine xq 1 [eS1 12 A21 l21 c21] [] ?_
  refine xe (Zaa (Zac (Zab (xq 3 [eS1 52 RA Rl Rc,eS1 53 A l c,(54, .v (.int .i64 ((half:Nat):Int)))] [] ?_))))
  refine xqc 388 [.slice A l c, .int .i64 ((half:Nat):Int)] 55 Zay _ (fun w T S=>(Ze1 _ (X) half _ S.1.1.1.1.1 (by omega)).mono (fun _ _ h=>ZaF (by rw [hx0] at h; exact h))) (fun xx=>?_)
  obtain ⟨A22,l22,c22⟩:=xx
  refine xq 1 [(56, .v (.int .i64 ((half:Nat):Int)))] [] ?_
  refine xqc 391 [.slice RA Rl Rc, .slice A22 l22 c22, .int .i64 ((half:Nat):Int)] 57 (fun x:{q:ShN // ∀ a,q.1=some a→w.heap.size≤a.block∨q.1=none∨q.1=none}=>Zay x.1) _ (fun w T S=>(Zev _ _ (R) (x0) half _ S.1.1.2 S.2 (by omega) (by first | omega | exact Nat.le_trans (Nat.le_of_eq Zcl) (Nat.zero_le _)) (by omega) (by omega)).mono (fun _ _ h=>ZbX h T.size)) (fun xx=>?_)
  obtain ⟨⟨A23,l23,c23⟩,hG23⟩:=xx
  refine xq 1 [eS1 11 A23 l23 c23] [] ?_
  refine xe (Zaa (Zac (Za4 ?_)))
  have wP:wl (Q * lo)≤2 * half:=Nat.le_trans (Zdl Q lo) (by omega)
  refine SXc.weak [(1, .v (.slice A2 l2 c2)),(10, .v (.slice QA Ql Qc)),(11, .v (.slice A23 l23 c23)),(12, .v (.slice A21 l21 c21))] [] (Ψ:=fun w=>(((Zad w (.slice A2 l2 c2) (Y)∧Zad w (.slice A21 l21 c21) (Q * lo))∧Zad w (.slice QA Ql Qc) (Q))∧Zad w (.slice A23 l23 c23) ((x0 + W64 ^ half * R)))) (Zcs.of (by kernel_rfl)) (by kernel_rfl) (fun w S=>⟨⟨⟨S.1.1.1.1.1.1.2,S.1.1.2⟩,S.1.1.1.1.2⟩,S.2⟩) ?_
  refine Zhq (fun nn ss ff=>∃ (qA:Option Addr) (ql qc:Nat) (rA:Option Addr) (rl rc q r:Nat),ss=ofL [(1, .v (.slice A2 l2 c2)),(10, .v (.slice qA ql qc)),(11, .v (.slice rA rl rc)),(12, .v (.slice A21 l21 c21))] []∧ff=(fun w=>(((Zad w (.slice A2 l2 c2) (Y)∧Zad w (.slice A21 l21 c21) (Q * lo))∧Zad w (.slice qA ql qc) (q))∧Zad w (.slice rA rl rc) (r)))∧(ThR X Y (Q * lo) q r)∧(wl q≤half)∧(∀ a,rA=some a→w.heap.size≤a.block∨rA=A2∨rA=A2)∧nn=(1 + (Q * lo - r))) ((1 + (Q * lo - (x0 + W64 ^ half * R)))) ⟨QA,Ql,Qc,A23,l23,c23,Q,(x0 + W64 ^ half * R),rfl,rfl,HT,wQ,(ZoT hG23),rfl⟩ ?_
  rintro nn ss ff ⟨qA,ql,qc,rA,rl,rc,q,r,rfl,rfl,HT,wq,hR,rfl⟩
  refine Zac (Zac ?_)
  have wr:=HT.size wP wY
  by_cases hlt:r < Q * lo
  ·refine Zab (xq 2 [eS1 58 rA rl rc,eS1 59 A21 l21 c21] [] ?_)
   refine xqc 306 [.slice rA rl rc, .slice A21 l21 c21] 60 (fun _:Unit=>.int .i64 (cmpI ((r:Nat):Int) ((Q * lo:Nat):Int))) _ (fun w T S=>(Zga S.2 S.1.1.2 (by omega) (by omega)).mono (fun _ _ h=>Zae h rfl)) (fun xx=>?_)
   refine xq 1 [(61, .v (.bool (decide ((cmpI ((r:Nat):Int) ((Q * lo:Nat):Int)) < 0))))] [] ?_
   rw [ZlX hlt]
   refine xe (Zaa (xa (Zax (Zaa (Za4 (Zac (Zab (xq 2 [eS1 62 rA rl rc,eS1 63 A2 l2 c2] [] ?_))))))))
   refine xqc 300 [.slice rA rl rc, .slice A2 l2 c2] 64 (fun x:{q:ShN // ∀ a,q.1=some a→w.heap.size≤a.block∨q.1=rA∨q.1=A2}=>Zay x.1) _ (fun w T S=>(Zez _ _ _ _ _ _ (r) (Y) _ S.1.2 S.1.1.1.1 (by omega) (by omega)).mono (fun _ _ h=>ZbX h T.size)) (fun xx=>?_)
   obtain ⟨⟨A24,l24,c24⟩,hG24⟩:=xx
   refine xq 1 [eS1 11 A24 l24 c24] [] ?_
   refine xe (Zaa (Zab (xq 1 [eS1 65 qA ql qc] [] ?_)))
   refine Zhm (d:=66) Zay (fun x w=>Zad w (Zay x) 1) (by kernel_rfl) (by kernel_rfl) (by kernel_rfl) (by kernel_rfl) (by kernel_rfl) (by kernel_rfl) (fun w T S=>Zmq (t:=133) (by kernel_rfl) (by kernel_rfl) (by kernel_rfl) (by kernel_rfl)) (fun xx=>?_)
   obtain ⟨A25,l25,c25⟩:=xx
   refine xr 0 [eS1 1 A2 l2 c2,eS1 10 qA ql qc,eS1 11 A24 l24 c24,eS1 12 A21 l21 c21,eS1 65 qA ql qc,eS1 66 A25 l25 c25] [] ?_
   refine xqc 301 [.slice qA ql qc, .slice A25 l25 c25] 67 (fun x:{q:ShN // ∀ a,q.1=some a→w.heap.size≤a.block∨q.1=qA∨q.1=qA}=>Zay x.1) _ (fun w T S=>(Zcp qA A25 _ _ _ _ q 1 _ S.1.1.1.1.2 S.2 (by omega) (HT.pos hlt)).mono (fun _ _ h=>ZbX h T.size)) (fun xx=>?_)
   obtain ⟨⟨A26,l26,c26⟩,hG26⟩:=xx
   refine xq 1 [eS1 10 A26 l26 c26] [] ?_
   refine xe (Zdq ?_)
   refine SXq.weak [(1, .v (.slice A2 l2 c2)),(10, .v (.slice A26 l26 c26)),(11, .v (.slice A24 l24 c24)),(12, .v (.slice A21 l21 c21))] [] (Ψ:=fun w=>(((Zad w (.slice A2 l2 c2) (Y)∧Zad w (.slice A21 l21 c21) (Q * lo))∧Zad w (.slice A26 l26 c26) ((q - 1)))∧Zad w (.slice A24 l24 c24) ((r + Y)))) (Zcs.of (by kernel_rfl)) (by kernel_rfl) (fun w S=>⟨⟨⟨S.1.1.1.1.1.1.1,S.1.1.1.1.1.1.2⟩,S.2⟩,S.1.1.2⟩) ?_
   exact Zf3 ((1 + (Q * lo - (r + Y)))) (by omega) ⟨A26,l26,c26,A24,l24,c24,(q - 1),(r + Y),rfl,rfl,(HT.step hlt),(Nat.le_trans (ZaS (Nat.sub_le _ _)) wq),(Zn5 hG24 hR),rfl⟩
  ·refine Zab (xq 2 [eS1 58 rA rl rc,eS1 59 A21 l21 c21] [] ?_)
   refine xqc 306 [.slice rA rl rc, .slice A21 l21 c21] 60 (fun _:Unit=>.int .i64 (cmpI ((r:Nat):Int) ((Q * lo:Nat):Int))) _ (fun w T S=>(Zga S.2 S.1.1.2 (by omega) (by omega)).mono (fun _ _ h=>Zae h rfl)) (fun xx=>?_)
   refine xq 1 [(61, .v (.bool (decide ((cmpI ((r:Nat):Int) ((Q * lo:Nat):Int)) < 0))))] [] ?_
   rw [ZlY hlt]
   refine xe (Zaa (xb (Zho (ZbW (ZbW (ZiN (Zaa (Zac (Zab (xq 3 [eS1 68 qA ql qc,eS1 69 rA rl rc,eS1 70 A21 l21 c21] [] ?_))))))))))
   refine xqc 301 [.slice rA rl rc, .slice A21 l21 c21] 71 (fun x:{q:ShN // ∀ a,q.1=some a→w.heap.size≤a.block∨q.1=rA∨q.1=rA}=>Zay x.1) _ (fun w T S=>(Zcp rA A21 _ _ _ _ r (Q * lo) _ S.1.2 S.1.1.1.2 (by omega) (by omega)).mono (fun _ _ h=>ZbX h T.size)) (fun xx=>?_)
   obtain ⟨⟨A27,l27,c27⟩,hG27⟩:=xx
   refine xq 2 [eS1 4 qA ql qc,eS1 5 A27 l27 c27] [] ?_
   refine xe (Zaa (Zas ?_))
   refine Zam (v:=.tuple #[.slice qA ql qc, .slice A27 l27 c27]) (by kernel_rfl) (fun w' T S=>?_)
   obtain ⟨hq,hr⟩:=HT.done (by omega) y0
   rw [← hq,← hr]
   exact ⟨_,_,_,_,_,_,rfl,S.1.1.1.2,S.2,T,ZoU hG27 hR⟩
theorem ZgZ (A:Option Addr) (l c:Nat) (A2:Option Addr) (l2 c2 X Y:Nat) (w:World) (hX:Zad w (.slice A l c) X) (hY:Zad w (.slice A2 l2 c2) Y) (hs:l2 < 80) (hwx:wl X≤4294967296) (hwy:wl Y≤4294967296) (h0:0 < Y) :
 Calls Tryz.prog 390 #[.slice A l c, .slice A2 l2 c2] w (Zby w A A2 (X / Y) (X % Y)):=by
 refine ZaA (Φ:=fun w=>(Zad w (.slice A l c) (X)∧Zad w (.slice A2 l2 c2) (Y))) Tryz.func390 rfl (by kernel_rfl) (fun w' hf=>⟨hX.ext hf,hY.ext hf⟩) ?_
 refine Zac (Zab (xq 2 [eS1 4 none 0 0,eS1 5 none 0 0] [] ?_))
 refine xe (Zaa (Zac (Zab (xq 3 [(6, .v (.int .i64 ((l2:Nat):Int)))] [] ?_))))
 refine xe (Zaa (Zac (Zac (Zab (xq 2 [(14, .v (.bool (decide (((l2:Nat):Int) < 80))))] [] ?_)))))
 rw [show decide (((l2:Nat):Int) < 80)=true from decide_eq_true (by omega)]
 refine xq 5 [(19, .v (.bool true))] [] ?_
 refine xe (Zaa (xa (Zac (Zab (xq 2 [eS1 20 A l c,eS1 21 A2 l2 c2] [] ?_)))))
 refine xqc 361 [.slice A l c, .slice A2 l2 c2] 22 (fun x:ShN × {q:ShN // ∀ a,q.1=some a→w.heap.size≤a.block∨q.1=A∨q.1=A}=>Zdu (x.1,x.2.1)) _ (fun w R Q=>(Zdk A _ _ _ X Y _ Q.1 Q.2 (by omega) (by omega) h0).mono (fun _ _ h=>Zew h R.size)) (fun xx=>?_)
 obtain ⟨⟨A10,l10,c10⟩,⟨⟨A11,l11,c11⟩,hG11⟩⟩:=xx
 refine xq 4 [eS1 4 A10 l10 c10,eS1 5 A11 l11 c11] [] ?_
 refine xe (Zaa (Zas (Zar ?_)))
 refine Zam (v:=.tuple #[.slice A10 l10 c10, .slice A11 l11 c11]) (by kernel_rfl) (fun w' R Q=>?_)
 exact ⟨_,_,_,_,_,_,rfl,Q.2.1,Q.2.2,R,Zot hG11⟩
theorem Zia (A:Option Addr) (l c:Nat) (A2:Option Addr) (l2 c2 X Y:Nat) (w:World) (hX:Zad w (.slice A l c) X) (hY:Zad w (.slice A2 l2 c2) Y) (hs:80≤l2) (ho:l2 % 2=1) (hwx:wl X≤4294967296) (hwy:wl Y≤4294967296) (h0:0 < Y) :
 Calls Tryz.prog 390 #[.slice A l c, .slice A2 l2 c2] w (Zby w A A2 (X / Y) (X % Y)):=by
 refine ZaA (Φ:=fun w=>(Zad w (.slice A l c) (X)∧Zad w (.slice A2 l2 c2) (Y))) Tryz.func390 rfl (by kernel_rfl) (fun w' hf=>⟨hX.ext hf,hY.ext hf⟩) ?_
 refine Zac (Zab (xq 2 [eS1 4 none 0 0,eS1 5 none 0 0] [] ?_))
 refine xe (Zaa (Zac (Zab (xq 3 [(6, .v (.int .i64 ((l2:Nat):Int)))] [] ?_))))
 refine xe (Zaa (Zac (Zac (Zab (xq 2 [(14, .v (.bool (decide (((l2:Nat):Int) < 80))))] [] ?_)))))
 rw [show decide (((l2:Nat):Int) < 80)=false from decide_eq_false (by omega)]
 refine xq 3 [(15, .v (.bool false)),(17, .v (.int .i64 ((((l2:Nat):Int)).tmod 2)))] [] ?_
 rw [show (((l2:Nat):Int)).tmod 2=1 from Zn8 (by omega)]
 refine xq 2 [(19, .v (.bool true))] [] ?_
 refine xe (Zaa (xa (Zac (Zab (xq 2 [eS1 20 A l c,eS1 21 A2 l2 c2] [] ?_)))))
 refine xqc 361 [.slice A l c, .slice A2 l2 c2] 22 (fun x:ShN × {q:ShN // ∀ a,q.1=some a→w.heap.size≤a.block∨q.1=A∨q.1=A}=>Zdu (x.1,x.2.1)) _ (fun w R Q=>(Zdk A _ _ _ X Y _ Q.1 Q.2 (by omega) (by omega) h0).mono (fun _ _ h=>Zew h R.size)) (fun xx=>?_)
 obtain ⟨⟨A10,l10,c10⟩,⟨⟨A11,l11,c11⟩,hG11⟩⟩:=xx
 refine xq 4 [eS1 4 A10 l10 c10,eS1 5 A11 l11 c11] [] ?_
 refine xe (Zaa (Zas (Zar ?_)))
 refine Zam (v:=.tuple #[.slice A10 l10 c10, .slice A11 l11 c11]) (by kernel_rfl) (fun w' R Q=>?_)
 exact ⟨_,_,_,_,_,_,rfl,Q.2.1,Q.2.2,R,Zot hG11⟩
theorem Zib (A:Option Addr) (l c:Nat) (A2:Option Addr) (l2 c2 X Y half:Nat) (w:World) (hX:Zad w (.slice A l c) X) (hY:Zad w (.slice A2 l2 c2) Y) (h40:40≤half) (hb:half≤268435456) (hl2:l2=2 * half) (hx:X < Y * W64 ^ (2 * half)) (h0:0 < Y) (hwy:wl Y=2 * half) (TH:∀ (B:Option Addr) (m d a:Nat) (w:World),Zad w (.slice B m d) a→Zad w (.slice A2 l2 c2) Y→a < Y * W64 ^ half→Calls Tryz.prog 406 #[.slice B m d, .slice A2 l2 c2] w (Zby w A2 A2 (a / Y) (a % Y))) :
 Calls Tryz.prog 390 #[.slice A l c, .slice A2 l2 c2] w (Zby w A A2 (X / Y) (X % Y)):=by
 obtain ⟨x0,x1,R1,Q2,hX0,hX1,hR1,hQ2,hx1,hn2,hn3,w0,w1,w2,wQ2,wX⟩:=Zn9 hx h0 hwy
 refine ZaA (Φ:=fun w=>(Zad w (.slice A l c) (X)∧Zad w (.slice A2 l2 c2) (Y))) Tryz.func390 rfl (by kernel_rfl) (fun w' hf=>⟨hX.ext hf,hY.ext hf⟩) ?_
 refine Zac (Zab (xq 2 [eS1 4 none 0 0,eS1 5 none 0 0] [] ?_))
 refine xe (Zaa (Zac (Zab (xq 3 [(6, .v (.int .i64 ((l2:Nat):Int)))] [] ?_))))
 refine xe (Zaa (Zac (Zac (Zab (xq 2 [(14, .v (.bool (decide (((l2:Nat):Int) < 80))))] [] ?_)))))
 rw [show decide (((l2:Nat):Int) < 80)=false from decide_eq_false (by omega)]
 refine xq 3 [(15, .v (.bool false)),(17, .v (.int .i64 ((((l2:Nat):Int)).tmod 2)))] [] ?_
 rw [show (((l2:Nat):Int)).tmod 2=0 from Znq (by omega)]
 refine xq 2 [(19, .v (.bool false))] [] ?_
 refine xe (Zaa (xb (Zax (Zaa (Zac (Zab (xq 2 [(26, .v (.int .i64 (IntKind.i64.wrap ((((l2:Nat):Int)).tdiv 2))))] [] ?_)))))))
 rw [show IntKind.i64.wrap ((((l2:Nat):Int)).tdiv 2)=((half:Nat):Int) from by rw [hl2]; exact tdq2 half (by omega)]
 refine xq 1 [(7, .v (.int .i64 ((half:Nat):Int)))] [] ?_
 refine xe (Zaa (Zac (Zab (xq 2 [eS1 28 A l c,(29, .v (.int .i64 ((half:Nat):Int)))] [] ?_))))
 refine xqc 389 [.slice A l c, .int .i64 ((half:Nat):Int)] 30 Zay _ (fun w R Q=>(ZcQ _ X half _ Q.1).mono (fun _ _ h=>ZaF (by rw [hX1] at h; exact h))) (fun xx=>?_)
 obtain ⟨A10,l10,c10⟩:=xx
 refine xq 1 [eS1 31 A2 l2 c2] [] ?_
 refine xqc 406 [.slice A10 l10 c10, .slice A2 l2 c2] 32 (fun x:ShN × {q:ShN // ∀ a,q.1=some a→w.heap.size≤a.block∨q.1=A2∨q.1=A2}=>Zdu (x.1,x.2.1)) _ (fun w R Q=>(TH A10 _ _ x1 _ Q.2 Q.1.2 hx1).mono (fun _ _ h=>Zew (by rw [hR1] at h; exact h) R.size)) (fun xx=>?_)
 obtain ⟨⟨A11,l11,c11⟩,⟨⟨A12,l12,c12⟩,hG12⟩⟩:=xx
 refine xq 5 [eS1 8 A11 l11 c11,eS1 9 A12 l12 c12] [] ?_
 refine xe (Zaa (Zac (Zab (xq 3 [eS1 36 A12 l12 c12,eS1 37 A l c,(38, .v (.int .i64 ((half:Nat):Int)))] [] ?_))))
 refine xqc 388 [.slice A l c, .int .i64 ((half:Nat):Int)] 39 Zay _ (fun w R Q=>(Ze1 _ X half _ Q.1.1.1 (by omega)).mono (fun _ _ h=>ZaF (by rw [hX0] at h; exact h))) (fun xx=>?_)
 obtain ⟨A13,l13,c13⟩:=xx
 refine xq 1 [(40, .v (.int .i64 ((half:Nat):Int)))] [] ?_
 refine xqc 391 [.slice A12 l12 c12, .slice A13 l13 c13, .int .i64 ((half:Nat):Int)] 41 (fun x:{q:ShN // ∀ a,q.1=some a→w.heap.size≤a.block∨q.1=none∨q.1=none}=>Zay x.1) _ (fun w R Q=>(Zev _ _ R1 x0 half _ Q.1.2.2 Q.2 (by omega) (by omega) (by omega) (by omega)).mono (fun _ _ h=>ZbX h R.size)) (fun xx=>?_)
 obtain ⟨⟨A14,l14,c14⟩,hG14⟩:=xx
 refine xr 1 [eS1 4 none 0 0,eS1 5 none 0 0,(7, .v (.int .i64 ((half:Nat):Int))),eS1 8 A11 l11 c11,eS1 9 A12 l12 c12,eS1 41 A14 l14 c14,eS1 42 A2 l2 c2] [] ?_
 refine xqc 406 [.slice A14 l14 c14, .slice A2 l2 c2] 43 (fun x:ShN × {q:ShN // ∀ a,q.1=some a→w.heap.size≤a.block∨q.1=A2∨q.1=A2}=>Zdu (x.1,x.2.1)) _ (fun w R Q=>(TH A14 _ _ (x0 + W64 ^ half * R1) _ Q.2 Q.1.1.1.1.2 hn2.1).mono (fun _ _ h=>Zew (by rw [hQ2,hn2.2] at h; exact h) R.size)) (fun xx=>?_)
 obtain ⟨⟨A15,l15,c15⟩,⟨⟨A16,l16,c16⟩,hG16⟩⟩:=xx
 refine xq 5 [eS1 9 A16 l16 c16,eS1 10 A15 l15 c15] [] ?_
 refine xe (Zaa (Zac (Zab (xq 3 [eS1 46 A11 l11 c11,eS1 47 A15 l15 c15,(48, .v (.int .i64 ((half:Nat):Int)))] [] ?_))))
 refine xqc 391 [.slice A11 l11 c11, .slice A15 l15 c15, .int .i64 ((half:Nat):Int)] 49 (fun x:{q:ShN // ∀ a,q.1=some a→w.heap.size≤a.block∨q.1=none∨q.1=none}=>Zay x.1) _ (fun w R Q=>(Zev _ _ (x1 / Y) Q2 half _ Q.1.1.1.2.1 Q.2.1 (by omega) wQ2 (by omega) (by omega)).mono (fun _ _ h=>ZbX (by rw [hn3] at h; exact h) R.size)) (fun xx=>?_)
 obtain ⟨⟨A17,l17,c17⟩,hG17⟩:=xx
 refine xq 3 [eS1 4 A17 l17 c17,eS1 5 A16 l16 c16] [] ?_
 refine xe (Zaa (Zas ?_))
 refine Zam (v:=.tuple #[.slice A17 l17 c17, .slice A16 l16 c16]) (by kernel_rfl) (fun w' R Q=>?_)
 exact ⟨_,_,_,_,_,_,rfl,Q.2,Q.1.2.2,R,ZpA hG16⟩
theorem Zic:∀ (N:Nat),N≤536870912→∀ (A:Option Addr) (l c:Nat) (A2:Option Addr) (l2 c2 X Y:Nat) (w:World),Zad w (.slice A l c) X→Zad w (.slice A2 l2 c2) Y→wl Y≤N→W64 ^ wl Y≤2 * Y→X < Y * W64 ^ wl Y→Calls Tryz.prog 390 #[.slice A l c, .slice A2 l2 c2] w (Zby w A A2 (X / Y) (X % Y)):=by
 intro N
 induction N using Nat.strongRecOn with
 | ind N ih =>
   intro hN A l c A2 l2 c2 X Y w hX hY hw hn hx
   obtain ⟨_,_,_,_,_,_,_,hwy⟩:=hY.row
   have h0:0 < Y:=by have:=Nat.pow_pos (n:=wl Y) Zag; omega
   have wX:wl X≤2 * wl Y:=by
    refine Zek (Nat.lt_of_lt_of_le (Nat.lt_trans hx (Nat.mul_lt_mul_of_pos_right (Ze9 Y) (Nat.pow_pos Zag))) ?_)
    rw [← Nat.pow_add]
    exact Nat.pow_le_pow_right Zag (by omega)
   by_cases hs:l2 < 80
   ·exact ZgZ A l c A2 l2 c2 X Y w hX hY hs (by omega) (by omega) h0
   ·by_cases ho:l2 % 2=1
    ·exact Zia A l c A2 l2 c2 X Y w hX hY (by omega) ho (by omega) (by omega) h0
    ·obtain ⟨half,hh⟩:∃ half,l2=2 * half:=⟨l2 / 2,by omega⟩
     rw [← hwy,hh] at hn hx
     refine Zib A l c A2 l2 c2 X Y half w hX hY (by omega) (by omega) hh hx h0 (by omega) (fun B m d a w hA hY ha=>?_)
     refine Zh9 B m d A2 l2 c2 a Y half w hA hY hh (by omega) (by omega) hn ha (fun B m d B2 m2 d2 a b w hA hB hwb hnb hab=>?_)
     exact ih half (by omega) (by omega) B m d B2 m2 d2 a b w hA hB (by omega) (by rw [hwb]; exact hnb) (by rw [hwb]; exact hab)
end Go.Proofs.YtcpjeaaapocoeaaGreatDoor

namespace Go.Proofs.YtcpjeaaapocoeaaGreatDoor
open Go.RowKit
theorem ZoX {h k:Nat} (h1:W64 ^ k≤2 * h) (h2:h < W64 ^ k):wl h=k:=by
 refine Nat.le_antisymm (Zek h2) ?_
 rcases Nat.lt_or_ge (wl h) k with h4 | h4
 ·exfalso
  have h5:=Ze9 h
  have h6:W64 ^ (wl h + 1)≤W64 ^ k:=Nat.pow_le_pow_right Zag h4
  rw [Nat.pow_succ] at h6
  have h7:W64 ^ wl h * 2≤W64 ^ wl h * W64:=Nat.mul_le_mul_left _ Zfy
  omega
 ·exact h4
theorem Zoa {ys:List Nat} {n yt s:Nat} (hl:ys.length=n + 1) (dy:Dig W64 ys) (ey:ys[n]?.getD 0=yt) (hyt:0 < yt) (hs:64 - Lib.bitLen yt=s) :
 s≤63∧W64 ^ (n + 1)≤2 * (val W64 ys * 2 ^ s)∧val W64 ys * 2 ^ s < W64 ^ (n + 1):=by
 obtain ⟨n1,n2,n3,n4⟩:=ZjD hl dy ey hyt hs (Zbr _).1 (Zh7 _) (Zbr (val W64 ys * 2 ^ s)).2
 have hv:=ZaX (Zbr (val W64 ys * 2 ^ s)).1
 rw [n1,(Zbr _).2] at hv
 refine ⟨n4,?_,hv⟩
 have h1:=Zaw (B:=W64) (xs:=wds (val W64 ys * 2 ^ s)) n (by omega)
 rw [List.take_of_length_le (by omega),(Zbr _).2] at h1
 rw [h1,Nat.pow_succ]
 have h2:W64 ^ n * W64≤W64 ^ n * (2 * ((wds (val W64 ys * 2 ^ s))[n]?.getD 0)):=Nat.mul_le_mul_left _ n2
 rw [Nat.mul_left_comm] at h2
 omega
theorem Zob {y n s S:Nat} (hs:W64 ^ n≤2 * (y * 2 ^ s)) (hv:y * 2 ^ s < W64 ^ n) (hS:n≤S) :
 W64 ^ S≤2 * (y * 2 ^ (64 * (S - n) + s))∧y * 2 ^ (64 * (S - n) + s) < W64 ^ S∧wl (y * 2 ^ (64 * (S - n) + s))=S:=by
 have e:y * 2 ^ (64 * (S - n) + s)=y * 2 ^ s * W64 ^ (S - n):=by rw [Nat.pow_add,← ZeJ,Nat.mul_comm (W64 ^ (S - n)),Nat.mul_assoc]
 have e2:W64 ^ S=W64 ^ n * W64 ^ (S - n):=by rw [← Nat.pow_add,Nat.add_sub_cancel' hS]
 have h1:W64 ^ S≤2 * (y * 2 ^ (64 * (S - n) + s)):=by
  rw [e,e2,← Nat.mul_assoc]
  exact Nat.mul_le_mul_right _ hs
 have h2:y * 2 ^ (64 * (S - n) + s) < W64 ^ S:=by
  rw [e,e2]
  exact Nat.mul_lt_mul_of_pos_right hv (Nat.pow_pos Zag)
 exact ⟨h1,h2,ZoX h1 h2⟩
theorem ZlZ {n p:Nat} (h:80≤(n + p - 1) / p) (hp:1≤p):p * 2≤n:=by
 have:=(Nat.le_div_iff_mul_le hp).1 h
 omega
theorem Zoc {n p:Nat} (hp:1≤p) (hn:1≤n) (hpn:p≤n):n≤(n + p - 1) / p * p∧(n + p - 1) / p * p < 2 * n:=by
 have h1:=Nat.div_add_mod (n + p - 1) p
 have h2:=Nat.mod_lt (n + p - 1) hp
 rw [Nat.mul_comm] at h1
 omega
theorem Zod {L S:Nat} (hS:1≤S) (hL:1≤L):L≤(L - 1) / S * S + S∧(L - 1) / S * S≤L - 1∧S ∣ (L - 1) / S * S + S:=by
 have h1:=Nat.div_add_mod (L - 1) S
 have h2:=Nat.mod_lt (L - 1) hS
 rw [Nat.mul_comm] at h1
 exact ⟨by omega,by omega,Nat.dvd_add (Nat.dvd_mul_left _ _) (Nat.dvd_refl _)⟩
theorem Zpk {S m:Nat} (h:S ∣ m) (hm:¬ S≤m):m=0:=by
 rcases Nat.eq_zero_or_pos m with e | e
 ·exact e
 ·exact absurd (Nat.le_of_dvd e h) hm
theorem Zgb {P:Program} {o:Oper} {ρ:Operand→Value} {w:World} {t k:TypeId} {x y:Operand} {a b:Nat} (ho:o.op=Op.binOp .quo t x y k) (hx:ρ x=.int .i64 ((a:Nat):Int)) (hy:ρ y=.int .i64 ((b:Nat):Int)) (hb:0 < b) (ha:a≤1099511627776) :
 (execOp ρ o).run P w=.ok (.value (.int .i64 ((a / b:Nat):Int))) w:=by
 have h:¬ ((b:Int)=0):=by omega
 have e:IntKind.i64.wrap ((a:Int).tdiv (b:Int))=((a / b:Nat):Int):=by
  have h1:=Nat.div_le_self a b
  rw [Int.tdiv_eq_ediv_of_nonneg (Int.natCast_nonneg _),← Int.natCast_ediv,IntKind.wrap_i64]
  generalize a / b=q at *
  omega
 simp only [execOp,ho,hx,hy,eqGuard,binOp,Op.intDiv,if_neg h,e]
 rfl
theorem Zad.apart {w w':World} {A:Option Addr} {l c n b:Nat} (h:Zad w (.slice A l c) n) (hF:Fr (fun i=>i=b) w w') (ha:n≠0→∀ a,A=some a→a.block≠b):Zad w' (.slice A l c) n:=by
 obtain ⟨xs,hxl,hc,hS,hd,ht,hv,hw⟩:=h.row
 refine ⟨A,xs,c,by rw [hxl],hc,?_,hd,ht,hv⟩
 by_cases hn:n=0
 ·rw [hn,Zcl] at hw
  rw [List.length_eq_zero_iff.1 (hxl.trans hw)]
  exact Zai.nil
 ·exact hS.fr hF (fun a hA _=>ha hn a hA)
theorem Znr {w w':World} {A A2:Option Addr} {q r b:Nat} {e:Ending} (h:Zby w A A2 q r e w') (hb:b < w.heap.size) :
 ZbI (fun x:ShN × {q:ShN // ∀ a,q.1=some a→b < a.block∨q.1=A∨q.1=A2}=>Zdu (x.1,x.2.1)) (fun x w=>Zad w (Zay x.1) q∧Zad w (Zay x.2.1) r) w e w':=by
 obtain ⟨D,m,d,B,l,c,rfl,h1,h2,h3,h4⟩:=h
 exact ⟨((D,m,d),⟨(B,l,c),fun a ha=>(h4 a ha).imp (fun h=>Nat.lt_of_lt_of_le hb h) id⟩),rfl,h3,boxn h3 (fun S w'' hS hF=>⟨h1.nrb hS hF,h2.nrb hS hF⟩)⟩
theorem Zl0 {r:Nat} {B T D:Option Addr} (h:∀ a,B=some a→r < a.block∨B=T∨B=D) (hT:∀ a,T=some a→r < a.block∨T=none∨T=none) (hD:∀ a,D=some a→a.block < r):∀ a,B=some a→a.block≠r:=by
 intro a ha
 rcases h a ha with h | h | h
 ·omega
 ·rw [h] at ha
  rcases hT a ha with h2 | h2 | h2
  ·omega
  all_goals rw [ha] at h2; cases h2
 ·rw [h] at ha
  have:=hD a ha
  omega
theorem Zpl {x s:Nat} {w:World} (h:64 - Lib.bitLen x=s) (h0:0 < x) (hx:x < W64):Calls Tryz.prog 359 #[.int .u64 ((x:Nat):Int)] w (RetV w (.int .i64 ((s:Nat):Int))):=by
 have hb:=ZcO h0 hx
 refine (Zd0 x w hx).mono ?_
 rintro e w' ⟨rfl,rfl⟩
 exact ⟨by congr 2; omega,Fr.refl _ _⟩
theorem ZoY (k:Nat):wl (2 ^ k)≤k / 64 + 1:=by
 refine Zek ?_
 rw [ZeJ]
 exact Nat.pow_lt_pow_right (by decide) (by omega)
theorem Zg0 {w w':World} {q r:Nat} {e:Ending} (h:ZdN w q r e w'):ZbI Zdu (fun x w=>Zad w (Zay x.1) q∧Zad w (Zay x.2) r) w e w':=by
 obtain ⟨u,v,rfl,h1,h2,h3⟩:=h
 obtain ⟨D,m,d,rfl⟩:=h1.opens
 obtain ⟨B,l,c,rfl⟩:=h2.opens
 exact ⟨((D,m,d),(B,l,c)),rfl,h3,boxn h3 (fun S w'' hS hF=>⟨h1.nrb hS hF,h2.nrb hS hF⟩)⟩
theorem Zid (A:Option Addr) (l c:Nat) (A2:Option Addr) (l2 c2 X Y:Nat) (w:World) (hX:Zad w (.slice A l c) X) (hY:Zad w (.slice A2 l2 c2) Y) (h80:80≤l2) (hwX:wl X≤134217728) (hwY:wl Y≤134217728) (hX0:0 < X) (hY0:0 < Y) :
 Calls Tryz.prog 360 #[.slice A l c, .slice A2 l2 c2] w (ZdN w (X / Y) (X % Y)):=by
 obtain ⟨xs_,hxl,hxc,_,_,_,_,hwx⟩:=hX.row
 obtain ⟨ys,hyl,hyc,hSY,hdY,htY,hvY,hwy⟩:=hY.row
 refine ZaA (Φ:=fun w=>((Zad w (.slice A l c) (X)∧Zad w (.slice A2 l2 c2) (Y))∧Zai .u64 w A2 ys)) Tryz.func360 rfl (by kernel_rfl) (fun w' hf=>⟨⟨hX.ext hf,hY.ext hf⟩,hSY.ext hf⟩) ?_
 refine Zac (Zab (xq 2 [eS1 4 none 0 0,eS1 5 none 0 0] [] ?_))
 refine xe (Zaa (Zac (Zab (xq 3 [(6, .v (.int .i64 ((l2:Nat):Int)))] [] ?_))))
 refine xe (Zaa (Zac (Zab (xq 1 [(7, .v (.int .i64 1))] [] ?_))))
 refine xe (Zaa (Zac (Za4 ?_)))
 refine SXc.weak [(0, .v (.slice A l c)),(1, .v (.slice A2 l2 c2)),(4, .v (.slice none 0 0)),(5, .v (.slice none 0 0)),(6, .v (.int .i64 ((l2:Nat):Int))),(7, .v (.int .i64 ((1:Nat):Int)))] [] (Ψ:=fun w=>((Zad w (.slice A l c) (X)∧Zad w (.slice A2 l2 c2) (Y))∧Zai .u64 w A2 (ys))) (Zcs.of (by kernel_rfl)) (by kernel_rfl) (fun w Q=>⟨⟨Q.1.1,Q.1.2⟩,Q.2⟩) ?_
 refine Zhq (fun nn ss ff=>∃ (p:Nat),ss=ofL [(0, .v (.slice A l c)),(1, .v (.slice A2 l2 c2)),(4, .v (.slice none 0 0)),(5, .v (.slice none 0 0)),(6, .v (.int .i64 ((l2:Nat):Int))),(7, .v (.int .i64 ((p:Nat):Int)))] []∧ff=(fun w=>((Zad w (.slice A l c) (X)∧Zad w (.slice A2 l2 c2) (Y))∧Zai .u64 w A2 (ys)))∧(1≤p)∧(p≤l2)∧nn=(1 + (l2 - p))) ((1 + (l2 - 1))) ⟨1,rfl,rfl,(Nat.le_refl 1),(by omega),rfl⟩ ?_
 rintro nn ss ff ⟨p,rfl,rfl,hp,hpn,rfl⟩
 refine Zac (Zac ?_)
 by_cases hlt:80≤(l2 + p - 1) / p
 ·refine Zab (xq 3 [(22, .v (.int .i64 (IntKind.i64.wrap (((l2:Nat):Int) + ((p:Nat):Int)))))] [] ?_)
  rw [show IntKind.i64.wrap (((l2:Nat):Int) + ((p:Nat):Int))=((l2 + p:Nat):Int) from by rw [IntKind.wrap_i64]; omega]
  refine xq 1 [(23, .v (.int .i64 (IntKind.i64.wrap (((l2 + p:Nat):Int) - 1))))] [] ?_
  rw [show IntKind.i64.wrap (((l2 + p:Nat):Int) - 1)=((l2 + p - 1:Nat):Int) from by rw [IntKind.wrap_i64]; omega]
  refine xq 1 [(24, .v (.int .i64 ((p:Nat):Int)))] [] ?_
  refine xqk 25 (.int .i64 (((l2 + p - 1) / p:Nat):Int)) (fun w U Q=>Zgb (t:=3) (k:=3) (x:=.tmp 23) (y:=.tmp 24) (a:=l2 + p - 1) (b:=p) (by kernel_rfl) (by kernel_rfl) (by kernel_rfl) (by omega) (by omega)) ?_
  refine xq 1 [(26, .v (.bool (decide ((((l2 + p - 1) / p:Nat):Int) ≥ 80))))] [] ?_
  rw [show decide ((((l2 + p - 1) / p:Nat):Int) ≥ 80)=true from decide_eq_true (by omega)]
  refine xe (Zaa (xa (Zax (Zaa (Za4 (Zab (xq 2 [(28, .v (.int .i64 (IntKind.i64.wrap (((p:Nat):Int) * 2))))] [] ?_)))))))
  rw [show IntKind.i64.wrap (((p:Nat):Int) * 2)=((p * 2:Nat):Int) from by rw [IntKind.wrap_i64]; omega]
  refine xq 1 [(7, .v (.int .i64 ((p * 2:Nat):Int)))] [] ?_
  refine xe (Zdq ?_)
  refine SXq.weak [(0, .v (.slice A l c)),(1, .v (.slice A2 l2 c2)),(4, .v (.slice none 0 0)),(5, .v (.slice none 0 0)),(6, .v (.int .i64 ((l2:Nat):Int))),(7, .v (.int .i64 (((p * 2):Nat):Int)))] [] (Ψ:=fun w=>((Zad w (.slice A l c) (X)∧Zad w (.slice A2 l2 c2) (Y))∧Zai .u64 w A2 (ys))) (Zcs.of (by kernel_rfl)) (by kernel_rfl) (fun w Q=>⟨⟨Q.1.1,Q.1.2⟩,Q.2⟩) ?_
  exact Zf3 ((1 + (l2 - (p * 2)))) (by have:=ZlZ hlt hp; omega) ⟨(p * 2),rfl,rfl,(by omega),(ZlZ hlt hp),rfl⟩
 ·refine Zab (xq 3 [(22, .v (.int .i64 (IntKind.i64.wrap (((l2:Nat):Int) + ((p:Nat):Int)))))] [] ?_)
  rw [show IntKind.i64.wrap (((l2:Nat):Int) + ((p:Nat):Int))=((l2 + p:Nat):Int) from by rw [IntKind.wrap_i64]; omega]
  refine xq 1 [(23, .v (.int .i64 (IntKind.i64.wrap (((l2 + p:Nat):Int) - 1))))] [] ?_
  rw [show IntKind.i64.wrap (((l2 + p:Nat):Int) - 1)=((l2 + p - 1:Nat):Int) from by rw [IntKind.wrap_i64]; omega]
  refine xq 1 [(24, .v (.int .i64 ((p:Nat):Int)))] [] ?_
  refine xqk 25 (.int .i64 (((l2 + p - 1) / p:Nat):Int)) (fun w U Q=>Zgb (t:=3) (k:=3) (x:=.tmp 23) (y:=.tmp 24) (a:=l2 + p - 1) (b:=p) (by kernel_rfl) (by kernel_rfl) (by kernel_rfl) (by omega) (by omega)) ?_
  refine xq 1 [(26, .v (.bool (decide ((((l2 + p - 1) / p:Nat):Int) ≥ 80))))] [] ?_
  rw [show decide ((((l2 + p - 1) / p:Nat):Int) ≥ 80)=false from decide_eq_false (by omega)]
  refine xe (Zaa (xb (Zho (ZbW (ZbW (ZiN (Zaa (Zac ?_))))))))
  obtain ⟨S,hS⟩:∃ S,(l2 + p - 1) / p * p=S:=⟨_,rfl⟩
  obtain ⟨hS1,hS2⟩:=Zoc hp (show 1≤l2 by omega) hpn
  rw [hS] at hS1 hS2
  refine Zab (xq 3 [(31, .v (.int .i64 (IntKind.i64.wrap (((l2:Nat):Int) + ((p:Nat):Int)))))] [] ?_)
  rw [show IntKind.i64.wrap (((l2:Nat):Int) + ((p:Nat):Int))=((l2 + p:Nat):Int) from by rw [IntKind.wrap_i64]; omega]
  refine xq 1 [(32, .v (.int .i64 (IntKind.i64.wrap (((l2 + p:Nat):Int) - 1))))] [] ?_
  rw [show IntKind.i64.wrap (((l2 + p:Nat):Int) - 1)=((l2 + p - 1:Nat):Int) from by rw [IntKind.wrap_i64]; omega]
  refine xq 1 [(33, .v (.int .i64 ((p:Nat):Int)))] [] ?_
  refine xqk 34 (.int .i64 (((l2 + p - 1) / p:Nat):Int)) (fun w U Q=>Zgb (t:=3) (k:=3) (x:=.tmp 32) (y:=.tmp 33) (a:=l2 + p - 1) (b:=p) (by kernel_rfl) (by kernel_rfl) (by kernel_rfl) (by omega) (by omega)) ?_
  refine xq 2 [(36, .v (.int .i64 (IntKind.i64.wrap ((((l2 + p - 1) / p:Nat):Int) * ((p:Nat):Int)))))] [] ?_
  rw [show IntKind.i64.wrap ((((l2 + p - 1) / p:Nat):Int) * ((p:Nat):Int))=((S:Nat):Int) from by rw [← Int.natCast_mul,hS,IntKind.wrap_i64]; omega]
  refine xq 1 [(8, .v (.int .i64 ((S:Nat):Int)))] [] ?_
  refine xe (Zaa (Zac (Zab (xq 3 [(39, .v (.int .i64 (IntKind.i64.wrap (((S:Nat):Int) - ((l2:Nat):Int)))))] [] ?_))))
  rw [show IntKind.i64.wrap (((S:Nat):Int) - ((l2:Nat):Int))=((S - l2:Nat):Int) from by rw [IntKind.wrap_i64]; omega]
  refine xq 1 [(40, .v (.int .i64 (IntKind.i64.wrap (64 * ((S - l2:Nat):Int)))))] [] ?_
  rw [show IntKind.i64.wrap (64 * ((S - l2:Nat):Int))=((64 * (S - l2):Nat):Int) from by rw [IntKind.wrap_i64]; omega]
  refine xq 3 [eS1 41 A2 l2 c2,(43, .v (.int .i64 (IntKind.i64.wrap (((l2:Nat):Int) - 1))))] [] ?_
  rw [show IntKind.i64.wrap (((l2:Nat):Int) - 1)=((l2 - 1:Nat):Int) from by rw [IntKind.wrap_i64]; omega]
  refine xqk 44 (atA A2 (l2 - 1)) (fun w U Q=>ZnZ (t:=133) (e:=217) (x:=(Operand.tmp 41)) (ix:=(Operand.tmp 43)) (len:=l2) (cap:=c2) (i:=l2 - 1) ((Q.2).ne (j:=l2 - 1) (by omega)) (by omega)) ?_
  obtain ⟨x10,hx10⟩:∃ x,ys[l2 - 1]?.getD 0=x:=⟨_,rfl⟩
  refine xqk 45 (.int .u64 ((x10:Nat):Int)) (fun w U Q=>by rw [← hx10]; exact ZoQ (t:=217) (x:=(Operand.tmp 44)) (Q.2) (j:=l2 - 1) (by omega)) ?_
  have hx0:0 < x10:=by rw [← hx10]; exact Nat.pos_of_ne_zero (htY _ (by omega))
  have hxW:x10 < W64:=by rw [← hx10]; exact hdY.getD Zag _
  obtain ⟨s,hs⟩:∃ s,64 - Lib.bitLen x10=s:=⟨_,rfl⟩
  obtain ⟨n1,n2,n3⟩:=Zoa (n:=l2 - 1) (by omega) hdY hx10 hx0 hs
  rw [hvY,Nat.sub_add_cancel (by omega)] at n2 n3
  obtain ⟨b1,b2,b3⟩:=Zob n2 n3 hS1
  obtain ⟨sh,hsh⟩:∃ sh,64 * (S - l2) + s=sh:=⟨_,rfl⟩
  rw [hsh] at b1 b2 b3
  obtain ⟨D,hD⟩:∃ D,Y * 2 ^ sh=D:=⟨_,rfl⟩
  obtain ⟨V,hV⟩:∃ V,X * 2 ^ sh=V:=⟨_,rfl⟩
  rw [hD] at b1 b2 b3
  have hsh2:sh≤64 * (S - l2) + 63:=by omega
  have hV0:0 < V:=by rw [← hV]; exact Nat.mul_pos hX0 (Nat.pow_pos (by decide))
  have hD0:0 < D:=by rw [← hD]; exact Nat.mul_pos hY0 (Nat.pow_pos (by decide))
  have wV:wl V≤1073741824:=by rw [← hV]; exact Nat.le_trans (Zdl _ _) (Nat.le_trans (Nat.add_le_add_left (ZoY sh) _) (by omega))
  refine xqc 359 [.int .u64 ((x10:Nat):Int)] 46 (fun _:Unit=>.int .i64 ((s:Nat):Int)) _ (fun w U Q=>(Zpl hs hx0 hxW).mono (fun _ _ h=>Zae h rfl)) (fun xx=>?_)
  refine xr 1 [eS1 0 A l c,eS1 1 A2 l2 c2,eS1 4 none 0 0,eS1 5 none 0 0,(8, .v (.int .i64 ((S:Nat):Int))),(47, .v (.int .i64 (IntKind.i64.wrap (((64 * (S - l2):Nat):Int) + ((s:Nat):Int)))))] [] ?_
  rw [show IntKind.i64.wrap (((64 * (S - l2):Nat):Int) + ((s:Nat):Int))=((64 * (S - l2) + s:Nat):Int) from by rw [IntKind.wrap_i64]; omega]
  refine xq 1 [(48, .v (.int .u64 (IntKind.u64.wrap (((64 * (S - l2) + s:Nat):Int)))))] [] ?_
  rw [show IntKind.u64.wrap ((64 * (S - l2) + s:Nat):Int)=((sh:Nat):Int) from by rw [hsh,IntKind.wrap_u64]; omega]
  refine xq 1 [(9, .v (.int .u64 ((sh:Nat):Int)))] [] ?_
  refine xe (Zaa (Zac (Zab (xq 2 [eS1 49 A2 l2 c2,(50, .v (.int .u64 ((sh:Nat):Int)))] [] ?_))))
  refine xqc 387 [.slice A2 l2 c2, .int .u64 ((sh:Nat):Int)] 51 Zay _ (fun w U Q=>(Zdr _ Y sh _ Q.1.1.2 (by omega) (by omega)).mono (fun _ _ h=>ZaF (by rw [hD] at h; exact h))) (fun xx=>?_)
  obtain ⟨A11,l11,c11⟩:=xx
  refine xq 2 [eS1 52 A l c,(53, .v (.int .u64 ((sh:Nat):Int)))] [] ?_
  refine xqc 387 [.slice A l c, .int .u64 ((sh:Nat):Int)] 54 Zay _ (fun w U Q=>(Zdr _ X sh _ Q.1.1.1.1 (by omega) (by omega)).mono (fun _ _ h=>ZaF (by rw [hV] at h; exact h))) (fun xx=>?_)
  obtain ⟨A12,l12,c12⟩:=xx
  refine xq 2 [eS1 10 A11 l11 c11,eS1 11 A12 l12 c12] [] ?_
  refine xe (Zaa (Zac ?_))
  refine SXc.know (p:=l12=(wds V).length∧(wds V).length≤c12) (fun w _ Q=>(Q.2).lens) (fun hln=>?_)
  rw [ZeM] at hln
  have hVp:=Zeq hV0
  obtain ⟨L,rfl⟩:∃ y,y=l12:=⟨_,rfl⟩
  refine Zab (xq 4 [(58, .v (.int .i64 (IntKind.i64.wrap (((L:Nat):Int) + ((S:Nat):Int)))))] [] ?_)
  rw [show IntKind.i64.wrap (((L:Nat):Int) + ((S:Nat):Int))=((L + S:Nat):Int) from by rw [IntKind.wrap_i64]; omega]
  refine Zkj (d:=59) (t:=133) (e:=217) (k:=.u64) (kl:=.i64) (kc:=.i64) (l:=(Operand.tmp 58)) (c:=(Operand.tmp 58)) (L + S) 8 (by omega) (by decide) (fun r13 hr13 lr13=>?_)
  have hDA:D≠0→∀ a,A11=some a→a.block < r13:=fun h0 a ha=>lr13 a.block (fun w Q=>(Q.1.2).block_lt h0 ha)
  refine xr 1 [eS1 4 none 0 0,eS1 5 none 0 0,(8, .v (.int .i64 ((S:Nat):Int))),(9, .v (.int .u64 ((sh:Nat):Int))),eS1 10 A11 l11 c11,eS1 11 A12 L c12,eS1 12 (some ⟨r13,0,none⟩) (L + S) (L + S)] [] ?_
  refine xe (Zaa (Zac (Zab (xq 1 [eS1 13 none 0 0] [] ?_))))
  refine xe (Zaa (Zac (Zac ?_)))
  obtain ⟨hm1,hm2,hm3⟩:=Zod (L:=L) (S:=S) (by omega) (by omega)
  refine Zab (xq 3 [(62, .v (.int .i64 (IntKind.i64.wrap (((L:Nat):Int) - 1))))] [] ?_)
  rw [show IntKind.i64.wrap (((L:Nat):Int) - 1)=((L - 1:Nat):Int) from by rw [IntKind.wrap_i64]; omega]
  refine xq 1 [(63, .v (.int .i64 ((S:Nat):Int)))] [] ?_
  refine xqk 64 (.int .i64 (((L - 1) / S:Nat):Int)) (fun w U Q=>Zgb (t:=3) (k:=3) (x:=.tmp 62) (y:=.tmp 63) (a:=L - 1) (b:=S) (by kernel_rfl) (by kernel_rfl) (by kernel_rfl) (by omega) (by omega)) ?_
  refine xq 2 [(66, .v (.int .i64 (IntKind.i64.wrap ((((L - 1) / S:Nat):Int) * ((S:Nat):Int)))))] [] ?_
  rw [show IntKind.i64.wrap ((((L - 1) / S:Nat):Int) * ((S:Nat):Int))=(((L - 1) / S * S + S:Nat):Int) - ((S:Nat):Int) from by rw [← Int.natCast_mul,IntKind.wrap_i64]; omega]
  refine xq 1 [(14, .v (.int .i64 ((((L - 1) / S * S + S:Nat):Int) - ((S:Nat):Int))))] [] ?_
  refine xe (Zaa (Za4 ?_))
  refine SXc.weak [(8, .v (.int .i64 ((S:Nat):Int))),(9, .v (.int .u64 ((sh:Nat):Int))),(10, .v (.slice A11 l11 c11)),(11, .v (.slice A12 L c12)),(12, .v (.slice (some ⟨r13,0,none⟩) (L + S) (L + S))),(13, .v (.slice none 0 0)),(14, .v (.int .i64 ((((L - 1) / S * S + S:Nat):Int) - ((S:Nat):Int))))] [] (Ψ:=fun w=>((Box (fun j=>r13≤j) w (fun w=>(((((Zad w (.slice A l c) (X)∧Zad w (.slice A2 l2 c2) (Y))∧Zai .u64 w A2 (ys))∧True)∧Zad w (.slice A11 l11 c11) (D))∧Zad w (.slice A12 L c12) (V)))∧Zad w (.slice none 0 0) (0))∧Own .u64 217 w r13 ((List.replicate (L + S) 0)))) (Zcs.of (by kernel_rfl)) (by kernel_rfl) (fun w Q=>⟨⟨Q.1,(Zad.zero _)⟩,Q.2⟩) ?_
  refine Zhq (fun nn ss ff=>∃ (m:Nat) (z:Int) (R:Nat) (RA:Option Addr) (Rl Rc:Nat) (zs:List Nat),ss=ofL [(8, .v (.int .i64 ((S:Nat):Int))),(9, .v (.int .u64 ((sh:Nat):Int))),(10, .v (.slice A11 l11 c11)),(11, .v (.slice A12 L c12)),(12, .v (.slice (some ⟨r13,0,none⟩) (L + S) (L + S))),(13, .v (.slice RA Rl Rc)),(14, .v (.int .i64 z))] []∧ff=(fun w=>((Box (fun j=>r13≤j) w (fun w=>(((((Zad w (.slice A l c) (X)∧Zad w (.slice A2 l2 c2) (Y))∧Zai .u64 w A2 (ys))∧True)∧Zad w (.slice A11 l11 c11) (D))∧Zad w (.slice A12 L c12) (V)))∧Zad w (.slice RA Rl Rc) (R))∧Own .u64 217 w r13 (zs)))∧(z=((m:Nat):Int) - ((S:Nat):Int))∧(S ∣ m)∧(m≤L + S)∧(BlkR V D (L + S) m zs)∧(R=V / W64 ^ m % D)∧(R≠0→∀ a,RA=some a→a.block≠r13)∧nn=(1 + m)) ((1 + ((L - 1) / S * S + S))) ⟨((L - 1) / S * S + S),((((L - 1) / S * S + S:Nat):Int) - ((S:Nat):Int)),0,none,0,0,(List.replicate (L + S) 0),rfl,rfl,rfl,hm3,(by omega),(BlkR.start (by omega) (by omega)),(by rw [ZfL (by omega),Nat.zero_mod]),(fun h=>absurd rfl h),rfl⟩ ?_
  rintro nn ss ff ⟨m,z,R,RA,Rl,Rc,zs,rfl,rfl,hz,hdm,hmL,hB,hR,hA,rfl⟩
  refine Zac (Zac ?_)
  have wR:wl R≤S:=by rw [hR]; exact Nat.le_trans (ZaS (Nat.le_of_lt (Nat.mod_lt _ hD0))) (by omega)
  have hzl:zs.length=L + S:=by obtain ⟨_,_,h,_⟩:=hB; exact h
  by_cases hlt:S≤m
  ·obtain rfl:z=((m - S:Nat):Int):=by omega
   obtain ⟨T,hT⟩:∃ T,V / W64 ^ (m - S) % W64 ^ S + W64 ^ S * R=T:=⟨_,rfl⟩
   have eV:V / W64 ^ m=V / W64 ^ (m - S) / W64 ^ S:=by rw [Nat.div_div_eq_div_mul,← Nat.pow_add,Nat.sub_add_cancel hlt]
   obtain ⟨hTl,hTd,hTm⟩:=Zfv (x:=V / W64 ^ (m - S)) (y:=D) (H:=W64 ^ S) (Nat.pow_pos Zag) hD0
   rw [← eV,← hR,hT] at hTl hTd hTm
   have hB2:BlkR V D (L + S) (m - S) (ZaH zs (m - S) (wds (T / D))):=BlkR.step (m:=S) (by rw [Nat.sub_add_cancel hlt]; exact hB) hD0 (by rw [Nat.sub_add_cancel hlt,← hR,hT]) (Zek (Zf9 hTl))
   refine Zab (xq 2 [(68, .v (.bool (decide (((m - S:Nat):Int) ≥ 0))))] [] ?_)
   rw [show decide (((m - S:Nat):Int) ≥ 0)=true from decide_eq_true (by omega)]
   refine xe (Zaa (xa (Zax (Zaa (Zac (Za4 (Zac (Zab (xq 2 [eS1 72 A12 L c12,(73, .v (.int .i64 ((m - S:Nat):Int)))] [] ?_)))))))))
   refine xqc 389 [.slice A12 L c12, .int .i64 ((m - S:Nat):Int)] 74 Zay _ (fun w U Q=>(ZcQ _ V (m - S) _ (Q.1.1).self.2).mono (fun _ _=>ZaF)) (fun xx=>?_)
   obtain ⟨A14,l14,c14⟩:=xx
   refine xq 1 [(75, .v (.int .i64 ((S:Nat):Int)))] [] ?_
   refine xqc 388 [.slice A14 l14 c14, .int .i64 ((S:Nat):Int)] 76 Zay _ (fun w U Q=>(Ze1 _ (V / W64 ^ (m - S)) S _ Q.2 (Nat.le_trans (ZaS (Nat.div_le_self _ _)) (by omega))).mono (fun _ _=>ZaF)) (fun xx=>?_)
   obtain ⟨A15,l15,c15⟩:=xx
   refine xq 1 [eS1 15 A15 l15 c15] [] ?_
   refine xe (Zaa (Zac (Zab (xq 3 [eS1 78 RA Rl Rc,eS1 79 A15 l15 c15,(80, .v (.int .i64 ((S:Nat):Int)))] [] ?_))))
   refine xqc 391 [.slice RA Rl Rc, .slice A15 l15 c15, .int .i64 ((S:Nat):Int)] 81 (fun x:{q:ShN // ∀ a,q.1=some a→r13 < a.block∨q.1=none∨q.1=none}=>Zay x.1) _ (fun w U Q=>(Zev _ _ (R) (V / W64 ^ (m - S) % W64 ^ S) S _ Q.1.1.1.2 Q.2 (by omega) (Ze4 _ _) (by omega) (by omega)).mono (fun _ _ h=>ZjS (b:=r13) (by rw [hT] at h; exact h) (Q.1.1.2).lt)) (fun xx=>?_)
   obtain ⟨⟨A16,l16,c16⟩,hJ⟩:=xx
   refine xq 1 [eS1 82 A11 l11 c11] [] ?_
   refine xqc 390 [.slice A16 l16 c16, .slice A11 l11 c11] 83 (fun x:ShN × {q:ShN // ∀ a,q.1=some a→r13 < a.block∨q.1=A16∨q.1=A11}=>Zdu (x.1,x.2.1)) _ (fun w U Q=>(Zic S (by omega) _ _ _ _ _ _ T D _ Q.2 (Q.1.1.1.1.1).self.1.2 (by omega) (by rw [b3]; exact b1) (by rw [b3]; exact hTl)).mono (fun _ _ h=>Znr (b:=r13) h (Q.1.1.1.2).lt)) (fun xx=>?_)
   obtain ⟨⟨A17,l17,c17⟩,⟨⟨A18,l18,c18⟩,hG⟩⟩:=xx
   refine xq 5 [eS1 16 A17 l17 c17,eS1 17 A18 l18 c18] [] ?_
   refine xe (Zaa (Zac (Zab (xq 2 [eS1 86 (some ⟨r13,0,none⟩) (L + S) (L + S),(87, .v (.int .i64 ((m - S:Nat):Int)))] [] ?_))))
   refine xqk 88 (.slice (some ⟨r13,m - S,none⟩) ((L + S) - (m - S)) ((L + S) - (m - S))) (fun w U Q=>ZdF (t:=133) (e:=217) (x:=(Operand.tmp 86)) (len:=(L + S)) (cap:=(L + S)) (l:=m - S) (lo:=(Operand.tmp 87)) (by omega) (by omega) rfl rfl) ?_
   refine xq 1 [eS1 89 A17 l17 c17] [] ?_
   refine SXi.know (p:=l17=(wds (T / D)).length∧(wds (T / D)).length≤c17) (fun w _ Q=>(Q.2.1).lens) (fun hln=>?_)
   refine Ze3 (d:=90) (dx:=Operand.tmp 88) (sx:=Operand.tmp 89) (dT:=133) (sT:=133) (e:=217) (k:=.u64) (sp:=A17) (zs:=zs) (ys:=wds (T / D)) (off:=m - S) (n:=((L + S) - (m - S))) (m:=l17) (dc:=((L + S) - (m - S))) (sc:=c17) r13 (fun w=>((((((Box (fun j=>r13≤j) w (fun w=>(((((Zad w (.slice A l c) (X)∧Zad w (.slice A2 l2 c2) (Y))∧Zai .u64 w A2 (ys))∧True)∧Zad w (.slice A11 l11 c11) (D))∧Zad w (.slice A12 L c12) (V)))∧True)∧Own .u64 217 w r13 (ZaH (zs) (m - S) (wds (T / D))))∧True)∧True)∧True)∧(True∧Zad w (.slice A18 l18 c18) (T % D)))) (by omega) (by omega) hln.1.symm (fun w Q=>Q.1.1.1.1.2) (fun w Q=>(Q.2.1).shows) (Or.inl hr13) (fun w w' Q hF hO=>⟨⟨⟨⟨⟨⟨((Q.1.1.1.1.1.1).fr (hF.mono (fun _ _ e=>by rw [e]; exact Nat.le_refl _))),trivial⟩,hO⟩,trivial⟩,trivial⟩,trivial⟩,⟨trivial,(Q.2.2.apart hF (fun _=>Zl0 hG hJ (hDA (Nat.ne_of_gt hD0))))⟩⟩) ?_
   refine xr 0 [(8, .v (.int .i64 ((S:Nat):Int))),(9, .v (.int .u64 ((sh:Nat):Int))),eS1 10 A11 l11 c11,eS1 11 A12 L c12,eS1 12 (some ⟨r13,0,none⟩) (L + S) (L + S),eS1 13 RA Rl Rc,(14, .v (.int .i64 ((m - S:Nat):Int))),eS1 17 A18 l18 c18] [] ?_
   refine xe (Zaa (Zab (xq 2 [eS1 13 A18 l18 c18] [] ?_)))
   refine xe (Zdq (Zaa (Zab (xq 3 [(71, .v (.int .i64 (IntKind.i64.wrap (((m - S:Nat):Int) - ((S:Nat):Int)))))] [] ?_))))
   rw [show IntKind.i64.wrap (((m - S:Nat):Int) - ((S:Nat):Int))=((m - S:Nat):Int) - ((S:Nat):Int) from by rw [IntKind.wrap_i64]; omega]
   refine xq 1 [(14, .v (.int .i64 (((m - S:Nat):Int) - ((S:Nat):Int))))] [] ?_
   refine xe ?_
   refine SXq.weak [(8, .v (.int .i64 ((S:Nat):Int))),(9, .v (.int .u64 ((sh:Nat):Int))),(10, .v (.slice A11 l11 c11)),(11, .v (.slice A12 L c12)),(12, .v (.slice (some ⟨r13,0,none⟩) (L + S) (L + S))),(13, .v (.slice A18 l18 c18)),(14, .v (.int .i64 (((m - S:Nat):Int) - ((S:Nat):Int))))] [] (Ψ:=fun w=>((Box (fun j=>r13≤j) w (fun w=>(((((Zad w (.slice A l c) (X)∧Zad w (.slice A2 l2 c2) (Y))∧Zai .u64 w A2 (ys))∧True)∧Zad w (.slice A11 l11 c11) (D))∧Zad w (.slice A12 L c12) (V)))∧Zad w (.slice A18 l18 c18) ((T % D)))∧Own .u64 217 w r13 ((ZaH (zs) (m - S) (wds (T / D)))))) (Zcs.of (by kernel_rfl)) (by kernel_rfl) (fun w Q=>⟨⟨Q.1.1.1.1.1.1,Q.2.2⟩,Q.1.1.1.1.2⟩) ?_
   exact Zf3 ((1 + (m - S))) (by omega) ⟨(m - S),(((m - S:Nat):Int) - ((S:Nat):Int)),(T % D),A18,l18,c18,(ZaH (zs) (m - S) (wds (T / D))),rfl,rfl,rfl,(Nat.dvd_sub hdm (Nat.dvd_refl S)),(by omega),hB2,hTm,(fun _=>Zl0 hG hJ (hDA (Nat.ne_of_gt hD0))),rfl⟩
  ·obtain rfl:=Zpk hdm hlt
   have hBd:=hB.done
   have hdiv:=Zgw X Y (2 ^ sh) (Nat.pow_pos (by decide))
   rw [hV,hD] at hdiv
   have hRd:R / 2 ^ sh=X % Y:=by rw [hR,Nat.pow_zero,Nat.div_one]; exact hdiv.2
   refine Zab (xq 2 [(68, .v (.bool (decide (z ≥ 0))))] [] ?_)
   rw [show decide (z ≥ 0)=false from decide_eq_false (by omega)]
   refine xe (Zaa (xb (Zho (ZbW (ZbW (ZiN (Zaa (Zac (Zab (xq 1 [eS1 92 (some ⟨r13,0,none⟩) (L + S) (L + S)] [] ?_))))))))))
   refine xqc 298 [.slice (some ⟨r13,0,none⟩) (L + S) (L + S)] 93 (fun k:Nat=>.slice (some ⟨r13,0,none⟩) k (L + S)) _ (fun w U Q=>(Zf7 Q.2 hBd.2.1 hBd.1 (by omega)).mono (fun _ _ h=>Zf8 (by rw [hBd.2.2,hdiv.1] at h; exact h))) (fun k19=>?_)
   refine xq 2 [eS1 94 RA Rl Rc,(95, .v (.int .u64 ((sh:Nat):Int)))] [] ?_
   refine xqc 392 [.slice RA Rl Rc, .int .u64 ((sh:Nat):Int)] 96 Zay _ (fun w U Q=>(Zjd _ R sh _ Q.1.1.2 (by omega) (by omega)).mono (fun _ _ h=>ZaF (by rw [hRd] at h; exact h))) (fun xx=>?_)
   obtain ⟨A20,l20,c20⟩:=xx
   refine xq 2 [eS1 4 (some ⟨r13,0,none⟩) k19 (L + S),eS1 5 A20 l20 c20] [] ?_
   refine xe (Zaa (Zas ?_))
   refine Zam (v:=.tuple #[.slice (some ⟨r13,0,none⟩) k19 (L + S), .slice A20 l20 c20]) (by kernel_rfl) (fun w' U Q=>?_)
   exact ⟨_,_,rfl,Q.1.2,Q.2,U⟩
theorem ZiQ (A:Option Addr) (l c:Nat) (A2:Option Addr) (l2 c2 X Y:Nat) (w:World) (hX:Zad w (.slice A l c) X) (hY:Zad w (.slice A2 l2 c2) Y) (h80:80≤l2) (hl:l2 + 80≤l) (hwX:wl X≤134217728) (hwY:wl Y≤134217728) (hY0:0 < Y) :
 Calls Tryz.prog 309 #[.slice A l c, .slice A2 l2 c2] w (ZdN w (X / Y) (X % Y)):=by
 obtain ⟨xs_,hxl,hxc,_,_,_,_,hwx⟩:=hX.row
 obtain ⟨ys_,hyl,hyc,_,_,_,_,hwy⟩:=hY.row
 have hX0:0 < X:=Nat.pos_of_ne_zero fun e=>by rw [e,Zcl] at hwx; omega
 refine ZaA (Φ:=fun w=>(Zad w (.slice A l c) (X)∧Zad w (.slice A2 l2 c2) (Y))) Tryz.func309 rfl (by kernel_rfl) (fun w' hf=>⟨hX.ext hf,hY.ext hf⟩) ?_
 refine Zac (Zab (xq 2 [eS1 4 none 0 0,eS1 5 none 0 0] [] ?_))
 refine xe (Zaa (Zac (Zac (Zab (xq 3 [(8, .v (.bool (decide (((l2:Nat):Int) ≥ 80))))] [] ?_)))))
 rw [show decide (((l2:Nat):Int) ≥ 80)=true from decide_eq_true (by omega)]
 refine xq 6 [(9, .v (.bool true)),(14, .v (.int .i64 (IntKind.i64.wrap (((l:Nat):Int) - ((l2:Nat):Int)))))] [] ?_
 rw [show IntKind.i64.wrap (((l:Nat):Int) - ((l2:Nat):Int))=((l:Nat):Int) - ((l2:Nat):Int) from by rw [IntKind.wrap_i64]; omega]
 refine xq 1 [(15, .v (.bool (decide ((((l:Nat):Int) - ((l2:Nat):Int)) ≥ 80))))] [] ?_
 rw [show decide (((l:Nat):Int) - ((l2:Nat):Int) ≥ 80)=true from decide_eq_true (by omega)]
 refine xq 1 [(16, .v (.bool true))] [] ?_
 refine xe (Zaa (xa (Zac (Zab (xq 2 [eS1 17 A l c,eS1 18 A2 l2 c2] [] ?_)))))
 refine xqc 360 [.slice A l c, .slice A2 l2 c2] 19 Zdu _ (fun w R Q=>(Zid A l c A2 l2 c2 X Y _ Q.1 Q.2 (by omega) hwX hwY hX0 hY0).mono (fun _ _=>Zg0)) (fun xx=>?_)
 obtain ⟨⟨A10,l10,c10⟩,⟨A11,l11,c11⟩⟩:=xx
 refine xq 4 [eS1 4 A10 l10 c10,eS1 5 A11 l11 c11] [] ?_
 refine xe (Zaa (Zas (Zar ?_)))
 refine Zam (v:=.tuple #[.slice A10 l10 c10, .slice A11 l11 c11]) (by kernel_rfl) (fun w' R Q=>?_)
 exact ⟨_,_,rfl,Q.2.1,Q.2.2,R⟩
theorem ZhA (A:Option Addr) (l c:Nat) (A2:Option Addr) (l2 c2 X Y:Nat) (w:World) (hX:Zad w (.slice A l c) X) (hY:Zad w (.slice A2 l2 c2) Y) (h80:l2 < 80) (hwX:wl X≤134217728) (hwY:wl Y≤134217728) (hY0:0 < Y) :
 Calls Tryz.prog 309 #[.slice A l c, .slice A2 l2 c2] w (ZdN w (X / Y) (X % Y)):=by
 refine ZaA (Φ:=fun w=>(Zad w (.slice A l c) (X)∧Zad w (.slice A2 l2 c2) (Y))) Tryz.func309 rfl (by kernel_rfl) (fun w' hf=>⟨hX.ext hf,hY.ext hf⟩) ?_
 refine Zac (Zab (xq 2 [eS1 4 none 0 0,eS1 5 none 0 0] [] ?_))
 refine xe (Zaa (Zac (Zac (Zab (xq 3 [(8, .v (.bool (decide (((l2:Nat):Int) ≥ 80))))] [] ?_)))))
 rw [show decide (((l2:Nat):Int) ≥ 80)=false from decide_eq_false (by omega)]
 refine xq 8 [(16, .v (.bool false))] [] ?_
 refine xe (Zaa (xb (Zax (Zaa (Zac (Zab (xq 2 [eS1 22 A l c,eS1 23 A2 l2 c2] [] ?_)))))))
 refine xqc 361 [.slice A l c, .slice A2 l2 c2] 24 Zdu _ (fun w R Q=>(Zdw _ _ X Y _ Q.1 Q.2 (by omega) (by omega) hY0).mono (fun _ _=>Zg0)) (fun xx=>?_)
 obtain ⟨⟨A10,l10,c10⟩,⟨A11,l11,c11⟩⟩:=xx
 refine xq 4 [eS1 4 A10 l10 c10,eS1 5 A11 l11 c11] [] ?_
 refine xe (Zaa (Zas ?_))
 refine Zam (v:=.tuple #[.slice A10 l10 c10, .slice A11 l11 c11]) (by kernel_rfl) (fun w' R Q=>?_)
 exact ⟨_,_,rfl,Q.2.1,Q.2.2,R⟩
theorem ZiR (A:Option Addr) (l c:Nat) (A2:Option Addr) (l2 c2 X Y:Nat) (w:World) (hX:Zad w (.slice A l c) X) (hY:Zad w (.slice A2 l2 c2) Y) (h80:80≤l2) (hl:l < l2 + 80) (hwX:wl X≤134217728) (hwY:wl Y≤134217728) (hY0:0 < Y) :
 Calls Tryz.prog 309 #[.slice A l c, .slice A2 l2 c2] w (ZdN w (X / Y) (X % Y)):=by
 obtain ⟨xs_,hxl,hxc,_,_,_,_,hwx⟩:=hX.row
 obtain ⟨ys_,hyl,hyc,_,_,_,_,hwy⟩:=hY.row
 refine ZaA (Φ:=fun w=>(Zad w (.slice A l c) (X)∧Zad w (.slice A2 l2 c2) (Y))) Tryz.func309 rfl (by kernel_rfl) (fun w' hf=>⟨hX.ext hf,hY.ext hf⟩) ?_
 refine Zac (Zab (xq 2 [eS1 4 none 0 0,eS1 5 none 0 0] [] ?_))
 refine xe (Zaa (Zac (Zac (Zab (xq 3 [(8, .v (.bool (decide (((l2:Nat):Int) ≥ 80))))] [] ?_)))))
 rw [show decide (((l2:Nat):Int) ≥ 80)=true from decide_eq_true (by omega)]
 refine xq 6 [(9, .v (.bool true)),(14, .v (.int .i64 (IntKind.i64.wrap (((l:Nat):Int) - ((l2:Nat):Int)))))] [] ?_
 rw [show IntKind.i64.wrap (((l:Nat):Int) - ((l2:Nat):Int))=((l:Nat):Int) - ((l2:Nat):Int) from by rw [IntKind.wrap_i64]; omega]
 refine xq 1 [(15, .v (.bool (decide ((((l:Nat):Int) - ((l2:Nat):Int)) ≥ 80))))] [] ?_
 rw [show decide (((l:Nat):Int) - ((l2:Nat):Int) ≥ 80)=false from decide_eq_false (by omega)]
 refine xq 1 [(16, .v (.bool false))] [] ?_
 refine xe (Zaa (xb (Zax (Zaa (Zac (Zab (xq 2 [eS1 22 A l c,eS1 23 A2 l2 c2] [] ?_)))))))
 refine xqc 361 [.slice A l c, .slice A2 l2 c2] 24 Zdu _ (fun w R Q=>(Zdw _ _ X Y _ Q.1 Q.2 (by omega) (by omega) hY0).mono (fun _ _=>Zg0)) (fun xx=>?_)
 obtain ⟨⟨A10,l10,c10⟩,⟨A11,l11,c11⟩⟩:=xx
 refine xq 4 [eS1 4 A10 l10 c10,eS1 5 A11 l11 c11] [] ?_
 refine xe (Zaa (Zas ?_))
 refine Zam (v:=.tuple #[.slice A10 l10 c10, .slice A11 l11 c11]) (by kernel_rfl) (fun w' R Q=>?_)
 exact ⟨_,_,rfl,Q.2.1,Q.2.2,R⟩
theorem ZiS (xv yv:Value) (x y:Nat) (w:World) (hX:Zad w xv x) (hY:Zad w yv y) (hx:wl x≤134217728) (hy:wl y≤134217728) (h0:0 < y):Calls Tryz.prog 309 #[xv,yv] w (ZdN w (x / y) (x % y)):=by
 obtain ⟨A,l,c,rfl⟩:=hX.opens
 obtain ⟨A2,l2,c2,rfl⟩:=hY.opens
 by_cases h1:l2 < 80
 ·exact ZhA A l c A2 l2 c2 x y w hX hY h1 hx hy h0
 ·by_cases h2:l < l2 + 80
  ·exact ZiR A l c A2 l2 c2 x y w hX hY (by omega) h2 hx hy h0
  ·exact ZiQ A l c A2 l2 c2 x y w hX hY (by omega) (by omega) hx hy h0
end Go.Proofs.YtcpjeaaapocoeaaGreatDoor

namespace Go.Proofs.YtcpjeaaapocoeaaGreatDoor
open Go.RowKit Go.Sort
theorem Zad.text {w w':World} {v:Value} {n:Nat} {A:Option Addr} {cap:Nat} {l:List UInt8} (h:Zad w v n) (hB:TBuf w A cap l) (hF:Fr (Zah A) w w'):Zad w' v n:=by
 obtain ⟨B,xs,c,rfl,hc,hX,hd,ht,hv⟩:=h
 refine ⟨B,xs,c,rfl,hc,?_,hd,ht,hv⟩
 by_cases hne:xs=[]
 ·subst hne; exact Zai.nil
 ·obtain ⟨b,off,rfl,hb,hcs⟩:=hX hne
  refine hX.fr hF (fun a ha _ hs=>?_)
  injection ha with ha; subst ha
  have h0:=hcs 0 (List.length_pos_iff.2 hne)
  obtain ⟨z,hz⟩:=(Buf.all hB hs).of_cell h0
  cases hz
noncomputable def pw19 (i:Nat):Nat:=T19 ^ 2 ^ i
theorem Zg1:pw19 0=T19:=by simp [pw19]
theorem Zg2 (i:Nat):pw19 (i + 1)=pw19 i * pw19 i:=by
 unfold pw19; rw [Nat.pow_succ,Nat.pow_mul,Nat.pow_two]
theorem Zgc (i:Nat):pw19 i=10 ^ (19 * 2 ^ i):=by unfold pw19; rw [Zd5,← Nat.pow_mul]
theorem ZkW (i:Nat):0 < pw19 i:=Nat.pow_pos Zdd
theorem ZfM (i:Nat):wl (pw19 i)≤2 ^ i:=by
 induction i with
 | zero=>rw [Zg1]; exact ZcN.2 ZgK
 | succ i ih=>rw [Zg2]; have:=Zdl (pw19 i) (pw19 i); rw [Nat.pow_succ]; omega
def ZbY (w:World) (P:Option Addr) (L:Nat):Prop :=
 0 < L→∃ b off,P=some ⟨b,off,none⟩∧b < w.heap.size∧∀ i,i < L→∃ B l c,w.cell? ⟨b,off + i,none⟩=some (.slice B l c)∧Zad w (.slice B l c) (pw19 i)
theorem ZbY.less {w:World} {P:Option Addr} {L K:Nat} (h:ZbY w P L) (hK:K≤L):ZbY w P K:=fun h0=>by
 obtain ⟨b,off,h1,h2,h3⟩:=h (by omega)
 exact ⟨b,off,h1,h2,fun i hi=>h3 i (by omega)⟩
theorem ZbY.ext {w w':World} {P:Option Addr} {L:Nat} (h:ZbY w P L) (hF:Ext w w'):ZbY w' P L:=fun h0=>by
 obtain ⟨b,off,h1,h2,h3⟩:=h h0
 refine ⟨b,off,h1,Nat.lt_of_lt_of_le h2 hF.size,fun i hi=>?_⟩
 obtain ⟨B,l,c,k1,k2⟩:=h3 i hi
 exact ⟨B,l,c,(hF.cell (p:=⟨b,off + i,none⟩) h2 (fun f=>f)).trans k1,k2.ext hF⟩
theorem ZbY.text {w w':World} {P:Option Addr} {L:Nat} {A:Option Addr} {cap:Nat} {l:List UInt8} (h:ZbY w P L) (hB:TBuf w A cap l) (hF:Fr (Zah A) w w'):ZbY w' P L:=fun h0=>by
 obtain ⟨b,off,h1,h2,h3⟩:=h h0
 have hne:¬ Zah A b:=fun hb=>by
  obtain ⟨B,l,c,k1,_⟩:=h3 0 h0
  obtain ⟨z,hz⟩:=(Buf.all hB hb).of_cell k1
  cases hz
 refine ⟨b,off,h1,Nat.lt_of_lt_of_le h2 hF.size,fun i hi=>?_⟩
 obtain ⟨B,l,c,k1,k2⟩:=h3 i hi
 exact ⟨B,l,c,(hF.cell (p:=⟨b,off + i,none⟩) h2 hne).trans k1,k2.text hB hF⟩
theorem ZjU (x width:Nat) (hx:wl x < 500) (hw:width≤9800):(ZaT x width).length≤10000:=by
 rw [Zgo]
 obtain ⟨k,hk⟩:∃ k,k=499:=⟨_,rfl⟩
 have h1:x < 10 ^ (20 * k):=by
  have h2:=ZaC.1 (show wl x≤k by omega)
  refine Nat.lt_of_lt_of_le h2 ?_
  rw [Nat.pow_mul]
  exact Nat.pow_le_pow_left (by rw [Zal]; decide) _
 have:=ZeD _ _ h1
 clear h1
 omega
set_option maxHeartbeats 4000000 in
theorem ZiT (L:Nat):∀ (A:Option Addr) (cap n x width:Nat) (l:List UInt8) (xv:Value) (P:Option Addr) (c:Nat) (w0 w:World),Ext w0 w→Glob w0→Zb8 w0 A→Zad w xv x→wl x < 500→ZbY w P L→L≤c→L≤9→(width=0∨width=19 * 2 ^ L) →
 l.length=n→TBuf w A cap l→n + 20100 * 2 ^ L≤274877906944 →
 Calls Tryz.prog 314 #[.slice A n cap,xv, .int .i64 (width:Int), .slice P L c] w (Zbx w A (l ++ ZaT x width)):=by
 induction L with
 | zero =>
   intro A cap n x width l xv P c w0 w Q hg hA hx hwl hP hc hL hwid hn hB hl
   have hwid2:width≤19:=by rcases hwid with h | h<;>omega
   have H:=zh (ZeV A cap n x width l xv w0 w Q hg hA hx (by omega) hn hB (by omega) (by omega))
   obtain ⟨X,xl,xc,rfl⟩:=hx.slice
   have hxl:=hx.len0
   have hxl2:xl≤499:=by omega
   generalize l ++ ZaT x width=m at H ⊢
   clear Q hg hA hx hwl hP hwid hn hB hxl
   go_enter Tryz.func314,Tryz.ntmps314
   go_wp2_with fail
   refine H.out.mono ?_
   rintro e w1 ⟨A1,cap1,rfl,hR⟩
   have HR:=zh hR
   clear hR
   go_wp2
   go_ret
   exact ⟨A1,cap1,rfl,HR.out⟩
 | succ K ih =>
   intro A cap n x width l xv P c w0 w Q hg hA hx hwl hP hc hL hwid hn hB hl
   have h2K:2 ^ K≤256:=by
    have:2 ^ K≤2 ^ 8:=Nat.pow_le_pow_right (by omega) (by omega)
    omega
   have h2K1:1≤2 ^ K:=Nat.one_le_two_pow
   have hs:2 ^ (K + 1)=2 ^ K + 2 ^ K:=by rw [Nat.pow_succ]; omega
   have hwid2:width≤9800:=by rcases hwid with h | h<;>omega
   obtain ⟨X,xl,xc,rfl⟩:=hx.slice
   have hxl:=hx.len0
   have hxl2:xl≤499:=by omega
   by_cases h30:xl≤30
   ·have H:=zh (ZeV A cap n x width l _ w0 w Q hg hA hx (by omega) hn hB (by omega) (by omega))
    generalize l ++ ZaT x width=m at H ⊢
    clear Q hg hA hx hwl hP hwid hn hB hxl ih h2K h2K1 hs hl
    go_enter Tryz.func314,Tryz.ntmps314
    go_wp2_with fail
    refine H.out.mono ?_
    rintro e w1 ⟨A1,cap1,rfl,hR⟩
    have HR:=zh hR
    clear hR
    go_wp2
    go_ret
    exact ⟨A1,cap1,rfl,HR.out⟩
   ·obtain ⟨bP,offP,rfl,hbP,hcP⟩:=hP (by omega)
    obtain ⟨BY,lY,cY,hcY,hNY⟩:=hcP K (by omega)
    have hwY:=ZfM K
    have HD:=zh (ZiS _ _ x (pw19 K) w hx hNY (by omega) (by omega) (ZkW K))
    have HP:=zh hP
    have HB:=zh hB
    have HE:=zh Q
    have HG:=zh hg
    have HA:=zh hA
    have HN:=zh hn
    have HW:=zh hwl
    have HL:=zh hl
    have HWd:=zh hwid
    have HS:=zh hs
    have HI:=zh ih
    obtain ⟨D,eD⟩:∃ D,19 * 2 ^ K=D:=⟨_,rfl⟩
    have hD1:D≤4864:=by omega
    have hsh:(19 * 2 ^ K:Int)=(D:Int):=by rw [← eD]; simp
    have hsh2:IntKind.i64.wrap (D:Int)=(D:Int):=IntWalk.i64_in _ (by omega)
    have HeD:=zh eD
    obtain ⟨m,HM⟩:∃ m,Hid (l ++ ZaT x width=m):=⟨_,rfl⟩
    rw [HM.out]
    clear eD
    have hh30:¬ xl≤30:=h30
    clear Q hg hA hx hwl hP hwid hn hB hxl ih hcP hNY hwY hl hs
    go_enter Tryz.func314,Tryz.ntmps314
    go_wp2_with fail
    refine HD.out.mono ?_
    rintro e w1 ⟨u,v,rfl,hNu,hNv,hF1⟩
    obtain ⟨Bu,lu,cu,rfl⟩:=hNu.slice
    obtain ⟨Bv,lv,cv,rfl⟩:=hNv.slice
    have Hu:=zh hNu
    have Hv:=zh hNv
    have HF1:=zh hF1
    have hlu:lu≤499:=by
     have h1:=hNu.len0
     have h2:wl (x / pw19 K)≤wl x:=ZaS (Nat.div_le_self _ _)
     have:=HW.out; omega
    have Hlu:Hid (lu=0 ↔ x / pw19 K=0):=by
     unfold Hid
     have h1:=hNu.len0
     rw [h1]
     constructor
     ·intro h
      rcases Nat.eq_zero_or_pos (x / pw19 K) with k | k
      ·exact k
      ·have:=Zeq k; omega
     ·intro h; rw [h,Zcl]
    have Hql:Hid (wl (x / pw19 K) < 500):=by
     have h2:wl (x / pw19 K)≤wl x:=ZaS (Nat.div_le_self _ _)
     have:=HW.out; unfold Hid; omega
    have Hrl:Hid (wl (x % pw19 K) < 500):=by
     have h2:wl (x % pw19 K)≤wl x:=ZaS (Nat.mod_le _ _)
     have:=HW.out; unfold Hid; omega
    have Hlow:Hid (x % pw19 K < 10 ^ (19 * 2 ^ K)):=by
     unfold Hid; rw [← Zgc]; exact Nat.mod_lt _ (ZkW K)
    have Hx:Hid (x=x / pw19 K * 10 ^ (19 * 2 ^ K) + x % pw19 K):=by
     unfold Hid; rw [← Zgc,Nat.mul_comm]; exact (Nat.div_add_mod x (pw19 K)).symm
    have HB1:Hid (TBuf w1 A cap l):=HB.out.ext HF1.out
    have HP1:Hid (ZbY w1 (some ⟨bP,offP,none⟩) K):=(HP.out.ext HF1.out).less (by omega)
    have HE1:Hid (Ext w0 w1):=HE.out.trans HF1.out
    clear hNu hNv hF1 HD HP HB
    generalize x / pw19 K=q at *
    generalize x % pw19 K=r at *
    by_cases hz:lu=0
    ·have hz1:((lu:Int) == 0)=true:=by simp; omega
     have HQ:Hid (q=0):=Hlu.out.1 hz
     by_cases hw0:width=0
     ·have hz2:((width:Int) == 0)=true:=by simp; omega
      have HM2:Hid (l ++ ZaT r 0=m):=by
       have h1:=HM.out
       rw [Hx.out,HQ.out,Nat.zero_mul,Nat.zero_add,hw0] at h1
       exact h1
      have HC:=zh (HI.out A cap n r 0 l _ _ c w0 w1 HE1.out HG.out HA.out Hv.out Hrl.out HP1.out (by omega) (by omega) (Or.inl rfl) HN.out HB1.out (by have:=HL.out; have:=HS.out; omega))
      rw [HM2.out] at HC
      clear hz hw0 HM2
      go_wp2_with fail
      refine HC.out.mono ?_
      intro e w2 h
      obtain ⟨A1,cap1,rfl,hR⟩:=h.mono rfl (HF1.out.mono (fun _ _ f=>f.elim)) (fun b hb=>Or.inl hb)
      have HR:=zh hR
      clear hR h
      go_wp2
      go_ret
      exact ⟨A1,cap1,rfl,HR.out⟩
     ·have hz2:((width:Int) == 0)=false:=by simp; omega
      have HMC:Hid (0 < q∨19 * 2 ^ K≤width):=by
       rcases HWd.out with k | k
       ·omega
       ·have:=HS.out; exact Or.inr (by omega)
      clear hz hw0
      have eD:=HeD.out
      rw [eD] at HMC Hlow Hx
      have HWr:Hid (width - D=0∨width - D=D):=by
       rcases HWd.out with k | k
       ·exact Or.inl (by omega)
       ·have:=HS.out; exact Or.inr (by omega)
      have HMX:max ((width:Int) - (D:Int)) 0=((width - D:Nat):Int):=by rw [Int.max_def]; split<;>omega
      have HM2:Hid (l ++ ZaT q (width - D) ++ ZaT r D=m):=by
       have h1:=HM.out
       rw [Hx.out,ZeU Hlow.out HMC.out,← ZhL Hlow.out,← List.append_assoc] at h1
       exact h1
      have HC:=zh (HI.out A cap n q (width - D) l _ _ c w0 w1 HE1.out HG.out HA.out Hu.out Hql.out HP1.out (by omega) (by omega) (by rw [eD]; exact HWr.out) HN.out HB1.out (by have:=HL.out; have:=HS.out; omega))
      have HNl:Hid ((ZaT q (width - D)).length≤10000):=ZjU _ _ Hql.out (by omega)
      clear HWr hlu Hlu HMC eD
      obtain ⟨wd,ewd⟩:∃ wd,width - D=wd:=⟨_,rfl⟩
      rw [ewd] at HMX HC HM2 HNl
      clear ewd
      go_wp2_with fail
      refine HC.out.mono ?_
      rintro e w2 ⟨A1,cap1,rfl,hB2,hF2,hA2⟩
      obtain ⟨n2,en2⟩:∃ n2,(l ++ ZaT q wd).length=n2:=⟨_,rfl⟩
      have hn2:n2≤n + 10000:=by rw [← en2,List.length_append]; have:=HN.out; have:=HNl.out; omega
      have HC2:=zh (HI.out A1 cap1 n2 r D (l ++ ZaT q wd) _ _ c w0 w2 (HA.out.ext HE1.out hF2) HG.out (HA.out.next HE1.out hA2) (Hv.out.text HB1.out hF2) Hrl.out (HP1.out.text HB1.out hF2) (by omega) (by omega) (Or.inr HeD.out.symm) en2 hB2 (by have:=HL.out; have:=HS.out; omega))
      rw [HM2.out] at HC2
      have HF2:Hid (Fr (Zah A) w w2):=(HF1.out.mono (fun _ _ f=>f.elim)).trans hF2
      have HA2:Hid (∀ b,Zah A1 b→Zah A b∨w.heap.size≤b):=fun b hb=>(hA2 b hb).imp id (fun h=>Nat.le_trans HF1.out.size h)
      rw [en2]
      clear hB2 hF2 hA2 en2 hn2 HC HM2
      go_wp2_with fail
      refine HC2.out.mono ?_
      intro e w3 h
      obtain ⟨A3,cap3,rfl,hR⟩:=h.mono rfl HF2.out HA2.out
      have HR:=zh hR
      clear hR h
      go_wp2
      go_ret
      exact ⟨A3,cap3,rfl,HR.out⟩
    ·  have hz1:((lu:Int) == 0)=false:=by simp; omega
       have HMC:Hid (0 < q∨19 * 2 ^ K≤width):=by
        rcases Nat.eq_zero_or_pos q with k | k
        ·exact absurd (Hlu.out.2 k) hz
        ·exact Or.inl k
       clear hz
       have eD:=HeD.out
       rw [eD] at HMC Hlow Hx
       have HWr:Hid (width - D=0∨width - D=D):=by
        rcases HWd.out with k | k
        ·exact Or.inl (by omega)
        ·have:=HS.out; exact Or.inr (by omega)
       have HMX:max ((width:Int) - (D:Int)) 0=((width - D:Nat):Int):=by rw [Int.max_def]; split<;>omega
       have HM2:Hid (l ++ ZaT q (width - D) ++ ZaT r D=m):=by
        have h1:=HM.out
        rw [Hx.out,ZeU Hlow.out HMC.out,← ZhL Hlow.out,← List.append_assoc] at h1
        exact h1
       have HC:=zh (HI.out A cap n q (width - D) l _ _ c w0 w1 HE1.out HG.out HA.out Hu.out Hql.out HP1.out (by omega) (by omega) (by rw [eD]; exact HWr.out) HN.out HB1.out (by have:=HL.out; have:=HS.out; omega))
       have HNl:Hid ((ZaT q (width - D)).length≤10000):=ZjU _ _ Hql.out (by omega)
       clear HWr hlu Hlu HMC eD
       obtain ⟨wd,ewd⟩:∃ wd,width - D=wd:=⟨_,rfl⟩
       rw [ewd] at HMX HC HM2 HNl
       clear ewd
       go_wp2_with fail
       refine HC.out.mono ?_
       rintro e w2 ⟨A1,cap1,rfl,hB2,hF2,hA2⟩
       obtain ⟨n2,en2⟩:∃ n2,(l ++ ZaT q wd).length=n2:=⟨_,rfl⟩
       have hn2:n2≤n + 10000:=by rw [← en2,List.length_append]; have:=HN.out; have:=HNl.out; omega
       have HC2:=zh (HI.out A1 cap1 n2 r D (l ++ ZaT q wd) _ _ c w0 w2 (HA.out.ext HE1.out hF2) HG.out (HA.out.next HE1.out hA2) (Hv.out.text HB1.out hF2) Hrl.out (HP1.out.text HB1.out hF2) (by omega) (by omega) (Or.inr HeD.out.symm) en2 hB2 (by have:=HL.out; have:=HS.out; omega))
       rw [HM2.out] at HC2
       have HF2:Hid (Fr (Zah A) w w2):=(HF1.out.mono (fun _ _ f=>f.elim)).trans hF2
       have HA2:Hid (∀ b,Zah A1 b→Zah A b∨w.heap.size≤b):=fun b hb=>(hA2 b hb).imp id (fun h=>Nat.le_trans HF1.out.size h)
       rw [en2]
       clear hB2 hF2 hA2 en2 hn2 HC HM2
       go_wp2_with fail
       refine HC2.out.mono ?_
       intro e w3 h
       obtain ⟨A3,cap3,rfl,hR⟩:=h.mono rfl HF2.out HA2.out
       have HR:=zh hR
       clear hR h
       go_wp2
       go_ret
       exact ⟨A3,cap3,rfl,HR.out⟩
end Go.Proofs.YtcpjeaaapocoeaaGreatDoor

namespace Go.Proofs.YtcpjeaaapocoeaaGreatDoor
open Go.RowKit Go.Sort
def IsSl (v:Value):Prop:=∃ B l c,v=.slice B l c
theorem ZkX:(Tryz.prog.info? 133).map (fun i=>(i.zero,i.size,i.bytes))=some (some (.slice none 0 0),1,24):=by kernel_rfl
def Pows (w wr:World) (A:Option Addr) (L cap:Nat):Prop :=
 ∃ vs:List Value,vs.length=L∧VBuf IsSl 133 wr A cap vs∧(∀ b,Zah A b→w.heap.size≤b)∧Ext w wr∧∀ i,i < L→∃ B l c,vs[i]? = some (.slice B l c)∧Zad wr (.slice B l c) (pw19 i)
theorem Zad.rows {w w':World} {v:Value} {n:Nat} {A:Option Addr} (h:Zad w v n) (hB:∀ b,Zah A b→ZcZ IsSl w b) (hF:Fr (Zah A) w w'):Zad w' v n:=by
 obtain ⟨B,xs,c,rfl,hc,hX,hd,ht,hv⟩:=h
 refine ⟨B,xs,c,rfl,hc,?_,hd,ht,hv⟩
 by_cases hne:xs=[]
 ·subst hne; exact Zai.nil
 ·obtain ⟨b,off,rfl,hb,hcs⟩:=hX hne
  refine hX.fr hF (fun a ha _ hs=>?_)
  injection ha with ha; subst ha
  have h0:=hcs 0 (List.length_pos_iff.2 hne)
  obtain ⟨_,_,_,hz⟩:=(hB _ hs).of_cell h0
  cases hz
theorem Pows.powsIs {w wr:World} {A:Option Addr} {L cap:Nat} (h:Pows w wr A L cap):ZbY wr A L:=fun h0=>by
 obtain ⟨vs,rfl,h2,h3,h4,h5⟩:=h
 obtain ⟨b,rfl,hb,_⟩:=h2.cell h0
 refine ⟨b,0,rfl,hb,fun i hi=>?_⟩
 obtain ⟨B,l,c,k1,k2⟩:=h5 i hi
 obtain ⟨b',e',_,hc⟩:=h2.cell hi
 injection e' with e'; injection e' with e'; subst e'
 exact ⟨B,l,c,by rw [Nat.zero_add,hc,k1],k2⟩
theorem Pows.next {w wr w1 w3:World} {A A':Option Addr} {L cap cap':Nat} {o:Obj} {B:Option Addr} {l c:Nat} {vs:List Value} (hvs:vs.length=L) (h2:VBuf IsSl 133 wr A cap vs) (h3:∀ b,Zah A b→w.heap.size≤b) (h4:Ext w wr) (h5:∀ i,i < L→∃ B l c,vs[i]? = some (.slice B l c)∧Zad wr (.slice B l c) (pw19 i))
 (Q:Ext wr w1) (hN:Zad w1 (.slice B l c) (pw19 L)) (k1:VBuf IsSl 133 w3 A' cap' (vs ++ [.slice B l c])) (k2:Fr (Zah A) (w1.alloc o) w3) (k3:∀ b,Zah A' b→Zah A b∨b=(w1.alloc o).heap.size):Pows w w3 A' (L + 1) cap':=by
 have hE2:Ext wr (w1.alloc o):=Q.alloc o
 have hall:∀ b,Zah A b→ZcZ IsSl (w1.alloc o) b:=fun b hb=>(h2.2 b hb).fr hE2 (fun f=>f)
 refine ⟨vs ++ [.slice B l c],by simp [hvs],k1,fun b hb=>?_,(h4.trans hE2).next k2 (fun i hi hb=>by have:=h3 i hb; omega),fun i hi=>?_⟩
 ·rcases k3 b hb with k | k
  ·exact h3 b k
  ·have:=h4.size; have:=Q.size; simp at k; omega
 ·rcases (by omega:i < L∨i=L) with hlt | rfl
  ·obtain ⟨B',l',c',m1,m2⟩:=h5 i hlt
   exact ⟨B',l',c',by rw [List.getElem?_append_left (by omega)]; exact m1,(m2.ext hE2).rows hall k2⟩
  ·exact ⟨B,l,c,by rw [List.getElem?_append_right (by omega),hvs]; simp,(hN.ext ((Fr.refl _ _).alloc o)).rows hall k2⟩
theorem Zmu {w wb:World} (h:(w.alloc (.cells #[.int .u64 10000000000000000000] 217)).alloc (.cells #[.slice (some ⟨w.heap.size,0,none⟩) 1 1] 133)=wb):Pows w wb (some ⟨w.heap.size + 1,0,none⟩) 1 1:=by
 subst h
 have e1:(w.alloc (.cells #[.int .u64 10000000000000000000] 217)).heap.size=w.heap.size + 1:=by simp
 have hV:=VBuf.one (p:=IsSl) (w.alloc (.cells #[.int .u64 10000000000000000000] 217)) 133 (v:=.slice (some ⟨w.heap.size,0,none⟩) 1 1) ⟨_,_,_,rfl⟩
 rw [e1] at hV
 have hN:=Zad.one w (x:=T19) (by have:=Zdd; omega) ZgK
 rw [Zjo] at hN
 refine ⟨_,rfl,hV,fun b hb=>?_,((Fr.refl _ _).alloc _).alloc _,fun i hi=>?_⟩
 ·obtain ⟨a,ha,rfl⟩:=hb
  injection ha with ha; subst ha; simp
 ·obtain rfl:i=0:=by omega
  exact ⟨_,_,_,rfl,by rw [Zg1]; exact hN.ext ((Fr.refl _ _).alloc _)⟩
def Zbc (n:Nat):Prop:=wl n < 500
theorem Zbc.one {n:Nat} (h:n < W64):Zbc n:=by have:=ZcN.2 h; unfold Zbc; omega
theorem Zmv:250≤wl (pw19 8):=by
 rcases Nat.lt_or_ge (wl (pw19 8)) 250 with h | h
 ·exfalso
  have h1:=ZaC.1 (show wl (pw19 8)≤249 by omega)
  rw [Zgc,Zal] at h1
  have h2:¬ (10 ^ (19 * 2 ^ 8) < 18446744073709551616 ^ 249):=by decide +kernel
  exact h2 h1
 ·exact h
set_option maxHeartbeats 4000000 in
theorem Zie (A:Option Addr) (cap n x:Nat) (l:List UInt8) (xv:Value) (w0 w:World) (Q:Ext w0 w) (hg:Glob w0) (hx:Zad w0 xv x) (hW:Zbc x) (h2:W64≤x) (hn:l.length=n) (hB:TBuf w A cap l) (hA:Zb8 w0 A) (hl:n≤137438953472) :
 Calls Tryz.prog 232 #[.slice A n cap,xv] w (Zbx w A (l ++ Lib.decDigits x)):=by
 have hw2:2≤wl x:=by
  rcases Nat.lt_or_ge (wl x) 2 with h | h
  ·have:=ZcN.1 (show wl x≤1 by omega); omega
  ·exact h
 have hpos:0 < x:=by have:=Zag; omega
 obtain ⟨X,xl,xc,rfl⟩:=hx.slice
 have hxl:=hx.len0
 unfold Zbc at hW
 have hx2:2≤xl:=by omega
 have hx3:xl≤499:=by omega
 have hxa:((xl:Int) == 0)=false:=by simp; omega
 have hxb:((xl:Int) == 1)=false:=by simp; omega
 have HX:=zh (hx.ext Q)
 have HE:=zh Q
 have HG:=zh hg
 have HB:=zh hB
 have HA:=zh hA
 have HN:=zh hn
 have HW:=zh hW
 rw [← Zlq hpos]
 obtain ⟨m,HM⟩:∃ m,Hid (l ++ ZaT x 0=m):=⟨_,rfl⟩
 rw [HM.out]
 clear Q hg hx hB hA hn hW h2 hw2 hpos hxl
 go_enter Tryz.func232,Tryz.ntmps232
 go_wp2
 generalize hwb:World.alloc (World.alloc w _) _=wb
 have HP0:=zh (Zmu hwb)
 clear hwb
 go_loopw [5] (fun pv wr=>∃ (L:Nat) (Ap:Option Addr) (cp:Nat),pv=.slice Ap L cp∧1≤L∧L≤9∧Hid (Pows w wr Ap L cp)) (fun pv _=>match pv with | .slice _ k _=>9 - k | _=>0)
 case atStart=>exact ⟨1,_,1,rfl,by omega,by omega,HP0⟩
 case round =>
  clear HP0
  obtain ⟨L,Ap,cp,rfl,hL1,hL7,hP⟩:=hrel
  obtain ⟨K,rfl⟩:∃ K,L=K + 1:=⟨L - 1,by omega⟩
  obtain ⟨vs,hvs,hV,hVb,hVe,hVn⟩:=hP.out
  obtain ⟨B,lb,cb,hb1,hb2⟩:=hVn K (by omega)
  obtain ⟨bp,rfl,hbp,hcp⟩:=hV.cell (i:=K) (by omega)
  rw [hb1] at hcp
  have hlb:=hb2.len0
  have hlb2:lb≤256:=by
   have h1:=ZfM K
   have:2 ^ K≤2 ^ 8:=Nat.pow_le_pow_right (by omega) (by omega)
   omega
  have hcap:=hV.len
  by_cases hgo:30 < xl∧2 * lb≤xl
  ·obtain ⟨hg1,hg2⟩:=hgo
   have hK6:K + 1 < 9:=by
    rcases Nat.lt_or_ge (K + 1) 9 with h | h
    ·exact h
    ·obtain rfl:K=8:=by omega
     have:=Zmv; omega
   have h32:wl (pw19 K)≤128:=by
    have h1:=ZfM K
    have:2 ^ K≤2 ^ 7:=Nat.pow_le_pow_right (by omega) (by omega)
    omega
   have HMul:=zh (ZcB _ _ (pw19 K) (pw19 K) wr hb2 hb2 (by omega) (by omega))
   rw [← Zg2] at HMul
   have HV:=zh hV
   have HVs:=zh hvs
   have HVb:=zh hVb
   have HVe:=zh hVe
   have HVn:=zh hVn
   clear hV hVb hVe hVn hb2 hlb hb1 hvs hP h32
   go_wp2_with fail
   refine HMul.out.mono ?_
   rintro e w1 ⟨v,rfl,hN1,hF1⟩
   obtain ⟨Bv,lv,cv,rfl⟩:=hN1.slice
   have HN1:=zh hN1
   have HF1:=zh hF1
   clear hN1 hF1 HMul
   go_wp2_with (at_builtin; refine Hid.out ?_)
   refine zh ?_
   refine Zc9 IsSl rfl _ _ _ rfl _ (.slice none 0 0) 24 Tryz.underlying311 ZkX rfl ⟨_,_,_,rfl⟩ (some ⟨bp,0,none⟩) (K + 1) 1 cp 1 ⟨w1.heap.size,0,none⟩ rfl rfl vs [.slice Bv lv cv] HVs.out rfl (HV.out.ext (HF1.out.alloc _)) ?_ ?_ ?_ (by simp only [maxLen]; omega) (by omega) ?_
   ·intro j u hu
    match j,hu with
    | 0,hu=>simp at hu; subst hu; rw [Lib.add_plain]; exact cell_of_row _ _ _ _ _ _ (heap_alloc_new w1 _)
   ·intro u hu; simp at hu; subst hu; rfl
   ·intro u hu; simp at hu; subst hu; exact ⟨_,_,_,rfl⟩
   intro A3 cap3 w3 hB3 hF3 hA3
   have HNew:=zh (Pows.next HVs.out HV.out HVb.out HVe.out HVn.out HF1.out HN1.out hB3 hF3 hA3)
   clear hB3 hF3 hA3
   go_wp2
   go_roundw
   case rel=>exact ⟨K + 2,A3,cap3,by rfl,by omega,by omega,HNew⟩
   case measure=>simp; omega
  ·have HC:=zh (ZiT (K + 1) A cap n x 0 l _ _ cp w0 wr (HE.out.trans hVe) HG.out HA.out (HX.out.ext hVe) HW.out hP.out.powsIs (by omega) (by omega) (Or.inl rfl) HN.out (HB.out.ext hVe) (by
    have:2 ^ (K + 1)≤2 ^ 9:=Nat.pow_le_pow_right (by omega) (by omega)
    omega))
   rw [HM.out] at HC
   have HVe:=zh hVe
   have hgo2:30 < xl→xl < 2 * lb:=fun h=>by omega
   clear hV hVb hVe hVn hb2 hlb hb1 hvs hP hgo
   by_cases hg1:30 < xl
   ·have hg2:=hgo2 hg1
    clear hgo2
    go_wp2_with fail
    refine HC.out.mono ?_
    intro e w2 h
    obtain ⟨A1,cap1,rfl,hR⟩:=h.mono rfl (HVe.out.mono (fun _ _ f=>f.elim)) (fun b hb=>Or.inl hb)
    have HR:=zh hR
    clear hR h
    go_wp2
    go_ret
    exact ⟨A1,cap1,rfl,HR.out⟩
   ·clear hgo2
    go_wp2_with fail
    refine HC.out.mono ?_
    intro e w2 h
    obtain ⟨A1,cap1,rfl,hR⟩:=h.mono rfl (HVe.out.mono (fun _ _ f=>f.elim)) (fun b hb=>Or.inl hb)
    have HR:=zh hR
    clear hR h
    go_wp2
    go_ret
    exact ⟨A1,cap1,rfl,HR.out⟩
theorem Zfl (A:Option Addr) (cap n x:Nat) (l:List UInt8) (xv:Value) (w0 w:World) (Q:Ext w0 w) (hg:Glob w0) (hx:Zad w0 xv x) (hW:Zbc x) (hn:l.length=n) (hB:TBuf w A cap l) (hA:Zb8 w0 A) (hl:n≤137438953472) :
 Calls Tryz.prog 232 #[.slice A n cap,xv] w (Zbx w A (l ++ Lib.decDigits x)):=by
 rcases Nat.eq_zero_or_pos x with h | h
 ·subst h; exact Zh2 A cap n l xv w (hx.ext Q) hn hB (by omega)
 ·rcases Nat.lt_or_ge x W64 with h2 | h2
  ·exact ZiB A cap n x l xv w (hg.ext Q) (hx.ext Q) h h2 hn hB (by omega)
  ·exact Zie A cap n x l xv w0 w Q hg hx hW h2 hn hB hA hl
end Go.Proofs.YtcpjeaaapocoeaaGreatDoor

namespace Go.Proofs.YtcpjeaaapocoeaaGreatDoor
open Go.RowKit Go.Sort
theorem TBuf.bytes {w:World} {A:Option Addr} {cap:Nat} {l:List UInt8} (h:TBuf w A cap l) (hl:l≠[]):∃ b,A=some ⟨b,0,none⟩∧∀ j (hj:j < l.length),w.cell? ((⟨b,0,none⟩:Addr).add j)=some (.int .u8 (l[j].toNat:Int)):=by
 rcases h with ⟨_,h,_⟩ | ⟨b,rfl,hO,_⟩
 ·simp [nats] at h; exact absurd h hl
 ·refine ⟨b,rfl,fun j hj=>?_⟩
  have:=hO.cell (i:=j) (by rw [Zaz]; exact hj)
  rw [Lib.add_plain,Nat.zero_add,this]
  simp [nats,hj]
theorem Zl1 (x:Int):Lib.itoa x≠[]:=by
 have h:∀ u,Lib.decDigits u≠[]:=fun u h=>by
  have h1:=Lib.decDigits_length u
  have h2:=Lib.nDigits_pos u
  rw [h] at h1; simp at h1; omega
 unfold Lib.itoa
 split
 ·simp
 ·exact h _
set_option maxHeartbeats 2000000 in
theorem Zgd (a:Value) (x:Int) (A:Option Addr) (cap n:Nat) (l:List UInt8) (w0 w:World) (Q:Ext w0 w) (hg:Glob w0) (ha:Zap w0 a x) (hx:Zbc x.natAbs) (hn:l.length=n) (hB:TBuf w A cap l) (hA:Zb8 w0 A) (hl:n≤137438953471) :
 Calls Tryz.prog 127 #[a, .slice A n cap] w (Zbx w A (l ++ Lib.itoa x)):=by
 obtain ⟨s,A2,l2,c2,rfl,hN,hz,h0⟩:=ha.open
 have HB:=zh hB
 have HN:=zh hn
 have HG:=zh hg
 have HX:=zh hx
 have HNx:=zh hN
 have HE:=zh Q
 have HA:=zh hA
 clear Q hA
 cases s with
 | false =>
   have he:Lib.itoa x=Lib.decDigits x.natAbs:=by
    simp [sg] at hz
    unfold Lib.itoa
    rw [if_neg (by omega)]
    congr 1; omega
   generalize hm:l ++ Lib.itoa x=m
   rw [he] at hm
   have HM:=zh hm
   clear hB hn hg hx hN ha hz h0 he hm
   go_enter Tryz.func127,Tryz.ntmps127
   go_wp2_with fail
   refine (Zfl A cap n _ l _ w0 _ (HE.out.alloc _) HG.out HNx.out HX.out HN.out (HB.out.ext ((Fr.refl _ _).alloc _)) HA.out (by omega)).mono ?_
   rw [HM.out]
   intro e w' h
   obtain ⟨A1,cap1,rfl,hB,hF,hA⟩:=h.mono rfl ((Fr.refl _ w).alloc _) (fun b hb=>Or.inl hb)
   have HB:=zh hB
   have HF:=zh hF
   have HA:=zh hA
   clear hB hF hA h
   go_wp2
   go_ret
   exact ⟨A1,cap1,rfl,HB.out,HF.out,HA.out⟩
 | true =>
   have he:Lib.itoa x=[45] ++ Lib.decDigits x.natAbs:=by
    have hne:x≠0:=fun e=>by simp [e] at h0
    simp [sg] at hz
    unfold Lib.itoa
    rw [if_pos (by omega)]
    rfl
   generalize hm:l ++ Lib.itoa x=m
   rw [he,← List.append_assoc] at hm
   have HM:=zh hm
   clear hB hn hg hx hN ha hz h0 he hm
   go_enter Tryz.func127,Tryz.ntmps127
   have hS:Zai .u8 ((w.alloc (.cells #[.bool true, .slice A2 l2 c2] 135)).alloc (.cells #[.int .u8 45] 5)) (some ⟨w.heap.size + 1,0,none⟩) (nats [45]):=by
    have h:=(Own.new (w.alloc (.cells #[.bool true, .slice A2 l2 c2] 135)) 5 .u8 [45] []).shows0
    have e:(w.alloc (.cells #[.bool true, .slice A2 l2 c2] 135)).heap.size=w.heap.size + 1:=by simp
    rw [e] at h
    exact h
   have HS:=zh hS
   clear hS
   go_wp2_with (at_builtin; refine Hid.out ?_)
   refine zh ?_
   refine ZaB rfl _ _ _ rfl _ .u8 1 Tryz.underlying37 Zcq A (some ⟨w.heap.size + 1,0,none⟩) n 1 cap 1 rfl rfl (nats l) (nats [45]) (by rw [Zaz]; exact HN.out) rfl (HB.out.ext (((Fr.refl _ _).alloc _).alloc _)) HS.out (by simp only [maxLen]; omega) (by omega) ?_
   intro A1 cap1 w2 hB1 hF1 hA1
   have hE1:Fr (Zah A) w w2:=(((Fr.refl _ _).alloc _).alloc _).trans hF1
   have hblk:Blk 135 w2 w.heap.size #[.bool true, .slice A2 l2 c2]:=((Blk.new w _ _).alloc _).fr hF1 (fun h=>by have:=HB.out.lt h; omega)
   obtain ⟨z0,z1,z2,z3⟩:=hblk.cell2
   have HB1:=zh hB1
   have HE1:=zh hE1
   have HA1:Hid (∀ b,Zah A1 b→Zah A b∨w.heap.size≤b):=fun b hb=>(hA1 b hb).imp id (fun h=>by simp at h; omega)
   clear hB1 hF1 hA1 hE1 hblk
   go_wp2_with fail
   refine (Zfl A1 cap1 (n + 1) _ (l ++ [45]) _ w0 _ (HA.out.ext HE.out HE1.out) HG.out HNx.out HX.out (by rw [List.length_append,HN.out]; rfl) (by show Buf _ _ _ _ _ (nats (l ++ [45])); rw [Zbu]; exact HB1.out) (HA.out.next HE.out HA1.out) (by omega)).mono ?_
   rw [HM.out]
   intro e w' h
   obtain ⟨A3,cap3,rfl,hB,hF,hA⟩:=h.mono rfl HE1.out HA1.out
   have HB:=zh hB
   have HF:=zh hF
   have HA:=zh hA
   clear hB hF hA h
   go_wp2
   go_ret
   exact ⟨A3,cap3,rfl,HB.out,HF.out,HA.out⟩
set_option maxHeartbeats 2000000 in
theorem Zmw (a:Value) (x:Int) (w:World) (hg:Glob w) (ha:Zap w a x) (hx:Zbc x.natAbs) :
 Calls Tryz.prog 126 #[a] w (RetV w (.string ⟨(Lib.itoa x).toArray⟩)):=by
 obtain ⟨s,A,l,c,rfl⟩:=ha.shape
 have HG:=zh hg
 have HI:=zh ha
 have HX:=zh hx
 have hne:=Zl1 x
 generalize hm:Lib.itoa x=m
 rw [hm] at hne
 have HM:=zh hm
 clear hg ha hx hm
 go_enter Tryz.func126,Tryz.ntmps126
 go_wp2_with fail
 refine (Zgd _ x none 0 0 [] w _ ((Fr.refl _ _).alloc _) HG.out HI.out HX.out rfl Buf.nil Zb8.nil (by omega)).mono ?_
 rw [HM.out,List.nil_append]
 rintro e w' ⟨A3,cap3,rfl,hB,hF,hA⟩
 obtain ⟨b,rfl,hc⟩:=TBuf.bytes hB hne
 have hcv:=run_convert_bytes_back (P:=Tryz.prog) w' 37 9 5 ⟨b,0,none⟩ cap3 m Tryz.underlying37 Tryz.underlying5 Tryz.underlying9 hc
 have HE:Hid (Ext w w'):=(Zb8.nil (w0:=w)).ext ((Fr.refl _ _).alloc _) hF
 clear hB hF hA hc hne
 go_wp2
 go_ret
 exact ⟨rfl,HE.out⟩
end Go.Proofs.YtcpjeaaapocoeaaGreatDoor

namespace Go.Proofs.YtcpjeaaapocoeaaGreatDoor
open Go.RowKit
end Go.Proofs.YtcpjeaaapocoeaaGreatDoor

namespace Go.Proofs.YtcpjeaaapocoeaaGreatDoor
open Go.RowKit
theorem Zhr {x:Int} (h:0≤x):Lib.itoa x=Lib.decDigits x.natAbs:=by
 unfold Lib.itoa
 rw [if_neg (by omega)]
 congr 1; omega
end Go.Proofs.YtcpjeaaapocoeaaGreatDoor

namespace Go.Proofs.YtcpjeaaapocoeaaGreatDoor
end Go.Proofs.YtcpjeaaapocoeaaGreatDoor

namespace Go.Proofs.YtcpjeaaapocoeaaGreatDoor
open Go.RowKit
theorem Zge {n:Nat} (h:10≤n):Lib.decDigits n=Lib.decDigits (n / 10) ++ [UInt8.ofNat (48 + n % 10)]:=by
 rw [Lib.decDigits,dif_neg (by omega)]
theorem Zd8 {n:Nat} (h:n < 10):Lib.decDigits n=[UInt8.ofNat (48 + n)]:=Lib.decDigits_one h
theorem Zel {n:Nat} (h:n < 10):(UInt8.ofNat (48 + n)).toNat=48 + n:=by
 rw [UInt8.toNat_ofNat']; omega
theorem ZhP {n:Nat} (h:n < 10):Zao (UInt8.ofNat (48 + n))=true:=by
 unfold Zao; rw [Zel h]; simp; omega
theorem ZeN:∀ n,(Lib.decDigits n).all Zao=true:=by
 intro n
 induction n using Nat.strongRecOn with
 | _ n ih =>
   rcases Nat.lt_or_ge n 10 with h | h
   ·rw [Zd8 h,List.all_cons,ZhP h]; rfl
   ·rw [Zge h,List.all_append,ih (n / 10) (by omega),List.all_cons,ZhP (Nat.mod_lt n (by omega:0 < 10))]; rfl
theorem Zhs:∀ n,Zaf (Lib.decDigits n)=n:=by
 intro n
 induction n using Nat.strongRecOn with
 | _ n ih =>
   rcases Nat.lt_or_ge n 10 with h | h
   ·rw [Zd8 h]; simp only [Zaf,List.foldl_cons,List.foldl_nil]; rw [Zel h]; omega
   ·rw [Zge h,Zei,ih (n / 10) (by omega),Zel (Nat.mod_lt n (by omega:0 < 10))]; omega
theorem Zd9:∀ n,0 < n→(Lib.decDigits n).head? ≠ some 48:=by
 intro n
 induction n using Nat.strongRecOn with
 | _ n ih =>
   intro h0
   rcases Nat.lt_or_ge n 10 with h | h
   ·rw [Zd8 h]
    intro e
    simp only [List.head?_cons,Option.some.injEq] at e
    have:=congrArg UInt8.toNat e
    rw [Zel h] at this
    simp at this; omega
   ·have h1:=ih (n / 10) (by omega) (by omega)
    rw [Zge h,List.head?_append]
    cases hc:(Lib.decDigits (n / 10)).head? with
    | none=>exact absurd (List.head?_eq_none_iff.1 hc) (ZbU _)
    | some c=>rw [hc] at h1; exact h1
theorem ZeB {p:UInt8→Bool} {l:List UInt8} (h:l.all p=true):l.takeWhile p=l∧l.dropWhile p=[]:=by
 induction l with
 | nil=>exact ⟨rfl,rfl⟩
 | cons x xs ih =>
   simp only [List.all_cons,Bool.and_eq_true] at h
   obtain ⟨h1,h2⟩:=ih h.2
   rw [List.takeWhile_cons,List.dropWhile_cons,h.1]
   simp [h1,h2]
theorem Zmx {l:List UInt8} (h:l.all Zao=true):ZaU l=(false,l):=by
 unfold ZaU
 rw [if_neg]
 intro e
 cases l with
 | nil=>cases e
 | cons x xs =>
   simp only [List.head?_cons,Option.some.injEq] at e
   subst e
   simp only [List.all_cons,Bool.and_eq_true] at h
   exact absurd h.1 (by decide)
theorem Zns (n:Nat):Za1 (Lib.decDigits n)=(false,Lib.decDigits n,[],true):=by
 obtain ⟨h1,h2⟩:=ZeB (ZeN n)
 unfold Za1
 rw [Zmx (ZeN n)]
 simp only []
 rw [h1,h2]
 rcases Nat.eq_zero_or_pos n with h0 | h0
 ·subst h0; rw [Zd8 (by omega)]; rfl
 ·have hne:Lib.decDigits n≠[48]:=fun e=>Zd9 n h0 (by rw [e]; rfl)
  rw [if_neg hne,if_neg (fun e=>e.elim (ZbU n) (Zd9 n h0)),if_pos rfl]
theorem Znt {n:Nat} (h:0 < n):Za1 ([45] ++ Lib.decDigits n)=(true,Lib.decDigits n,[],true):=by
 obtain ⟨h1,h2⟩:=ZeB (ZeN n)
 unfold Za1
 have e:ZaU ([45] ++ Lib.decDigits n)=(true,Lib.decDigits n):=rfl
 rw [e]
 simp only []
 rw [h1,h2]
 have hne:Lib.decDigits n≠[48]:=fun e=>Zd9 n h (by rw [e]; rfl)
 rw [if_neg hne,if_neg (fun e=>e.elim (ZbU n) (Zd9 n h)),if_pos rfl]
theorem Zgf {z:Int} (h:z < 0):Lib.itoa z=[45] ++ Lib.decDigits z.natAbs:=by
 unfold Lib.itoa
 rw [if_pos h]
 rfl
theorem Zmy (z:Int):Za1 (Lib.itoa z)=(decide (z < 0),Lib.decDigits z.natAbs,[],true):=by
 by_cases h:z < 0
 ·rw [Zgf h,Znt (by omega),decide_eq_true h]
 ·rw [Zhr (by omega),Zns,decide_eq_false h]
theorem Znu (z:Int):Za3 (Lib.itoa z)=some (z:Rat):=by
 unfold Za3
 rw [Zmy]
 simp only []
 rw [if_pos trivial,Zhs]
 congr 2
 unfold sg
 split
 ·rename_i h; have:=of_decide_eq_true h; omega
 ·rename_i h; have:¬ z < 0:=fun k=>h (decide_eq_true k); omega
end Go.Proofs.YtcpjeaaapocoeaaGreatDoor

namespace Go.Proofs.YtcpjeaaapocoeaaGreatDoor
open Go.RowKit
def Zan (q:Rat):List UInt8:=if q.den=1 then Lib.itoa q.num else Lib.itoa q.num ++ [47] ++ Lib.itoa (q.den:Int)
set_option maxHeartbeats 2000000 in
theorem ZkY (a:Value) (q:Rat) (w:World) (hg:Glob w) (ha:Zat w a q) (hn:Zbc q.num.natAbs) (hd:Zbc q.den) (h1:q.den≠1) (hl:(Lib.itoa q.num).length≤68719476736):Calls Tryz.prog 58 #[a] w (RetV w (.string ⟨(Zan q).toArray⟩)):=by
 obtain ⟨s,t,A,B,l,c,l',c',rfl,hIn,hId⟩:=ha
 have hdf:denF q=(q.den:Int):=by unfold denF; rw [if_neg h1]
 have hd0:¬ denF q=0:=fun h=>h1 (Zet.1 h)
 have HM:Hid (Zan q=Lib.itoa q.num ++ [47] ++ Lib.itoa (q.den:Int)):=by unfold Hid Zan; rw [if_neg h1]
 rw [hdf] at hId
 have HIn:=zh hIn
 have HId:=zh hId
 have HG:=zh hg
 have HPn:=zh hn
 have HPd:Hid (Zbc ((q.den:Int)).natAbs):=by unfold Hid; rw [Int.natAbs_natCast]; exact hd
 have hne:=Zl1 (q.den:Int)
 rw [hdf] at hd0
 generalize hm:Zan q=m at *
 have hmne:m≠[]:=by rw [HM.out]; simp
 generalize q.num=x at *
 generalize (q.den:Int)=y at *
 clear hg hn hd h1 hIn hId hdf hm hne
 go_enter Tryz.func58,Tryz.ntmps58
 go_wp2_with fail
 generalize hwb:World.alloc w _=wb
 obtain ⟨hB0,hE0⟩:=Blk.one hwb
 clear hwb
 refine (Zau _ y _ (HId.out.ext hE0)).mono ?_
 rw [decide_eq_false hd0]
 rintro e w1 ⟨rfl,hF1⟩
 have HB1:=zh (hB0.ext hF1)
 have HE1:=zh (hE0.trans hF1)
 obtain ⟨x0,x1,x2,x3,_,_,_,_⟩:=HB1.out.cell4
 clear hB0 hE0 hF1 hd0
 go_wp2_with fail
 refine (Zgd _ x none 0 0 [] w1 _ (Fr.refl _ _) (HG.out.ext HE1.out) (HIn.out.ext HE1.out) HPn.out rfl Buf.nil Zb8.nil (by omega)).mono ?_
 rw [List.nil_append]
 rintro e w2 ⟨A2,cap2,rfl,hT2,hF2,hA2⟩
 have hN2:Zb8 w1 A2:=(Zb8.nil (w0:=w1)).next (Fr.refl _ _) hA2
 have hE2:Ext w1 w2:=(Zb8.nil (w0:=w1)).ext (Fr.refl _ _) hF2
 have HT2:=zh hT2
 have HN2:=zh hN2
 have HE2:=zh hE2
 clear hT2 hF2 hA2 hN2 hE2 x0 x1 x2 x3
 obtain ⟨n,hnl⟩:∃ n,(Lib.itoa x).length=n:=⟨_,rfl⟩
 rw [hnl] at hl ⊢
 have HNL:=zh hnl
 clear hnl
 have HS:Hid (Zai .u8 (w2.alloc (.cells #[.int .u8 47] 5)) (some ⟨w2.heap.size,0,none⟩) (nats [47])):=(Own.new w2 5 .u8 [47] []).shows0
 go_wp2_with (at_builtin; refine Hid.out ?_)
 refine zh ?_
 refine ZaB rfl _ _ _ rfl _ .u8 1 Tryz.underlying37 Zcq A2 (some ⟨w2.heap.size,0,none⟩) n 1 cap2 1 rfl rfl (nats (Lib.itoa x)) (nats [47]) (by rw [Zaz]; exact HNL.out) rfl (HT2.out.ext ((Fr.refl _ _).alloc _)) HS.out (by simp only [maxLen]; omega) (by omega) ?_
 intro A3 cap3 w3 hB3 hF3 hA3
 have hE3:Ext w1 w3:=HN2.out.ext (HE2.out.alloc _) hF3
 have hN3:Zb8 w1 A3:=HN2.out.next (w:=w2) HE2.out (fun b hb=>(hA3 b hb).imp id (fun h=>by simp at h; omega))
 have hT3:TBuf w3 A3 cap3 (Lib.itoa x ++ [47]):=by show Buf _ _ _ _ _ (nats (Lib.itoa x ++ [47])); rw [Zbu]; exact hB3
 have HT3:=zh hT3
 have HN3:=zh hN3
 have HE3:=zh hE3
 have HB3:=zh (HB1.out.ext hE3)
 obtain ⟨x0,x1,x2,x3,_,_,_,_⟩:=HB3.out.cell4
 clear hB3 hF3 hA3 hE3 hN3 hT3
 go_wp2_with fail
 refine (Zgd _ y A3 cap3 (n + 1) (Lib.itoa x ++ [47]) w1 _ HE3.out (HG.out.ext HE1.out) (HId.out.ext HE1.out) HPd.out (by rw [List.length_append,HNL.out]; rfl) HT3.out HN3.out (by omega)).mono ?_
 rw [← HM.out]
 rintro e w4 ⟨A4,cap4,rfl,hT4,hF4,hA4⟩
 have HE4:Hid (Ext w w4):=HE1.out.trans (HN3.out.ext HE3.out hF4)
 obtain ⟨b,rfl,hc⟩:=TBuf.bytes hT4 hmne
 have hcv:=run_convert_bytes_back (P:=Tryz.prog) w4 37 9 5 ⟨b,0,none⟩ cap4 m Tryz.underlying37 Tryz.underlying5 Tryz.underlying9 hc
 clear hT4 hF4 hA4 hc hmne x0 x1 x2 x3
 go_wp2
 go_ret
 exact ⟨rfl,HE4.out⟩
end Go.Proofs.YtcpjeaaapocoeaaGreatDoor

namespace Go.Proofs.YtcpjeaaapocoeaaGreatDoor
open Go.RowKit
set_option maxHeartbeats 2000000 in
theorem ZcW (a b:Value) (x y:Int) (w:World) (ha:Zap w a x) (hb:Zap w b y) (hx:Fits x) (hy:wl y.natAbs < 80) (h0:y≠0):Calls Tryz.prog 122 #[a,b] w (Zbk w (x.tdiv y)):=by
 obtain ⟨s,A,l,c,rfl⟩:=ha.shape
 obtain ⟨t,B,l',c',rfl⟩:=hb.shape
 have HA:=zh ha
 have HB:=zh hb
 have HX:=zh hx
 have HY:=zh hy
 have H0:=zh h0
 clear ha hb hx hy h0
 go_enter Tryz.func122,Tryz.ntmps122
 go_wp2_with fail
 generalize hwb:World.alloc (World.alloc (World.alloc w _) _) _=wb
 obtain ⟨hB0,hB1,hB2,Q⟩:=Za6 hwb
 clear hwb
 refine (Za9 _ y _ (HB.out.ext Q)).mono ?_
 by_cases h1:y=1
 ·rw [decide_eq_true h1]
  rintro e w1 ⟨rfl,hF⟩
  have HE:=zh (Q.trans hF)
  have HB0:=zh (hB0.ext hF)
  have HB2:=zh (hB2.ext hF)
  have HQ:Hid (x.tdiv y=x):=by unfold Hid; rw [h1]; exact Int.tdiv_one x
  obtain ⟨x0,x1,_,_⟩:=HB0.out.cell2
  obtain ⟨y0,y1,y2,y3⟩:=HB2.out.cell2
  clear Q hF hB0 hB1 hB2 h1
  go_wp2
  refine ZnO rfl rfl (by omega) HE.out HB2.out (Fr.refl _ _) ?_
  rw [HQ.out]; exact HA.out.ext HE.out
 ·rw [decide_eq_false h1]
  rintro e w1 ⟨rfl,hF⟩
  have HE:=zh (Q.trans hF)
  have HB0:=zh (hB0.ext hF)
  have HB1:=zh (hB1.ext hF)
  have HB2:=zh (hB2.ext hF)
  obtain ⟨x0,x1,_,_⟩:=HB0.out.cell2
  obtain ⟨z0,z1,_,_⟩:=HB1.out.cell2
  clear Q hF hB0 hB1 hB2 h1
  go_wp2_with fail
  refine (Zmc _ _ x y _ (HA.out.ext HE.out) (HB.out.ext HE.out) HX.out HY.out H0.out).mono ?_
  rintro e w2 ⟨u1,u2,rfl,hN1,hN2,hF1⟩
  obtain ⟨s1,A1,l1,c1,rfl⟩:=hN1.shape
  obtain ⟨s2,A2,l2,c2,rfl⟩:=hN2.shape
  have HN1:=zh hN1
  have HE2:=zh (HE.out.trans hF1)
  have HB2':=zh (HB2.out.ext hF1)
  obtain ⟨y0,y1,y2,y3⟩:=HB2'.out.cell2
  have hlt1:=HB2'.out.lt
  have hlt2:=Nat.lt_succ_of_lt hlt1
  clear hN1 hN2 hF1 x0 x1 z0 z1
  go_wp2
  have hB:=(HB2'.out.set_ 0 (.bool s1)).set_ 1 (.slice A1 l1 c1)
  refine bodyPost_ret (ZcU rfl _ _ (w.heap.size + 1 + 1) _ _ rfl ((hB.alloc _).alloc _)) rfl ⟨_,rfl,?_,(((HE2.out.setCell (Or.inr (by simp; omega)) _).setCell (Or.inr (by simp; omega)) _).alloc _).alloc _⟩
  exact (HN1.out.store2 HB2'.out).ext (((Fr.refl _ _).alloc _).alloc _)
theorem ZiU {x y:Int} (hy:0 < y):((Int.gcd x y:Nat):Int)≠0:=by
 have:Int.gcd x y≠0:=fun h=>by rw [Int.gcd_eq_zero_iff] at h; omega
 omega
theorem ZiV {x y:Int} (hy:0 < y) (h:wl y.natAbs < 80):wl (((Int.gcd x y:Nat):Int)).natAbs < 80:=by
 have h1:Int.gcd x y≤y.natAbs:=Nat.gcd_le_right _ (by omega)
 have:=ZaS h1
 rw [Int.natAbs_natCast]
 omega
theorem Zif {x y:Int} (hy:0 < y):(Rat.divInt x y).num=x.tdiv (Int.gcd x y:Int)∧((Rat.divInt x y).den:Int)=y.tdiv (Int.gcd x y:Int):=by
 have hd1:(Int.gcd x y:Int) ∣ x:=Int.gcd_dvd_left _ _
 have hd2:(Int.gcd x y:Int) ∣ y:=Int.gcd_dvd_right _ _
 rw [Rat.num_divInt,Rat.den_divInt,if_neg (by omega),Int.sign_eq_one_of_pos hy,Int.one_mul,Int.gcd_comm y x,Int.tdiv_eq_ediv_of_dvd hd1,Int.tdiv_eq_ediv_of_dvd hd2]
 refine ⟨rfl,?_⟩
 rw [Int.natCast_ediv]
 congr 1
 omega
theorem ZdU {x y:Int} (hy:0 < y) (h:((Int.gcd x y:Nat):Int)=1):(Rat.divInt x y).num=x∧((Rat.divInt x y).den:Int)=y:=by
 have:=Zif (x:=x) hy
 rwa [h,Int.tdiv_one,Int.tdiv_one] at this
theorem Zea {x y:Int} (h:y=1):(Rat.divInt x y).num=x∧denF (Rat.divInt x y)=0:=by
 have h1:=ZdU (x:=x) (y:=y) (by omega) (by rw [h,Int.gcd_one]; rfl)
 refine ⟨h1.1,Zet.2 ?_⟩
 have:=h1.2
 omega
theorem ZkZ (a b:Value) (x y:Int) (w:World) (hgl:Glob w) (ha:Zap w a x) (hb:Zap w b y) (hfx:Fits x) (hfy:Fits y) (hgk:ZcL x y) (h80:wl y.natAbs < 80) (hy:y≠0) :
 Calls Tryz.prog 57 #[a,b] w (Zcu w (Rat.divInt x y)):=by
 obtain ⟨s0,A0,l0,c0,rfl⟩:=ha.shape
 obtain ⟨s1,A1,l1,c1,rfl⟩:=hb.shape
 refine ZaA (Φ:=fun w=>((Zap w (.agg #[.bool s0, .slice A0 l0 c0]) (x)∧Zap w (.agg #[.bool s1, .slice A1 l1 c1]) (y))∧Glob w)) Tryz.func57 rfl (by kernel_rfl) (fun w' hf=>⟨⟨ha.ext hf,hb.ext hf⟩,hgl.ext hf⟩) ?_
 refine Zac (Zab (xr 3 [(2, .p 2 0),(3, .p 3 0),(4, .p 4 0)] [bR4 4 142 false none 0 0 false none 0 0,bI2 3 135 s1 A1 l1 c1,bI2 2 135 s0 A0 l0 c0] ?_))
 refine xe (Zaa (Zac (Zac (Zab (xr 1 [(2, .p 2 0),(3, .p 3 0),(4, .p 4 0),eI2 6 s1 A1 l1 c1] [bR4 4 142 false none 0 0 false none 0 0,bI2 3 135 s1 A1 l1 c1,bI2 2 135 s0 A0 l0 c0] ?_)))))
 refine xc 55 [vI2 s1 A1 l1 c1] 7 (fun _:Unit=>.bool false) _ (fun w R Q=>(Zau _ (y) _ Q.1.2).mono (fun _ _ h=>Zae h (by rw [decide_eq_false (p:=(y)=0) hy]))) (fun xx=>?_)
 refine xr 2 [(2, .p 2 0),(3, .p 3 0),(4, .p 4 0),(8, .v (.bool false)),eI2 9 s0 A0 l0 c0] [bR4 4 142 false none 0 0 false none 0 0,bI2 3 135 s1 A1 l1 c1,bI2 2 135 s0 A0 l0 c0] ?_
 by_cases hz10:(x)=0
 ·refine xc 55 [vI2 s0 A0 l0 c0] 10 (fun _:Unit=>.bool true) _ (fun w R Q=>(Zau _ (x) _ Q.1.1.1).mono (fun _ _ h=>Zae h (by rw [decide_eq_true (p:=(x)=0) hz10]))) (fun xx=>?_)
  refine xr 1 [(2, .p 2 0),(3, .p 3 0),(4, .p 4 0),(11, .v (.bool true))] [bR4 4 142 false none 0 0 false none 0 0,bI2 3 135 s1 A1 l1 c1,bI2 2 135 s0 A0 l0 c0] ?_
  refine xe (Zaa (xa (Zac (Zab (xr 2 [(2, .p 2 0),(3, .p 3 0),(4, .p 4 0)] [bR4 4 142 false none 0 0 false none 0 0,bI2 3 135 s1 A1 l1 c1,bI2 2 135 s0 A0 l0 c0] ?_)))))
  refine xe (Zaa (Zas (Zar ?_)))
  refine Zam (v:=.agg #[.bool false, .slice none 0 0, .bool false, .slice none 0 0]) (by kernel_rfl) (fun w' R Q=>?_)
  exact ⟨_,rfl,by rw [hz10,Rat.zero_divInt]; exact Zat.nil _,R⟩
 ·refine xc 55 [vI2 s0 A0 l0 c0] 10 (fun _:Unit=>.bool false) _ (fun w R Q=>(Zau _ (x) _ Q.1.1.1).mono (fun _ _ h=>Zae h (by rw [decide_eq_false (p:=(x)=0) hz10]))) (fun xx=>?_)
  refine xr 1 [(2, .p 2 0),(3, .p 3 0),(4, .p 4 0),(11, .v (.bool false))] [bR4 4 142 false none 0 0 false none 0 0,bI2 3 135 s1 A1 l1 c1,bI2 2 135 s0 A0 l0 c0] ?_
  refine xe (Zaa (xb (Zax (Zaa (Zac (Zac (Zab (xr 1 [(2, .p 2 0),(3, .p 3 0),(4, .p 4 0),eI2 13 s1 A1 l1 c1] [bR4 4 142 false none 0 0 false none 0 0,bI2 3 135 s1 A1 l1 c1,bI2 2 135 s0 A0 l0 c0] ?_))))))))
  by_cases hs:y < 0
  ·have Hq:Rat.divInt (-(x)) (-(y))=Rat.divInt x y:=Rat.neg_divInt_neg _ _
   have HY:0 < -(y):=by omega
   have hfx':Fits (-(x)):=by unfold Fits; rw [Int.natAbs_neg]; exact hfx
   have hfy':Fits (-(y)):=by unfold Fits; rw [Int.natAbs_neg]; exact hfy
   have hgk':ZcL (-(x)) (-(y)):=by unfold ZcL; rw [Int.natAbs_neg,Int.natAbs_neg]; exact hgk
   have h80':wl (-(y)).natAbs < 80:=by rw [Int.natAbs_neg]; exact h80
   refine xc 119 [vI2 s1 A1 l1 c1] 14 (fun _:Unit=>.int .i64 (-1)) _ (fun w R Q=>(Zdx _ (y) _ Q.1.1.1.2).mono (fun _ _ h=>Zae h (by rw [Int.sign_eq_neg_one_of_neg hs]))) (fun xx=>?_)
   refine xr 1 [(2, .p 2 0),(3, .p 3 0),(4, .p 4 0),(15, .v (.bool true))] [bR4 4 142 false none 0 0 false none 0 0,bI2 3 135 s1 A1 l1 c1,bI2 2 135 s0 A0 l0 c0] ?_
   refine xe (Zaa (xa ?_))
   refine ZaI 6 (by kernel_rfl) (by kernel_rfl) Zaq ?_
   refine xf 1 [(2, .p 2 0),(3, .p 3 0),(4, .p 4 0),eI2 16 s0 A0 l0 c0] [bR4 4 142 false none 0 0 false none 0 0,bI2 3 135 s1 A1 l1 c1,bI2 2 135 s0 A0 l0 c0] ?_
   refine xd 56 [vI2 s0 A0 l0 c0] 17 Zav _ (fun w R Q=>(Zd2 _ (x) _ Q.1.1.1.1.1).mono (fun _ _=>Zak)) (fun xx=>?_)
   obtain ⟨s11,A11,l11,c11⟩:=xx
   refine xf 1 [(2, .p 2 0),(3, .p 3 0),(4, .p 4 0),eI2 17 s11 A11 l11 c11,eI2 18 s1 A1 l1 c1] [bR4 4 142 false none 0 0 false none 0 0,bI2 3 135 s1 A1 l1 c1,bI2 2 135 s0 A0 l0 c0] ?_
   refine xd 56 [vI2 s1 A1 l1 c1] 19 Zav _ (fun w R Q=>(Zd2 _ (y) _ Q.1.1.1.1.1.2).mono (fun _ _=>Zak)) (fun xx=>?_)
   obtain ⟨s12,A12,l12,c12⟩:=xx
   refine xf 2 [(2, .p 2 0),(3, .p 3 0),(4, .p 4 0)] [bI2 3 135 s12 A12 l12 c12,bI2 2 135 s11 A11 l11 c11,bR4 4 142 false none 0 0 false none 0 0,bI2 3 135 s1 A1 l1 c1,bI2 2 135 s0 A0 l0 c0] ?_
   refine xz (xe (Zaa (Zac (Zac (Zab (xr 1 [(2, .p 2 0),(3, .p 3 0),(4, .p 4 0),eI2 20 s12 A12 l12 c12] [bI2 3 135 s12 A12 l12 c12,bI2 2 135 s11 A11 l11 c11,bR4 4 142 false none 0 0 false none 0 0] ?_))))))
   by_cases hz13:(-(y))=1
   ·refine xc 120 [vI2 s12 A12 l12 c12] 21 (fun _:Unit=>.bool true) _ (fun w R Q=>(Za9 _ (-(y)) _ Q.2).mono (fun _ _ h=>Zae h (by rw [decide_eq_true (p:=(-(y))=1) hz13]))) (fun xx=>?_)
    refine xr 0 [(2, .p 2 0),(3, .p 3 0),(4, .p 4 0),(21, .v (.bool true))] [bI2 3 135 s12 A12 l12 c12,bI2 2 135 s11 A11 l11 c11,bR4 4 142 false none 0 0 false none 0 0] ?_
    refine xe (Zaa (xa (Zac (Zab (xr 3 [(2, .p 2 0),(3, .p 3 0),(4, .p 4 0)] [bI2 3 135 s12 A12 l12 c12,bI2 2 135 s11 A11 l11 c11,bR4 4 142 s11 A11 l11 c11 false none 0 0] ?_)))))
    refine xe (Zaa (Zas (Zar ?_)))
    refine Zam (v:=.agg #[.bool s11, .slice A11 l11 c11, .bool false, .slice none 0 0]) (by kernel_rfl) (fun w' R Q=>?_)
    exact ⟨_,rfl,Zat.of (by rw [← Hq,(Zea hz13).1]; exact Q.1.1.2) (by rw [← Hq,(Zea hz13).2]; exact (Zap.nil _)),R⟩
   ·refine xc 120 [vI2 s12 A12 l12 c12] 21 (fun _:Unit=>.bool false) _ (fun w R Q=>(Za9 _ (-(y)) _ Q.2).mono (fun _ _ h=>Zae h (by rw [decide_eq_false (p:=(-(y))=1) hz13]))) (fun xx=>?_)
    refine xr 0 [(2, .p 2 0),(3, .p 3 0),(4, .p 4 0),(21, .v (.bool false))] [bI2 3 135 s12 A12 l12 c12,bI2 2 135 s11 A11 l11 c11,bR4 4 142 false none 0 0 false none 0 0] ?_
    refine xe (Zaa (xb (Zax (Zaa (Zac (Zac (Zab (xr 2 [(2, .p 2 0),(3, .p 3 0),(4, .p 4 0),eI2 24 s11 A11 l11 c11,eI2 25 s12 A12 l12 c12] [bI2 3 135 s12 A12 l12 c12,bI2 2 135 s11 A11 l11 c11,bR4 4 142 false none 0 0 false none 0 0] ?_))))))))
    refine xc 121 [vI2 s11 A11 l11 c11,vI2 s12 A12 l12 c12] 26 Zav _ (fun w R Q=>(Zd4 _ _ (-(x)) (-(y)) _ Q.1.1.1.1.1.1.2 Q.1.1.2 Q.1.2 hfx' hfy' hgk').mono (fun _ _=>Zak)) (fun xx=>?_)
    obtain ⟨s14,A14,l14,c14⟩:=xx
    refine xr 2 [(2, .p 2 0),(3, .p 3 0),(4, .p 4 0),(5, .p 5 0)] [bI2 5 135 s14 A14 l14 c14,bI2 3 135 s12 A12 l12 c12,bI2 2 135 s11 A11 l11 c11,bR4 4 142 false none 0 0 false none 0 0] ?_
    refine xe (Zaa (Zac (Zab (xr 1 [(2, .p 2 0),(3, .p 3 0),(4, .p 4 0),(5, .p 5 0),eI2 27 s14 A14 l14 c14] [bI2 5 135 s14 A14 l14 c14,bI2 3 135 s12 A12 l12 c12,bI2 2 135 s11 A11 l11 c11,bR4 4 142 false none 0 0 false none 0 0] ?_))))
    by_cases hz15:(((Int.gcd (-(x)) (-(y)):Nat):Int))=1
    ·refine xc 120 [vI2 s14 A14 l14 c14] 28 (fun _:Unit=>.bool true) _ (fun w R Q=>(Za9 _ (((Int.gcd (-(x)) (-(y)):Nat):Int)) _ Q.2).mono (fun _ _ h=>Zae h (by rw [decide_eq_true (p:=(((Int.gcd (-(x)) (-(y)):Nat):Int))=1) hz15]))) (fun xx=>?_)
     refine xr 1 [(2, .p 2 0),(3, .p 3 0),(4, .p 4 0),(5, .p 5 0),(29, .v (.bool false))] [bI2 5 135 s14 A14 l14 c14,bI2 3 135 s12 A12 l12 c12,bI2 2 135 s11 A11 l11 c11,bR4 4 142 false none 0 0 false none 0 0] ?_
     refine xe (Zaa (xb (Zax (Zaa (Zac (Zab (xr 2 [(4, .p 4 0),eI2 36 s11 A11 l11 c11,eI2 37 s12 A12 l12 c12] [bR4 4 142 false none 0 0 false none 0 0] ?_)))))))
     refine xc 123 [vI2 s11 A11 l11 c11,vI2 s12 A12 l12 c12] 38 Zbf _ (fun w R Q=>(ZbO _ _ (-(x)) (-(y)) (Rat.divInt x y) _ Q.1.1.1.1.2 Q.1.1.1.2 (by rw [← Hq]; exact ZdU HY hz15)).mono (fun _ _=>ZaK)) (fun xx=>?_)
     obtain ⟨s16,A16,l16,c16,t16,B16,m16,d16⟩:=xx
     refine xr 1 [(4, .p 4 0)] [bR4 4 142 s16 A16 l16 c16 t16 B16 m16 d16] ?_
     refine xe (Zaa (Zas ?_))
     refine Zam (v:=.agg #[.bool s16, .slice A16 l16 c16, .bool t16, .slice B16 m16 d16]) (by kernel_rfl) (fun w' R Q=>?_)
     exact ⟨_,rfl,Q.2,R⟩
    ·refine xc 120 [vI2 s14 A14 l14 c14] 28 (fun _:Unit=>.bool false) _ (fun w R Q=>(Za9 _ (((Int.gcd (-(x)) (-(y)):Nat):Int)) _ Q.2).mono (fun _ _ h=>Zae h (by rw [decide_eq_false (p:=(((Int.gcd (-(x)) (-(y)):Nat):Int))=1) hz15]))) (fun xx=>?_)
     refine xr 1 [(2, .p 2 0),(3, .p 3 0),(4, .p 4 0),(5, .p 5 0),(29, .v (.bool true))] [bI2 5 135 s14 A14 l14 c14,bI2 3 135 s12 A12 l12 c12,bI2 2 135 s11 A11 l11 c11,bR4 4 142 false none 0 0 false none 0 0] ?_
     refine xe (Zaa (xa ?_))
     refine ZaI 8 (by kernel_rfl) (by kernel_rfl) Zaq ?_
     refine xf 2 [(2, .p 2 0),(3, .p 3 0),(4, .p 4 0),(5, .p 5 0),eI2 30 s11 A11 l11 c11,eI2 31 s14 A14 l14 c14] [bI2 5 135 s14 A14 l14 c14,bI2 3 135 s12 A12 l12 c12,bI2 2 135 s11 A11 l11 c11,bR4 4 142 false none 0 0 false none 0 0] ?_
     refine xd 122 [vI2 s11 A11 l11 c11,vI2 s14 A14 l14 c14] 32 Zav _ (fun w R Q=>(ZcW _ _ (-(x)) (((Int.gcd (-(x)) (-(y)):Nat):Int)) _ Q.1.1.1.1.2 Q.1.2 hfx' (ZiV HY h80') (ZiU HY)).mono (fun _ _=>Zak)) (fun xx=>?_)
     obtain ⟨s17,A17,l17,c17⟩:=xx
     refine xf 2 [(2, .p 2 0),(3, .p 3 0),(4, .p 4 0),eI2 32 s17 A17 l17 c17,eI2 33 s12 A12 l12 c12,eI2 34 s14 A14 l14 c14] [bI2 5 135 s14 A14 l14 c14,bI2 3 135 s12 A12 l12 c12,bI2 2 135 s11 A11 l11 c11,bR4 4 142 false none 0 0 false none 0 0] ?_
     refine xd 122 [vI2 s12 A12 l12 c12,vI2 s14 A14 l14 c14] 35 Zav _ (fun w R Q=>(ZcW _ _ (-(y)) (((Int.gcd (-(x)) (-(y)):Nat):Int)) _ Q.1.1.1.1.2 Q.1.1.2 hfy' (ZiV HY h80') (ZiU HY)).mono (fun _ _=>Zak)) (fun xx=>?_)
     obtain ⟨s18,A18,l18,c18⟩:=xx
     refine xf 2 [(2, .p 2 0),(3, .p 3 0),(4, .p 4 0)] [bI2 3 135 s18 A18 l18 c18,bI2 2 135 s17 A17 l17 c17,bI2 5 135 s14 A14 l14 c14,bI2 3 135 s12 A12 l12 c12,bI2 2 135 s11 A11 l11 c11,bR4 4 142 false none 0 0 false none 0 0] ?_
     refine xz (xe (Zaa (Zac (Zab (xr 2 [(4, .p 4 0),eI2 36 s17 A17 l17 c17,eI2 37 s18 A18 l18 c18] [bR4 4 142 false none 0 0 false none 0 0] ?_)))))
     refine xc 123 [vI2 s17 A17 l17 c17,vI2 s18 A18 l18 c18] 38 Zbf _ (fun w R Q=>(ZbO _ _ ((-(x)).tdiv (((Int.gcd (-(x)) (-(y)):Nat):Int))) ((-(y)).tdiv (((Int.gcd (-(x)) (-(y)):Nat):Int))) (Rat.divInt x y) _ Q.1.2 Q.2 (by rw [← Hq]; exact Zif HY)).mono (fun _ _=>ZaK)) (fun xx=>?_)
     obtain ⟨s19,A19,l19,c19,t19,B19,m19,d19⟩:=xx
     refine xr 1 [(4, .p 4 0)] [bR4 4 142 s19 A19 l19 c19 t19 B19 m19 d19] ?_
     refine xe (Zaa (Zas ?_))
     refine Zam (v:=.agg #[.bool s19, .slice A19 l19 c19, .bool t19, .slice B19 m19 d19]) (by kernel_rfl) (fun w' R Q=>?_)
     exact ⟨_,rfl,Q.2,R⟩
  ·have Hq:Rat.divInt (x) (y)=Rat.divInt x y:=rfl
   have HY:0 < y:=by omega
   have hfx':Fits (x):=hfx
   have hfy':Fits (y):=hfy
   have hgk':ZcL (x) (y):=hgk
   have h80':wl (y).natAbs < 80:=h80
   refine xc 119 [vI2 s1 A1 l1 c1] 14 (fun _:Unit=>.int .i64 1) _ (fun w R Q=>(Zdx _ (y) _ Q.1.1.1.2).mono (fun _ _ h=>Zae h (by rw [Int.sign_eq_one_of_pos (by omega)]))) (fun xx=>?_)
   refine xr 1 [(2, .p 2 0),(3, .p 3 0),(4, .p 4 0),(15, .v (.bool false))] [bR4 4 142 false none 0 0 false none 0 0,bI2 3 135 s1 A1 l1 c1,bI2 2 135 s0 A0 l0 c0] ?_
   refine xe (Zaa (xb (Zax (Zaa (Zac (Zac (Zab (xr 1 [(2, .p 2 0),(3, .p 3 0),(4, .p 4 0),eI2 20 s1 A1 l1 c1] [bR4 4 142 false none 0 0 false none 0 0,bI2 3 135 s1 A1 l1 c1,bI2 2 135 s0 A0 l0 c0] ?_))))))))
   by_cases hz20:(y)=1
   ·refine xc 120 [vI2 s1 A1 l1 c1] 21 (fun _:Unit=>.bool true) _ (fun w R Q=>(Za9 _ (y) _ Q.1.1.1.1.2).mono (fun _ _ h=>Zae h (by rw [decide_eq_true (p:=(y)=1) hz20]))) (fun xx=>?_)
    refine xr 0 [(2, .p 2 0),(3, .p 3 0),(4, .p 4 0),(21, .v (.bool true))] [bR4 4 142 false none 0 0 false none 0 0,bI2 3 135 s1 A1 l1 c1,bI2 2 135 s0 A0 l0 c0] ?_
    refine xe (Zaa (xa (Zac (Zab (xr 3 [(2, .p 2 0),(3, .p 3 0),(4, .p 4 0)] [bR4 4 142 s0 A0 l0 c0 false none 0 0,bI2 3 135 s1 A1 l1 c1,bI2 2 135 s0 A0 l0 c0] ?_)))))
    refine xe (Zaa (Zas (Zar ?_)))
    refine Zam (v:=.agg #[.bool s0, .slice A0 l0 c0, .bool false, .slice none 0 0]) (by kernel_rfl) (fun w' R Q=>?_)
    exact ⟨_,rfl,Zat.of (by rw [← Hq,(Zea hz20).1]; exact Q.1.1.1.1.1.1) (by rw [← Hq,(Zea hz20).2]; exact (Zap.nil _)),R⟩
   ·refine xc 120 [vI2 s1 A1 l1 c1] 21 (fun _:Unit=>.bool false) _ (fun w R Q=>(Za9 _ (y) _ Q.1.1.1.1.2).mono (fun _ _ h=>Zae h (by rw [decide_eq_false (p:=(y)=1) hz20]))) (fun xx=>?_)
    refine xr 0 [(2, .p 2 0),(3, .p 3 0),(4, .p 4 0),(21, .v (.bool false))] [bR4 4 142 false none 0 0 false none 0 0,bI2 3 135 s1 A1 l1 c1,bI2 2 135 s0 A0 l0 c0] ?_
    refine xe (Zaa (xb (Zax (Zaa (Zac (Zac (Zab (xr 2 [(2, .p 2 0),(3, .p 3 0),(4, .p 4 0),eI2 24 s0 A0 l0 c0,eI2 25 s1 A1 l1 c1] [bR4 4 142 false none 0 0 false none 0 0,bI2 3 135 s1 A1 l1 c1,bI2 2 135 s0 A0 l0 c0] ?_))))))))
    refine xc 121 [vI2 s0 A0 l0 c0,vI2 s1 A1 l1 c1] 26 Zav _ (fun w R Q=>(Zd4 _ _ (x) (y) _ Q.1.1.1.1.2 Q.1.1.1.1.1.1 Q.1.1.1.1.1.2 hfx' hfy' hgk').mono (fun _ _=>Zak)) (fun xx=>?_)
    obtain ⟨s21,A21,l21,c21⟩:=xx
    refine xr 2 [(2, .p 2 0),(3, .p 3 0),(4, .p 4 0),(5, .p 5 0)] [bI2 5 135 s21 A21 l21 c21,bR4 4 142 false none 0 0 false none 0 0,bI2 3 135 s1 A1 l1 c1,bI2 2 135 s0 A0 l0 c0] ?_
    refine xe (Zaa (Zac (Zab (xr 1 [(2, .p 2 0),(3, .p 3 0),(4, .p 4 0),(5, .p 5 0),eI2 27 s21 A21 l21 c21] [bI2 5 135 s21 A21 l21 c21,bR4 4 142 false none 0 0 false none 0 0,bI2 3 135 s1 A1 l1 c1,bI2 2 135 s0 A0 l0 c0] ?_))))
    by_cases hz22:(((Int.gcd (x) (y):Nat):Int))=1
    ·refine xc 120 [vI2 s21 A21 l21 c21] 28 (fun _:Unit=>.bool true) _ (fun w R Q=>(Za9 _ (((Int.gcd (x) (y):Nat):Int)) _ Q.2).mono (fun _ _ h=>Zae h (by rw [decide_eq_true (p:=(((Int.gcd (x) (y):Nat):Int))=1) hz22]))) (fun xx=>?_)
     refine xr 1 [(2, .p 2 0),(3, .p 3 0),(4, .p 4 0),(5, .p 5 0),(29, .v (.bool false))] [bI2 5 135 s21 A21 l21 c21,bR4 4 142 false none 0 0 false none 0 0,bI2 3 135 s1 A1 l1 c1,bI2 2 135 s0 A0 l0 c0] ?_
     refine xe (Zaa (xb (Zax (Zaa (Zac (Zab (xr 2 [(4, .p 4 0),eI2 36 s0 A0 l0 c0,eI2 37 s1 A1 l1 c1] [bR4 4 142 false none 0 0 false none 0 0] ?_)))))))
     refine xc 123 [vI2 s0 A0 l0 c0,vI2 s1 A1 l1 c1] 38 Zbf _ (fun w R Q=>(ZbO _ _ (x) (y) (Rat.divInt x y) _ Q.1.1.1.1.1.1.1.1 Q.1.1.1.1.1.1.1.2 (by rw [← Hq]; exact ZdU HY hz22)).mono (fun _ _=>ZaK)) (fun xx=>?_)
     obtain ⟨s23,A23,l23,c23,t23,B23,m23,d23⟩:=xx
     refine xr 1 [(4, .p 4 0)] [bR4 4 142 s23 A23 l23 c23 t23 B23 m23 d23] ?_
     refine xe (Zaa (Zas ?_))
     refine Zam (v:=.agg #[.bool s23, .slice A23 l23 c23, .bool t23, .slice B23 m23 d23]) (by kernel_rfl) (fun w' R Q=>?_)
     exact ⟨_,rfl,Q.2,R⟩
    ·refine xc 120 [vI2 s21 A21 l21 c21] 28 (fun _:Unit=>.bool false) _ (fun w R Q=>(Za9 _ (((Int.gcd (x) (y):Nat):Int)) _ Q.2).mono (fun _ _ h=>Zae h (by rw [decide_eq_false (p:=(((Int.gcd (x) (y):Nat):Int))=1) hz22]))) (fun xx=>?_)
     refine xr 1 [(2, .p 2 0),(3, .p 3 0),(4, .p 4 0),(5, .p 5 0),(29, .v (.bool true))] [bI2 5 135 s21 A21 l21 c21,bR4 4 142 false none 0 0 false none 0 0,bI2 3 135 s1 A1 l1 c1,bI2 2 135 s0 A0 l0 c0] ?_
     refine xe (Zaa (xa ?_))
     refine ZaI 8 (by kernel_rfl) (by kernel_rfl) Zaq ?_
     refine xf 2 [(2, .p 2 0),(3, .p 3 0),(4, .p 4 0),(5, .p 5 0),eI2 30 s0 A0 l0 c0,eI2 31 s21 A21 l21 c21] [bI2 5 135 s21 A21 l21 c21,bR4 4 142 false none 0 0 false none 0 0,bI2 3 135 s1 A1 l1 c1,bI2 2 135 s0 A0 l0 c0] ?_
     refine xd 122 [vI2 s0 A0 l0 c0,vI2 s21 A21 l21 c21] 32 Zav _ (fun w R Q=>(ZcW _ _ (x) (((Int.gcd (x) (y):Nat):Int)) _ Q.1.1.1.1.1.1.1.1 Q.1.2 hfx' (ZiV HY h80') (ZiU HY)).mono (fun _ _=>Zak)) (fun xx=>?_)
     obtain ⟨s24,A24,l24,c24⟩:=xx
     refine xf 2 [(2, .p 2 0),(3, .p 3 0),(4, .p 4 0),eI2 32 s24 A24 l24 c24,eI2 33 s1 A1 l1 c1,eI2 34 s21 A21 l21 c21] [bI2 5 135 s21 A21 l21 c21,bR4 4 142 false none 0 0 false none 0 0,bI2 3 135 s1 A1 l1 c1,bI2 2 135 s0 A0 l0 c0] ?_
     refine xd 122 [vI2 s1 A1 l1 c1,vI2 s21 A21 l21 c21] 35 Zav _ (fun w R Q=>(ZcW _ _ (y) (((Int.gcd (x) (y):Nat):Int)) _ Q.1.1.1.1.1.1.1.1.2 Q.1.1.2 hfy' (ZiV HY h80') (ZiU HY)).mono (fun _ _=>Zak)) (fun xx=>?_)
     obtain ⟨s25,A25,l25,c25⟩:=xx
     refine xf 2 [(2, .p 2 0),(3, .p 3 0),(4, .p 4 0)] [bI2 3 135 s25 A25 l25 c25,bI2 2 135 s24 A24 l24 c24,bI2 5 135 s21 A21 l21 c21,bR4 4 142 false none 0 0 false none 0 0,bI2 3 135 s1 A1 l1 c1,bI2 2 135 s0 A0 l0 c0] ?_
     refine xz (xe (Zaa (Zac (Zab (xr 2 [(4, .p 4 0),eI2 36 s24 A24 l24 c24,eI2 37 s25 A25 l25 c25] [bR4 4 142 false none 0 0 false none 0 0] ?_)))))
     refine xc 123 [vI2 s24 A24 l24 c24,vI2 s25 A25 l25 c25] 38 Zbf _ (fun w R Q=>(ZbO _ _ ((x).tdiv (((Int.gcd (x) (y):Nat):Int))) ((y).tdiv (((Int.gcd (x) (y):Nat):Int))) (Rat.divInt x y) _ Q.1.2 Q.2 (by rw [← Hq]; exact Zif HY)).mono (fun _ _=>ZaK)) (fun xx=>?_)
     obtain ⟨s26,A26,l26,c26,t26,B26,m26,d26⟩:=xx
     refine xr 1 [(4, .p 4 0)] [bR4 4 142 s26 A26 l26 c26 t26 B26 m26 d26] ?_
     refine xe (Zaa (Zas ?_))
     refine Zam (v:=.agg #[.bool s26, .slice A26 l26 c26, .bool t26, .slice B26 m26 d26]) (by kernel_rfl) (fun w' R Q=>?_)
     exact ⟨_,rfl,Q.2,R⟩
end Go.Proofs.YtcpjeaaapocoeaaGreatDoor

namespace Go.Proofs.YtcpjeaaapocoeaaGreatDoor
open Go.RowKit
theorem ZiW {c:UInt8} (h:Zao c=true):UInt8.ofNat (48 + (c.toNat - 48))=c:=by
 have:=Ze0 h
 apply UInt8.toNat.inj
 rw [UInt8.toNat_ofNat']
 have:=c.toNat_lt
 omega
theorem Zk0:∀ (k:Nat) (l:List UInt8),l.length=k→l.all Zao=true→l≠[]→l.head? ≠ some 48→Lib.decDigits (Zaf l)=l:=by
 intro k
 induction k with
 | zero=>intro l hl _ h0; exact absurd (List.length_eq_zero_iff.1 hl) h0
 | succ k ih =>
   intro l hl hd h0 h48
   obtain ⟨l',c,rfl⟩:∃ l' c,l=l' ++ [c]:=by
    rcases List.eq_nil_or_concat l with h | ⟨l',c,h⟩
    ·exact absurd h h0
    ·exact ⟨l',c,by simpa using h⟩
   rw [List.all_append,Bool.and_eq_true] at hd
   have hc:Zao c=true:=by simpa using hd.2
   have hcb:=Ze0 hc
   rw [Zei]
   by_cases hl0:l'=[]
   ·subst hl0
    have e:Zaf []=0:=rfl
    rw [e,Nat.mul_zero,Nat.zero_add,Zd8 (by omega),ZiW hc]; rfl
   ·have hh:l'.head? ≠ some 48:=by
     rw [List.head?_append] at h48
     cases hx:l'.head? with
     | none=>exact absurd (List.head?_eq_none_iff.1 hx) hl0
     | some x=>rw [hx] at h48; exact h48
    have h1:=ih l' (by simp at hl; exact hl) hd.1 hl0 hh
    have hp:=(Zf2 hd.1 hl0 hh).1
    rw [Zge (by omega),show (10 * Zaf l' + (c.toNat - 48)) / 10=Zaf l' by omega,show (10 * Zaf l' + (c.toNat - 48)) % 10=c.toNat - 48 by omega,h1,ZiW hc]
theorem ZlC (n:Nat):(Lib.decDigits n).head? ≠ some 45:=by
 intro e
 cases h:Lib.decDigits n with
 | nil=>exact ZbU n h
 | cons x xs =>
   rw [h] at e
   simp only [List.head?_cons,Option.some.injEq] at e
   subst e
   have:=ZeN n
   rw [h] at this
   simp only [List.all_cons,Bool.and_eq_true] at this
   exact absurd this.1 (by decide)
theorem Zjw {p:UInt8→Bool} {l r:List UInt8} {c:UInt8} (h:l.all p=true) (hc:p c=false):(l ++ c :: r).takeWhile p=l∧(l ++ c :: r).dropWhile p=c :: r:=by
 induction l with
 | nil=>simp [hc]
 | cons x xs ih =>
   simp only [List.all_cons,Bool.and_eq_true] at h
   obtain ⟨h1,h2⟩:=ih h.2
   rw [List.cons_append,List.takeWhile_cons,List.dropWhile_cons,h.1]
   simp [h1,h2]
theorem ZlD (z:Int) (r:List UInt8):ZaU (Lib.itoa z ++ r)=(decide (z < 0),Lib.decDigits z.natAbs ++ r):=by
 by_cases h:z < 0
 ·rw [Zgf h,decide_eq_true h]
  unfold ZaU
  rw [if_pos (by simp)]
  rfl
 ·rw [Zhr (by omega),decide_eq_false h]
  unfold ZaU
  rw [if_neg]
  intro e
  rw [List.head?_append] at e
  cases hx:(Lib.decDigits z.natAbs).head? with
  | none=>exact absurd (List.head?_eq_none_iff.1 hx) (ZbU _)
  | some c =>
    rw [hx] at e
    exact ZlC _ (hx.trans e)
theorem Zpm (z:Int):sg (decide (z < 0)) z.natAbs=z:=by
 unfold sg
 split
 ·rename_i h; have:=of_decide_eq_true h; omega
 ·rename_i h; have:¬ z < 0:=fun k=>h (decide_eq_true k); omega
theorem Zmz {q:Rat} (h:q.den=1):((q.num:Int):Rat)=q:=by
 apply Rat.ext<;>simp [h]
theorem Zpn {q:Rat} (h:q.den≠1):q.num≠0:=by
 intro e
 have:=q.reduced
 rw [e] at this
 simp [Nat.Coprime] at this
 exact h this
theorem Zig (n:Nat):Lib.itoa (n:Int)=Lib.decDigits n:=by
 rw [Zhr (by omega),Int.natAbs_natCast]
theorem ZmA {q:Rat} (h:q.den≠1):Za1 (Zan q)=(decide (q.num < 0),Lib.decDigits q.num.natAbs,Lib.decDigits q.den,true):=by
 have hn:=Zpn h
 have hd:=q.den_nz
 unfold Zan
 rw [if_neg h,Zig,List.append_assoc]
 unfold Za1
 rw [ZlD]
 simp only []
 obtain ⟨h1,h2⟩:=Zjw (p:=Zao) (r:=Lib.decDigits q.den) (c:=47) (ZeN q.num.natAbs) (by decide)
 have e:Lib.decDigits q.num.natAbs ++ ([47] ++ Lib.decDigits q.den)=Lib.decDigits q.num.natAbs ++ 47 :: Lib.decDigits q.den:=rfl
 rw [e,h1,h2]
 have hh:=Zd9 q.num.natAbs (by omega)
 rw [if_neg (fun e=>hh (by rw [e]; rfl)),if_neg (fun e=>e.elim (ZbU _) hh),if_neg (by simp),if_neg (by simp)]
 simp only [List.tail_cons]
 obtain ⟨h3,h4⟩:=ZeB (ZeN q.den)
 rw [h3,h4]
 have hh2:=Zd9 q.den (by omega)
 have h49:Lib.decDigits q.den≠[49]:=fun e=>by
  have:=Zhs q.den
  rw [e] at this
  exact h (by rw [← this]; rfl)
 have hne:=ZbU q.den
 simp [hh2,h49,hne]
theorem Znv (q:Rat):Za3 (Zan q)=some q:=by
 by_cases h:q.den=1
 ·unfold Zan
  rw [if_pos h,Znu,Zmz h]
 ·unfold Za3
  rw [ZmA h]
  simp only []
  rw [if_neg (ZbU _),Zhs,Zhs,if_pos q.reduced,Zpm,Rat.mkRat_self]
theorem ZjV {neg:Bool} {a:Nat} (h:a=0→neg=false):(sg neg a < 0 ↔ neg=true)∧(sg neg a).natAbs=a:=by
 cases neg with
 | false=>simp [sg]
 | true =>
   have:a≠0:=fun e=>by cases h e
   simp [sg]; omega
theorem Zl2 {neg:Bool} {a:Nat} (h:a=0→neg=false):Lib.itoa (sg neg a)=(if neg then [45] else []) ++ Lib.decDigits a:=by
 obtain ⟨h1,h2⟩:=ZjV h
 cases neg with
 | false=>rw [Zhr (by simp [sg]),h2]; rfl
 | true=>rw [Zgf (h1.2 rfl),h2]; rfl
theorem ZlE {l r:List UInt8} {neg:Bool} (h:ZaU l=(neg,r)):l=(if neg then [45] else []) ++ r:=by
 unfold ZaU at h
 split at h
 ·rename_i hh
  injection h with h1 h2
  subst h1 h2
  cases l with
  | nil=>cases hh
  | cons x xs=>simp at hh; subst hh; rfl
 ·injection h with h1 h2
  subst h1 h2
  rfl
theorem Zk1 {l:List UInt8} {q:Rat} (h:Za3 l=some q):Zan q=l:=by
 unfold Za3 at h
 cases hs:Za1 l with
 | mk neg r =>
   obtain ⟨num,den,ok⟩:=r
   rw [hs] at h
   cases ok with
   | false=>cases h
   | true =>
     simp only [] at h
     have hdg:=Zcn hs
     obtain ⟨s1,s2⟩:=ZeF hs
     cases hu:ZaU l with
     | mk neg' t =>
       have hl:=ZlE hu
       have htw:t.takeWhile Zao ++ t.dropWhile Zao=t:=List.takeWhile_append_dropWhile
       unfold Za1 at hs
       rw [hu] at hs
       simp only [] at hs
       split at hs
       ·-- zero
        rename_i h48
        injection hs with e1 hs; injection hs with e2 hs; injection hs with e3 e4
        subst e1 e2 e3
        simp at e4
        rw [if_pos rfl,h48] at h
        have hv:Zaf [48]=0:=rfl
        rw [hv] at h
        injection h with h
        rw [e4.1] at h hl
        rw [← h,hl,← htw,h48,e4.2]
        simp only [sg]
        unfold Zan
        rw [if_pos (by simp)]
        have:Lib.itoa ((0:Nat):Int)=[48]:=by rw [Zig,Zd8 (by omega)]; rfl
        simpa using this
       split at hs
       ·injection hs with _ hs; injection hs with _ hs; injection hs with _ hs; cases hs
       rename_i hn
       have hn1:t.takeWhile Zao≠[]:=fun e=>hn (Or.inl e)
       have hn2:(t.takeWhile Zao).head? ≠ some 48:=fun e=>hn (Or.inr e)
       have hdn:=Zk0 _ _ rfl (ZbF (p:=Zao) t) hn1 hn2
       split at hs
       ·rename_i hr
        injection hs with e1 hs; injection hs with e2 hs; injection hs with e3 _
        subst e1 e2 e3
        rw [if_pos rfl] at h
        injection h with h
        rw [← h]
        unfold Zan
        rw [if_pos (by simp)]
        have hnum:(((sg neg' (Zaf (t.takeWhile Zao)):Int)):Rat).num=sg neg' (Zaf (t.takeWhile Zao)):=rfl
        rw [hnum,Zl2 (fun e=>(s2 e).1),hdn,hl]
        rw [hr,List.append_nil] at htw
        rw [htw]
       split at hs
       ·injection hs with _ hs; injection hs with _ hs; injection hs with _ hs; cases hs
       ·rename_i hr h47
        injection hs with e1 hs; injection hs with e2 hs; injection hs with e3 e4
        subst e1 e2
        rw [e3] at e4
        simp at e4
        obtain ⟨⟨⟨k1,k2⟩,k3⟩,k4⟩:=e4
        rw [if_neg k2] at h
        split at h
        ·rename_i hg
         injection h with h
         have h2:=s1 k2
         have hq:q.num=sg neg' (Zaf (t.takeWhile Zao))∧q.den=Zaf den:=by
          have:=ZdU (x:=sg neg' (Zaf (t.takeWhile Zao))) (y:=(Zaf den:Int)) (by omega) (by
           unfold Int.gcd
           rw [(ZjV (fun e=>(s2 e).1)).2,Int.natAbs_natCast,hg]; rfl)
          rw [Rat.divInt_ofNat,h] at this
          exact ⟨this.1,by have:=this.2; omega⟩
         unfold Zan
         rw [if_neg (by rw [hq.2]; omega),hq.1,hq.2,Zl2 (fun e=>(s2 e).1),hdn,Zig,Zk0 _ _ rfl hdg.2.1 k2 k3,hl]
         have htail:t.dropWhile Zao=47 :: den:=by
          cases hx:t.dropWhile Zao with
          | nil=>exact absurd hx hr
          | cons c r =>
            rw [hx] at h47 k1 e3
            simp at h47 k1 e3
            subst h47
            have:=List.takeWhile_append_dropWhile (p:=Zao) (l:=r)
            rw [e3,k1,List.append_nil] at this
            rw [this]
         rw [htail] at htw
         rw [List.append_assoc,List.append_assoc]
         congr 1
        ·cases h
theorem Zof {l:List UInt8} {q:Rat}:Za3 l=some q ↔ Zan q=l :=
 ⟨Zk1,fun h=>by rw [← h]; exact Znv q⟩
end Go.Proofs.YtcpjeaaapocoeaaGreatDoor

namespace Go.Proofs.YtcpjeaaapocoeaaGreatDoor
open Go.RowKit
theorem Zog {q:Rat} (h:q.den≠1):denF q=(q.den:Int):=by unfold denF; rw [if_neg h]
set_option maxHeartbeats 1000000 in
theorem Zbt (a:Value) (q:Rat) (w:World) (ha:Zat w a q):Calls Tryz.prog 241 #[a] w (Zbk w (q.den:Int)):=by
 obtain ⟨s,t,A,B,l,c,l',c',rfl,hn,hd⟩:=ha
 have HD:=zh hd
 clear hn hd
 go_enter Tryz.func241,Tryz.ntmps241
 go_wp2_with fail
 generalize hwb:World.alloc (World.alloc w _) _=wb
 have hB0:Blk 142 wb w.heap.size #[.bool s, .slice A l c, .bool t, .slice B l' c']:=hwb ▸ (Blk.new _ _ _).alloc _
 have hB1:Blk 135 wb (w.heap.size + 1) #[.bool false, .slice none 0 0]:=by
  have h:=Blk.new (w.alloc (.cells #[.bool s, .slice A l c, .bool t, .slice B l' c'] 142)) 135 #[.bool false, .slice none 0 0]
  have e:(w.alloc (.cells #[.bool s, .slice A l c, .bool t, .slice B l' c'] 142)).heap.size=w.heap.size + 1:=by simp
  rw [e,hwb] at h
  exact h
 have Q:Ext w wb:=hwb ▸ ((Fr.refl _ _).alloc _).alloc _
 clear hwb
 by_cases h1:q.den=1
 ·have hz:=Zet.2 h1
  rw [hz] at HD
  refine (Zau _ _ _ (HD.out.ext Q)).mono ?_
  rw [decide_eq_true rfl]
  rintro e w1 ⟨rfl,hF⟩
  have HB1:=zh (hB1.ext hF)
  have HE:=zh (Q.trans hF)
  have HQ:Hid ((q.den:Int)=1):=by unfold Hid; omega
  clear hB0 hB1 Q hF hz h1
  go_wp2_with fail
  refine (Zjn 1 _ Zck rfl rfl).mono ?_
  rintro e w2 ⟨u2,rfl,hI2,hF2⟩
  obtain ⟨s2,B2,l2,c3,rfl⟩:=hI2.shape
  have hB2:=HB1.out.ext hF2
  obtain ⟨x0,x1,x2,x3⟩:=hB2.cell2
  have HB2:=zh hB2
  have HI2:=zh hI2
  have HE2:=zh (HE.out.trans hF2)
  clear hB2 hI2 hF2
  go_wp2
  refine ZkC rfl rfl ((HB2.out.set_ 0 _).set_ 1 _) (by rw [HQ.out]; exact HI2.out.store2 HB2.out) ((HE2.out.setCell (Or.inr (by show _≤w.heap.size + 1; omega)) _).setCell (Or.inr (by show _≤w.heap.size + 1; omega)) _)
 ·have hz:=Zog h1
  have hne:denF q≠0:=by rw [hz]; have:=q.den_nz; omega
  refine (Zau _ _ _ (HD.out.ext Q)).mono ?_
  rw [decide_eq_false hne]
  rintro e w1 ⟨rfl,hF⟩
  rw [hz] at HD
  have HI2:=zh (HD.out.ext (Q.trans hF))
  have HB1:=zh (hB1.ext hF)
  have HE:=zh (Q.trans hF)
  obtain ⟨y0,y1,y2,y3,y4⟩:=(hB0.ext hF).cell4
  obtain ⟨x0,x1,x2,x3⟩:=HB1.out.cell2
  clear hB0 hB1 Q hF hz h1 hne HD
  go_wp2
  exact ZkC rfl rfl ((HB1.out.set_ 0 _).set_ 1 _) (HI2.out.store2 HB1.out) ((HE.out.setCell (Or.inr (by show _≤w.heap.size + 1; omega)) _).setCell (Or.inr (by show _≤w.heap.size + 1; omega)) _)
noncomputable def valF (l:List UInt8):Rat:=(Za3 l).getD 0
set_option maxHeartbeats 1000000 in
theorem Zcb (s:ByteArray) (w:World) (hg:Glob w) (hok:Zct (bytes s)):Calls Tryz.prog 130 #[.string s] w (Zcu w (valF (bytes s))):=by
 have HG:=zh hg
 have HO:=zh hok
 clear hg hok
 go_enter Tryz.func130,Tryz.ntmps130
 go_wp2_with fail
 generalize hwb:World.alloc w _=wb
 obtain ⟨hB0,hE0⟩:=Blk.one hwb
 clear hwb
 refine (ZnY s _ (HG.out.ext hE0) HO.out).mono ?_
 rintro e w1 ⟨v,ok,rfl,hF1,hR⟩
 have hq:Zat w1 v (valF (bytes s)):=by
  unfold valF
  rcases hR with ⟨_,q,h1,h2⟩ | ⟨_,h1,h2⟩
  ·rw [h1]; exact h2
  ·rw [h1]; exact h2
 obtain ⟨a,b,A,B,l,c,l',c',rfl,hn,hd⟩:=hq
 have HB:=zh (hB0.ext hF1)
 have HE:=zh (hE0.trans hF1)
 have HN:=zh hn
 have HD:=zh hd
 have hlt:=(hB0.ext hF1).lt
 obtain ⟨y0,y1,y2,y3,y4,y5,y6,y7⟩:=(hB0.ext hF1).cell4
 clear hB0 hE0 hF1 hR hn hd
 generalize hr:w.heap.size=r at *
 have HR:=zh hr
 clear hr
 go_wp2
 have hB2:=HB.out.put4 (.bool a) (.slice A l c) (.bool b) (.slice B l' c')
 have hF2:Fr (fun i=>i=r) w1 ((((w1.setCell ⟨r,0,none⟩ (.bool a)).setCell ⟨r,1,none⟩ (.slice A l c)).setCell ⟨r,2,none⟩ (.bool b)).setCell ⟨r,3,none⟩ (.slice B l' c')):=Fr.set4 _ _ _ _
 refine Zjv rfl rfl (hB2.alloc _) ((HN.out.other HB.out Zbl hF2).ext ((Fr.refl _ _).alloc _)) ((HD.out.other HB.out Zbl hF2).ext ((Fr.refl _ _).alloc _)) ((Fr.local_ HE.out hF2 (by rw [HR.out]; exact Nat.le_refl _)).alloc _)
end Go.Proofs.YtcpjeaaapocoeaaGreatDoor
