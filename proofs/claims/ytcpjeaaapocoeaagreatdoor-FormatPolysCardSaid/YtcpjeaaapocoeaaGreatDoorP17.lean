/-
 My texts Gen, Small, Rat2, SxK, Sx8, Sx9, Sx12, Sx13, Sx14, Sx15, Sx16, Sx18, Mo, Sx19, Sx20, Bu, Wl, In, Sx21, Sx22, Sx23, Sx24, Bv, Sx25, Pd, Reduce, Frac, Ra, Sx17, Pw, Kar, Dvb, Dvc, Spl, Spl2, Print, Num6, Num7, RStr, Comb, CrtM, Fermat, DecR, Rt, Reduce2, Fm0 put together.
-/
import Derived.Test.YtcpjeaaapocoeaaGreatDoorP12
import Derived.Test.YtcpjeaaapocoeaaGreatDoorP14
import Derived.Test.YtcpjeaaapocoeaaGreatDoorP16
import Derived.Outline
import Derived.Test.YtcpjeaaapocoeaaGreatDoorP13
import Derived.Test.YtcpjeaaapocoeaaGreatDoorP01
import Derived.Deep.LoopGhost
import Derived.Test.YtcpjeaaapocoeaaGreatDoorP08
import Derived.Deep.DeepCutAuto
import Derived.Deep.RegionHeld3
import Derived.Laws.CopyOwn
import Derived.Maps.AppendAt
import Derived.Laws.MakeOwn
import Derived.Lib.Builder
import Derived.Shelf.Strings.Builder1
import Derived.Lib.Split
import Derived.Test.YtcpjeaaapocoeaaGreatDoorP15
import Derived.Test.YtcpjeaaapocoeaaGreatDoorP06
import Derived.Test.YtcpjeaaapocoeaaGreatDoorP03
import Derived.Test.YtcpjeaaapocoeaaGreatDoorP07
import Derived.Deep.RegionLaw
import Derived.Laws.IdiomStrings
import Derived.Deep.QuietTactic
import Derived.BigQuiet
import Derived.Deep.RegionWith
import Derived.Recover
import Derived.Defers
set_option maxRecDepth 100000
namespace Go.Proofs.YtcpjeaaapocoeaaGreatDoor
open Go.RowKit
theorem Zas:Tryz.prog.follows .mixedOrders=true:=by kernel_rfl
def Zky (cs:Array Value):Prop:=∀ (i:Nat) (k:IntKind) (z:Int),cs[i]? = some (.int k z)→k=.i64
theorem Zbr {s:Bool} {A:Option Addr} {l c:Nat}:Zky #[.bool s, .slice A l c]:=by
 intro i k z; rcases i with _ | _ | i<;>simp
theorem Zan.other {k:IntKind} {t:TypeId} {w w':World} {r:Nat} {A:Option Addr} {xs:List Nat} {cs:Array Value} (h:Zan k w A xs) (hk:k≠.i64) (hB:Blk t w r cs) (hc:Zky cs) (hF:Fr (fun i=>i=r) w w'):Zan k w' A xs:=by
 cases xs with
 | nil=>exact Zan.nil
 | cons x xs =>
   refine h.fr hF (fun ad hA hlt e=>?_)
   obtain ⟨g,off,e',_,hcl⟩:=h.at (i:=0) (by simp)
   rw [e'] at hA
   injection hA with hA
   subst hA
   simp at e
   subst e
   rw [hB.cell] at hcl
   exact hk (hc _ _ _ hcl)
theorem Zam.oth {t:TypeId} {w w':World} {r n:Nat} {u:Value} {cs:Array Value} (h:Zam w u n) (hB:Blk t w r cs) (hc:Zky cs) (hF:Fr (fun i=>i=r) w w'):Zam w' u n:=by
 obtain ⟨A',xs,c',h1,h2,h3,h4⟩:=h
 exact ⟨A',xs,c',h1,h2,h3.other (by decide) hB hc hF,h4⟩
theorem Zak.oth {t:TypeId} {w w':World} {r:Nat} {v:Value} {z:Int} {cs:Array Value} (h:Zak w v z) (hB:Blk t w r cs) (hc:Zky cs) (hF:Fr (fun i=>i=r) w w'):Zak w' v z:=by
 obtain ⟨s',u,n,h1,h2,h3⟩:=h
 exact ⟨s',u,n,h1,h2.oth hB hc hF,h3⟩
theorem Zak.shp {w:World} {v:Value} {z:Int} (h:Zak w v z):∃ (s:Bool) (A:Option Addr) (l c:Nat),v=.agg #[.bool s, .slice A l c]:=by
 obtain ⟨s,A,l,c,h,_⟩:=h.open
 exact ⟨s,A,l,c,h⟩
theorem Za4.shp {w:World} {v:Value} {z:Int} (h:Za4 w v z):∃ (s:Bool) (A:Option Addr) (l c:Nat),v=.agg #[.bool s, .slice A l c]:=h.shape
theorem Zak.nil (w:World):Zak w (.agg #[.bool false, .slice none 0 0]) 0:=⟨false,_,0,rfl,Zam.zero w,fun _=>rfl,rfl⟩
theorem Zbq.shp {w:World} {v:Value} {q:Rat} (h:Zbq w v q):∃ (s:Bool) (A:Option Addr) (l c:Nat) (t:Bool) (B:Option Addr) (l' c':Nat),v=.agg #[.bool s, .slice A l c, .bool t, .slice B l' c']:=by
 obtain ⟨s,t,A,B,l,c,l',c',h,_⟩:=h
 exact ⟨s,A,l,c,t,B,l',c',h⟩
theorem ZhU {a b c d a' b' c' d':Value} (h:Value.agg #[a,b,c,d]=.agg #[a',b',c',d']):a=a'∧b=b'∧c=c'∧d=d':=by
 injection h with h
 simpa using h
theorem Zbq.num {w:World} {a b c d:Value} {q:Rat} (h:Zbq w (.agg #[a,b,c,d]) q):Za4 w (.agg #[a,b]) q.num:=by
 obtain ⟨s,t,A,B,l,c,l',c',h,h1,h2⟩:=h
 obtain ⟨rfl,rfl,rfl,rfl⟩:=ZhU h
 exact h1
def ZaE (w:World) (v:Value) (q:Rat):Prop:=∃ (s t:Bool) (A B:Option Addr) (l c l' c':Nat),v=.agg #[.bool s, .slice A l c, .bool t, .slice B l' c']∧Zak w (.agg #[.bool s, .slice A l c]) q.num∧Zak w (.agg #[.bool t, .slice B l' c']) (denF q)
theorem ZaE.ext {w w':World} {v:Value} {q:Rat} (h:ZaE w v q) (hf:Ext w w'):ZaE w' v q:=by
 obtain ⟨s,t,A,B,l,c,l',c',h1,h2,h3⟩:=h
 exact ⟨s,t,A,B,l,c,l',c',h1,h2.ext hf,h3.ext hf⟩
theorem ZaE.shp {w:World} {v:Value} {q:Rat} (h:ZaE w v q):∃ (s:Bool) (A:Option Addr) (l c:Nat) (t:Bool) (B:Option Addr) (l' c':Nat),v=.agg #[.bool s, .slice A l c, .bool t, .slice B l' c']:=by
 obtain ⟨s,t,A,B,l,c,l',c',h,_⟩:=h
 exact ⟨s,A,l,c,t,B,l',c',h⟩
theorem ZaE.num {w:World} {a b c d:Value} {q:Rat} (h:ZaE w (.agg #[a,b,c,d]) q):Zak w (.agg #[a,b]) q.num:=by
 obtain ⟨s,t,A,B,l,c,l',c',h,h1,h2⟩:=h
 obtain ⟨rfl,rfl,rfl,rfl⟩:=ZhU h
 exact h1
theorem ZaE.den {w:World} {a b c d:Value} {q:Rat} (h:ZaE w (.agg #[a,b,c,d]) q):Zak w (.agg #[c,d]) (denF q):=by
 obtain ⟨s,t,A,B,l,c,l',c',h,h1,h2⟩:=h
 obtain ⟨rfl,rfl,rfl,rfl⟩:=ZhU h
 exact h2
theorem ZaE.of {w:World} {s t:Bool} {A B:Option Addr} {l c l' c':Nat} {q:Rat} (h1:Zak w (.agg #[.bool s, .slice A l c]) q.num) (h2:Zak w (.agg #[.bool t, .slice B l' c']) (denF q)):ZaE w (.agg #[.bool s, .slice A l c, .bool t, .slice B l' c']) q :=
 ⟨_,_,_,_,_,_,_,_,rfl,h1,h2⟩
def Zhc (w:World) (q:Rat) (e:Ending) (w':World):Prop:=∃ v,e=.returned v∧ZaE w' v q∧Ext w w'
theorem ZaE.nil (w:World):ZaE w (.agg #[.bool false, .slice none 0 0, .bool false, .slice none 0 0]) 0:=⟨_,_,_,_,_,_,_,_,rfl,Zak.nil w,Zak.nil w⟩
theorem Zcm {t0:TypeId} {w wb:World} {c0:Array Value} (h:w.alloc (.cells c0 t0)=wb):Blk t0 wb w.heap.size c0∧Ext w wb:=by
 subst h; exact ⟨Blk.new _ _ _,(Fr.refl _ _).alloc _⟩
theorem Zmv {t0 t1:TypeId} {w wb:World} {c0 c1:Array Value} (h:(w.alloc (.cells c0 t0)).alloc (.cells c1 t1)=wb):Blk t0 wb w.heap.size c0∧Blk t1 wb (w.heap.size + 1) c1∧Ext w wb:=by
 obtain ⟨b0,e0⟩:=Zcm (w:=w) (c0:=c0) (t0:=t0) rfl
 have e:(w.alloc (.cells c0 t0)).heap.size=w.heap.size + 1:=by simp
 obtain ⟨b1,e1⟩:=Zcm h
 rw [e] at b1
 exact ⟨b0.ext e1,b1,e0.trans e1⟩
theorem Zjm {t0 t1 t2:TypeId} {w wb:World} {c0 c1 c2:Array Value} (h:((w.alloc (.cells c0 t0)).alloc (.cells c1 t1)).alloc (.cells c2 t2)=wb):Blk t0 wb w.heap.size c0∧Blk t1 wb (w.heap.size + 1) c1∧Blk t2 wb (w.heap.size + 1 + 1) c2∧Ext w wb:=by
 obtain ⟨b0,b1,e0⟩:=Zmv (w:=w) (c0:=c0) (t0:=t0) (c1:=c1) (t1:=t1) rfl
 have e:((w.alloc (.cells c0 t0)).alloc (.cells c1 t1)).heap.size=w.heap.size + 1 + 1:=by simp
 obtain ⟨b2,e2⟩:=Zcm h
 rw [e] at b2
 exact ⟨b0.ext e2,b1.ext e2,b2,e0.trans e2⟩
theorem Zqr {t0 t1 t2 t3:TypeId} {w wb:World} {c0 c1 c2 c3:Array Value} (h:(((w.alloc (.cells c0 t0)).alloc (.cells c1 t1)).alloc (.cells c2 t2)).alloc (.cells c3 t3)=wb):Blk t0 wb w.heap.size c0∧Blk t1 wb (w.heap.size + 1) c1∧Blk t2 wb (w.heap.size + 1 + 1) c2∧Blk t3 wb (w.heap.size + 1 + 1 + 1) c3∧Ext w wb:=by
 obtain ⟨b0,b1,b2,e0⟩:=Zjm (w:=w) (c0:=c0) (t0:=t0) (c1:=c1) (t1:=t1) (c2:=c2) (t2:=t2) rfl
 have e:(((w.alloc (.cells c0 t0)).alloc (.cells c1 t1)).alloc (.cells c2 t2)).heap.size=w.heap.size + 1 + 1 + 1:=by simp
 obtain ⟨b3,e3⟩:=Zcm h
 rw [e] at b3
 exact ⟨b0.ext e3,b1.ext e3,b2.ext e3,b3,e0.trans e3⟩
theorem Blk.one' {t:TypeId} {w:World} {g:Nat} {cs:Array Value} {x:Value} (h:Blk t w g cs) (o:Nat) (hx:cs[o]? = some x):w.cell? ⟨g,o,none⟩=some x:=(h.cell o).trans hx
section
variable {ops:Array Oper} {S:World→Prop} {o:Oper} {a:Act} {p:Operand} {g off:Nat} {x y z u v:Value}
theorem ym (hw:Region.wanted o (yielded ops a.tmps)=true) (ho:o.op=Op.move p) (hp:a.eval p=v):YieldsIf Tryz.prog ops S o v a :=
 Or.inl ⟨hw,fun w _=>by simp only [execOp,ho,hp]; simp [go_sem]⟩
theorem Zjn (hw:Region.wanted o (yielded ops a.tmps)=true) (ho:o.op=Op.load 4 p) (hp:a.eval p=.pointer (some ⟨g,off,none⟩)) (hc:∀ w,S w→w.cell? ⟨g,off,none⟩=some x):YieldsIf Tryz.prog ops S o x a :=
 Or.inl ⟨hw,fun w hS=>by
  have h0:=hc w hS
  simp only [execOp,ho,hp]
  simp [go_sem,h0]⟩
theorem ZfI (hw:Region.wanted o (yielded ops a.tmps)=true) (ho:o.op=Op.fieldAddr 155 p 0) (hp:a.eval p=.pointer (some ⟨g,off,none⟩)):YieldsIf Tryz.prog ops S o (.pointer (some ⟨g,off,none⟩)) a :=
 Or.inl ⟨hw,fun w _=>by simp only [execOp,ho,hp]; simp [go_sem]⟩
theorem Zpv {b c:Bool} {q:Operand} (hw:Region.wanted o (yielded ops a.tmps)=true) (ho:o.op=Op.binOp .neq 4 p q 4) (hp:a.eval p=.bool b) (hq:a.eval q=.bool c):YieldsIf Tryz.prog ops S o (.bool (b != c)) a :=
 Or.inl ⟨hw,fun w _=>by simp only [execOp,ho,hp,hq]; simp [go_sem]; cases b<;>cases c<;>rfl⟩
end
end Go.Proofs.YtcpjeaaapocoeaaGreatDoor

namespace Go.Proofs.YtcpjeaaapocoeaaGreatDoor
open Go.RowKit
end Go.Proofs.YtcpjeaaapocoeaaGreatDoor

namespace Go.Proofs.YtcpjeaaapocoeaaGreatDoor
open Go.RowKit
end Go.Proofs.YtcpjeaaapocoeaaGreatDoor

namespace Go.Proofs.YtcpjeaaapocoeaaGreatDoor
open Go.RowKit
section
variable {S:Nat→Prop} {w w' w0:World} {k:IntKind} {A:Option Addr} {xs:List Nat}
theorem Zan.nrb (hk:k≠.i64) (h:Zan k w A xs) (hS:∀ i,S i→NRB w i) (hF:Fr S w w'):Zan k w' A xs:=by
 cases xs with
 | nil=>exact Zan.nil
 | cons x xs =>
   refine h.fr hF (fun ad hA hlt hs=>?_)
   obtain ⟨g,off,e',_,hcl⟩:=h.at (i:=0) (by simp)
   rw [e'] at hA
   injection hA with hA
   subst hA
   obtain ⟨t,cs,hB,hc⟩:=hS _ hs
   rw [hB.cell] at hcl
   exact hk (hc _ _ _ hcl)
theorem Zaq.nrb {u:Value} {n:Nat} (h:Zaq w u n) (hS:∀ i,S i→NRB w i) (hF:Fr S w w'):Zaq w' u n:=by
 obtain ⟨A',xs,c',h1,h2,h3,h4⟩:=h
 exact ⟨A',xs,c',h1,h2,h3.nrb (by decide) hS hF,h4⟩
theorem Za4.nrb {v:Value} {z:Int} (h:Za4 w v z) (hS:∀ i,S i→NRB w i) (hF:Fr S w w'):Za4 w' v z:=by
 obtain ⟨s',u,n,h1,h2,h3⟩:=h
 exact ⟨s',u,n,h1,h2.nrb hS hF,h3⟩
theorem Zbq.nrb {v:Value} {q:Rat} (h:Zbq w v q) (hS:∀ i,S i→NRB w i) (hF:Fr S w w'):Zbq w' v q:=by
 obtain ⟨s,t,A,B,l,c,l',c',h1,h2,h3⟩:=h
 exact ⟨s,t,A,B,l,c,l',c',h1,h2.nrb hS hF,h3.nrb hS hF⟩
theorem Zam.nrb {u:Value} {n:Nat} (h:Zam w u n) (hS:∀ i,S i→NRB w i) (hF:Fr S w w'):Zam w' u n:=by
 obtain ⟨A',xs,c',h1,h2,h3,h4⟩:=h
 exact ⟨A',xs,c',h1,h2,h3.nrb (by decide) hS hF,h4⟩
theorem Zak.nrb {v:Value} {z:Int} (h:Zak w v z) (hS:∀ i,S i→NRB w i) (hF:Fr S w w'):Zak w' v z:=by
 obtain ⟨s',u,n,h1,h2,h3⟩:=h
 exact ⟨s',u,n,h1,h2.nrb hS hF,h3⟩
theorem ZaE.nrb {v:Value} {q:Rat} (h:ZaE w v q) (hS:∀ i,S i→NRB w i) (hF:Fr S w w'):ZaE w' v q:=by
 obtain ⟨s,t,A,B,l,c,l',c',h1,h2,h3⟩:=h
 exact ⟨s,t,A,B,l,c,l',c',h1,h2.nrb hS hF,h3.nrb hS hF⟩
theorem NRB.ext {i:Nat} (h:NRB w i) (he:Ext w w'):NRB w' i:=by
 obtain ⟨t,cs,hB,hc⟩:=h
 exact ⟨t,cs,hB.ext he,hc⟩
theorem boxn {φ:World→Prop} (he:Ext w w') (h:∀ S w'',(∀ i,S i→NRB w' i)→Fr S w' w''→φ w''):BoxN w w' φ:=fun S hS w'' hf=>h S w'' (fun i hi=>(hS i hi).2.ext he) hf
end
abbrev ShI:=Bool × Option Addr × Nat × Nat
abbrev ShQ:=Bool × Option Addr × Nat × Nat × Bool × Option Addr × Nat × Nat
abbrev ShN:=Option Addr × Nat × Nat
def Zbz (x:ShI):Value:=.agg #[.bool x.1, .slice x.2.1 x.2.2.1 x.2.2.2]
def ZcL (x:ShQ):Value:=.agg #[.bool x.1, .slice x.2.1 x.2.2.1 x.2.2.2.1, .bool x.2.2.2.2.1, .slice x.2.2.2.2.2.1 x.2.2.2.2.2.2.1 x.2.2.2.2.2.2.2]
section
variable {w w':World} {e:Ending}
theorem ZhV {z:Int} (h:Zgq w z e w'):Zbh Zbz (fun x w=>Za4 w (Zbz x) z) w e w':=by
 obtain ⟨v,rfl,hI,Q⟩:=h
 obtain ⟨s,A,l,c,rfl⟩:=hI.shp
 exact ⟨(s,A,l,c),rfl,Q,boxn Q (fun S w'' hS hF=>hI.nrb hS hF)⟩
theorem ZeL {z:Int} (h:Zgs w z e w'):Zbh Zbz (fun x w=>Zak w (Zbz x) z) w e w':=by
 obtain ⟨v,rfl,hI,Q⟩:=h
 obtain ⟨s,A,l,c,rfl⟩:=hI.shp
 exact ⟨(s,A,l,c),rfl,Q,boxn Q (fun S w'' hS hF=>hI.nrb hS hF)⟩
theorem Zoj {q:Rat} (h:Zhc w q e w'):Zbh ZcL (fun x w=>ZaE w (ZcL x) q) w e w':=by
 obtain ⟨v,rfl,hI,Q⟩:=h
 obtain ⟨s,A,l,c,t,B,m,d,rfl⟩:=hI.shp
 exact ⟨(s,A,l,c,t,B,m,d),rfl,Q,boxn Q (fun S w'' hS hF=>hI.nrb hS hF)⟩
def Zgy (x:ShI × ShI):Value:=.tuple #[Zbz x.1,Zbz x.2]
theorem Zay {v u:Value} (h:e=.returned v∧Ext w w') (hv:v=u):Zbh (fun _:Unit=>u) (fun _ _=>True) w e w':=by
 obtain ⟨rfl,Q⟩:=h
 subst hv
 exact ⟨(),rfl,Q,BoxN.pure trivial⟩
end
end Go.Proofs.YtcpjeaaapocoeaaGreatDoor

namespace Go.Proofs.YtcpjeaaapocoeaaGreatDoor
open Go.RowKit
section
variable {N:Nat} {S0:Nat→Prop} {w0:World} {s s':St} {Φ Ψ Φ0:World→Prop} {L:Nat→Nat} {a:Act} {w:World} {P:Program} {ops:Array Oper} {Q:Exit→Act→World→Prop} {o:Oper}
theorem ZaM.of {sl:SlL} {bl:BlL} (h:(sl.map (fun q=>s.sl q.1),bl.map (fun q=>s.bl q.1))=(sl.map (fun q=>some q.2),bl.map (fun q=>some q.2))):ZaM s sl bl:=h
def Zp7 (N:Nat) (S0:Nat→Prop) (w0:World) (J:Nat→St→(World→Prop)→Prop) (n:Nat) (a:Act) (w:World):Prop:=∃ n' s' Φ' L',n' < n∧J n' s' Φ'∧Inv N S0 w0 s' Φ' L' a w
theorem ZbU {c:Code} (J:Nat→St→(World→Prop)→Prop) (n0:Nat) (h0:J n0 s Φ)
 (round:∀ n s Φ,J n s Φ→SXc P N S0 w0 (Exit.then (Zp7 N S0 w0 J n) Q) c s Φ):SXc P N S0 w0 Q (.loop c) s Φ:=fun L a w hi=>by
 refine wp_loop_ghost (fun n a w=>∃ s Φ L,J n s Φ∧Inv N S0 w0 s Φ L a w) n0 ⟨s,Φ,L,h0,hi⟩ ?_
 rintro n a w ⟨s,Φ,L,hJ,hi⟩
 refine wp_mono (round n s Φ hJ L a w hi) ?_
 intro e a' w' hq
 cases e with
 | normal =>
   obtain ⟨n',s',Φ',L',h1,h2,h3⟩:=hq
   exact ⟨n',h1,s',Φ',L',h2,h3⟩
 | exit id=>exact hq
 | goto l=>exact hq
 | ret=>exact hq
 | panic ch=>exact hq
 | outgrown=>exact hq
theorem Zbm {J:Nat→St→(World→Prop)→Prop} {n:Nat} (n':Nat) (hlt:n' < n) (h:J n' s Φ):SXq N S0 w0 (Exit.then (Zp7 N S0 w0 J n) Q .normal) s Φ:=fun _ _ _ hi=>⟨n',s,Φ,_,hlt,h,hi⟩
theorem Zk2 {x y:Code} (J:St→(World→Prop)→Prop) (h1:SXc P N S0 w0 (Exit.then (fun a w=>∃ s' Φ' L',J s' Φ'∧Inv N S0 w0 s' Φ' L' a w) Q) x s Φ) (h2:∀ s Φ,J s Φ→SXc P N S0 w0 Q y s Φ):SXc P N S0 w0 Q (.seq x y) s Φ:=fun L a w hi=>by
 refine wp_seq (wp_mono (h1 L a w hi) ?_)
 intro e a' w' hq
 cases e with
 | normal =>
   obtain ⟨s',Φ',L',h2',h3⟩:=hq
   exact h2 s' Φ' h2' L' a' w' h3
 | exit id=>exact hq
 | goto l=>exact hq
 | ret=>exact hq
 | panic ch=>exact hq
 | outgrown=>exact hq
theorem Zd0 {J:St→(World→Prop)→Prop} (h:J s Φ):SXq N S0 w0 (Exit.then (fun a w=>∃ s' Φ' L',J s' Φ'∧Inv N S0 w0 s' Φ' L' a w) Q .normal) s Φ:=fun _ _ _ hi=>⟨s,Φ,_,h,hi⟩
theorem Zhd {n i:Nat} (d:Nat) {α:Type} [hα:Nonempty α] (sh:α→Value) (φ:α→World→Prop) (hi:Nat.blt i n=true) (hm:cls (opAt ops i).op=2)
 (hw:s.wantB ops (opAt ops i)=some true) (hn:Zbw (opAt ops i).op=true) (hv:(opAt ops i).op.operands.toList.all s.vB=true) (hd:(opAt ops i).dst=some d) (hN:Nat.blt d N=true)
 (hdo:∀ w,Fr S0 w0 w→Φ w→Does P (opAt ops i) s.rho w (DoR sh φ w)) (K:∀ x,StI P N S0 w0 ops Φ0 Q n (i + 1) (s.put d (.v (sh x))) (fun w=>Φ w∧φ x w)):StI P N S0 w0 ops Φ0 Q n i s Φ:=by
 have hi':i < n:=Nat.le_of_ble_eq_true hi
 unfold StI
 rw [show n - i=(n - (i + 1)) + 1 by omega,List.range'_succ]
 exact .does hα sh φ hm hw hn hv hd (Nat.le_of_ble_eq_true hN) hdo K
end
end Go.Proofs.YtcpjeaaapocoeaaGreatDoor

namespace Go.Proofs.YtcpjeaaapocoeaaGreatDoor
open Go.RowKit
theorem ZfJ (x:ByteArray):(x.toList == x.toList)=true:=by simp
theorem ZiH {P:Program} {ρ:Operand→Value} {w:World} {t e:TypeId} {n sz:Nat} {z:Value} {parts:Array (Nat × Operand)} {cells:Array Value} (ht:P.underlying t=some (.slice e))
 (hinfo:(P.info? e).map (fun i=>(i.zero,i.size))=some (some z,sz)) (hn:Nat.ble (n * sz) 1000=true) (hn0:Nat.beq (n * sz) 0=false)
 (hf:Instr.fill (fun i=>some (i * sz,sz)) ((List.range (n * sz)).map (fun i=>z.cells[i % z.cells.size]!)).toArray (parts.toList.map fun q=>(q.1,ρ q.2))=some cells) :
 (Instr.buildSlice t n (parts.map fun q:Nat × Operand=>(q.1,ρ q.2))).run P w=.ok (.slice (some ⟨w.heap.size,0,none⟩) n n) (w.alloc (.cells cells e)):=by
 obtain ⟨i,hi,h1⟩:=Option.map_eq_some_iff.1 hinfo
 injection h1 with h1 h2
 have hn':=Nat.le_of_ble_eq_true hn
 have hn1:¬ n * sz=0:=fun h=>by rw [h] at hn0; cases hn0
 have hn2:¬ 2 ^ 24 < n * sz:=by omega
 have e1:(Array.range (n * sz)).map (fun i=>z.cells[i % z.cells.size]!)=((List.range (n * sz)).map (fun i=>z.cells[i % z.cells.size]!)).toArray:=by
  apply Array.ext'; simp
 have e2:(parts.map fun q:Nat × Operand=>(q.1,ρ q.2)).toList=parts.toList.map fun q=>(q.1,ρ q.2):=by simp
 unfold Instr.buildSlice
 simp [underlying,ht,sizeOf,typeInfo,hi,h2,zeroValue,h1,hn1,hn2,e1,hf,newRow,newObj,Result.andThen]
 rfl
theorem Zbs {P:Program} {o:Oper} {ρ:Operand→Value} {w:World} {t e:TypeId} {n sz:Nat} {z:Value} {parts:Array (Nat × Operand)} {cells:Array Value} (ho:o.op=Op.buildSlice t n parts) (ht:P.underlying t=some (.slice e))
 (hinfo:(P.info? e).map (fun i=>(i.zero,i.size))=some (some z,sz)) (hn:Nat.ble (n * sz) 1000=true) (hn0:Nat.beq (n * sz) 0=false)
 (hf:Instr.fill (fun i=>some (i * sz,sz)) ((List.range (n * sz)).map (fun i=>z.cells[i % z.cells.size]!)).toArray (parts.toList.map fun q=>(q.1,ρ q.2))=some cells) :
 Does P o ρ w (DoR (fun b:Nat=>.slice (some ⟨b,0,none⟩) n n) (fun b w=>Blk e w b cells) w):=by
 have hrun:=ZiH (w:=w) ht hinfo hn hn0 hf
 exact Or.inl ⟨_,_,by simp [execOp,ho,hrun,Result.andThen],w.heap.size,rfl,(Fr.refl _ w).alloc _,fun S hS w'' hF=>(Blk.new w e cells).fr hF (fun h=>by have:=(hS _ h).1; omega)⟩
theorem Zdb {P:Program} {o:Oper} {ρ:Operand→Value} {w:World} {t:TypeId} {x:Operand} {lo hi:Option Operand} {b r:ByteArray} (l h:Nat) (ho:o.op=Op.slice t x lo hi none) (ht:P.underlying t=some .string) (hx:ρ x=.string b)
 (hl:lo.map ρ=none∧l=0∨lo.map ρ=some (.int .i64 l)) (hh:hi.map ρ=none∧h=b.size∨hi.map ρ=some (.int .i64 h)) (h1:l≤h) (h2:h≤b.size) (hr:b.extract l h=r):(execOp ρ o).run P w=.ok (.value (.string r)) w:=by
 subst hr
 rcases hl with ⟨hl,rfl⟩ | hl<;>rcases hh with ⟨hh,rfl⟩ | hh <;>
  simp [execOp,ho,Instr.sliceAt,Instr.slice,Instr.sliceBounds,Instr.sliceBound,asIntOf,underlying,ht,hx,hl,hh,h1,h2,Result.andThen]
theorem Zni {P:Program} {o:Oper} {ρ:Operand→Value} {w:World} {t k:TypeId} {x y:Operand} {a b r:ByteArray} (ho:o.op=Op.binOp .add t x y k) (hx:ρ x=.string a) (hy:ρ y=.string b) (hs:a.size + b.size≤1099511627776) (hr:a ++ b=r):(execOp ρ o).run P w=.ok (.value (.string r)) w:=by
 have h:¬ ((a.size + b.size:Nat):Int) > IntKind.i64.max:=by
  have:IntKind.i64.max=9223372036854775807:=by decide
  rw [this]; omega
 simp only [execOp,ho,hx,hy,eqGuard,binOp,Op.stringOp,if_neg h,hr]
 rfl
end Go.Proofs.YtcpjeaaapocoeaaGreatDoor

namespace Go.Proofs.YtcpjeaaapocoeaaGreatDoor
open Go.RowKit
open Classical in
theorem Fr.split {A B:Nat→Prop} {w w2:World} (h:Fr (fun i=>A i∨B i) w w2):∃ w1,Fr A w w1∧Fr B w1 w2:=by
 have hg:∀ i,i < w2.heap.size→(w2.heap.mapIdx fun i o=>if A i∨w.heap.size≤i then o else (w.heap[i]?).getD o)[i]? = if A i∨w.heap.size≤i then w2.heap[i]? else w.heap[i]? := by
  intro i hi
  rw [Array.getElem?_mapIdx,Array.getElem?_eq_getElem hi]
  by_cases hc:A i∨w.heap.size≤i
  ·simp [hc]
  ·have hlt:i < w.heap.size:=by
    rcases Nat.lt_or_ge i w.heap.size with h' | h'
    ·exact h'
    ·exact absurd (Or.inr h') hc
   simp only [hc,Option.map_some,if_false,Array.getElem?_eq_getElem hlt,Option.getD_some]
 refine ⟨{ w2 with heap:=w2.heap.mapIdx fun i o=>if A i∨w.heap.size≤i then o else (w.heap[i]?).getD o },⟨h.os,h.tape,h.output,?_,fun i hi ha=>?_⟩,⟨rfl,rfl,rfl,?_,fun i hi hb=>?_⟩⟩
 ·simpa using h.size
 ·have h2:=hg i (Nat.lt_of_lt_of_le hi h.size)
  rw [if_neg (fun hc=>hc.elim ha (fun h'=>by omega))] at h2
  exact h2
 ·simp
 ·have hi2:i < w2.heap.size:=by simpa using hi
  have h2:=hg i hi2
  by_cases hc:A i∨w.heap.size≤i
  ·rw [if_pos hc] at h2; exact h2.symm
  ·rw [if_neg hc] at h2
   have hlt:i < w.heap.size:=by
    rcases Nat.lt_or_ge i w.heap.size with h' | h'
    ·exact h'
    ·exact absurd (Or.inr h') hc
   exact (h.block i hlt (fun h'=>h'.elim (fun ha=>hc (Or.inl ha)) hb)).trans h2.symm
section
variable {N:Nat} {S0:Nat→Prop} {w0:World} {s:St} {Φ Ψ:World→Prop} {L:Nat→Nat} {a:Act} {w:World} {P:Program} {ops:Array Oper} {Q:Exit→Act→World→Prop}
theorem Inv.notOwn (h:Inv N S0 w0 s Φ L a w) {r j:Nat} {c:Value} (hc:∀ w,Φ w→w.cell? ⟨r,j,none⟩=some c):¬ s.own L r:=fun ho=>by
 have h1:=hc w h.box.self
 have key:∀ u:Value,u≠c→False:=fun u hu=>by
  have h2:=hc (w.setCell ⟨r,j,none⟩ u) (h.box _ ((Fr.refl _ _).setCell (p:=⟨r,j,none⟩) (Or.inl ho) u))
  rw [World.cell?_setCell_same _ _ _ h1] at h2
  injection h2 with h2
  exact hu h2
 by_cases e:c=.bool true
 ·exact key (.bool false) (by rw [e]; intro h; cases h)
 ·exact key (.bool true) (fun h=>e h.symm)
theorem Inv.eff (h:Inv N S0 w0 s Φ L a w) {w':World} {r:Nat} (hF:Fr (fun i=>i=r) w w') (hr:¬ s.own L r) (hnew:w0.heap.size≤r∨S0 r) (hlt:r < w.heap.size)
 (hΨ:∀ w1 w2,Φ w1→Fr (fun i=>i=r) w1 w2→w2.heap[r]? = w'.heap[r]? → Ψ w2):Inv N S0 w0 s Ψ L a w':=by
 refine ⟨h.size,h.df,h.sl,⟨fun b t cs e=>(h.mem.blk b t cs e).fr hF (fun e'=>hr ⟨b,by rw [e]; rfl,e'⟩),h.mem.inj,h.mem.old,h.mem.ext.next hF (fun i hi e=>?_),h.mem.slp,h.mem.cel⟩,fun w2 hf=>?_⟩
 ·rcases hnew with h' | h'
  ·omega
  ·rw [e]; exact h'
 ·have h2:Fr (fun i=>s.own L i∨i=r) w w2:=(hF.mono (fun i _ e=>Or.inr e)).trans (hf.mono (fun i _ e=>Or.inl e))
  obtain ⟨w1,k1,k2⟩:=h2.split
  exact hΨ w1 w2 (h.box w1 k1) k2 (hf.block r (Nat.lt_of_lt_of_le hlt hF.size) hr)
end
def atA (A:Option Addr) (i:Nat):Value:=.pointer (A.map (·.add i))
section
variable {P:Program} {o:Oper} {ρ:Operand→Value} {w:World} {t e:TypeId} {x ix:Operand} {k:IntKind} {xs:List Nat}
theorem Zgz {g off:Nat} {c:Value} (hc:w.cell? ⟨g,off,none⟩=some c) (ho:o.op=Op.load t x:=by kernel_rfl) (hx:ρ x=.pointer (some ⟨g,off,none⟩):=by kernel_rfl) (ha:(teOf P t).map (fun e=>e.agg)=some false:=by kernel_rfl) :
 (execOp ρ o).run P w=.ok (.value c) w:=by
 obtain ⟨e,he,h1⟩:=Option.map_eq_some_iff.1 ha
 have:=Zfa (P:=P) (w:=w) he hc h1
 simp only [execOp,ho,hx,Sem.run_bind,this,Result.andThen_ok,Sem.run_pure]
theorem Zpw {A:Option Addr} {len cap l:Nat} {lo:Operand} (hle:l≤len) (ho:o.op=Op.slice t x (some lo) none none:=by kernel_rfl) (ht:P.underlying t=some (.slice e):=by kernel_rfl) (hs:(P.info? e).map (fun i=>i.size)=some 1:=by kernel_rfl)
 (hx:ρ x=.slice A len cap:=by kernel_rfl) (hl:ρ lo=.int .i64 ((l:Nat):Int):=by kernel_rfl):(execOp ρ o).run P w=.ok (.value (.slice (if cap=l then A else A.map (·.add l)) (len - l) (cap - l))) w:=by
 obtain ⟨inf,hinf,h1⟩:=Option.map_eq_some_iff.1 hs
 simp [execOp,ho,Instr.sliceAt,Instr.slice,Instr.sliceBounds,Instr.sliceBound,asIntOf,underlying,ht,hx,hl,hle,sizeOf,typeInfo,hinf,h1,Result.andThen]
end
end Go.Proofs.YtcpjeaaapocoeaaGreatDoor

namespace Go.Proofs.YtcpjeaaapocoeaaGreatDoor
open Go.RowKit
def ZfK (ops:Array Oper) (i k:Nat):List Nat:=((ops.toList.drop i).take k).filterMap (fun o=>o.dst)
def ZfL (l:List Nat) (sl:SlL):SlL:=sl.filter (fun q => !(l.any (Nat.beq q.1)))
def Zkz (nb:BlL) (bl:BlL):BlL:=bl.filter (fun q => !(nb.any (fun p=>Nat.beq p.1 q.1)))
section
variable {N:Nat} {S0:Nat→Prop} {w0:World} {sl:SlL} {bl:BlL} {Φ Φ0:World→Prop} {P:Program} {ops:Array Oper} {Q:Exit→Act→World→Prop}
theorem xq {i:Nat} (k:Nat) (nw:SlL) (nb:BlL) (K:SXi P N S0 w0 ops Q (i + k) (ofL (nw ++ ZfL (ZfK ops i k) sl) (nb ++ Zkz nb bl)) Φ)
 (h:Zip P N ops i k (ofL sl bl) (nw ++ ZfL (ZfK ops i k) sl) (nb ++ Zkz nb bl)=some ((nw ++ ZfL (ZfK ops i k) sl).map (fun q=>some q.2),(nb ++ Zkz nb bl).map (fun q=>some q.2)):=by kernel_rfl)
 (h2:wfB (nw ++ ZfL (ZfK ops i k) sl) (nb ++ Zkz nb bl)=true:=by kernel_rfl):SXi P N S0 w0 ops Q i (ofL sl bl) Φ:=Zn1 k _ _ h h2 K
theorem xqg {n i:Nat} (k:Nat) (nw:SlL) (K:StI P N S0 w0 ops Φ0 Q n (i + k) (ofL (nw ++ ZfL (ZfK ops i k) sl) bl) Φ)
 (h:Zg6 P N ops k i (ofL sl bl) (nw ++ ZfL (ZfK ops i k) sl)=some ((nw ++ ZfL (ZfK ops i k) sl).map (fun q=>some q.2),ZcZ bl):=by kernel_rfl) (hk:Nat.ble (i + k) n=true:=by kernel_rfl):StI P N S0 w0 ops Φ0 Q n i (ofL sl bl) Φ:=Zn7 k _ _ h hk K
theorem xqc {i:Nat} (f:FuncId) (args:List Value) (d:Nat) {α:Type} (sh:α→Value) (φ:α→World→Prop) (hC:∀ w,Fr S0 w0 w→Φ w→Calls P f args.toArray w (Zbh sh φ w)) (K:∀ x,SXi P N S0 w0 ops Q (i + 1) (ofL ((d, .v (sh x)) :: sl) bl) (fun w=>Φ w∧φ x w))
 (hsz:Nat.blt i ops.size=true:=by kernel_rfl) (h:Zb5 P N ops (opAt ops i) (ofL sl bl)=some (f,args,d):=by kernel_rfl):SXi P N S0 w0 ops Q i (ofL sl bl) Φ:=Zmo f args d sh φ hsz h hC K
theorem xqd {n i:Nat} (f:FuncId) (args:List Value) (d:Nat) {α:Type} [hα:Nonempty α] (sh:α→Value) (φ:α→World→Prop) (hC:∀ w,Fr S0 w0 w→Φ w→Calls P f args.toArray w (Zbh sh φ w)) (K:∀ x,StI P N S0 w0 ops Φ0 Q n (i + 1) (ofL ((d, .v (sh x)) :: sl) bl) (fun w=>Φ w∧φ x w))
 (hi:Nat.blt i n=true:=by kernel_rfl) (hm:cls (opAt ops i).op=2:=by kernel_rfl) (h:Zb5 P N ops (opAt ops i) (ofL sl bl)=some (f,args,d):=by kernel_rfl):StI P N S0 w0 ops Φ0 Q n i (ofL sl bl) Φ:=Zmq f args d sh φ hi hm h hC K
theorem xqk {i:Nat} (d:Nat) (y:Value) (hx:∀ w,Fr S0 w0 w→Φ w→(execOp (ofL sl bl).rho (opAt ops i)).run P w=.ok (.value y) w) (K:SXi P N S0 w0 ops Q (i + 1) (ofL ((d, .v y) :: sl) bl) Φ)
 (hi:Nat.blt i ops.size=true:=by kernel_rfl) (hs:Zbw (opAt ops i).op=true:=by kernel_rfl) (hw:(ofL sl bl).wantB ops (opAt ops i)=some true:=by kernel_rfl) (hv:(opAt ops i).op.operands.toList.all (ofL sl bl).vB=true:=by kernel_rfl) (hd:(opAt ops i).dst=some d:=by kernel_rfl) (hN:Nat.blt d N=true:=by kernel_rfl):SXi P N S0 w0 ops Q i (ofL sl bl) Φ :=
 ZcW d y hi hs hw hv hd hN hx K
theorem xqj {n i:Nat} (d:Nat) (y:Value) (hx:∀ w,Φ0 w→(execOp (ofL sl bl).rho (opAt ops i)).run P w=.ok (.value y) w) (K:StI P N S0 w0 ops Φ0 Q n (i + 1) (ofL ((d, .v y) :: sl) bl) Φ)
 (hi:Nat.blt i n=true:=by kernel_rfl) (hk:Zis (opAt ops i).op=true:=by kernel_rfl) (hw:(ofL sl bl).wantB ops (opAt ops i)=some true:=by kernel_rfl) (hv:(opAt ops i).op.operands.toList.all (ofL sl bl).vB=true:=by kernel_rfl) (hd:(opAt ops i).dst=some d:=by kernel_rfl) (hN:Nat.blt d N=true:=by kernel_rfl):StI P N S0 w0 ops Φ0 Q n i (ofL sl bl) Φ :=
 Zmr d y hi hk hw hv hd hN hx K
end
end Go.Proofs.YtcpjeaaapocoeaaGreatDoor

namespace Go.Proofs.YtcpjeaaapocoeaaGreatDoor
open Go.RowKit
section
variable {N:Nat} {S0:Nat→Prop} {w0:World} {s:St} {Φ Ψ:World→Prop} {L:Nat→Nat} {a:Act} {w:World} {P:Program} {ops:Array Oper} {Q:Exit→Act→World→Prop}
end
end Go.Proofs.YtcpjeaaapocoeaaGreatDoor

namespace Go.Proofs.YtcpjeaaapocoeaaGreatDoor
open Go.RowKit
def frz (b g:Nat):AV→AV
 | .v x=>.v x
 | .p b' off=>bif Nat.beq b' b then .v (.pointer (some ⟨g,off,none⟩)) else .p b' off
theorem Zpx (L:Nat→Nat) (b:Nat) (x:AV):(frz b (L b) x).conc L=x.conc L:=by
 cases x with
 | v x=>rfl
 | p b' off =>
   show (bif Nat.beq b' b then AV.v (.pointer (some ⟨L b,off,none⟩)) else .p b' off).conc L=_
   cases h:Nat.beq b' b with
   | true =>
     have e:=Nat.eq_of_beq_eq_true h
     subst e
     rfl
   | false=>rfl
section
variable {N:Nat} {S0:Nat→Prop} {w0:World} {s:St} {Φ:World→Prop} {P:Program} {Q:Exit→Act→World→Prop}
end
end Go.Proofs.YtcpjeaaapocoeaaGreatDoor

namespace Go.Proofs.YtcpjeaaapocoeaaGreatDoor
open Go.RowKit
section
variable {N:Nat} {S0:Nat→Prop} {w0:World} {s:St} {Φ Ψ:World→Prop} {L:Nat→Nat} {a:Act} {w:World} {P:Program} {ops:Array Oper} {Q:Exit→Act→World→Prop}
end
end Go.Proofs.YtcpjeaaapocoeaaGreatDoor

namespace Go.Proofs.YtcpjeaaapocoeaaGreatDoor
open Go.RowKit
section
variable {N:Nat} {S0:Nat→Prop} {w0:World} {s:St} {Φ Ψ:World→Prop} {L:Nat→Nat} {a:Act} {w:World} {P:Program} {ops:Array Oper} {Q:Exit→Act→World→Prop}
theorem Zq2 {c:Code} {sl:SlL} {tmps:Array Value} (hN:tmps.size=N) (hs:sl.map (fun q=>tmps[q.1]?.map AV.v)=sl.map (fun q=>some q.2)) (R:Box (fun _=>False) w Φ) (h:SXc P N S0 w Q c (ofL sl []) Φ):c.wp P Q { tmps:=tmps,defers:=[] } w:=by
 refine h (fun _=>0) _ w ⟨hN,rfl,fun i x hx=>?_,⟨fun b t cs e=>(by cases e),fun b c e=>(by cases e),fun b e=>(by cases e),Fr.refl _ _,fun i b off e=>?_,fun b t cs e=>(by cases e)⟩,?_⟩
 ·have h1:=Zco (f:=fun q:Nat × AV=>tmps[q.1]?.map AV.v) (g:=fun q=>some q.2) hs (Za9 hx)
  obtain ⟨v,hv,rfl⟩:=Option.map_eq_some_iff.1 h1
  exact hv
 ·have h1:=Zco (f:=fun q:Nat × AV=>tmps[q.1]?.map AV.v) (g:=fun q=>some q.2) hs (Za9 e)
  obtain ⟨v,hv,e'⟩:=Option.map_eq_some_iff.1 h1
  cases e'
 ·intro w' hf'
  exact R w' (hf'.mono (fun i _ h'=>by obtain ⟨b,e,_⟩:=h'; cases e))
end
end Go.Proofs.YtcpjeaaapocoeaaGreatDoor

namespace Go.Proofs.YtcpjeaaapocoeaaGreatDoor
open Go.RowKit
abbrev nth (zs:List Int) (i:Nat):Int:=zs[i]?.getD 0
def IRow (w:World) (A:Option Addr) (zs:List Int):Prop:=∀ i,i < zs.length→∃ b off,A=some ⟨b,off,none⟩∧b < w.heap.size∧w.cell? ⟨b,off + i,none⟩=some (.int .i64 (nth zs i))
theorem IRow.ext {w w':World} {A:Option Addr} {zs:List Int} (h:IRow w A zs) (hf:Ext w w'):IRow w' A zs:=fun i hi=>by
 obtain ⟨b,off,e,hb,hc⟩:=h i hi
 exact ⟨b,off,e,Nat.lt_of_lt_of_le hb hf.size,(hf.cell (p:=⟨b,off + i,none⟩) hb (fun f=>f)).trans hc⟩
def sumT (zs:List Int):Nat→Int
 | 0=>0
 | k + 1=>sumT zs k + nth zs k
def Zel (zs:List Int):Prop:=zs.length≤6∧∀ i,0≤nth zs i∧nth zs i≤1048576
theorem Zjo {zs:List Int} (h:∀ i,0≤nth zs i∧nth zs i≤1048576) (k:Nat):0≤sumT zs k∧sumT zs k≤1048576 * k:=by
 induction k with
 | zero=>simp [sumT]
 | succ k ih=>have:=h k; unfold sumT; omega
def cmpF (a b:Int):Int:=if a < b then -1 else if b < a then 1 else 0
def ordL (zs ys:List Int):Nat→Int
 | 0=>0
 | k + 1=>if nth zs k=nth ys k then ordL zs ys k else cmpF (nth ys k) (nth zs k)
def ordF (zs ys:List Int):Int:=if sumT zs zs.length=sumT ys ys.length then ordL zs ys zs.length else cmpF (sumT zs zs.length) (sumT ys ys.length)
def degT (zs:List Int):Nat→Int
 | 0=>0
 | k + 1=>if degT zs k < 0 then -1 else if nth zs k < 0∨24 - degT zs k < nth zs k then -1 else degT zs k + nth zs k
def degF (zs:List Int):Int:=if 6 < zs.length then -1 else degT zs zs.length
theorem Zok (a:Int) (w:World):Calls Tryz.prog 385 #[.int .i64 a] w fun e w'=>e=.returned (.bool false)∧w'=w:=by
 go_enter Tryz.func385,Tryz.ntmps385
 go_wp2
 go_ret
 exact ⟨by simp,rfl⟩
theorem Zfg (a b:Int) (w:World):Calls Tryz.prog 357 #[.int .i64 a, .int .i64 b] w fun e w'=>e=.returned (.int .i64 (cmpF a b))∧w'=w:=by
 obtain ⟨r,hr⟩:∃ r,cmpF a b=r:=⟨_,rfl⟩
 rw [hr]
 have HR:=zh hr
 clear hr
 go_enter Tryz.func357,Tryz.ntmps357
 go_wp2_with (go_at_call 385; refine (Zok _ _).mono ?_; rintro e w' ⟨rfl,rfl⟩)
 all_goals
  go_ret
  have h:=HR.out
  unfold cmpF at h
  (repeat' split at h)<;>first | (subst h; exact ⟨rfl,rfl⟩) | omega
set_option maxHeartbeats 1000000 in
theorem Znj (A:Option Addr) (c:Nat) (zs:List Int) (w:World) (hA:IRow w A zs) (hl:zs.length≤9223372036854775807):Calls Tryz.prog 320 #[.slice A zs.length c] w fun e w'=>e=.returned (.int .i64 (degF zs))∧w'=w:=by
 obtain ⟨n,hn⟩:∃ n,zs.length=n:=⟨_,rfl⟩
 unfold degF
 have HA:=zh hA
 have HN:=zh hn
 rw [hn]
 clear hA
 go_enter Tryz.func320,Tryz.ntmps320
 by_cases h6:6 < n
 ·rw [if_pos h6]
  have h6':(6:Int) < (n:Int):=by omega
  go_wp2
  go_ret
  exact ⟨rfl,rfl⟩
 ·rw [if_neg h6]
  have h6':(n:Int)≤6:=by omega
  go_wp2
  go_loop [3,11] (fun v3 v11=>∃ (k:Nat),k≤n∧v11=.int .i64 (k:Int)∧v3=.int .i64 (degT zs k)∧0≤degT zs k∧degT zs k≤24) (fun _ v=>n - (intOf v).toNat)
  case atStart=>exact ⟨0,by omega,rfl,rfl,by simp [degT],by simp [degT]⟩
  case round =>
   obtain ⟨k,hk,rfl,rfl,d0,d24⟩:=hrel
   obtain ⟨d,hd⟩:∃ d,degT zs k=d:=⟨_,rfl⟩
   rw [hd] at d0 d24 ⊢
   by_cases hlt:k < n
   ·obtain ⟨b,off,rfl,_,hc⟩:=HA.out k (by rw [HN.out]; exact hlt)
    obtain ⟨z,hz⟩:∃ z,nth zs k=z:=⟨_,rfl⟩
    rw [hz] at hc
    have hstep:Hid (degT zs (k + 1)=if d < 0 then -1 else if z < 0∨24 - d < z then -1 else d + z):=by
     unfold Hid; rw [← hd,← hz]; rfl
    have hdn:¬ d < 0:=by omega
    have hk1:(0:Int)≤(k:Int):=by omega
    have hk2:(k:Int) < (n:Int):=by omega
    have w1:IntKind.i64.wrap (24 - d)=24 - d:=IntWalk.i64_in _ (by omega)
    by_cases hz0:z < 0∨24 - d < z
    ·have HL:Hid (degT zs n = -1):=by
      have h1:=hstep.out
      rw [if_neg hdn,if_pos hz0] at h1
      have key:∀ m,degT zs (k + 1 + m) = -1:=fun m=>by
       induction m with
       | zero=>exact h1
       | succ m ih=>show (if degT zs (k + 1 + m) < 0 then _ else _)=_; rw [ih]; rfl
      have:=key (n - (k + 1))
      rwa [show k + 1 + (n - (k + 1))=n by omega] at this
     by_cases hz1:z < 0
     ·go_wp2
      go_ret
      exact ⟨by rw [HL.out]; rfl,rfl⟩
     ·have hz2:24 - d < z:=by omega
      go_wp2
      go_ret
      exact ⟨by rw [HL.out]; rfl,rfl⟩
    ·have w2:IntKind.i64.wrap (d + z)=d + z:=IntWalk.i64_in _ (by omega)
     have hz1:¬ z < 0:=by omega
     have hz2:¬ 24 - d < z:=by omega
     have HS:Hid (degT zs (k + 1)=d + z):=by
      have h1:=hstep.out
      rwa [if_neg hdn,if_neg hz0] at h1
     clear hd hz hstep hz0
     go_wp2
     go_round
     case rel=>exact ⟨k + 1,by omega,by go_num,by rw [HS.out],by rw [HS.out]; omega,by rw [HS.out]; omega⟩
     case measure=>simp [intOf]; omega
   ·obtain rfl:k=n:=by omega
    go_wp2
    go_ret
    exact ⟨rfl,rfl⟩
theorem ZiI (A:Option Addr) (c:Nat) (zs:List Int) (w:World) (hA:IRow w A zs) (hl:zs.length≤9223372036854775807):Calls Tryz.prog 246 #[.slice A zs.length c] w fun e w'=>e=.returned (.bool (decide (0≤degF zs)))∧w'=w:=by
 have H:=zh (Znj A c zs w hA hl)
 clear hA
 go_enter Tryz.func246,Tryz.ntmps246
 go_wp2_with fail
 refine H.out.mono ?_
 rintro e w1 ⟨rfl,rfl⟩
 go_wp2
 go_ret
 exact ⟨rfl,rfl⟩
set_option maxHeartbeats 2000000 in
theorem ZjV (A B:Option Addr) (c c2:Nat) (zs ys:List Int) (w:World) (hA:IRow w A zs) (hB:IRow w B ys) (hl:zs.length=ys.length) (hz:Zel zs) (hy:Zel ys) :
 Calls Tryz.prog 319 #[.slice A zs.length c, .slice B ys.length c2] w fun e w'=>e=.returned (.int .i64 (ordF zs ys))∧Ext w w':=by
 obtain ⟨n,hn⟩:∃ n,zs.length=n:=⟨_,rfl⟩
 have h6:=hz.1
 have HA:=zh hA
 have HB:=zh hB
 have HN:=zh hn
 have HL:=zh hl
 have HZ:=zh hz
 have HY:=zh hy
 obtain ⟨r,hr⟩:∃ r,ordF zs ys=r:=⟨_,rfl⟩
 have HR0:Hid (r=if sumT zs n=sumT ys n then ordL zs ys n else cmpF (sumT zs n) (sumT ys n)):=by
  unfold Hid; rw [← hr]; unfold ordF; rw [← hl,hn]
 rw [hr,← hl,hn]
 rw [hn] at h6
 clear hr
 clear hA hB hn hl hz hy
 go_enter Tryz.func319,Tryz.ntmps319
 go_wp2
 go_loop [5,6,12] (fun v5 v6 v12=>∃ (k:Nat),k≤n∧v12=.int .i64 (k:Int)∧v5=.int .i64 (sumT zs k)∧v6=.int .i64 (sumT ys k)) (fun _ _ v=>n - (intOf v).toNat)
 case atStart=>exact ⟨0,by omega,rfl,rfl,rfl⟩
 case round =>
  obtain ⟨k,hk,rfl,h5,h6v⟩:=hrel
  obtain ⟨s,hs⟩:∃ s,sumT zs k=s:=⟨_,rfl⟩
  obtain ⟨t,ht⟩:∃ t,sumT ys k=t:=⟨_,rfl⟩
  have s1:=Zjo HZ.out.2 k
  have t1:=Zjo HY.out.2 k
  rw [hs] at s1 h5
  rw [ht] at t1 h6v
  subst h5 h6v
  by_cases hlt:k < n
  ·obtain ⟨b,off,rfl,_,hc⟩:=HA.out k (by rw [HN.out]; exact hlt)
   obtain ⟨b2,off2,rfl,_,hc2⟩:=HB.out k (by rw [← HL.out,HN.out]; exact hlt)
   have z1:=HZ.out.2 k
   have y1:=HY.out.2 k
   have HS:Hid (sumT zs (k + 1)=s + nth zs k):=by unfold Hid; rw [← hs]; rfl
   have HT:Hid (sumT ys (k + 1)=t + nth ys k):=by unfold Hid; rw [← ht]; rfl
   obtain ⟨z,hz⟩:∃ z,nth zs k=z:=⟨_,rfl⟩
   obtain ⟨y,hy⟩:∃ y,nth ys k=y:=⟨_,rfl⟩
   rw [hz] at hc z1 HS
   rw [hy] at hc2 y1 HT
   have hk1:(0:Int)≤(k:Int):=by omega
   have hk2:(k:Int) < (n:Int):=by omega
   have w1:IntKind.i64.wrap (s + z)=s + z:=IntWalk.i64_in _ (by omega)
   have w2:IntKind.i64.wrap (t + y)=t + y:=IntWalk.i64_in _ (by omega)
   clear hs ht hz hy
   go_wp2
   go_round
   case rel=>exact ⟨k + 1,by omega,by go_num,by rw [HS.out],by rw [HT.out]⟩
   case measure=>simp [intOf]; omega
  ·obtain rfl:k=n:=by omega
   have HST:Hid (sumT zs k=s∧sumT ys k=t):=⟨hs,ht⟩
   clear hs ht
   by_cases hst:s=t
   ·have hst2:(s != t)=false:=by simp; exact hst
    have hk6:(k:Int)≤6:=by omega
    go_wp2
    go_loopw [9] (fun v9 wr=>∃ (m:Nat),m≤k∧v9=.int .i64 ((m:Int) - 1)∧Hid (ordL zs ys k=ordL zs ys m)∧Hid (Ext w wr)) (fun v _=>(intOf v + 1).toNat)
    case atStart=>exact ⟨k,Nat.le_refl _,rfl,rfl,Fr.refl _ _⟩
    case round =>
     obtain ⟨m,hm,rfl,hO,Q⟩:=hrel
     rcases m with _ | j
     ·rw [show ((0:Nat):Int) - 1 = -1 from rfl]
      have HR:Hid (r=0):=by
       unfold Hid
       rw [HR0.out,if_pos (by rw [HST.out.1,HST.out.2]; exact hst),hO.out]; rfl
      clear hm hO
      go_wp2
      go_ret
      exact ⟨by rw [HR.out]; rfl,Q.out⟩
     ·rw [show ((j + 1:Nat):Int) - 1=(j:Int) by omega]
      obtain ⟨b,off,rfl,hb,hc⟩:=HA.out.ext Q.out j (by rw [HN.out]; omega)
      obtain ⟨b2,off2,rfl,hb2,hc2⟩:=HB.out.ext Q.out j (by rw [← HL.out,HN.out]; omega)
      have HSt:Hid (ordL zs ys (j + 1)=if nth zs j=nth ys j then ordL zs ys j else cmpF (nth ys j) (nth zs j)):=rfl
      obtain ⟨z,hz⟩:∃ z,nth zs j=z:=⟨_,rfl⟩
      obtain ⟨y,hy⟩:∃ y,nth ys j=y:=⟨_,rfl⟩
      rw [hz] at hc HSt
      rw [hy] at hc2 HSt
      have hj1:(0:Int)≤(j:Int):=by omega
      have hj2:(j:Int) < (k:Int):=by omega
      clear hz hy
      by_cases hzy:z=y
      ·have hzy2:(z != y)=false:=by simp; exact hzy
       have HO2:Hid (ordL zs ys k=ordL zs ys j):=by
        unfold Hid; rw [hO.out,HSt.out,if_pos hzy]
       clear hO HSt
       go_wp2
       go_region_held3 (fun w'=>w'.cell? ⟨b,off + j,none⟩=some (.int .i64 z)∧w'.cell? ⟨b2,off2 + j,none⟩=some (.int .i64 y))
        (first | exact ⟨hc,hc2⟩)
        (first | (exact fun h=>h))
       have HE2:Hid (Ext w wr.drew):=Q.out.drew
       generalize wr.drew=wd at *
       clear hc hc2 hb hb2 Q hzy hzy2
       go_wp2
       go_roundw
       case rel=>exact ⟨j,by omega,by go_num,HO2.out,HE2.out⟩
       case measure=>simp [intOf]
      ·have hzy2:(z != y)=true:=by simp; exact hzy
       have HR:Hid (r=cmpF y z):=by
        unfold Hid
        rw [HR0.out,if_pos (by rw [HST.out.1,HST.out.2]; exact hst),hO.out,HSt.out,if_neg hzy]
       clear hO HSt
       go_wp2
       go_region_held3 (fun w'=>w'.cell? ⟨b,off + j,none⟩=some (.int .i64 z)∧w'.cell? ⟨b2,off2 + j,none⟩=some (.int .i64 y))
        (first | exact ⟨hc,hc2⟩)
        (first | (go_at_call 357; refine (Zfg _ _ _).mono ?_; rintro e w' ⟨rfl,rfl⟩))
       have hcd:wr.drew.cell? ⟨b,off + j,none⟩=some (.int .i64 z):=hc
       have hcd2:wr.drew.cell? ⟨b2,off2 + j,none⟩=some (.int .i64 y):=hc2
       have HE2:Hid (Ext w wr.drew):=Q.out.drew
       generalize wr.drew=wd at *
       clear hc hc2 hb hb2 Q
       have hc:=hcd
       have hc2:=hcd2
       clear hcd hcd2
       go_wp2
       go_region_held3 (fun w'=>w'.cell? ⟨b,off + j,none⟩=some (.int .i64 z)∧w'.cell? ⟨b2,off2 + j,none⟩=some (.int .i64 y))
        (first | exact ⟨hc,hc2⟩)
        (first | (go_at_call 357; refine (Zfg _ _ _).mono ?_; rintro e w' ⟨rfl,rfl⟩))
       have HE3:Hid (Ext w wd.drew):=HE2.out.drew
       generalize wd.drew=we at *
       clear hc hc2
       go_wp2
       go_ret
       exact ⟨by rw [HR.out]; rfl,HE3.out⟩
   ·have hst2:(s != t)=true:=by simp; exact hst
    have HR:Hid (r=cmpF s t):=by
     unfold Hid
     rw [HR0.out,if_neg (by rw [HST.out.1,HST.out.2]; exact hst),HST.out.1,HST.out.2]
    go_wp2_with (go_at_call 357; refine (Zfg _ _ _).mono ?_; rintro e w' ⟨rfl,rfl⟩)
    go_ret
    exact ⟨by rw [HR.out]; rfl,Fr.refl _ _⟩
end Go.Proofs.YtcpjeaaapocoeaaGreatDoor

namespace Go.Proofs.YtcpjeaaapocoeaaGreatDoor
open Go.RowKit
section
variable {N:Nat} {S0:Nat→Prop} {w0:World} {s:St} {Φ Ψ:World→Prop} {L:Nat→Nat} {a:Act} {w:World} {P:Program} {ops:Array Oper} {Q:Exit→Act→World→Prop}
theorem SXc.freezeN {c:Code} (b:Nat) (t:TypeId) (cs:List Value) (sl':Nat→SlL) (bl':BlL) (hbb:s.bl b=some (t,cs.map .v)) (hs:∀ g,(sl' g).map (fun q=>(s.sl q.1).map (frz b g))=(sl' g).map (fun q=>some q.2)) (hb:bl'.map (fun q=>s.bl q.1)=bl'.map (fun q=>some q.2))
 (hn:bl'.all (fun q => !(Nat.beq q.1 b))=true) (hw:∀ g,wfB (sl' g) bl'=true) (h:∀ g,(w0.heap.size≤g∨S0 g)→SXc P N S0 w0 Q c (ofL (sl' g) bl') (fun w=>Φ w∧Blk t w g cs.toArray)):SXc P N S0 w0 Q c s Φ:=by
 intro L a w hi
 refine h (L b) (hi.mem.old b (by rw [hbb]; rfl)) L a w ?_
 have hwf:=hw (L b)
 unfold wfB at hwf
 rw [Bool.and_eq_true] at hwf
 have hb':∀ i x,(ofL (sl' (L b)) bl').bl i=some x→s.bl i=some x:=fun i x hx=>Zco (f:=fun q:Nat × TypeId × List AV=>s.bl q.1) (g:=fun q=>some q.2) hb (Za9 hx)
 have hne:∀ i x,(ofL (sl' (L b)) bl').bl i=some x→i≠b:=fun i x hx e=>by
  have:=List.all_eq_true.1 hn _ (Za9 hx)
  simp [e] at this
 have hbs:∀ i,((ofL (sl' (L b)) bl').bl i).isSome=true→(s.bl i).isSome=true∧i≠b:=fun i hi'=>by
  obtain ⟨q,e⟩:=Option.isSome_iff_exists.1 hi'
  exact ⟨by rw [hb' i q e]; rfl,hne i q e⟩
 have hbsome:(s.bl b).isSome=true:=by rw [hbb]; rfl
 have hB:=hi.mem.blk b t _ hbb
 refine ⟨hi.size,hi.df,fun i x hx=>?_,⟨fun c t cs e=>hi.mem.blk c t cs (hb' c _ e),fun c d hc hd=>hi.mem.inj c d (hbs c hc).1 (hbs d hd).1,fun c hc=>hi.mem.old c (hbs c hc).1,hi.mem.ext,fun i c off e=>?_,fun c t cs e x hx=>⟨(hi.mem.cel c t cs (hb' c _ e) x hx).1,fun d off e'=>?_⟩⟩,fun w' hf=>⟨hi.box w' (hf.mono (fun i _ hi'=>?_)),?_⟩⟩
 ·have h1:=Zco (f:=fun q:Nat × AV=>(s.sl q.1).map (frz b (L b))) (g:=fun q=>some q.2) (hs (L b)) (Za9 hx)
  simp only at h1
  obtain ⟨y,hy,e⟩:=Option.map_eq_some_iff.1 h1
  have:=hi.sl i y hy
  rw [this,← e,Zpx]
 ·exact List.all_eq_true.1 hwf.1 _ (Za9 e)
 ·have:=List.all_eq_true.1 (List.all_eq_true.1 hwf.2 _ (Za9 e)) x hx
  rw [e'] at this
  exact this
 ·obtain ⟨c,hc,e⟩:=hi'
  exact ⟨c,(hbs c hc).1,e⟩
 ·have:Blk t w (L b) cs.toArray:=by simpa [List.map_map,Function.comp_def,AV.conc] using hB
  refine this.fr hf (fun ho=>?_)
  obtain ⟨c,hc,e⟩:=ho
  exact (hbs c hc).2 (hi.mem.inj c b (hbs c hc).1 hbsome e)
theorem Fr.row {w:World} {b:Nat} (cs:Array Value):Fr (fun i=>i=b) w (w.setRow b cs):=Fr.setRow (S:=fun i=>i=b) (Fr.refl _ w) (Or.inl rfl) cs
theorem Zpy {i d:Nat} {dT sT e bt:TypeId} {dx sx:Operand} {sp:Option Addr} {n m dc sc:Nat} {cs:List Value} {zs:List Int} (b:Nat) (Ψ:World→Prop) (hm:zs.length=m) (hmn:m≤n) (hn:n≤cs.length) (hpos:0 < cs.length) (hO:∀ w,Φ w→Blk bt w b cs.toArray) (hY:∀ w,Φ w→IRow w sp zs) (hnew:w0.heap.size≤b∨S0 b)
 (hΨ:∀ w w',Φ w→Fr (fun i=>i=b) w w'→Blk bt w' b (zs.map (Value.int .i64) ++ cs.drop m).toArray→Ψ w') (K:SXi P N S0 w0 ops Q (i + 1) s Ψ)
 (hsz:Nat.blt i ops.size=true:=by kernel_rfl) (hg:(opAt ops i).guard=none:=by kernel_rfl) (ho:(opAt ops i).op=.call { callee:=.builtin .copy,args:=#[dx,sx],argTypes:=#[dT,sT] }:=by kernel_rfl) (hd:(opAt ops i).dst=some d:=by kernel_rfl) (hf:(s.sl d).isNone=true:=by kernel_rfl)
 (hu:P.underlying dT=some (.slice e):=by kernel_rfl) (hs:(P.info? e).map (·.size)=some 1:=by kernel_rfl) (hx:s.eval dx=some (.v (.slice (some ⟨b,0,none⟩) n dc)):=by kernel_rfl) (hy:s.eval sx=some (.v (.slice sp m sc)):=by kernel_rfl):SXi P N S0 w0 ops Q i s Φ:=by
 unfold SXi
 rw [ZcD hsz]
 intro L a w hi
 have ex:=hi.eval hx
 have ey:=hi.eval hy
 have hB:=hO w hi.box.self
 have hZ:=hY w hi.box.self
 have hlt:0 < cs.length:=hpos
 have hown:¬ s.own L b:=hi.notOwn (c:=cs[0]'hlt) (j:=0) (fun w R=>by have:=(hO w R).cell 0; rw [this]; simp [hlt])
 have hsl:s.sl d=none:=by simpa using hf
 have fin:∀ (w':World) (z:Value),Fr (fun i=>i=b) w w'→Blk bt w' b (zs.map (Value.int .i64) ++ cs.drop m).toArray→wpList P ops Q ((ops.toList).drop (i + 1)) (a.put (opAt ops i).dst z) w':=by
  intro w' z hF hB2
  have h1:=hi.eff hF hown hnew hB.lt (fun w1 w2 h1 h2 h3=>hΨ w1 w2 h1 h2 (h3.trans hB2))
  refine K L _ _ ⟨by rw [hd]; simp [Act.put,h1.size],by rw [hd]; exact h1.df,fun j x hj=>?_,h1.mem,h1.box⟩
  have hne:d≠j:=fun e=>by rw [e,hj] at hsl; cases hsl
  have:=h1.sl j x hj
  rw [hd]
  simp [Act.put,Array.getElem?_setIfInBounds_ne hne,this]
 by_cases h0:m=0
 ·have hz0:zs=[]:=List.eq_nil_of_length_eq_zero (by omega)
  refine wpList_copy_nothing hg dx sx dT sT ho e hu hs _ _ n dc m sc ex ey (by rw [h0]; exact Nat.zero_min _) ?_
  refine fin _ _ (Fr.refl _ _) ?_
  rw [hz0,h0]; exact hB
 ·obtain ⟨b2,off2,rfl,_,_⟩:=hZ 0 (by omega)
  refine wpList_copy_own hg dx sx dT sT ho e hu hs b 0 n dc ⟨b2,off2,none⟩ m sc ex ey cs.toArray bt hB (zs.map (Value.int .i64)) (by rw [List.length_map,hm]; exact (Nat.min_eq_left hmn).symm) (fun j v hj=>?_) (by simp; omega) (fun v hv=>by
   obtain ⟨z,_,rfl⟩:=List.mem_map.1 hv; rfl) ?_
  ·rw [List.getElem?_map] at hj
   obtain ⟨z,hz,rfl⟩:=Option.map_eq_some_iff.1 hj
   have hjl:j < zs.length:=by
    rcases Nat.lt_or_ge j zs.length with h | h
    ·exact h
    ·rw [List.getElem?_eq_none h] at hz; cases hz
   obtain ⟨b3,off3,e3,_,hc⟩:=hZ j hjl
   injection e3 with e3; injection e3 with e3 e4; subst e3; subst e4
   rw [Lib.add_plain,hc,show nth zs j=z by rw [nth,hz]; rfl]
  ·refine fin _ _ (Fr.row _) ?_
   have h2:=setRow_heap w b cs.toArray ((cs.toArray.toList.take 0 ++ (zs.map (Value.int .i64) ++ cs.toArray.toList.drop (0 + (zs.map (Value.int .i64)).length))).toArray) bt (0,0) hB
   have e2:cs.toArray.toList.take 0 ++ (zs.map (Value.int .i64) ++ cs.toArray.toList.drop (0 + (zs.map (Value.int .i64)).length))=zs.map (Value.int .i64) ++ cs.drop m:=by simp [hm]
   rw [e2] at h2 ⊢
   exact h2
theorem Zpz {zs:List Int} {m:Nat} (hm:zs.length=m) (h6:m≤6) (r:List Value):∃ x0 x1 x2 x3 x4 x5:Int,zs.map (Value.int .i64) ++ ([Value.int .i64 0, .int .i64 0, .int .i64 0, .int .i64 0, .int .i64 0, .int .i64 0] ++ r).drop m=[.int .i64 x0, .int .i64 x1, .int .i64 x2, .int .i64 x3, .int .i64 x4, .int .i64 x5] ++ r:=by
 subst hm
 match zs,h6 with
 | [],_=>exact ⟨0,0,0,0,0,0,rfl⟩
 | [a],_=>exact ⟨a,0,0,0,0,0,rfl⟩
 | [a,b],_=>exact ⟨a,b,0,0,0,0,rfl⟩
 | [a,b,c],_=>exact ⟨a,b,c,0,0,0,rfl⟩
 | [a,b,c,d],_=>exact ⟨a,b,c,d,0,0,rfl⟩
 | [a,b,c,d,e],_=>exact ⟨a,b,c,d,e,0,rfl⟩
 | [a,b,c,d,e,f],_=>exact ⟨a,b,c,d,e,f,rfl⟩
 | a :: b :: c :: d :: e :: f :: g :: l,h=>exact absurd h (by simp)
end
end Go.Proofs.YtcpjeaaapocoeaaGreatDoor

namespace Go.Proofs.YtcpjeaaapocoeaaGreatDoor
open Go.RowKit
section
variable {N:Nat} {S0:Nat→Prop} {w0:World} {s:St} {Φ Ψ:World→Prop} {L:Nat→Nat} {a:Act} {w:World} {P:Program} {ops:Array Oper} {Q:Exit→Act→World→Prop}
theorem Zqs {w:World} {base:Nat} {e:TypeId} {k n cap b:Nat} {cur:List Value} (hB:Blk e w b cur.toArray) (hb:base≤b) (hc:cur.length=cap * k) (hn:n≤cap) (hm:cap≤maxLen):w.ownsRow base e k (.slice (some ⟨b,0,none⟩) n cap) n (cur.take (n * k)):=by
 have h1:n * k≤cap * k:=Nat.mul_le_mul_right k hn
 exact ⟨by rw [List.length_take,hc]; omega,Or.inr ⟨b,cap,cur.toArray,rfl,hb,hB,hn,hm,by simpa using hc,by simp⟩⟩
theorem Inv.eff2 (h:Inv N S0 w0 s Φ L a w) {w':World} {r:Nat} (hF:Fr (fun i=>i=r) w w') (hr:¬ s.own L r) (hnew:w0.heap.size≤r∨S0 r)
 (hΨ:∀ w1 w2,Fr S0 w0 w2→Φ w1→Fr (fun i=>i=r) w1 w2→(∀ j,j < w'.heap.size→¬ s.own L j→w2.heap[j]? = w'.heap[j]?)→Ψ w2):Inv N S0 w0 s Ψ L a w':=by
 refine ⟨h.size,h.df,h.sl,⟨fun b t cs e=>(h.mem.blk b t cs e).fr hF (fun e'=>hr ⟨b,by rw [e]; rfl,e'⟩),h.mem.inj,h.mem.old,h.mem.ext.next hF (fun i hi e=>?_),h.mem.slp,h.mem.cel⟩,fun w2 hf=>?_⟩
 ·rcases hnew with h' | h'
  ·omega
  ·rw [e]; exact h'
 ·have h2:Fr (fun i=>s.own L i∨i=r) w w2:=(hF.mono (fun i _ e=>Or.inr e)).trans (hf.mono (fun i _ e=>Or.inl e))
  obtain ⟨w1,k1,k2⟩:=h2.split
  refine hΨ w1 w2 (h.mem.ext.next h2 (fun i hi ho=>?_)) (h.box w1 k1) k2 (fun j hj hno=>hf.block j hj hno)
  rcases ho with ⟨c,hc,e⟩ | e
  ·rcases h.mem.old c hc with h' | h'
   ·omega
   ·rw [← e]; exact h'
  ·rcases hnew with h' | h'
   ·omega
   ·rw [e]; exact h'
theorem Zol {i d k n m cap bytes:Nat} {t e:TypeId} {s0 x:Operand} {cur news:List Value} {z:Value} (b b2 c2:Nat) (Ψ:World→Prop) (hO:∀ w,Φ w→Blk e w b cur.toArray) (hX:∀ w,Φ w→Blk e w b2 news.toArray) (hl:news.length=m * k) (hk:0 < k) (hz:z.cells.size=k)
 (hcur:cur.length=cap * k) (hn:n≤cap) (hcap:cap≤maxLen) (hpos:0 < cur.length) (hm0:0 < n + m) (hb:w0.heap.size≤b) (h1:∀ u ∈ news,u.oneCell'=true) (h63:n + m≤maxLen) (hbytes:(n + m) * bytes≤140737488355328)
 (hΨ:∀ w w',Fr S0 w0 w'→Φ w→Fr (fun i=>i=b) w w'→Ψ w')
 (K:∀ (b' cap':Nat) (cur':List Value),w0.heap.size≤b'→cur'.length=cap' * k→n + m≤cap'→cap'≤maxLen→cur'.take ((n + m) * k)=cur.take (n * k) ++ news→0 < cur'.length→SXi P N S0 w0 ops Q (i + 1) (s.put d (.v (.slice (some ⟨b',0,none⟩) (n + m) cap'))) (fun w=>Ψ w∧Blk e w b' cur'.toArray))
 (hsz:Nat.blt i ops.size=true:=by kernel_rfl) (hw:s.wantB ops (opAt ops i)=some true:=by kernel_rfl) (hv:(opAt ops i).op.operands.toList.all s.vB=true:=by kernel_rfl) (ho:(opAt ops i).op=.call { callee:=.builtin .append,args:=#[s0,x],argTypes:=#[t,t] }:=by kernel_rfl) (hd:(opAt ops i).dst=some d:=by kernel_rfl) (hN:Nat.blt d N=true:=by kernel_rfl)
 (ht:P.underlying t=some (.slice e):=by kernel_rfl) (hinfo:(P.info? e).map (fun i=>(i.zero,i.size,i.bytes))=some (some z,k,bytes):=by kernel_rfl) (hs:s.rho s0=.slice (some ⟨b,0,none⟩) n cap:=by kernel_rfl) (hx:s.rho x=.slice (some ⟨b2,0,none⟩) m c2:=by kernel_rfl):SXi P N S0 w0 ops Q i s Φ:=by
 unfold SXi
 rw [ZcD hsz]
 intro L a w hi
 refine wpList_step (fun K' hK=>?_)
 rw [if_pos (hi.want hw)]
 unfold Oper.wp
 have hns:Zbw (opAt ops i).op=true:=by rw [ho]; rfl
 rw [hi.exec hns hv]
 obtain ⟨inf,hinf,h2⟩:=Option.map_eq_some_iff.1 hinfo
 injection h2 with hz0 h2
 injection h2 with hsize hby
 have hB:=hO w hi.box.self
 have hB2:=hX w hi.box.self
 have hown:¬ s.own L b:=hi.notOwn (c:=cur[0]'hpos) (j:=0) (fun w R=>by have:=(hO w R).cell 0; rw [this]; simp [hpos])
 obtain ⟨v',w',hrun,hr,hg,hnil,hblk⟩:=run_append_own_at (P:=P) (w:=w) w0.heap.size t (opAt ops i).type e inf z k bytes ht hinf hz0 hsize hby hz hk (.slice (some ⟨b,0,none⟩) n cap) n (cur.take (n * k)) (Zqs hB hb hcur hn hcap) ⟨b2,0,none⟩ m c2 news hl
  (fun j u hj=>by rw [Lib.add_plain,Nat.zero_add,hB2.cell]; simpa using hj) h1 h63 hbytes hi.mem.ext.size
 have hrun2:(execOp s.rho (opAt ops i)).run P w=.ok (.value v') w':=by simp [execOp,ho,resolve,invoke,builtin,hs,hx,hrun,Result.andThen]
 rw [hrun2,Oper.upon_value,hd]
 obtain ⟨hlen,hr⟩:=hr
 rcases hr with ⟨rfl,h0⟩ | ⟨b',cap',cur',rfl,hb',hh,hn',hc',hs',ht'⟩
 ·omega
 have hF0:Fr (fun i=>i=b) w w':=(Fr.ofGrown hg).mono (fun i _ h=>by
  simp only [Value.ownBlock,Option.some.injEq] at h; exact h.symm)
 have hB':Blk e w' b' cur'.toList.toArray:=by rw [Array.toArray_toList]; exact hh
 have hK1:=K b' cap' cur'.toList hb' (by simpa using hs') hn' hc' (by simpa using ht') (by
  have h3:0 < (n + m) * k:=Nat.mul_pos (by omega) hk
  have h4:(cur'.toList.take ((n + m) * k)).length=(n + m) * k:=by rw [ht']; exact hlen
  rw [List.length_take] at h4
  omega)
 have h0:=hi.app0 (d:=d) (Nat.le_of_ble_eq_true hN) (al_v (s:=s) (.slice (some ⟨b',0,none⟩) (n + m) cap'))
 have hE':Fr S0 w0 w':=hi.mem.ext.next hF0 (fun i hi' e=>by omega)
 simp only [Value.ownBlock,Option.some.injEq] at hblk
 have hnb:¬ s.own L b':=by
  rcases hblk with rfl | rfl
  ·exact hown
  ·rintro ⟨c,hc,e⟩
   obtain ⟨q,eq⟩:=Option.isSome_iff_exists.1 hc
   have:=(hi.mem.blk c q.1 q.2 eq).lt
   omega
 have hlt':b' < w'.heap.size:=hB'.lt
 exact hK _ _ (hK1 L _ _ (h0.eff2 hF0 hown (Or.inl hb) (fun w1 w2 h2 h3 h4 h5=>⟨hΨ w1 w2 h2 h3 h4,(h5 b' hlt' hnb).trans hB'⟩)))
theorem Zq3 {i d k cap bytes:Nat} {t e:TypeId} {kl kc:IntKind} {l c:Operand} {z:Value} (hcap:cap≤maxLen) (hbytes:bytes * cap≤281474976710656)
 (K:∀ (b:Nat) (cur:List Value),w0.heap.size≤b→cur.length=cap * k→SXi P N S0 w0 ops Q (i + 1) (s.put d (.v (.slice (some ⟨b,0,none⟩) 0 cap))) (fun w=>Φ w∧Blk e w b cur.toArray))
 (hsz:Nat.blt i ops.size=true:=by kernel_rfl) (hw:s.wantB ops (opAt ops i)=some true:=by kernel_rfl) (hv:(opAt ops i).op.operands.toList.all s.vB=true:=by kernel_rfl) (ho:(opAt ops i).op=Op.makeSlice t l c:=by kernel_rfl) (hd:(opAt ops i).dst=some d:=by kernel_rfl) (hN:Nat.blt d N=true:=by kernel_rfl)
 (ht:P.underlying t=some (.slice e):=by kernel_rfl) (hinfo:(P.info? e).map (fun i=>(i.zero,i.size,i.bytes))=some (some z,k,bytes):=by kernel_rfl) (hl:s.rho l=.int kl 0:=by kernel_rfl) (hc:s.rho c=.int kc cap:=by kernel_rfl):SXi P N S0 w0 ops Q i s Φ:=by
 unfold SXi
 rw [ZcD hsz]
 intro L a w hi
 refine wpList_step (fun K' hK=>?_)
 rw [if_pos (hi.want hw)]
 unfold Oper.wp
 have hns:Zbw (opAt ops i).op=true:=by rw [ho]; rfl
 rw [hi.exec hns hv]
 obtain ⟨inf,hinf,h2⟩:=Option.map_eq_some_iff.1 hinfo
 injection h2 with hz0 h2
 injection h2 with hsize hby
 obtain ⟨w',hrun,hr,hg⟩:=run_make_own (P:=P) (w:=w) w.heap.size t e inf z k ht hinf hz0 hsize kl kc cap (by rw [hby]; exact hbytes) hcap (Nat.le_refl _)
 have hrun2:(execOp s.rho (opAt ops i)).run P w=.ok (.value (.slice (some ⟨w.heap.size,0,none⟩) 0 cap)) w':=by simp [execOp,ho,hl,hc,hrun,Result.andThen]
 rw [hrun2,Oper.upon_value,hd]
 obtain ⟨hlen,hr⟩:=hr
 rcases hr with ⟨h0,_⟩ | ⟨b',cap',cur',e',hb',hh,hn',hc',hs',ht'⟩
 ·cases h0
 injection e' with e1 _ e3
 injection e1 with e1
 injection e1 with e1
 subst e1 e3
 have R:Ext w w':=(Fr.ofGrown hg).mono (fun i _ h=>by cases h)
 have hB':Blk e w' w.heap.size cur'.toList.toArray:=by rw [Array.toArray_toList]; exact hh
 have h0:=hi.app0 (d:=d) (Nat.le_of_ble_eq_true hN) (al_v (s:=s) (.slice (some ⟨w.heap.size,0,none⟩) 0 cap))
 refine hK _ _ (K w.heap.size cur'.toList hi.mem.ext.size (by simpa using hs') L _ _ ⟨h0.size,h0.df,h0.sl,⟨fun b t cs e=>(h0.mem.blk b t cs e).ext R,h0.mem.inj,h0.mem.old,h0.mem.ext.ext R,h0.mem.slp,h0.mem.cel⟩,fun w2 hf=>⟨h0.box.ext R w2 hf,?_⟩⟩)
 refine hB'.fr hf (fun ho=>?_)
 obtain ⟨b,hb,eb⟩:=ho
 obtain ⟨q,eq⟩:=Option.isSome_iff_exists.1 hb
 have:=(hi.mem.blk b q.1 q.2 eq).lt
 omega
end
end Go.Proofs.YtcpjeaaapocoeaaGreatDoor

namespace Go.Proofs.YtcpjeaaapocoeaaGreatDoor
open Go.RowKit Go.Lib
abbrev WrAt (lo b:Nat) (p:Value) (bs:List Value) (w:World):Prop:=Lib.BuilderAt 119 5 lo b p bs w
def WrIs (lo b:Nat) (l:List UInt8) (w:World):Prop:=∃ p,(p=.pointer none∨p=.pointer (some ⟨b,0,none⟩))∧WrAt lo b p (Lib.byteCells l) w
def IsU8 (w:World) (i:Nat):Prop:=∃ cs f,w.heap[i]? = some (.cells cs 5 f)
def WrFr (lo b:Nat) (w w':World):Prop:=Fr (fun i=>i=b∨(lo≤i∧IsU8 w i)) w w'
theorem WrFr.refl (lo b:Nat) (w:World):WrFr lo b w w:=Fr.refl _ _
theorem WrFr.back {lo b:Nat} {w w':World} (h:WrFr lo b w w') {i:Nat} (hi:i < w.heap.size) (hlo:lo≤i) (h8:IsU8 w' i):i=b∨(lo≤i∧IsU8 w i):=by
 by_cases hs:i=b∨(lo≤i∧IsU8 w i)
 ·exact hs
 ·obtain ⟨cs,f,hc⟩:=h8
  exact Or.inr ⟨hlo,cs,f,(h.block i hi hs).symm.trans hc⟩
theorem WrFr.trans {lo b:Nat} {w w' w'':World} (h:WrFr lo b w w') (k:WrFr lo b w' w''):WrFr lo b w w'' :=
 Fr.next h k (fun _ hi hT=>hT.elim Or.inl (fun h8=>h.back hi h8.1 h8.2))
theorem WrFr.old {b:Nat} {w0 w w':World} (Q:Ext w0 w) (hb:w0.heap.size≤b) (h:WrFr w0.heap.size b w w'):Ext w0 w' :=
 Fr.next Q h (fun i hi hT=>by rcases hT with e | ⟨e,_⟩<;>omega)
theorem WrFr.of {lo b:Nat} {w w':World} (k:Ext w w'):WrFr lo b w w':=k.mono (fun _ _ f=>f.elim)
theorem Zfv (b:Nat) (w:World) (h0:w.cell? ⟨b,0,none⟩=some (.pointer (some ⟨b,0,none⟩))) :
 Calls Tryz.prog 295 #[.pointer (some ⟨b,0,none⟩)] w fun e w'=>e=.returned (.tuple #[])∧w'=w:=by
 obtain ⟨j,hj,hjs⟩:=Option.map_eq_some_iff.1 (show (Tryz.prog.info? 117).map (·.size)=some 2 by kernel_rfl)
 go_enter Tryz.func295,Tryz.ntmps295
 go_wp2
 rw [Lib.run_neq_ptr_same w _ Tryz.underlying115 hj]
 go_wp2
 go_end0
 exact ⟨rfl,rfl⟩
theorem ZiJ (b:Nat) (w:World) (h0:w.cell? ⟨b,0,none⟩=some (.pointer none)) (hsh:w.shape? b=some (119,2)) (hfz:w.frozen? ⟨b,0,none⟩=false) :
 Calls Tryz.prog 295 #[.pointer (some ⟨b,0,none⟩)] w fun e w'=>e=.returned (.tuple #[])∧w'=w.setCell ⟨b,0,none⟩ (.pointer (some ⟨b,0,none⟩)):=by
 obtain ⟨j,hj,hjs⟩:=Option.map_eq_some_iff.1 (show (Tryz.prog.info? 117).map (·.size)=some 2 by kernel_rfl)
 go_enter Tryz.func295,Tryz.ntmps295
 go_wp2
 rw [Lib.run_to_unsafe w ⟨b,0,none⟩ Tryz.underlying115 Tryz.underlying418 hj (by rw [hjs]; decide) hsh (Nat.zero_lt_succ 1)]
 simp only [Result.andThen]
 rw [Oper.upon_value]
 go_wp2
 rw [run_callFunc_extern Tryz.func348 (by kernel_rfl) (by kernel_rfl) (by kernel_rfl) (e:=Extern.AbiNoEscape.same) (by kernel_rfl)]
 rw [Lib.run_noEscape]
 simp only [Result.andThen]
 rw [Oper.upon_value]
 go_wp2
 rw [Lib.run_from_unsafe w ⟨b,0,none⟩ Tryz.underlying418 Tryz.underlying115 hj hsh (by kernel_rfl)]
 simp only [Result.andThen]
 rw [Oper.upon_value]
 go_wp2
 go_end0
 exact ⟨rfl,rfl⟩
theorem WrFr.setB {lo b:Nat} {w w':World} (h:WrFr lo b w w') (o:Nat) (u:Value):WrFr lo b w (w'.setCell ⟨b,o,none⟩ u):=Fr.setCell h (Or.inl (Or.inl rfl)) u
theorem Zf4 (lo b:Nat) (l:List UInt8) (w:World) (h:WrIs lo b l w) :
 Calls Tryz.prog 295 #[.pointer (some ⟨b,0,none⟩)] w fun e w'=>e=.returned (.tuple #[])∧WrAt lo b (.pointer (some ⟨b,0,none⟩)) (Lib.byteCells l) w'∧WrFr lo b w w':=by
 obtain ⟨p,rfl | rfl,h⟩:=h
 ·refine (ZiJ b w h.cell0 h.shape h.frozen0).mono ?_
  rintro e w' ⟨rfl,rfl⟩
  exact ⟨rfl,h.used _,(WrFr.refl lo b w).setB 0 _⟩
 ·refine (Zfv b w h.cell0).mono ?_
  rintro e w' ⟨rfl,rfl⟩
  exact ⟨rfl,h,WrFr.refl lo b w'⟩
theorem Zdx (a b:List UInt8):Lib.byteCells (a ++ b)=Lib.byteCells a ++ Lib.byteCells b:=by simp [Lib.byteCells]
theorem WrFr.alloc {lo b:Nat} {w w':World} (h:WrFr lo b w w') (o:Obj):WrFr lo b w (w'.alloc o):=Fr.alloc h o
theorem neB5:(119:TypeId)≠5:=by decide
theorem WrFr.grown {lo b:Nat} {w w1 w2:World} {v:Value} {bs:List Value} (h:WrFr lo b w w1) (hA:∃ n,w1.ownsRow lo 5 1 v n bs) (hg:w1.grownBy w2 v.ownBlock):WrFr lo b w w2:=by
 obtain ⟨n,_,hA⟩:=hA
 refine Fr.next h (Fr.ofGrown hg) (fun i hi ei=>?_)
 rcases hA with ⟨rfl,_⟩ | ⟨g,cap,cur,rfl,hlg,hh,_⟩
 ·cases ei
 ·simp only [Value.ownBlock,Option.some.injEq] at ei
  subst ei
  exact h.back hi hlg ⟨cur,_,hh⟩
set_option maxHeartbeats 2000000 in
theorem Ze0 (lo b:Nat) (l:List UInt8) (s:ByteArray) (w:World) (h:WrIs lo b l w) (hlen:l.length + s.size≤140737488355328) :
 Calls Tryz.prog 222 #[.pointer (some ⟨b,0,none⟩), .string s] w fun e w'=>e=.returned (.tuple #[.int .i64 s.size, .nilIface])∧WrIs lo b (l ++ bytes s) w'∧WrFr lo b w w':=by
 obtain ⟨i0,hi,hz0,hz1,hz2⟩:=info_parts (show (Tryz.prog.info? 5).map (fun i=>(i.zero,i.size,i.bytes))=some (some (.int .u8 0),1,1) by kernel_rfl)
 have e240:∀ args w,(callFunc 295 args).run Tryz.prog w=.ok (.enter 295 args) w:=enters_of Tryz.func295 (by kernel_rfl) rfl
 go_enter Tryz.func222,Tryz.ntmps222
 go_wp2_with (go_at_call 295; refine (Zf4 lo b l _ h).mono ?_)
 rintro e w1 ⟨rfl,h1,hb1⟩
 obtain ⟨hB,v,hbk,hown,hne⟩:=h1
 have c0:w1.cell? ⟨b,0,none⟩=some (.pointer (some ⟨b,0,none⟩)):=by rw [Lib.cell_of_heap hbk]; rfl
 have c1:w1.cell? ⟨b,1,none⟩=some v:=by rw [Lib.cell_of_heap hbk]; rfl
 have hll:(Lib.byteCells l).length=l.length:=Lib.byteCells_length l
 go_wp2_with (at_builtin; refine Lib.wpList_append_own_string _ rfl _ _ 37 9 rfl lo 5 i0 Tryz.underlying37 Tryz.underlying9 hi hz0 hz1 hz2 _ _ _ rfl hown s rfl ?c3 ?c4 ?c5 ?_)
 case c3=>unfold maxLen; omega
 case c4=>omega
 case c5 =>
  have h':b < w1.heap.size:=by
   rcases Nat.lt_or_ge b w1.heap.size with h' | h'
   ·exact h'
   ·simp [Array.getElem?_eq_none h'] at hbk
  first | omega | (simp; omega)
 intro v' w2 hown' hgrow _
 have hlt:b < w1.heap.size:=by
  rcases Nat.lt_or_ge b w1.heap.size with h' | h'
  ·exact h'
  ·simp [Array.getElem?_eq_none h'] at hbk
 have hb2:w2.heap[b]? = some (.cells #[.pointer (some ⟨b,0,none⟩),v] 119 (0,0)):=by
  rw [hgrow.block b hlt (fun e=>hne e.symm)]
  exact hbk
 have d0:w2.cell? ⟨b,0,none⟩=some (.pointer (some ⟨b,0,none⟩)):=by rw [Lib.cell_of_heap hb2]; rfl
 have d1:w2.cell? ⟨b,1,none⟩=some v:=by rw [Lib.cell_of_heap hb2]; rfl
 have f1:w2.frozen? ⟨b,1,none⟩=false:=Lib.frozen_of_heap hb2 1
 obtain ⟨ao,n',cap,rfl⟩:∃ ao n' cap,v'=.slice ao n' cap:=by
  rcases hown'.2 with ⟨hv,_⟩ | ⟨g,cap,cur,hv,_⟩
  ·exact ⟨_,_,_,hv⟩
  ·exact ⟨_,_,_,hv⟩
 have HF:=zh (hb1.grown ⟨_,hown⟩ hgrow)
 go_wp2
 go_ret2
 refine ⟨rfl,⟨_,Or.inr rfl,?_⟩,HF.out.setB 1 _⟩
 have:=Lib.BuilderAt.put (T:=119) (e:=5) hB hb2 (bs':=Lib.byteCells l ++ Lib.strCells s) (by rw [List.length_append,Lib.strCells_length,Lib.byteCells_length]; exact hown') neB5
 rw [Zdx]
 exact this
set_option maxHeartbeats 2000000 in
theorem Zf5 (lo b:Nat) (l:List UInt8) (c:UInt8) (w:World) (h:WrIs lo b l w) (hlen:l.length + 1≤140737488355328) :
 Calls Tryz.prog 223 #[.pointer (some ⟨b,0,none⟩), .int .u8 (c.toNat:Int)] w fun e w'=>e=.returned .nilIface∧WrIs lo b (l ++ [c]) w'∧WrFr lo b w w':=by
 obtain ⟨i0,hi,hz0,hz1,hz2⟩:=info_parts (show (Tryz.prog.info? 5).map (fun i=>(i.zero,i.size,i.bytes))=some (some (.int .u8 0),1,1) by kernel_rfl)
 have e240:∀ args w,(callFunc 295 args).run Tryz.prog w=.ok (.enter 295 args) w:=enters_of Tryz.func295 (by kernel_rfl) rfl
 obtain ⟨cz,hcz⟩:∃ cz:Int,(c.toNat:Int)=cz:=⟨_,rfl⟩
 have Hcz:=zh hcz
 rw [hcz]
 clear hcz
 go_enter Tryz.func223,Tryz.ntmps223
 go_wp2_with (go_at_call 295; refine (Zf4 lo b l _ h).mono ?_)
 rintro e w1 ⟨rfl,h1,hb1⟩
 obtain ⟨hB,v,hbk,hown,hne⟩:=h1
 have c0:w1.cell? ⟨b,0,none⟩=some (.pointer (some ⟨b,0,none⟩)):=by rw [Lib.cell_of_heap hbk]; rfl
 have c1:w1.cell? ⟨b,1,none⟩=some v:=by rw [Lib.cell_of_heap hbk]; rfl
 have hll:(Lib.byteCells l).length=l.length:=Lib.byteCells_length l
 go_wp2_with (at_builtin; refine wpList_append_own _ rfl _ _ 37 rfl lo 5 i0 (.int .u8 0) 1 1 Tryz.underlying37 hi hz0 hz1 hz2 rfl (by decide) _ _ _ rfl (hown.alloc _) ⟨w1.heap.size,0,none⟩ 1 1 [.int .u8 cz] rfl rfl ?c1 ?c2 ?c3 ?c4 ?c5 ?_)
 case c1 =>
  intro j u hj
  match j,hj with
  | 0,hj=>simp at hj; subst hj; simp [Addr.add]
 case c2=>intro u hu; simp at hu; subst hu; rfl
 case c3=>unfold maxLen; omega
 case c4=>omega
 case c5 =>
  have h':b < w1.heap.size:=by
   rcases Nat.lt_or_ge b w1.heap.size with h' | h'
   ·exact h'
   ·simp [Array.getElem?_eq_none h'] at hbk
  first | omega | (simp; omega)
 intro v' w2 hown' hgrow _
 have hlt:b < w1.heap.size:=by
  rcases Nat.lt_or_ge b w1.heap.size with h' | h'
  ·exact h'
  ·simp [Array.getElem?_eq_none h'] at hbk
 have hb2:w2.heap[b]? = some (.cells #[.pointer (some ⟨b,0,none⟩),v] 119 (0,0)):=by
  rw [hgrow.block b (by simp; omega) (fun e=>hne e.symm),Lib.alloc_old w1 _ b hlt]
  exact hbk
 have d0:w2.cell? ⟨b,0,none⟩=some (.pointer (some ⟨b,0,none⟩)):=by rw [Lib.cell_of_heap hb2]; rfl
 have d1:w2.cell? ⟨b,1,none⟩=some v:=by rw [Lib.cell_of_heap hb2]; rfl
 have f1:w2.frozen? ⟨b,1,none⟩=false:=Lib.frozen_of_heap hb2 1
 obtain ⟨g,cap,rfl⟩:∃ g cap,v'=.slice (some ⟨g,0,none⟩) (l.length + 1) cap:=by
  rcases hown'.2 with ⟨_,h0⟩ | ⟨g,cap,cur,hv,_⟩
  ·omega
  ·exact ⟨g,cap,hv⟩
 have HF:=zh ((hb1.alloc _).grown ⟨_,hown.alloc _⟩ hgrow)
 go_wp2
 go_ret
 refine ⟨rfl,⟨_,Or.inr rfl,?_⟩,HF.out.setB 1 _⟩
 have:=Lib.BuilderAt.put (T:=119) (e:=5) hB hb2 (bs':=Lib.byteCells l ++ [.int .u8 cz]) (by rw [List.length_append,Lib.byteCells_length]; exact hown') neB5
 rw [Zdx]
 show WrAt lo b _ (Lib.byteCells l ++ [.int .u8 (c.toNat:Int)]) _
 rw [Hcz.out]
 exact this
set_option maxHeartbeats 1000000 in
theorem Zmw (lo b:Nat) (l:List UInt8) (w:World) (h:WrIs lo b l w) :
 Calls Tryz.prog 112 #[.pointer (some ⟨b,0,none⟩)] w fun e w'=>e=.returned (.int .i64 (l.length:Int))∧w'=w:=by
 obtain ⟨p,_,hB,v,hbk,hown,hne⟩:=h
 obtain ⟨ao,cap,rfl⟩:∃ ao cap,v=.slice ao l.length cap:=by
  rw [Lib.byteCells_length] at hown
  rcases hown.2 with ⟨hv,h0⟩ | ⟨g,cap,cur,hv,_⟩
  ·exact ⟨none,0,by rw [hv,h0]⟩
  ·exact ⟨_,_,hv⟩
 have c1:w.cell? ⟨b,1,none⟩=some (.slice ao l.length cap):=by rw [Lib.cell_of_heap hbk]; rfl
 clear hown hne hbk
 go_enter Tryz.func112,Tryz.ntmps112
 go_wp2
 go_ret
 exact ⟨rfl,rfl⟩
set_option maxHeartbeats 1000000 in
theorem Zom (lo b:Nat) (l:List UInt8) (w:World) (h:WrIs lo b l w) (h0:l≠[]) :
 Calls Tryz.prog 113 #[.pointer (some ⟨b,0,none⟩)] w fun e w'=>e=.returned (.string ⟨l.toArray⟩)∧WrFr lo b w w':=by
 obtain ⟨p,_,hB,v,hbk,hown,hne⟩:=h
 have hl0:l.length≠0:=by simpa using h0
 rw [Lib.byteCells_length] at hown
 obtain ⟨g,cap,cur,rfl,hbg,hg,hnc,hcm,hcs,htake⟩:∃ g cap cur,v=.slice (some ⟨g,0,none⟩) l.length cap∧lo≤g∧w.heap[g]? = some (.cells cur 5 (0,0))∧l.length≤cap∧cap≤maxLen∧cur.size=cap * 1∧cur.toList.take (l.length * 1)=Lib.byteCells l:=by
  rcases hown.2 with ⟨_,hz⟩ | ⟨g,cap,cur,hv,r⟩
  ·exact absurd hz hl0
  ·exact ⟨g,cap,cur,hv,r⟩
 have c1:w.drew.cell? ⟨b,1,none⟩=some (.slice (some ⟨g,0,none⟩) l.length cap):=by
  have:w.drew.heap[b]? = some (.cells #[p, .slice (some ⟨g,0,none⟩) l.length cap] 119 (0,0)):=hbk
  rw [Lib.cell_of_heap this]; rfl
 have hSD:(Builtin.unsafeSliceData_ #[37] 309 #[.slice (some ⟨g,0,none⟩) l.length cap]).run Tryz.prog w.drew=.ok (.pointer (some ⟨g,0,none⟩)) w.drew :=
  Lib.run_unsafeSliceData_row _ _ _ _ _ _ (by omega)
 have hUS:(Builtin.unsafeString_ #[309,3] 9 #[.pointer (some ⟨g,0,none⟩), .int .i64 l.length]).run Tryz.prog w.drew=.ok (.string ⟨l.toArray⟩) (w.drew.freeze ⟨g,0,none⟩ l.length):=by
  refine Lib.run_unsafeString_row w.drew 309 3 9 5 Tryz.underlying309 (by kernel_rfl) g cur.size (by have hg':w.drew.heap[g]? = some (.cells cur 5 (0,0)):=hg; simp [World.shape?,hg']) l h0 (by omega) (by unfold maxLen at hcm; omega) ?_
  intro j x hx
  have:=hown.cells (g:=g) rfl j (.int .u8 x.toNat) (by simp [Lib.byteCells,hx])
  exact this
 have HF:Hid (WrFr lo b w (w.drew.freeze ⟨g,0,none⟩ l.length)):=by
  unfold Hid World.freeze
  rw [if_neg hl0]
  refine ⟨rfl,rfl,rfl,by simp,fun i hi hs=>?_⟩
  have hne2:g≠i:=by
   rintro rfl
   exact hs (Or.inr ⟨hbg,cur,_,hg⟩)
  simp only [Array.getElem?_modify]
  rw [if_neg hne2]
  rfl
 clear hown hne hbk hg htake
 go_enter Tryz.func113,Tryz.ntmps113
 go_wp2
 go_region
 all_goals (go_wp2; go_ret; exact ⟨rfl,HF.out⟩)
end Go.Proofs.YtcpjeaaapocoeaaGreatDoor

namespace Go.Proofs.YtcpjeaaapocoeaaGreatDoor
open Go.RowKit
def SRow (w:World) (A:Option Addr) (ss:List ByteArray):Prop:=ss≠[]→∃ b off cs f,A=some ⟨b,off,none⟩∧w.heap[b]? = some (.cells cs 9 f)∧∀ i,i < ss.length→cs[off + i]? = some (.string (ss[i]?.getD ⟨#[]⟩))
theorem WrIs.blk {lo g:Nat} {l:List UInt8} {w:World} (h:WrIs lo g l w):∃ cs,w.heap[g]? = some (.cells cs 119 (0,0)):=by
 obtain ⟨p,_,_,v,hbk,_⟩:=h
 exact ⟨_,hbk⟩
theorem SRow.wr {w w':World} {A:Option Addr} {ss:List ByteArray} {lo g:Nat} {l:List UInt8} (h:SRow w A ss) (hg:WrIs lo g l w) (hF:WrFr lo g w w'):SRow w' A ss:=fun h0=>by
 obtain ⟨b,off,cs,f,e,hb,hc⟩:=h h0
 obtain ⟨cg,hcg⟩:=hg.blk
 have hlt:b < w.heap.size:=by
  rcases Nat.lt_or_ge b w.heap.size with h | h
  ·exact h
  ·rw [Array.getElem?_eq_none h] at hb; cases hb
 refine ⟨b,off,cs,f,e,(hF.block b hlt (fun hs=>?_)).trans hb,hc⟩
 rcases hs with e | ⟨_,c2,f2,h8⟩
 ·subst e
  rw [hb] at hcg
  injection hcg with hcg
  injection hcg with _ e _
  exact absurd e (by decide)
 ·rw [hb] at h8
  injection h8 with h8
  injection h8 with _ e _
  exact absurd e (by decide)
theorem SRow.at_ {w:World} {A:Option Addr} {ss:List ByteArray} (h:SRow w A ss) {i:Nat} (hi:i < ss.length):∃ b off,A=some ⟨b,off,none⟩∧w.cell? ⟨b,off + i,none⟩=some (.string (ss[i]?.getD ⟨#[]⟩)):=by
 obtain ⟨b,off,cs,f,e,hb,hc⟩:=h (fun e=>by rw [e] at hi; simp at hi)
 exact ⟨b,off,e,by rw [cell_of_row w b (off + i) cs _ f hb]; exact hc i hi⟩
def ZaO (ss:List ByteArray):List UInt8:=ss.flatMap (fun s=>32 :: bytes s)
def Zax (k:ByteArray) (ss:List ByteArray):List UInt8:=bytes k ++ ZaO ss ++ [10]
theorem Zfh {ss:List ByteArray} {j:Nat} (h:j < ss.length):ZaO (ss.take (j + 1))=ZaO (ss.take j) ++ [32] ++ bytes (ss[j]?.getD ⟨#[]⟩):=by
 unfold ZaO
 rw [List.take_succ_eq_append_getElem h,List.flatMap_append,List.getElem?_eq_getElem h]
 simp
theorem ZgA {ss:List ByteArray} (j:Nat):(ZaO (ss.take j)).length≤(ZaO ss).length:=by
 conv=>rhs; rw [← List.take_append_drop j ss]
 unfold ZaO
 rw [List.flatMap_append,List.length_append]
 omega
set_option maxHeartbeats 4000000 in
theorem Zk3 (lo g:Nat) (l:List UInt8) (k:ByteArray) (A:Option Addr) (cap:Nat) (ss:List ByteArray) (w:World) (h:WrIs lo g l w) (hS:SRow w A ss) (hl:l.length≤1048576) (hk:(Zax k ss).length≤70368744177664) (hss:ss.length≤9223372036854775807) :
 Calls Tryz.prog 109 #[.pointer (some ⟨g,0,none⟩), .string k, .slice A ss.length cap] w fun e w'=>e=.returned (.tuple #[])∧WrIs lo g (l ++ Zax k ss) w'∧WrFr lo g w w':=by
 obtain ⟨n,hn⟩:∃ n,ss.length=n:=⟨_,rfl⟩
 rw [hn]
 have hlk:(Zax k ss).length=(bytes k).length + (ZaO ss).length + 1:=by unfold Zax; rw [List.length_append,List.length_append]; rfl
 have hks:(bytes k).length=k.size:=Zag k
 have HS:=zh hS
 have HW:=zh h
 have HN:=zh hn
 have HK:=zh hk
 have HLK:=zh hlk
 have HKS:=zh hks
 have hlI:(l.length:Int)≤1048576:=by omega
 clear hS h hk hlk hks
 go_enter Tryz.func109,Tryz.ntmps109
 go_wp2_with (go_at_call 112; refine (Zmw lo g l _ HW.out).mono ?_; rintro e w' ⟨rfl,rfl⟩)
 refine (Ze0 lo g l k _ HW.out (by have:=HLK.out; have:=HK.out; have:=HKS.out; omega)).mono ?_
 rintro e w1 ⟨rfl,hW1,hF1⟩
 have HW1:=zh hW1
 have HF1:=zh hF1
 have HS1:=zh (HS.out.wr HW.out hF1)
 clear hW1 hF1
 go_wp2_with fail
 go_loopw [20] (fun v wr=>∃ j:Nat,j≤n∧v=.int .i64 (j:Int)∧Hid (WrIs lo g (l ++ bytes k ++ ZaO (ss.take j)) wr)∧Hid (WrFr lo g w' wr)∧Hid (SRow wr A ss)) (fun v _=>n - (intOf v).toNat)
 case atStart=>exact ⟨0,by omega,rfl,by unfold Hid; rw [List.take_zero,show ZaO []=[] from rfl,List.append_nil]; exact HW1.out,HF1,HS1⟩
 case round =>
  obtain ⟨j,hj,rfl,hWj,hFj,hSj⟩:=hrel
  have hlen:(l ++ bytes k ++ ZaO (ss.take j)).length≤140737488355000:=by
   have:=HLK.out; have:=HK.out; have:=ZgA (ss:=ss) j
   rw [List.length_append,List.length_append]; omega
  by_cases hlt:j < n
  ·obtain ⟨b,off,rfl,hc⟩:=hSj.out.at_ (i:=j) (by rw [HN.out]; exact hlt)
   obtain ⟨s,hs⟩:∃ s,ss[j]?.getD ⟨#[]⟩=s:=⟨_,rfl⟩
   rw [hs] at hc
   have hstep:Hid (l ++ bytes k ++ ZaO (ss.take (j + 1))=l ++ bytes k ++ ZaO (ss.take j) ++ [32] ++ bytes s):=by
    unfold Hid; rw [Zfh (by rw [HN.out]; exact hlt),hs]; simp only [List.append_assoc]
   have hsl:(bytes s).length≤70368744177664:=by
    have h1:=ZgA (ss:=ss) (j + 1)
    rw [Zfh (by rw [HN.out]; exact hlt),hs,List.length_append] at h1
    have:=HLK.out; have:=HK.out
    omega
   have hj0:(0:Int)≤(j:Int):=by omega
   have hjn:(j:Int) < (n:Int):=by omega
   have hssz:s.size≤70368744177664:=by rw [Zag] at hsl; exact hsl
   have hlen2:l.length + (bytes k).length + (ZaO (ss.take j)).length + (bytes s).length≤140737488355000:=by
    have h1:=ZgA (ss:=ss) (j + 1)
    rw [Zfh (by rw [HN.out]; exact hlt),hs,List.length_append,List.length_append] at h1
    have:=HLK.out; have:=HK.out
    omega
   have HL2:=zh hlen2
   clear hs hsl hlen2
   go_wp2_with (go_at_call 223; refine (Zf5 lo g _ 32 _ hWj.out (by omega)).mono ?_)
   rintro e w2 ⟨rfl,hW2,hF2⟩
   have HW2:=zh hW2
   have HF2:=zh hF2
   have HS2:=zh (hSj.out.wr hWj.out hF2)
   clear hW2 hF2
   go_wp2_with (go_at_call 222; refine (Ze0 lo g _ s _ HW2.out (by
    have:=HL2.out; rw [Zag s] at this
    simp only [List.length_append,List.length_cons,List.length_nil]; omega)).mono ?_)
   rintro e w3 ⟨rfl,hW3,hF3⟩
   have HW3:Hid (WrIs lo g (l ++ bytes k ++ ZaO (ss.take (j + 1))) w3):=by unfold Hid; rw [hstep.out]; exact hW3
   have HF3:Hid (WrFr lo g w' w3):=(hFj.out.trans HF2.out).trans hF3
   have HS3:=zh (HS2.out.wr HW2.out hF3)
   clear hW3 hF3
   go_wp2
   go_roundw
   case rel=>exact ⟨j + 1,by omega,by go_num,HW3.out,HF3.out,HS3.out⟩
   case measure=>simp [intOf]; omega
  ·obtain rfl:j=n:=by omega
   have HWn:Hid (WrIs lo g (l ++ bytes k ++ ZaO ss) wr):=by
    have h:=hWj.out
    rw [List.take_of_length_le (by rw [HN.out]; exact Nat.le_refl _)] at h
    exact h
   have hln:(l ++ bytes k ++ ZaO ss).length + 1≤140737488355328:=by
    have:=HLK.out; have:=HK.out
    rw [List.length_append,List.length_append]; omega
   clear hWj hlen
   go_wp2_with (go_at_call 223; refine (Zf5 lo g _ 10 _ HWn.out hln).mono ?_)
   rintro e w2 ⟨rfl,hW2,hF2⟩
   have HW2:Hid (WrIs lo g (l ++ Zax k ss) w2):=by
    unfold Hid Zax
    rw [show l ++ (bytes k ++ ZaO ss ++ [10])=l ++ bytes k ++ ZaO ss ++ [10] by simp only [List.append_assoc]]
    exact hW2
   have HF2:Hid (WrFr lo g w' w2):=hFj.out.trans hF2
   clear hW2 hF2
   go_wp2
   go_end0
   exact ⟨rfl,HW2.out,HF2.out⟩
end Go.Proofs.YtcpjeaaapocoeaaGreatDoor

namespace Go.Proofs.YtcpjeaaapocoeaaGreatDoor
open Go.RowKit
def Zdc (z:Int):Prop := -9223372036854775808≤z∧z≤9223372036854775807
def Zaf (z:Int):ByteArray:=⟨(Lib.itoa z).toArray⟩
set_option maxHeartbeats 4000000 in
theorem ZhW (A:Option Addr) (c:Nat) (zs:List Int) (w:World) (hg:Glob w) (hI:IRow w A zs) (hz:∀ i,i < zs.length→Zdc (nth zs i)) (hl:zs.length≤1000000) :
 Calls Tryz.prog 110 #[.slice A zs.length c] w fun e w'=>∃ b,e=.returned (.slice (some ⟨b,0,none⟩) zs.length zs.length)∧w.heap.size≤b∧Blk 9 w' b (Lib.cellsOf (zs.map Zaf) zs.length)∧Ext w w':=by
 obtain ⟨n,hn⟩:∃ n,zs.length=n:=⟨_,rfl⟩
 rw [hn]
 have HG:=zh hg
 have HI:=zh hI
 have HZ:=zh hz
 have HN:=zh hn
 have hmk:=run_make_row' (P:=Tryz.prog) 59 9 (.string ByteArray.empty) 16 Tryz.underlying59 (by kernel_rfl) rfl .i64 .i64 n (by omega) (by omega)
 clear hg hI hz
 go_enter Tryz.func110,Tryz.ntmps110
 go_wp2
 generalize hwb:World.alloc w _=wb
 obtain ⟨b,hb⟩:∃ b,w.heap.size=b:=⟨_,rfl⟩
 rw [hb]
 have HB:Hid (Blk 9 wb b (Lib.cellsOf [] n)):=by
  unfold Hid; rw [← hwb,← hb,Lib.cellsOf_nil]; exact Blk.new _ _ _
 have HE:Hid (Ext w wb):=hwb ▸ (Fr.refl _ _).alloc _
 have Hb:=zh hb
 clear hmk hwb
 go_loopw [11] (fun v wr=>∃ j:Nat,j≤n∧v=.int .i64 (j:Int)∧Hid (Blk 9 wr b (Lib.cellsOf ((zs.take j).map Zaf) n))∧Hid (Ext w wr)) (fun v _=>n - (intOf v).toNat)
 case atStart=>exact ⟨0,by omega,rfl,HB,HE⟩
 case round =>
  obtain ⟨j,hj,rfl,hB,Q⟩:=hrel
  by_cases hlt:j < n
  ·obtain ⟨bA,off,rfl,_,hc⟩:=HI.out.ext Q.out j (by rw [HN.out]; exact hlt)
   have hzr:=HZ.out j (by rw [HN.out]; exact hlt)
   have hj0:(0:Int)≤(j:Int):=by omega
   have hjn:(j:Int) < (n:Int):=by omega
   have hstep:Hid ((zs.take (j + 1)).map Zaf=(zs.take j).map Zaf ++ [Zaf (nth zs j)]):=by
    unfold Hid nth
    rw [List.take_succ_eq_append_getElem (by rw [HN.out]; exact hlt),List.map_append,List.getElem?_eq_getElem (by rw [HN.out]; exact hlt)]
    rfl
   have hjl:Hid (((zs.take j).map Zaf).length=j):=by
    unfold Hid; rw [List.length_map,List.length_take,HN.out]; omega
   obtain ⟨z,hz⟩:∃ z,nth zs j=z:=⟨_,rfl⟩
   rw [hz] at hc hzr hstep
   clear hz
   go_wp2_with fail
   refine (Tryz.strconv_Itoa z hzr.1 hzr.2 _ (HG.out.ext Q.out).1).mono ?_
   rintro e w2 ⟨rfl,kk,os,eo⟩
   have hE1:Ext wr w2:=by rw [eo]; exact Fr.ofBelow (Lib.below_grow _ wr (Nat.le_refl _) kk os)
   have hB2:=hB.out.ext hE1
   have hcell:w2.cell? ⟨b,j,none⟩=some (.string ByteArray.empty):=by
    rw [hB2.cell]
    have:=Lib.cellsOf_next (done:=(zs.take j).map Zaf) (N:=n) (by rw [hjl.out]; exact hlt)
    rwa [hjl.out] at this
   have hfrz:=hB2.frozen j
   have HBs:Hid (Blk 9 (w2.setCell ⟨b,j,none⟩ (.string (Zaf z))) b (Lib.cellsOf ((zs.take (j + 1)).map Zaf) n)):=by
    have h:=hB2.set_ j (.string (Zaf z))
    have h2:=Lib.cellsOf_set (done:=(zs.take j).map Zaf) (N:=n) (by rw [hjl.out]; exact hlt) (Zaf z)
    rw [hjl.out] at h2
    rw [h2,← hstep.out] at h
    exact h
   have HEs:Hid (Ext w (w2.setCell ⟨b,j,none⟩ (.string (Zaf z)))):=(Q.out.trans hE1).setCell (p:=⟨b,j,none⟩) (Or.inr (by rw [Hb.out]; exact Nat.le_refl _)) _
   change Hid (Blk 9 (w2.setCell ⟨b,j,none⟩ (.string ⟨(Lib.itoa z).toArray⟩)) b _) at HBs
   change Hid (Ext w (w2.setCell ⟨b,j,none⟩ (.string ⟨(Lib.itoa z).toArray⟩))) at HEs
   clear hE1 hB2 eo hB Q hc
   go_wp2
   go_roundw
   case rel=>exact ⟨j + 1,by omega,by go_num,HBs.out,HEs.out⟩
   case measure=>simp [intOf]; omega
  ·obtain rfl:j=n:=by omega
   have HBn:Hid (Blk 9 wr b (Lib.cellsOf (zs.map Zaf) j)):=by
    have h:=hB.out
    rw [List.take_of_length_le (by rw [HN.out]; exact Nat.le_refl _)] at h
    exact h
   have hbl:w.heap.size≤b:=by rw [Hb.out]; exact Nat.le_refl _
   go_wp2
   go_ret
   exact ⟨b,rfl,hbl,HBn.out,Q.out⟩
end Go.Proofs.YtcpjeaaapocoeaaGreatDoor

namespace Go.Proofs.YtcpjeaaapocoeaaGreatDoor
open Go.RowKit
section
variable {N:Nat} {S0:Nat→Prop} {w0:World} {s:St} {Φ Ψ:World→Prop} {L:Nat→Nat} {a:Act} {w:World} {P:Program} {ops:Array Oper} {Q:Exit→Act→World→Prop}
def SWr (lo g:Nat) (w0:World) (i:Nat):Prop:=i=g∨(lo≤i∧IsU8 w0 i)
theorem WrFr.s0 {lo g:Nat} {w0 w w':World} (Q:Fr (SWr lo g w0) w0 w) (h:WrFr lo g w w'):Fr (SWr lo g w0) w0 w':=WrFr.trans Q h
theorem ZbM {lo g:Nat} {wl w0 w:World} (h0:Ext wl w0) (hlo:wl.heap.size=lo) (hg:lo≤g) (Q:Fr (SWr lo g w0) w0 w):Ext wl w:=by
 subst hlo
 exact Fr.next h0 Q (fun i hi hT=>by rcases hT with e | ⟨e,_⟩<;>omega)
theorem WrIs.fr {lo g:Nat} {l:List UInt8} {S:Nat→Prop} {w w':World} (h:WrIs lo g l w) (hF:Fr S w w') (hg:¬ S g) (h8:∀ i,IsU8 w i→¬ S i):WrIs lo g l w':=by
 have hlt:g < w.heap.size:=by
  obtain ⟨cs,hc⟩:=h.blk
  rcases Nat.lt_or_ge g w.heap.size with h | h
  ·exact h
  ·rw [Array.getElem?_eq_none h] at hc; cases hc
 obtain ⟨p,hp,hB,v,hbk,hown,hne⟩:=h
 refine ⟨p,hp,hB,v,(hF.block g hlt hg).trans hbk,?_,hne⟩
 obtain ⟨h1,h2⟩:=hown
 refine ⟨h1,?_⟩
 rcases h2 with h2 | ⟨k,cap,cur,e,hk,hh,r⟩
 ·exact Or.inl h2
 ·have hkl:k < w.heap.size:=by
   rcases Nat.lt_or_ge k w.heap.size with h | h
   ·exact h
   ·rw [Array.getElem?_eq_none h] at hh; cases hh
  exact Or.inr ⟨k,cap,cur,e,hk,(hF.block k hkl (h8 k ⟨_,_,hh⟩)).trans hh,r⟩
def noWr (bl:BlL):Bool:=bl.all (fun q => !(Nat.beq q.2.1 119) && !(Nat.beq q.2.1 5))
theorem ZhX {i d lo g:Nat} {sl:SlL} {bl:BlL} {l:List UInt8} {v:Value} (Ψ:World→Prop) (f:FuncId) (args:List Value) (hS0:∀ w w',Fr S0 w0 w→WrFr lo g w w'→Fr S0 w0 w') (hno:noWr bl=true)
 (hC:∀ w,Fr S0 w0 w→Φ w→Calls P f args.toArray w (fun en w'=>en=.returned v∧Ψ w'∧WrFr lo g w w'))
 (R:∀ w,Φ w→WrIs lo g l w) (hΨ:∀ (S:Nat→Prop) (w w':World),Ψ w→Fr S w w'→¬ S g→(∀ i,IsU8 w i→¬ S i)→Ψ w')
 (K:SXi P N S0 w0 ops Q (i + 1) ((ofL sl bl).put d (.v v)) Ψ)
 (hsz:Nat.blt i ops.size=true:=by kernel_rfl) (h:Zb5 P N ops (opAt ops i) (ofL sl bl)=some (f,args,d):=by kernel_rfl):SXi P N S0 w0 ops Q i (ofL sl bl) Φ:=by
 obtain ⟨hw,hq,hd,hn,hv,hk,hN⟩:=ZcA h
 unfold SXi
 rw [ZcD hsz]
 intro L a w hi
 refine wpList_step (fun K' hK=>?_)
 rw [if_pos (hi.want hw)]
 unfold Oper.wp
 rw [hi.exec hn hv,ZeU hq hk,Oper.upon_enter]
 refine Calls.mono (hC w hi.mem.ext hi.box.self) fun en w' h'=>?_
 obtain ⟨rfl,hW,hF⟩:=h'
 simp only [hd]
 have h0:=hi.app0 (d:=d) hN (al_v (s:=ofL sl bl) v)
 obtain ⟨cg,hcg⟩:=(R w hi.box.self).blk
 have hown:∀ b t cs,(ofL sl bl).bl b=some (t,cs)→¬ (L b=g∨(lo≤L b∧IsU8 w (L b))):=fun b t cs e hs=>by
  have hB:w.heap[L b]? = some (.cells _ t (0,0)):=hi.mem.blk b t cs e
  have hq:=List.all_eq_true.1 hno _ (Za9 e)
  simp only [Bool.and_eq_true,Bool.not_eq_true'] at hq
  rcases hs with e | ⟨_,c2,f2,h8⟩
  ·rw [e,hcg] at hB
   injection hB with hB
   injection hB with _ e2 _
   subst e2
   exact absurd hq.1 (by decide)
  ·rw [h8] at hB
   injection hB with hB
   injection hB with _ e2 _
   subst e2
   exact absurd hq.2 (by decide)
 refine hK _ _ (K L _ _ ⟨h0.size,h0.df,h0.sl,⟨fun b t cs e=>(h0.mem.blk b t cs e).fr hF (hown b t cs e),h0.mem.inj,h0.mem.old,?_,h0.mem.slp,h0.mem.cel⟩,fun w2 hf=>?_⟩)
 ·exact hS0 _ _ hi.mem.ext hF
 ·have hB':∀ b t cs,(ofL sl bl).bl b=some (t,cs)→∃ cc,w'.heap[L b]? = some (.cells cc t (0,0)):=fun b t cs e=>⟨_,(h0.mem.blk b t cs e).fr hF (hown b t cs e)⟩
  refine hΨ _ _ _ hW hf (fun ⟨b,hb,e⟩=>?_) (fun i h8 ⟨b,hb,e⟩=>?_)
  ·obtain ⟨⟨t,cs⟩,eb⟩:=Option.isSome_iff_exists.1 hb
   exact hown b t cs eb (Or.inl e)
  ·obtain ⟨⟨t,cs⟩,eb⟩:=Option.isSome_iff_exists.1 hb
   obtain ⟨cc,hcc⟩:=hB' b t cs eb
   obtain ⟨c2,f2,h8⟩:=h8
   have hq:=List.all_eq_true.1 hno _ (Za9 eb)
   simp only [Bool.and_eq_true,Bool.not_eq_true'] at hq
   rw [e,h8] at hcc
   injection hcc with hcc
   injection hcc with _ e2 _
   subst e2
   exact absurd hq.2 (by decide)
theorem ZhY {i d lo g:Nat} {sl:SlL} {bl:BlL} {l l':List UInt8} {v:Value} (f:FuncId) (args:List Value) (hS0:∀ w w',Fr S0 w0 w→WrFr lo g w w'→Fr S0 w0 w') (hno:noWr bl=true)
 (hC:∀ w,Fr S0 w0 w→Φ w→Calls P f args.toArray w (fun en w'=>en=.returned v∧WrIs lo g l' w'∧WrFr lo g w w'))
 (R:∀ w,Φ w→WrIs lo g l w)
 (K:SXi P N S0 w0 ops Q (i + 1) ((ofL sl bl).put d (.v v)) (fun w=>WrIs lo g l' w))
 (hsz:Nat.blt i ops.size=true:=by kernel_rfl) (h:Zb5 P N ops (opAt ops i) (ofL sl bl)=some (f,args,d):=by kernel_rfl):SXi P N S0 w0 ops Q i (ofL sl bl) Φ :=
 ZhX (l:=l) (WrIs lo g l') f args hS0 hno hC R (fun _ _ _ hW hf h1 h2=>hW.fr hf h1 h2) K hsz h
end
theorem ZeM {m0:Nat} {P:Program} {o:Oper} {ρ:Operand→Value} {w:World} {t e:TypeId} {n sz:Nat} {z:Value} {parts:Array (Nat × Operand)} {cells:Array Value} (hm:m0≤w.heap.size) (ho:o.op=Op.buildSlice t n parts) (ht:P.underlying t=some (.slice e))
 (hinfo:(P.info? e).map (fun i=>(i.zero,i.size))=some (some z,sz)) (hn:Nat.ble (n * sz) 1000=true) (hn0:Nat.beq (n * sz) 0=false)
 (hf:Instr.fill (fun i=>some (i * sz,sz)) ((List.range (n * sz)).map (fun i=>z.cells[i % z.cells.size]!)).toArray (parts.toList.map fun q=>(q.1,ρ q.2))=some cells) :
 Does P o ρ w (DoR (fun b:{b:Nat // m0≤b}=>.slice (some ⟨b.1,0,none⟩) n n) (fun b w=>Blk e w b.1 cells) w):=by
 have hrun:=ZiH (w:=w) ht hinfo hn hn0 hf
 exact Or.inl ⟨_,_,by simp [execOp,ho,hrun,Result.andThen],⟨w.heap.size,hm⟩,rfl,(Fr.refl _ w).alloc _,fun S hS w'' hF=>(Blk.new w e cells).fr hF (fun h=>by have:=(hS _ h).1; omega)⟩
theorem ZgB {w w':World} {en:Ending} {zs:List Int} (h:∃ b,en=.returned (.slice (some ⟨b,0,none⟩) zs.length zs.length)∧w.heap.size≤b∧Blk 9 w' b (Lib.cellsOf (zs.map Zaf) zs.length)∧Ext w w') :
 Zbh (fun b:Nat=>.slice (some ⟨b,0,none⟩) zs.length zs.length) (fun b w=>Blk 9 w b ((zs.map Zaf).map Value.string).toArray) w en w':=by
 obtain ⟨b,rfl,hb,hB,Q⟩:=h
 have hB2:Blk 9 w' b ((zs.map Zaf).map Value.string).toArray:=by
  have e:Lib.cellsOf (zs.map Zaf) zs.length=((zs.map Zaf).map Value.string).toArray:=by
   have:=Lib.cellsOf_full (zs.map Zaf)
   rwa [List.length_map] at this
  rw [e] at hB; exact hB
 exact ⟨b,rfl,Q,fun S hS w'' hF=>hB2.fr hF (fun h=>by have:=(hS _ h).1; omega)⟩
theorem SRow.ofStr {w:World} {b:Nat} {ss:List ByteArray} {cur:List Value} (h:Blk 9 w b cur.toArray) (hc:cur.take ss.length=ss.map Value.string):SRow w (some ⟨b,0,none⟩) ss:=fun _=>by
 refine ⟨b,0,_,_,rfl,h,fun i hi=>?_⟩
 rw [Nat.zero_add]
 have h1:(cur.take ss.length)[i]? = (ss.map Value.string)[i]? := by rw [hc]
 rw [List.getElem?_take_of_lt hi,List.getElem?_map,List.getElem?_eq_getElem hi] at h1
 simpa [List.getElem?_eq_getElem hi] using h1
end Go.Proofs.YtcpjeaaapocoeaaGreatDoor

namespace Go.Proofs.YtcpjeaaapocoeaaGreatDoor
open Go.RowKit
section
variable {N:Nat} {S0:Nat→Prop} {w0:World} {s:St} {Φ Φ0:World→Prop} {P:Program} {ops:Array Oper} {Q:Exit→Act→World→Prop}
theorem Strat.append {fin:St→(World→Prop)→Prop} {l2:List Nat}:∀ (l:List Nat) (s:St) (Φ:World→Prop),Strat P N S0 w0 ops Φ0 (fun s Φ=>Strat P N S0 w0 ops Φ0 fin l2 s Φ) l s Φ→Strat P N S0 w0 ops Φ0 fin (l ++ l2) s Φ:=by
 intro l s Φ h
 generalize hf:(fun s Φ=>Strat P N S0 w0 ops Φ0 fin l2 s Φ)=f at h
 induction h with
 | done h=>subst hf; exact h
 | flt h hd hN _ ih=>exact .flt h hd hN ih
 | does hα sh φ hm hw hn hv hd hN hdo _ ih=>exact .does hα sh φ hm hw hn hv hd hN hdo ih
 | sto hm h hd _ ih=>exact .sto hm h hd ih
theorem Strat.fin {f g:St→(World→Prop)→Prop} (hfg:∀ s Φ,f s Φ→g s Φ) {l:List Nat} {s:St} {Φ:World→Prop} (h:Strat P N S0 w0 ops Φ0 f l s Φ):Strat P N S0 w0 ops Φ0 g l s Φ:=by
 induction h with
 | done h=>exact .done (hfg _ _ h)
 | flt h hd hN _ ih=>exact .flt h hd hN ih
 | does hα sh φ hm hw hn hv hd hN hdo _ ih=>exact .does hα sh φ hm hw hn hv hd hN hdo ih
 | sto hm h hd _ ih=>exact .sto hm h hd ih
def okP (R:Nat→Nat→Bool) (ops:Array Oper) (s0:St) (y j:Nat):Bool:=R j y || ((opAt ops y).apart ops (opAt ops j) && (Zch (opAt ops y).op (opAt ops j).op || (lsB (opAt ops y).op (opAt ops j).op && farB ops s0 (opAt ops y) (opAt ops j))))
theorem ZhZ {R:Nat→Nat→Bool} {s0:St} {y j:Nat} {oj:Oper} {listed:Array Bool} (hR:ZdU ops R) (hcl:Zb9 .any ops listed) (hoj:ops[j]? = some oj) (hall:∀ e ∈ oj.after,Region.binds .any e=true→listed.getD e.on false=true) (hyu:listed.getD y true=false)
 (h:okP R ops s0 y j=true):(opAt ops y).apart ops (opAt ops j)=true∧(Zch (opAt ops y).op (opAt ops j).op=true∨(lsB (opAt ops y).op (opAt ops j).op=true∧farB ops s0 (opAt ops y) (opAt ops j)=true)):=by
 unfold okP at h
 rw [Bool.or_eq_true] at h
 rcases h with h1 | h1
 ·have h2:=hR listed hcl j y h1 (fun o ho=>by
   have:o=oj:=Option.some.inj (ho.symm.trans hoj)
   subst this
   exact hall)
  rw [getD_both hyu] at h2
  cases h2
 ·simpa only [Bool.and_eq_true,Bool.or_eq_true] using h1
theorem ZiK {n:Nat} {listed:Array Bool} (hn:n≤ops.size) (hback:Zdk ops=true) (hsz:listed.size=ops.size) (h:∃ i,i < n∧listed.getD i true=false):Region.ready .any ops listed≠[]:=by
 obtain ⟨x,R',hR'⟩:∃ x R,un n listed=x :: R:=by
  cases e:un n listed with
  | nil=>obtain ⟨i,hi⟩:=h; have:=Zca.2 hi; rw [e] at this; cases this
  | cons x R=>exact ⟨x,R,rfl⟩
 have hx:=Zca.1 (by rw [hR']; exact List.mem_cons_self:x ∈ un n listed)
 have hmin:∀ i,i < x→listed.getD i true=true:=fun i hix=>by
  cases h:listed.getD i true with
  | true=>rfl
  | false =>
    have:=Zca.2 ⟨(by omega:i < n),h⟩
    rw [hR'] at this
    have hs:=ZdB n listed
    rw [hR'] at hs
    rcases List.mem_cons.1 this with e | e
    ·omega
    ·have:=(List.pairwise_cons.1 hs).1 i e; omega
 have hxr:x ∈ Region.ready .any ops listed:=by
  have hxs:x < ops.size:=by omega
  refine mem_ready.2 ⟨hx.2,opAt ops x,Zct hxs,fun e he heb=>?_⟩
  have h1:=List.all_eq_true.1 hback x (List.mem_range.2 hxs)
  rw [Zct hxs] at h1
  have h2':=Array.all_eq_true'.1 h1 e he
  rw [heb] at h2'
  have h2:=Nat.le_of_ble_eq_true h2'
  have h3:=hmin e.on h2
  have h4:e.on < listed.size:=by rw [hsz]; exact Nat.lt_trans h2 hxs
  simp [h4] at h3 ⊢; exact h3
 intro h
 rw [h] at hxr; cases hxr
theorem Zh0 {l1 l2:List Nat} {j n:Nat} {listed:Array Bool} (hnd:(l1 ++ j :: l2).Nodup) (hsz:j < listed.size) (hm:∀ i,i ∈ l1 ++ j :: l2 ↔ i < n∧listed.getD i true=false):∀ i,i ∈ l1 ++ l2 ↔ i < n∧(listed.setIfInBounds j true).getD i true=false:=fun i=>by
 have hj:j ∉ l1 ++ l2:=fun h=>by
  rw [List.nodup_append] at hnd
  obtain ⟨_,h2,h3⟩:=hnd
  rcases List.mem_append.1 h with h | h
  ·exact h3 j h j List.mem_cons_self rfl
  ·exact (List.nodup_cons.1 h2).1 h
 by_cases e:i=j
 ·subst e
  have:(listed.setIfInBounds i true).getD i true=true:=by simp [hsz]
  rw [this]
  simp [hj]
 ·rw [getD_set_ne true (Ne.symm e),← hm i]
  simp [e]
theorem Znk {fin:St→(World→Prop)→Prop} {s0:St} {n:Nat} {R:Nat→Nat→Bool} (hR:ZdU ops R) (hu:Zc2 ops=true) (hn:n≤ops.size) (hback:Zdk ops=true) (htail:∀ i,i < n→ZbO .any ops n i=true) (hseq:Region.seqB .any ops (ops.size - n) n (ZbF ops n)=true) (hne:∃ w,Φ0 w)
 (hfin:∀ s Φ,fin s Φ→∀ L a w,Inv N S0 w0 s Φ L a w→wpList P ops Q (ops.toList.drop n) a w) :
 ∀ (k:Nat) (listed:Array Bool) (LL:List Nat) (s:St) (Φ:World→Prop) (L:Nat→Nat) (a:Act) (w:World),LL.length=k→listed.size=ops.size→(∀ i,i ∈ LL ↔ i < n∧listed.getD i true=false)→LL.Nodup→LL.Pairwise (fun y j=>okP R ops s0 y j=true)→(∀ i,n≤i→i < ops.size→listed.getD i true=false)→Zb9 .any ops listed →
   BI ops s0 s→(∀ w,Φ w→Φ0 w)→Inv N S0 w0 s Φ L a w→Strat P N S0 w0 ops Φ0 fin LL s Φ→wpAny P .any ops Q (k + (ops.size - n)) listed a w:=by
 intro k
 induction k with
 | zero =>
   intro listed LL s Φ L a w hk hsz hmem hnd hpw htl hcl hBI S hi hS
   obtain rfl:LL=[]:=List.length_eq_zero_iff.1 hk
   have hl:listed=ZbF ops n:=by
    refine Array.ext (by simp [ZbF,hsz]; omega) (fun i h1 h2=>?_)
    have hi':i < ops.size:=by rw [← hsz]; exact h1
    have e:listed.getD i true=listed[i]:=by simp [h1]
    rw [← e]
    by_cases hin:i < n
    ·have:listed.getD i true≠false:=fun h=>by
      have:=(hmem i).2 ⟨hin,h⟩
      cases this
     simp only [ZbF,List.getElem_toArray]
     rw [List.getElem_append_left (by simpa using hin),List.getElem_replicate]
     cases h:listed.getD i true with
     | true=>rfl
     | false=>exact absurd h this
    ·rw [htl i (by omega) hi']
     simp only [ZbF,List.getElem_toArray]
     rw [List.getElem_append_right (by simpa using hin),List.getElem_replicate]
   have hdl:(ops.toList.drop n).length=ops.size - n:=by simp
   cases hS with
   | done hf =>
     have:=wpAny_of_seq (md:=.any) (Q':=Q) (ops.toList.drop n) n listed a w (fun j=>by simp [List.getElem?_drop]) (by rw [hdl,hl]; exact hseq) (hfin _ _ hf L a w hi)
     rw [hdl] at this
     rw [Nat.zero_add]; exact this
 | succ k ih =>
   intro listed LL s Φ L a w hk hsz hmem hnd hpw htl hcl hBI S hi hS
   rw [show k + 1 + (ops.size - n)=(k + (ops.size - n)) + 1 by omega]
   have hex:∃ i,i < n∧listed.getD i true=false:=by
    cases LL with
    | nil=>cases hk
    | cons x l=>exact ⟨x,(hmem x).1 List.mem_cons_self⟩
   refine ⟨fun h=>absurd h (ZiK hn hback hsz hex),fun j hj=>?_⟩
   obtain ⟨i0,hi0,hi1⟩:=hex
   have hjn:j < n:=ZfC (htail i0 hi0) hcl hi1 hj
   obtain ⟨hjun,oj,hoj,hall⟩:=mem_ready.1 hj
   have hjm:j ∈ LL:=(hmem j).2 ⟨hjn,hjun⟩
   obtain ⟨l1,l2,rfl⟩:=List.append_of_mem hjm
   have hap:∀ y,y ∈ l1→y < ops.size∧(opAt ops y).apart ops (opAt ops j)=true∧(Zch (opAt ops y).op (opAt ops j).op=true∨(lsB (opAt ops y).op (opAt ops j).op=true∧farB ops s0 (opAt ops y) (opAt ops j)=true)):=fun y hy=>by
    have hyu:=(hmem y).1 (List.mem_append_left _ hy)
    exact ⟨by omega,ZhZ hR hcl hoj hall hyu.2 ((List.pairwise_append.1 hpw).2.2 y hy j List.mem_cons_self)⟩
   have hS':=Strat.front hu hne l1 l2 s Φ hi.wf hBI hap hS
   refine Strat.exec hu hBI (by omega) hi S hS' (fun s' Φ' L' a' w' hBI' hΦ' hi' K'=>?_)
   have hsub:(l1 ++ l2).Sublist (l1 ++ j :: l2):=List.Sublist.append_left (List.sublist_cons_self j l2) l1
   refine ih (listed.setIfInBounds j true) (l1 ++ l2) s' Φ' L' a' w' ?_ (by simp [hsz]) (Zh0 hnd (by omega) hmem) (hnd.sublist hsub) (hpw.sublist hsub) (fun i h1 h2=>?_) (hcl.set hj) hBI' hΦ' hi' K'
   ·simp only [List.length_append,List.length_cons] at hk ⊢
    omega
   ·rw [getD_set_ne true (by omega)]; exact htl i h1 h2
theorem ZiL {fin:St→(World→Prop)→Prop} {s0:St} {n j:Nat} {R:Nat→Nat→Bool} (hR:ZdU ops R) (hu:Zc2 ops=true) (hn:n≤ops.size) (hback:Zdk ops=true) (htail:∀ i,i < n→ZbO .any ops n i=true) (hseq:Region.seqB .any ops (ops.size - n) n (ZbF ops n)=true) (hne:∃ w,Φ0 w)
 (hfin:∀ s Φ,fin s Φ→∀ L a w,Inv N S0 w0 s Φ L a w→wpList P ops Q (ops.toList.drop n) a w) {listed:Array Bool} {l1 l2:List Nat} {s:St} {Φ:World→Prop} {L:Nat→Nat} {a:Act} {w:World} (hsz:listed.size=ops.size) (hmem:∀ i,i ∈ l1 ++ j :: l2 ↔ i < n∧listed.getD i true=false) (hnd:(l1 ++ j :: l2).Nodup)
 (hp:∀ y,y ∈ l1→okP R ops s0 y j=true) (hpw:(l1 ++ l2).Pairwise (fun y j=>okP R ops s0 y j=true)) (htl:∀ i,n≤i→i < ops.size→listed.getD i true=false) (hcl:Zb9 .any ops listed) (hBI:BI ops s0 s) (S:∀ w,Φ w→Φ0 w) (hi:Inv N S0 w0 s Φ L a w) (hj:j ∈ Region.ready .any ops listed)
 (hS:Strat P N S0 w0 ops Φ0 fin (l1 ++ j :: l2) s Φ):wpOp P ops Q j (fun a w=>wpAny P .any ops Q ((l1 ++ l2).length + (ops.size - n)) (listed.setIfInBounds j true) a w) a w:=by
 obtain ⟨hjun,oj,hoj,hall⟩:=mem_ready.1 hj
 have hjn:=((hmem j).1 (by simp)).1
 have hap:∀ y,y ∈ l1→y < ops.size∧(opAt ops y).apart ops (opAt ops j)=true∧(Zch (opAt ops y).op (opAt ops j).op=true∨(lsB (opAt ops y).op (opAt ops j).op=true∧farB ops s0 (opAt ops y) (opAt ops j)=true)):=fun y hy=>by
  have hyu:=(hmem y).1 (List.mem_append_left _ hy)
  exact ⟨by omega,ZhZ hR hcl hoj hall hyu.2 (hp y hy)⟩
 have hS':=Strat.front hu hne l1 l2 s Φ hi.wf hBI hap hS
 have hsub:(l1 ++ l2).Sublist (l1 ++ j :: l2):=List.Sublist.append_left (List.sublist_cons_self j l2) l1
 exact Strat.exec hu hBI (by omega) hi S hS' (fun s' Φ' L' a' w' hBI' hΦ' hi' K'=>Znk hR hu hn hback htail hseq hne hfin _ (listed.setIfInBounds j true) (l1 ++ l2) s' Φ' L' a' w' rfl (by simp [hsz]) (Zh0 hnd (by omega) hmem) (hnd.sublist hsub) hpw (fun i h1 h2=>by rw [getD_set_ne true (by omega)]; exact htl i h1 h2) (hcl.set hj) hBI' hΦ' hi' K')
theorem Znl {fin:St→(World→Prop)→Prop} {s0:St} {n x0 y0:Nat} {RR:List Nat} {R:Nat→Nat→Bool} (hR:ZdU ops R) (hu:Zc2 ops=true) (hn:n≤ops.size) (hback:Zdk ops=true) (htail:∀ i,i < n→ZbO .any ops n i=true) (hseq:Region.seqB .any ops (ops.size - n) n (ZbF ops n)=true) (hne:∃ w,Φ0 w) (hRR:∀ r,r ∈ RR→R r x0=true)
 (hfin:∀ s Φ,fin s Φ→∀ L a w,Inv N S0 w0 s Φ L a w→wpList P ops Q (ops.toList.drop n) a w) :
 ∀ (k:Nat) (listed:Array Bool) (LL:List Nat) (s:St) (Φ:World→Prop) (L:Nat→Nat) (a:Act) (w:World),LL.length=k→listed.size=ops.size→(∀ i,i ∈ LL ++ x0 :: y0 :: RR ↔ i < n∧listed.getD i true=false)→(LL ++ x0 :: y0 :: RR).Nodup→(LL ++ x0 :: RR).Pairwise (fun y j=>okP R ops s0 y j=true)→(LL ++ y0 :: RR).Pairwise (fun y j=>okP R ops s0 y j=true)→(∀ i,n≤i→i < ops.size→listed.getD i true=false)→Zb9 .any ops listed →
   BI ops s0 s→(∀ w,Φ w→Φ0 w)→Inv N S0 w0 s Φ L a w→Strat P N S0 w0 ops Φ0 (fun s Φ=>Strat P N S0 w0 ops Φ0 fin (x0 :: y0 :: RR) s Φ∧Strat P N S0 w0 ops Φ0 fin (y0 :: x0 :: RR) s Φ) LL s Φ→wpAny P .any ops Q (k + 2 + RR.length + (ops.size - n)) listed a w:=by
 intro k
 induction k using Nat.strongRecOn with
 | _ k ih =>
   intro listed LL s Φ L a w hk hsz hmem hnd hp1 hp2 htl hcl hBI S hi hS
   have hA:Strat P N S0 w0 ops Φ0 fin (LL ++ x0 :: y0 :: RR) s Φ:=Strat.append LL s Φ (hS.fin (fun _ _ h=>h.1))
   have hB:Strat P N S0 w0 ops Φ0 fin (LL ++ y0 :: x0 :: RR) s Φ:=Strat.append LL s Φ (hS.fin (fun _ _ h=>h.2))
   rw [show k + 2 + RR.length + (ops.size - n)=(k + 1 + RR.length + (ops.size - n)) + 1 by omega]
   have hex:∃ i,i < n∧listed.getD i true=false:=⟨x0,(hmem x0).1 (by simp)⟩
   refine ⟨fun h=>absurd h (ZiK hn hback hsz hex),fun j hj=>?_⟩
   obtain ⟨i0,hi0,hi1⟩:=hex
   have hjn:j < n:=ZfC (htail i0 hi0) hcl hi1 hj
   obtain ⟨hjun,oj,hoj,hall⟩:=mem_ready.1 hj
   have hjm:j ∈ LL ++ x0 :: y0 :: RR:=(hmem j).2 ⟨hjn,hjun⟩
   have hpx:=List.pairwise_append.1 hp1
   have hpy:=List.pairwise_append.1 hp2
   by_cases hx:j=x0
   ·subst hx
    have:=ZiL hR hu hn hback htail hseq hne hfin (l1:=LL) (l2:=y0 :: RR) (s0:=s0) hsz hmem hnd (fun y hy=>hpx.2.2 y hy j (by simp)) hp2 htl hcl hBI S hi hj hA
    rw [List.length_append,hk,List.length_cons,show k + (RR.length + 1)=k + 1 + RR.length by omega] at this
    exact this
   by_cases hy:j=y0
   ·subst hy
    have hnd2:(LL ++ j :: x0 :: RR).Nodup:=by
     refine (List.Perm.nodup_iff (List.Perm.append_left LL (List.Perm.swap j x0 RR))).1 hnd
    have:=ZiL hR hu hn hback htail hseq hne hfin (l1:=LL) (l2:=x0 :: RR) (s0:=s0) hsz (fun i=>by rw [← hmem i]; simp [or_left_comm]) hnd2 (fun y hy=>hpy.2.2 y hy j (by simp)) hp1 htl hcl hBI S hi hj hB
    rw [List.length_append,hk,List.length_cons,show k + (RR.length + 1)=k + 1 + RR.length by omega] at this
    exact this
   have hjl:j ∈ LL:=by
    have h3:j ∈ LL∨j ∈ RR:=by simpa [hx,hy] using hjm
    refine h3.elim id (fun h=>?_)
    have h2:=hR listed hcl j x0 (hRR j h) (fun o ho=>by
     have:o=oj:=Option.some.inj (ho.symm.trans hoj)
     subst this
     exact hall)
    rw [getD_both ((hmem x0).1 (by simp)).2] at h2
    cases h2
   obtain ⟨l1,l2,rfl⟩:=List.append_of_mem hjl
   rw [List.append_assoc,List.cons_append] at hmem hnd
   have hap:∀ y,y ∈ l1→y < ops.size∧(opAt ops y).apart ops (opAt ops j)=true∧(Zch (opAt ops y).op (opAt ops j).op=true∨(lsB (opAt ops y).op (opAt ops j).op=true∧farB ops s0 (opAt ops y) (opAt ops j)=true)):=fun y hy=>by
    have hyu:=(hmem y).1 (List.mem_append_left _ hy)
    exact ⟨by omega,ZhZ hR hcl hoj hall hyu.2 ((List.pairwise_append.1 hpx.1).2.2 y hy j List.mem_cons_self)⟩
   have hS':=Strat.front hu hne l1 l2 s Φ hi.wf hBI hap hS
   have hsub:(l1 ++ l2).Sublist (l1 ++ j :: l2):=List.Sublist.append_left (List.sublist_cons_self j l2) l1
   have hnd3:(l1 ++ l2 ++ x0 :: y0 :: RR).Nodup:=by
    refine hnd.sublist ?_
    rw [List.append_assoc]
    exact List.Sublist.append_left (List.sublist_cons_self j _) l1
   have hk2:(l1 ++ l2).length + 1=k:=by simp only [List.length_append,List.length_cons] at hk ⊢; omega
   refine Strat.exec hu hBI (by omega) hi S hS' (fun s' Φ' L' a' w' hBI' hΦ' hi' K'=>?_)
   have:=ih (l1 ++ l2).length (by omega) (listed.setIfInBounds j true) (l1 ++ l2) s' Φ' L' a' w' rfl (by simp [hsz]) (by rw [List.append_assoc]; exact Zh0 hnd (by omega) hmem) hnd3 (hp1.sublist (List.Sublist.append_right hsub _)) (hp2.sublist (List.Sublist.append_right hsub _)) (fun i h1 h2=>by rw [getD_set_ne true (by omega)]; exact htl i h1 h2) (hcl.set hj) hBI' hΦ' hi' K'
   rwa [show (l1 ++ l2).length + 2 + RR.length + (ops.size - n)=k + 1 + RR.length + (ops.size - n) by omega] at this
def pwB (f:Nat→Nat→Bool):List Nat→Bool
 | []=>true
 | y :: l=>l.all (fun j=>f y j) && pwB f l
theorem ZfM {f:Nat→Nat→Bool}:∀ {l:List Nat},pwB f l=true→l.Pairwise (fun y j=>f y j=true)
 | [],_=>.nil
 | y :: l,h=>by
   obtain ⟨h1,h2⟩:=(Bool.and_eq_true _ _).mp h
   exact .cons (fun j hj=>List.all_eq_true.1 h1 j hj) (ZfM h2)
def Znm (n:Nat) (l:List Nat):Bool:=pwB (fun a b => !(Nat.beq a b)) l && (l.all (fun i=>Nat.blt i n) && (List.range n).all (fun i=>l.any (fun j=>Nat.beq i j)))
theorem Zhx {n:Nat} {l:List Nat} (h:Znm n l=true):l.Nodup :=
 (ZfM ((Bool.and_eq_true _ _).mp h).1).imp (fun h e=>by subst e; simp at h)
theorem ZjW {n:Nat} {l:List Nat} (h:Znm n l=true) (i:Nat):i ∈ l ↔ i < n:=by
 obtain ⟨h1,h2⟩:=(Bool.and_eq_true _ _).mp ((Bool.and_eq_true _ _).mp h).2
 refine ⟨fun hi=>Nat.le_of_ble_eq_true (List.all_eq_true.1 h1 i hi),fun hi=>?_⟩
 obtain ⟨j,hj,e⟩:=List.any_eq_true.1 (List.all_eq_true.1 h2 i (List.mem_range.2 hi))
 rw [Nat.eq_of_beq_eq_true e]; exact hj
def Zk4 (ops:Array Oper) (s0:St) (n x0 y0:Nat) (LL RR:List Nat):Bool :=
 Nat.ble n ops.size && (Zc2 ops && Zdk ops && ((List.range n).all (fun i=>ZbO .any ops n i) && (Region.seqB .any ops (ops.size - n) n (ZbF ops n) && (pwB (okP (Zdj .any ops 4) ops s0) (LL ++ x0 :: RR) && (pwB (okP (Zdj .any ops 4) ops s0) (LL ++ y0 :: RR) && (Znm n (LL ++ x0 :: y0 :: RR) && RR.all (fun r=>Zdj .any ops 4 r x0)))))))
theorem ZpA {id:Nat} (n x0 y0:Nat) (LL RR:List Nat) {sl:SlL} {bl:BlL} (hB:Zk4 ops (ofL sl bl) n x0 y0 LL RR=true) (hI:ZeV ops sl=true) (hm:P.follows .mixedOrders=true)
 (h:Strat P N S0 w0 ops Φ (fun s Φ'=>Strat P N S0 w0 ops Φ (fun s Φ=>SXi P N S0 w0 ops Q n s Φ) (x0 :: y0 :: RR) s Φ'∧Strat P N S0 w0 ops Φ (fun s Φ=>SXi P N S0 w0 ops Q n s Φ) (y0 :: x0 :: RR) s Φ') LL (ofL sl bl) Φ):SXc P N S0 w0 Q (.region id ops true) (ofL sl bl) Φ:=by
 unfold Zk4 at hB
 simp only [Bool.and_eq_true] at hB
 obtain ⟨h1,⟨h0,h2⟩,h3,h5,h6,h7,h8,h9⟩:=hB
 have hn:=Nat.le_of_ble_eq_true h1
 intro L a w hi
 refine wp_region_any hm ?_
 have hlen:(LL ++ x0 :: y0 :: RR).length=n:=by
  have hp:(LL ++ x0 :: y0 :: RR).Perm (List.range n):=(List.perm_ext_iff_of_nodup (Zhx h8) List.nodup_range).2 (fun i=>by rw [ZjW h8 i,List.mem_range])
  rw [hp.length_eq,List.length_range]
 rw [List.length_append] at hlen
 have:=Znl (Zhu ops) (Q:=Q) (fin:=fun s Φ=>SXi P N S0 w0 ops Q n s Φ) h0 hn h2 (fun i hi'=>List.all_eq_true.1 h3 i (List.mem_range.2 hi')) h5 ⟨w,hi.box.self⟩ (fun r hr=>List.all_eq_true.1 h9 r hr) (fun s Φ hf L a w hi'=>hf L a w hi') LL.length (Array.replicate ops.size false) LL _ Φ L a w.drew rfl (by simp)
  (fun i=>by
   rw [ZjW h8 i]
   refine ⟨fun h=>⟨h,?_⟩,fun h=>h.1⟩
   simp [show i < ops.size by omega]) (Zhx h8) (ZfM h6) (ZfM h7) (fun i _ h'=>by simp [h']) (fun j oj _ hl=>by rw [getD_replicate_false] at hl; cases hl) (BI.init hI) (fun _ h=>h) hi.drew h
 rw [show LL.length + 2 + RR.length + (ops.size - n)=ops.size by simp only [List.length_cons] at hlen; omega] at this
 exact this
def ZiM (P:Program) (N:Nat) (ops:Array Oper):List Nat→St→Option St
 | [],s=>some s
 | i :: l,s=>match stpF P N ops (opAt ops i) s with
   | some s'=>ZiM P N ops l s'
   | none=>none
theorem Zhy {fin:St→(World→Prop)→Prop}:∀ (l:List Nat) (s s':St),ZiM P N ops l s=some s'→fin s' Φ→Strat P N S0 w0 ops Φ0 fin l s Φ
 | [],s,s',h,K=>by simp only [ZiM,Option.some.injEq] at h; subst h; exact .done K
 | i :: l,s,s',h,K=>by
   unfold ZiM at h
   split at h
   ·rename_i s1 hs
    exact Ziu hs (Zhy l _ s' h K)
   ·cases h
def Zk5 (P:Program) (N:Nat) (ops:Array Oper) (l:List Nat) (s:St) (sl:SlL):Option (List (Option AV) × (Nat→Option (TypeId × List AV))) :=
 match ZiM P N ops l s with
 | some s'=>some (sl.map (fun q=>s'.sl q.1),s'.bl)
 | none=>none
theorem Zon {id:Nat} (n x0 y0:Nat) (LL RR:List Nat) {sl:SlL} {bl:BlL} (nw:SlL) (nb:BlL) (hB:Zk4 ops (ofL sl bl) n x0 y0 LL RR=true) (hI:ZeV ops sl=true) (hm:P.follows .mixedOrders=true)
 (hr:Zk5 P N ops LL (ofL sl bl) nw=some (nw.map (fun q=>some q.2),ZcZ nb))
 (hx:Strat P N S0 w0 ops Φ (fun s Φ=>SXi P N S0 w0 ops Q n s Φ) (x0 :: y0 :: RR) (ofL nw nb) Φ) (hy:Strat P N S0 w0 ops Φ (fun s Φ=>SXi P N S0 w0 ops Q n s Φ) (y0 :: x0 :: RR) (ofL nw nb) Φ):SXc P N S0 w0 Q (.region id ops true) (ofL sl bl) Φ:=by
 refine ZpA n x0 y0 LL RR hB hI hm ?_
 unfold Zk5 at hr
 split at hr
 ·rename_i s1 h1
  injection hr with h
  injection h with h2 h3
  have hs:∀ t x,(ofL nw nb).sl t=some x→s1.sl t=some x:=fun t x hx=>Zco (f:=fun q:Nat × AV=>s1.sl q.1) (g:=fun q=>some q.2) h2 (Za9 hx)
  exact Zhy LL _ _ h1 ⟨Strat.weak hx h3 hs (fun s s' Φ h hb hs=>ZhP s s' Φ h hb hs),Strat.weak hy h3 hs (fun s s' Φ h hb hs=>ZhP s s' Φ h hb hs)⟩
 ·cases hr
theorem Zk6 {fin:St→(World→Prop)→Prop} {i:Nat} {l:List Nat} (f:FuncId) (args:List Value) (d:Nat) {α:Type} [hα:Nonempty α] (sh:α→Value) (φ:α→World→Prop) (hC:∀ w,Fr S0 w0 w→Φ w→Calls P f args.toArray w (Zbh sh φ w)) (K:∀ x,Strat P N S0 w0 ops Φ0 fin l (s.put d (.v (sh x))) (fun w=>Φ w∧φ x w))
 (hm:cls (opAt ops i).op=2:=by kernel_rfl) (h:Zb5 P N ops (opAt ops i) s=some (f,args,d):=by kernel_rfl):Strat P N S0 w0 ops Φ0 fin (i :: l) s Φ:=by
 obtain ⟨hw,hq,hd,hn,hv,hk,hN⟩:=ZcA h
 exact .does hα sh φ hm hw hn hv hd hN (fun w hf Q=>Zgo hq hk (hC w hf Q)) K
theorem ZfN {fin:St→(World→Prop)→Prop} {i:Nat} {l:List Nat} (d:Nat) {α:Type} [hα:Nonempty α] (sh:α→Value) (φ:α→World→Prop) (hdo:∀ w,Fr S0 w0 w→Φ w→Does P (opAt ops i) s.rho w (DoR sh φ w)) (K:∀ x,Strat P N S0 w0 ops Φ0 fin l (s.put d (.v (sh x))) (fun w=>Φ w∧φ x w))
 (hm:cls (opAt ops i).op=2:=by kernel_rfl) (hw:s.wantB ops (opAt ops i)=some true:=by kernel_rfl) (hn:Zbw (opAt ops i).op=true:=by kernel_rfl) (hv:(opAt ops i).op.operands.toList.all s.vB=true:=by kernel_rfl) (hd:(opAt ops i).dst=some d:=by kernel_rfl) (hN:Nat.blt d N=true:=by kernel_rfl):Strat P N S0 w0 ops Φ0 fin (i :: l) s Φ :=
 .does hα sh φ hm hw hn hv hd (Nat.le_of_ble_eq_true hN) hdo K
theorem SXi.weak {i:Nat} {Ψ:World→Prop} (sl:SlL) (bl:BlL) (R:∀ w,Φ w→Ψ w) (h:SXi P N S0 w0 ops Q i (ofL sl bl) Ψ) (h1:ZaM s sl bl) (h2:wfB sl bl=true:=by kernel_rfl):SXi P N S0 w0 ops Q i s Φ:=fun L a w hi=>h L a w (hi.weak h1 h2 R)
end
end Go.Proofs.YtcpjeaaapocoeaaGreatDoor

namespace Go.Proofs.YtcpjeaaapocoeaaGreatDoor
open Go.RowKit
section
variable {N:Nat} {S0:Nat→Prop} {w0:World} {s:St} {Φ Ψ:World→Prop} {L:Nat→Nat} {a:Act} {w:World} {P:Program} {ops:Array Oper} {Q:Exit→Act→World→Prop}
theorem Inv.eff3 (h:Inv N S0 w0 s Φ L a w) {w':World} {r:Nat} (hF:Fr (fun i=>i=r) w w') (hr:¬ s.own L r) (hnew:w0.heap.size≤r∨S0 r)
 (hΨ:∀ w1 w2,Fr S0 w0 w2→Φ w1→Fr (fun i=>i=r) w1 w2→Fr (s.own L) w' w2→Ψ w2):Inv N S0 w0 s Ψ L a w':=by
 refine ⟨h.size,h.df,h.sl,⟨fun b t cs e=>(h.mem.blk b t cs e).fr hF (fun e'=>hr ⟨b,by rw [e]; rfl,e'⟩),h.mem.inj,h.mem.old,h.mem.ext.next hF (fun i hi e=>?_),h.mem.slp,h.mem.cel⟩,fun w2 hf=>?_⟩
 ·rcases hnew with h' | h'
  ·omega
  ·rw [e]; exact h'
 ·have h2:Fr (fun i=>s.own L i∨i=r) w w2:=(hF.mono (fun i _ e=>Or.inr e)).trans (hf.mono (fun i _ e=>Or.inl e))
  obtain ⟨w1,k1,k2⟩:=h2.split
  refine hΨ w1 w2 (h.mem.ext.next h2 (fun i hi ho=>?_)) (h.box w1 k1) k2 hf
  rcases ho with ⟨c,hc,e⟩ | e
  ·rcases h.mem.old c hc with h' | h'
   ·omega
   ·rw [← e]; exact h'
  ·rcases hnew with h' | h'
   ·omega
   ·rw [e]; exact h'
def BoxF (b:Nat) (w w':World) (φ:World→Prop):Prop:=∀ (S:Nat→Prop) (w'':World),(∀ i,S i→i < w.heap.size∧i≠b)→Fr S w' w''→φ w''
theorem Zk7 {i d b:Nat} {α:Type} (f:FuncId) (args:List Value) (sh:α→Value) (Ψ:World→Prop) (φ:α→World→Prop) {c:Value} {j:Nat} (hc:∀ w,Φ w→w.cell? ⟨b,j,none⟩=some c) (hnew:w0.heap.size≤b∨S0 b)
 (hC:∀ w,Fr S0 w0 w→Φ w→Calls P f args.toArray w (fun en w'=>∃ x,en=.returned (sh x)∧Fr (fun i=>i=b) w w'∧BoxF b w w' (φ x)))
 (hΨ:∀ w w',Fr S0 w0 w'→Φ w→Fr (fun i=>i=b) w w'→Ψ w')
 (K:∀ x,SXi P N S0 w0 ops Q (i + 1) (s.put d (.v (sh x))) (fun w=>Ψ w∧φ x w))
 (hsz:Nat.blt i ops.size=true:=by kernel_rfl) (h:Zb5 P N ops (opAt ops i) s=some (f,args,d):=by kernel_rfl):SXi P N S0 w0 ops Q i s Φ:=by
 obtain ⟨hw,hq,hd,hn,hv,hk,hN⟩:=ZcA h
 unfold SXi
 rw [ZcD hsz]
 intro L a w hi
 refine wpList_step (fun K' hK=>?_)
 rw [if_pos (hi.want hw)]
 unfold Oper.wp
 rw [hi.exec hn hv,ZeU hq hk,Oper.upon_enter]
 refine Calls.mono (hC w hi.mem.ext hi.box.self) fun en w' h'=>?_
 obtain ⟨x,rfl,hF,hφ⟩:=h'
 simp only [hd]
 have h0:=hi.app0 (d:=d) hN (al_v (s:=s) (sh x))
 have hown:¬ s.own L b:=hi.notOwn (c:=c) (j:=j) hc
 have hlt:∀ r,s.own L r→r < w.heap.size∧r≠b:=fun r ⟨k,hk,e⟩=>by
  obtain ⟨q,eq⟩:=Option.isSome_iff_exists.1 hk
  have:=(hi.mem.blk k q.1 q.2 eq).lt
  exact ⟨by omega,fun e2=>hown ⟨k,hk,by rw [e,e2]⟩⟩
 exact hK _ _ (K x L _ _ (h0.eff3 hF hown hnew (fun w1 w2 h2 h3 h4 h5=>⟨hΨ w1 w2 h2 h3 h4,hφ _ w2 hlt h5⟩)))
end
end Go.Proofs.YtcpjeaaapocoeaaGreatDoor

namespace Go.Proofs.YtcpjeaaapocoeaaGreatDoor
open Go.RowKit
section
variable {N:Nat} {S0:Nat→Prop} {w0:World} {s:St} {Φ Ψ:World→Prop} {L:Nat→Nat} {a:Act} {w:World} {P:Program} {ops:Array Oper} {Q:Exit→Act→World→Prop}
theorem Inv.eff4 (h:Inv N S0 w0 s Φ L a w) {w':World} {T:Nat→Prop} (hF:Fr T w w') (hT:∀ i,T i→¬ s.own L i∧(w0.heap.size≤i∨S0 i))
 (hΨ:∀ w1 w2,Fr S0 w0 w2→Φ w1→Fr T w1 w2→Fr (s.own L) w' w2→Ψ w2):Inv N S0 w0 s Ψ L a w':=by
 refine ⟨h.size,h.df,h.sl,⟨fun b t cs e=>(h.mem.blk b t cs e).fr hF (fun e'=>(hT _ e').1 ⟨b,by rw [e]; rfl,rfl⟩),h.mem.inj,h.mem.old,h.mem.ext.next hF (fun i hi e=>?_),h.mem.slp,h.mem.cel⟩,fun w2 hf=>?_⟩
 ·rcases (hT i e).2 with h' | h'
  ·omega
  ·exact h'
 ·have h2:Fr (fun i=>s.own L i∨T i) w w2:=(hF.mono (fun i _ e=>Or.inr e)).trans (hf.mono (fun i _ e=>Or.inl e))
  obtain ⟨w1,k1,k2⟩:=h2.split
  refine hΨ w1 w2 (h.mem.ext.next h2 (fun i hi ho=>?_)) (h.box w1 k1) k2 hf
  rcases ho with ⟨c,hc,e⟩ | e
  ·rcases h.mem.old c hc with h' | h'
   ·omega
   ·rw [← e]; exact h'
  ·rcases (hT i e).2 with h' | h'
   ·omega
   ·exact h'
theorem Zhe {base i d k n m cap bytes:Nat} {t e:TypeId} {s0 x:Operand} {xs news:List Value} {z:Value} (hbase:w0.heap.size=base) (A:Option Addr) (b2 c2:Nat) (Ψ:World→Prop) (hO:∀ w,Φ w→w.ownsRow base e k (.slice A n cap) n xs) (hX:∀ w,Φ w→Blk e w b2 news.toArray) (hl:news.length=m * k) (hk:0 < k) (hz:z.cells.size=k)
 (hm0:0 < m) (h1:∀ u ∈ news,u.oneCell'=true) (h63:n + m≤maxLen) (hbytes:(n + m) * bytes≤140737488355328) (hnn:n=0→A=none)
 (hΨ:∀ w w',Fr S0 w0 w'→Φ w→Fr (fun i=>A=some ⟨i,0,none⟩) w w'→Ψ w')
 (K:∀ (A':Option Addr) (cap':Nat),A'≠none→SXi P N S0 w0 ops Q (i + 1) (s.put d (.v (.slice A' (n + m) cap'))) (fun w=>Ψ w∧w.ownsRow base e k (.slice A' (n + m) cap') (n + m) (xs ++ news)))
 (hsz:Nat.blt i ops.size=true:=by kernel_rfl) (hw:s.wantB ops (opAt ops i)=some true:=by kernel_rfl) (hv:(opAt ops i).op.operands.toList.all s.vB=true:=by kernel_rfl) (ho:(opAt ops i).op=.call { callee:=.builtin .append,args:=#[s0,x],argTypes:=#[t,t] }:=by kernel_rfl) (hd:(opAt ops i).dst=some d:=by kernel_rfl) (hN:Nat.blt d N=true:=by kernel_rfl)
 (ht:P.underlying t=some (.slice e):=by kernel_rfl) (hinfo:(P.info? e).map (fun i=>(i.zero,i.size,i.bytes))=some (some z,k,bytes):=by kernel_rfl) (hs:s.rho s0=.slice A n cap:=by kernel_rfl) (hx:s.rho x=.slice (some ⟨b2,0,none⟩) m c2:=by kernel_rfl):SXi P N S0 w0 ops Q i s Φ:=by
 subst hbase
 unfold SXi
 rw [ZcD hsz]
 intro L a w hi
 refine wpList_step (fun K' hK=>?_)
 rw [if_pos (hi.want hw)]
 unfold Oper.wp
 have hns:Zbw (opAt ops i).op=true:=by rw [ho]; rfl
 rw [hi.exec hns hv]
 obtain ⟨inf,hinf,h2⟩:=Option.map_eq_some_iff.1 hinfo
 injection h2 with hz0 h2
 injection h2 with hsize hby
 have hO1:=hO w hi.box.self
 have hB2:=hX w hi.box.self
 have hT:∀ j,A=some ⟨j,0,none⟩→¬ s.own L j∧(w0.heap.size≤j∨S0 j):=fun j hj=>by
  have hn0:n≠0:=fun h=>by rw [hnn h] at hj; cases hj
  have hpos:0 < xs.length:=by rw [hO1.1]; exact Nat.mul_pos (by omega) hk
  refine ⟨hi.notOwn (c:=xs[0]'hpos) (j:=0) (fun w R=>?_),?_⟩
  ·have h3:=(hO w R).cells (g:=j) (by rw [hj]; rfl) 0 (xs[0]'hpos) (by simp)
   rw [Lib.add_plain] at h3
   exact h3
  ·rcases hO1.2 with ⟨h3,_⟩ | ⟨b,c3,cur,h3,h4,_⟩
   ·rw [hj] at h3; cases h3
   ·rw [hj] at h3
    injection h3 with h3
    injection h3 with h3
    injection h3 with h3
    left; omega
 obtain ⟨v',w',hrun,hr,hg,hnil,hblk⟩:=run_append_own_at (P:=P) (w:=w) w0.heap.size t (opAt ops i).type e inf z k bytes ht hinf hz0 hsize hby hz hk (.slice A n cap) n xs hO1 ⟨b2,0,none⟩ m c2 news hl
  (fun j u hj=>by rw [Lib.add_plain,Nat.zero_add,hB2.cell]; simpa using hj) h1 h63 hbytes hi.mem.ext.size
 have hrun2:(execOp s.rho (opAt ops i)).run P w=.ok (.value v') w':=by simp [execOp,ho,resolve,invoke,builtin,hs,hx,hrun,Result.andThen]
 rw [hrun2,Oper.upon_value,hd]
 have hr0:=hr
 obtain ⟨hlen,hr⟩:=hr
 rcases hr with ⟨rfl,h0⟩ | ⟨b',cap',cur',rfl,hb',hh,hn',hc',hs',ht'⟩
 ·omega
 have hA0:∀ j,(Value.slice A n cap).ownBlock=some j→A=some ⟨j,0,none⟩:=fun j hj=>by
  rcases hO1.2 with ⟨h3,_⟩ | ⟨b,c3,cur,h3,_⟩
  ·rw [h3] at hj; cases hj
  ·injection h3 with h3
   rw [h3] at hj ⊢
   simp only [Value.ownBlock,Option.some.injEq] at hj
   rw [hj]
 have hF0:Fr (fun i=>A=some ⟨i,0,none⟩) w w':=(Fr.ofGrown hg).mono (fun j _ h=>hA0 j h)
 have h0:=hi.app0 (d:=d) (Nat.le_of_ble_eq_true hN) (al_v (s:=s) (.slice (some ⟨b',0,none⟩) (n + m) cap'))
 simp only [Value.ownBlock,Option.some.injEq] at hblk
 have hnb:¬ s.own L b':=by
  rcases hblk with h3 | rfl
  ·exact (hT b' (hA0 b' h3.symm)).1
  ·rintro ⟨c,hc,e⟩
   obtain ⟨q,eq⟩:=Option.isSome_iff_exists.1 hc
   have:=(hi.mem.blk c q.1 q.2 eq).lt
   omega
 have hlt':b' < w'.heap.size:=Blk.lt (show Blk e w' b' cur' from hh)
 exact hK _ _ (K _ cap' (by simp) L _ _ (h0.eff4 hF0 hT (fun w1 w2 h2 h3 h4 h5=>⟨hΨ w1 w2 h2 h3 h4,hlen,Or.inr ⟨b',cap',cur',rfl,hb',(h5.block b' hlt' hnb).trans hh,hn',hc',hs',ht'⟩⟩)))
end
end Go.Proofs.YtcpjeaaapocoeaaGreatDoor

namespace Go.Proofs.YtcpjeaaapocoeaaGreatDoor
open Go.RowKit Go.Lib
def Zc3 (lo b:Nat) (p:Value) (bs:List Value) (bad:Bool) (w:World):Prop :=
 lo≤b∧∃ v,w.heap[b]? = some (.cells #[p,v, .bool bad] 162 (0,0))∧w.ownsRow lo 5 1 v bs.length bs∧v.ownBlock≠some b
theorem Zc3.cell0 {lo b:Nat} {p:Value} {bs:List Value} {bad:Bool} {w:World} (h:Zc3 lo b p bs bad w):w.cell? ⟨b,0,none⟩=some p:=by
 obtain ⟨_,v,hb,_⟩:=h
 simp [World.cell?,hb]
theorem Zc3.shape {lo b:Nat} {p:Value} {bs:List Value} {bad:Bool} {w:World} (h:Zc3 lo b p bs bad w):w.shape? b=some (162,3):=by
 obtain ⟨_,v,hb,_⟩:=h
 simp [World.shape?,hb]
theorem Zc3.frozen0 {lo b:Nat} {p:Value} {bs:List Value} {bad:Bool} {w:World} (h:Zc3 lo b p bs bad w):w.frozen? ⟨b,0,none⟩=false:=by
 obtain ⟨_,v,hb,_⟩:=h
 simp [World.frozen?,hb]
theorem Zc3.used {lo b:Nat} {p:Value} {bs:List Value} {bad:Bool} {w:World} (h:Zc3 lo b p bs bad w) (q:Value):Zc3 lo b q bs bad (w.setCell ⟨b,0,none⟩ q):=by
 obtain ⟨hB,v,hb,hown,hne⟩:=h
 refine ⟨hB,v,?_,?_,hne⟩
 ·simp [World.setCell,Array.getElem?_modify,hb]
 ·refine hown.kept (row:=some b) ⟨rfl,rfl,rfl,by simp [World.setCell],fun k _ hk=>Below.heap_setCell _ _ _ _ (fun e=>hk (by simp [e]))⟩ ?_
  exact Or.inr hne
theorem Zc3.put {lo b:Nat} {p v v':Value} {bs':List Value} {bad:Bool} {w:World} (hB:lo≤b) (hb:w.heap[b]? = some (.cells #[p,v, .bool bad] 162 (0,0))) (hown:w.ownsRow lo 5 1 v' bs'.length bs') :
 Zc3 lo b p bs' bad (w.setCell ⟨b,1,none⟩ v'):=by
 have hne:=ownBlock_ne hown hb (by decide)
 refine ⟨hB,v',?_,?_,hne⟩
 ·simp [World.setCell,Array.getElem?_modify,hb]
 ·exact hown.kept (row:=some b) ⟨rfl,rfl,rfl,by simp [World.setCell],fun k _ hk=>Below.heap_setCell _ _ _ _ (fun e=>hk (by simp [e]))⟩ (Or.inr hne)
def ZaH (lo b:Nat) (l:List UInt8) (bad:Bool) (w:World):Prop:=∃ p,(p=.pointer none∨p=.pointer (some ⟨b,0,none⟩))∧Zc3 lo b p (Lib.byteCells l) bad w
theorem Zh1 (b:Nat) (w:World) (h0:w.cell? ⟨b,0,none⟩=some (.pointer none)) (hsh:w.shape? b=some (162,3)) (hfz:w.frozen? ⟨b,0,none⟩=false) :
 Calls Tryz.prog 295 #[.pointer (some ⟨b,0,none⟩)] w fun e w'=>e=.returned (.tuple #[])∧w'=w.setCell ⟨b,0,none⟩ (.pointer (some ⟨b,0,none⟩)):=by
 obtain ⟨j,hj,hjs⟩:=Option.map_eq_some_iff.1 (show (Tryz.prog.info? 117).map (·.size)=some 2 by kernel_rfl)
 go_enter Tryz.func295,Tryz.ntmps295
 go_wp2
 rw [Lib.run_to_unsafe w ⟨b,0,none⟩ Tryz.underlying115 Tryz.underlying418 hj (by rw [hjs]; decide) hsh (Nat.zero_lt_succ 2)]
 simp only [Result.andThen]
 rw [Oper.upon_value]
 go_wp2
 rw [run_callFunc_extern Tryz.func348 (by kernel_rfl) (by kernel_rfl) (by kernel_rfl) (e:=Extern.AbiNoEscape.same) (by kernel_rfl)]
 rw [Lib.run_noEscape]
 simp only [Result.andThen]
 rw [Oper.upon_value]
 go_wp2
 rw [Lib.run_from_unsafe w ⟨b,0,none⟩ Tryz.underlying418 Tryz.underlying115 hj hsh (by kernel_rfl)]
 simp only [Result.andThen]
 rw [Oper.upon_value]
 go_wp2
 go_end0
 exact ⟨rfl,rfl⟩
theorem Zjp (lo b:Nat) (l:List UInt8) (bad:Bool) (w:World) (h:ZaH lo b l bad w) :
 Calls Tryz.prog 295 #[.pointer (some ⟨b,0,none⟩)] w fun e w'=>e=.returned (.tuple #[])∧Zc3 lo b (.pointer (some ⟨b,0,none⟩)) (Lib.byteCells l) bad w'∧WrFr lo b w w':=by
 obtain ⟨p,rfl | rfl,h⟩:=h
 ·refine (Zh1 b w h.cell0 h.shape h.frozen0).mono ?_
  rintro e w' ⟨rfl,rfl⟩
  exact ⟨rfl,h.used _,(WrFr.refl lo b w).setB 0 _⟩
 ·refine (Zfv b w h.cell0).mono ?_
  rintro e w' ⟨rfl,rfl⟩
  exact ⟨rfl,h,WrFr.refl lo b w'⟩
set_option maxHeartbeats 2000000 in
theorem Zh2 (lo b:Nat) (l:List UInt8) (bad:Bool) (s:ByteArray) (w:World) (h:ZaH lo b l bad w) (hlen:l.length + s.size≤140737488355328) :
 Calls Tryz.prog 222 #[.pointer (some ⟨b,0,none⟩), .string s] w fun e w'=>e=.returned (.tuple #[.int .i64 s.size, .nilIface])∧ZaH lo b (l ++ bytes s) bad w'∧WrFr lo b w w':=by
 obtain ⟨i0,hi,hz0,hz1,hz2⟩:=info_parts (show (Tryz.prog.info? 5).map (fun i=>(i.zero,i.size,i.bytes))=some (some (.int .u8 0),1,1) by kernel_rfl)
 have e240:∀ args w,(callFunc 295 args).run Tryz.prog w=.ok (.enter 295 args) w:=enters_of Tryz.func295 (by kernel_rfl) rfl
 go_enter Tryz.func222,Tryz.ntmps222
 go_wp2_with (go_at_call 295; refine (Zjp lo b l bad _ h).mono ?_)
 rintro e w1 ⟨rfl,h1,hb1⟩
 obtain ⟨hB,v,hbk,hown,hne⟩:=h1
 have c0:w1.cell? ⟨b,0,none⟩=some (.pointer (some ⟨b,0,none⟩)):=by rw [Lib.cell_of_heap hbk]; rfl
 have c1:w1.cell? ⟨b,1,none⟩=some v:=by rw [Lib.cell_of_heap hbk]; rfl
 have hll:(Lib.byteCells l).length=l.length:=Lib.byteCells_length l
 go_wp2_with (at_builtin; refine Lib.wpList_append_own_string _ rfl _ _ 37 9 rfl lo 5 i0 Tryz.underlying37 Tryz.underlying9 hi hz0 hz1 hz2 _ _ _ rfl hown s rfl ?c3 ?c4 ?c5 ?_)
 case c3=>unfold maxLen; omega
 case c4=>omega
 case c5 =>
  have h':b < w1.heap.size:=by
   rcases Nat.lt_or_ge b w1.heap.size with h' | h'
   ·exact h'
   ·simp [Array.getElem?_eq_none h'] at hbk
  first | omega | (simp; omega)
 intro v' w2 hown' hgrow _
 have hlt:b < w1.heap.size:=by
  rcases Nat.lt_or_ge b w1.heap.size with h' | h'
  ·exact h'
  ·simp [Array.getElem?_eq_none h'] at hbk
 have hb2:w2.heap[b]? = some (.cells #[.pointer (some ⟨b,0,none⟩),v, .bool bad] 162 (0,0)):=by
  rw [hgrow.block b hlt (fun e=>hne e.symm)]
  exact hbk
 have d0:w2.cell? ⟨b,0,none⟩=some (.pointer (some ⟨b,0,none⟩)):=by rw [Lib.cell_of_heap hb2]; rfl
 have d1:w2.cell? ⟨b,1,none⟩=some v:=by rw [Lib.cell_of_heap hb2]; rfl
 have f1:w2.frozen? ⟨b,1,none⟩=false:=Lib.frozen_of_heap hb2 1
 obtain ⟨ao,n',cap,rfl⟩:∃ ao n' cap,v'=.slice ao n' cap:=by
  rcases hown'.2 with ⟨hv,_⟩ | ⟨g,cap,cur,hv,_⟩
  ·exact ⟨_,_,_,hv⟩
  ·exact ⟨_,_,_,hv⟩
 have HF:=zh (hb1.grown ⟨_,hown⟩ hgrow)
 go_wp2
 go_ret2
 refine ⟨rfl,⟨_,Or.inr rfl,?_⟩,HF.out.setB 1 _⟩
 have:=Zc3.put hB hb2 (bs':=Lib.byteCells l ++ Lib.strCells s) (by rw [List.length_append,Lib.strCells_length,Lib.byteCells_length]; exact hown')
 rw [Zdx]
 exact this
set_option maxHeartbeats 1000000 in
theorem ZpB (lo b:Nat) (l:List UInt8) (bad:Bool) (w:World) (h:ZaH lo b l bad w) :
 Calls Tryz.prog 112 #[.pointer (some ⟨b,0,none⟩)] w fun e w'=>e=.returned (.int .i64 (l.length:Int))∧w'=w:=by
 obtain ⟨p,_,hB,v,hbk,hown,hne⟩:=h
 obtain ⟨ao,cap,rfl⟩:∃ ao cap,v=.slice ao l.length cap:=by
  rw [Lib.byteCells_length] at hown
  rcases hown.2 with ⟨hv,h0⟩ | ⟨g,cap,cur,hv,_⟩
  ·exact ⟨none,0,by rw [hv,h0]⟩
  ·exact ⟨_,_,hv⟩
 have c1:w.cell? ⟨b,1,none⟩=some (.slice ao l.length cap):=by rw [Lib.cell_of_heap hbk]; rfl
 clear hown hne hbk
 go_enter Tryz.func112,Tryz.ntmps112
 go_wp2
 go_ret
 exact ⟨rfl,rfl⟩
set_option maxHeartbeats 1000000 in
theorem Znn (lo b:Nat) (l:List UInt8) (bad:Bool) (w:World) (h:ZaH lo b l bad w) (h0:l≠[]) :
 Calls Tryz.prog 113 #[.pointer (some ⟨b,0,none⟩)] w fun e w'=>e=.returned (.string ⟨l.toArray⟩)∧WrFr lo b w w':=by
 obtain ⟨p,_,hB,v,hbk,hown,hne⟩:=h
 have hl0:l.length≠0:=by simpa using h0
 rw [Lib.byteCells_length] at hown
 obtain ⟨g,cap,cur,rfl,hbg,hg,hnc,hcm,hcs,htake⟩:∃ g cap cur,v=.slice (some ⟨g,0,none⟩) l.length cap∧lo≤g∧w.heap[g]? = some (.cells cur 5 (0,0))∧l.length≤cap∧cap≤maxLen∧cur.size=cap * 1∧cur.toList.take (l.length * 1)=Lib.byteCells l:=by
  rcases hown.2 with ⟨_,hz⟩ | ⟨g,cap,cur,hv,r⟩
  ·exact absurd hz hl0
  ·exact ⟨g,cap,cur,hv,r⟩
 have c1:w.drew.cell? ⟨b,1,none⟩=some (.slice (some ⟨g,0,none⟩) l.length cap):=by
  have:w.drew.heap[b]? = some (.cells #[p, .slice (some ⟨g,0,none⟩) l.length cap, .bool bad] 162 (0,0)):=hbk
  rw [Lib.cell_of_heap this]; rfl
 have hSD:(Builtin.unsafeSliceData_ #[37] 309 #[.slice (some ⟨g,0,none⟩) l.length cap]).run Tryz.prog w.drew=.ok (.pointer (some ⟨g,0,none⟩)) w.drew :=
  Lib.run_unsafeSliceData_row _ _ _ _ _ _ (by omega)
 have hUS:(Builtin.unsafeString_ #[309,3] 9 #[.pointer (some ⟨g,0,none⟩), .int .i64 l.length]).run Tryz.prog w.drew=.ok (.string ⟨l.toArray⟩) (w.drew.freeze ⟨g,0,none⟩ l.length):=by
  refine Lib.run_unsafeString_row w.drew 309 3 9 5 Tryz.underlying309 (by kernel_rfl) g cur.size (by have hg':w.drew.heap[g]? = some (.cells cur 5 (0,0)):=hg; simp [World.shape?,hg']) l h0 (by omega) (by unfold maxLen at hcm; omega) ?_
  intro j x hx
  have:=hown.cells (g:=g) rfl j (.int .u8 x.toNat) (by simp [Lib.byteCells,hx])
  exact this
 have HF:Hid (WrFr lo b w (w.drew.freeze ⟨g,0,none⟩ l.length)):=by
  unfold Hid World.freeze
  rw [if_neg hl0]
  refine ⟨rfl,rfl,rfl,by simp,fun i hi hs=>?_⟩
  have hne2:g≠i:=by
   rintro rfl
   exact hs (Or.inr ⟨hbg,cur,_,hg⟩)
  simp only [Array.getElem?_modify]
  rw [if_neg hne2]
  rfl
 clear hown hne hbk hg htake
 go_enter Tryz.func113,Tryz.ntmps113
 go_wp2
 go_region
 all_goals (go_wp2; go_ret; exact ⟨rfl,HF.out⟩)
end Go.Proofs.YtcpjeaaapocoeaaGreatDoor

namespace Go.Proofs.YtcpjeaaapocoeaaGreatDoor
open Go.RowKit
theorem ZaH.blk {lo g:Nat} {l:List UInt8} {bad:Bool} {w:World} (h:ZaH lo g l bad w):∃ cs,w.heap[g]? = some (.cells cs 162 (0,0)):=by
 obtain ⟨p,_,_,v,hb,_⟩:=h
 exact ⟨_,hb⟩
section
variable {N:Nat} {S0:Nat→Prop} {w0:World} {s:St} {Φ Ψ:World→Prop} {L:Nat→Nat} {a:Act} {w:World} {P:Program} {ops:Array Oper} {Q:Exit→Act→World→Prop}
theorem ZaH.fr {lo g:Nat} {l:List UInt8} {bad:Bool} {S:Nat→Prop} {w w':World} (h:ZaH lo g l bad w) (hF:Fr S w w') (hg:¬ S g) (h8:∀ i,IsU8 w i→¬ S i):ZaH lo g l bad w':=by
 have hlt:g < w.heap.size:=by
  obtain ⟨cs,hc⟩:=h.blk
  rcases Nat.lt_or_ge g w.heap.size with h | h
  ·exact h
  ·rw [Array.getElem?_eq_none h] at hc; cases hc
 obtain ⟨p,hp,hB,v,hbk,hown,hne⟩:=h
 refine ⟨p,hp,hB,v,(hF.block g hlt hg).trans hbk,?_,hne⟩
 obtain ⟨h1,h2⟩:=hown
 refine ⟨h1,?_⟩
 rcases h2 with h2 | ⟨k,cap,cur,e,hk,hh,r⟩
 ·exact Or.inl h2
 ·have hkl:k < w.heap.size:=by
   rcases Nat.lt_or_ge k w.heap.size with h | h
   ·exact h
   ·rw [Array.getElem?_eq_none h] at hh; cases hh
  exact Or.inr ⟨k,cap,cur,e,hk,(hF.block k hkl (h8 k ⟨_,_,hh⟩)).trans hh,r⟩
def noW3 (bl:BlL):Bool:=bl.all (fun q => !(Nat.beq q.2.1 162) && !(Nat.beq q.2.1 5))
theorem Zdd {i d lo g:Nat} {sl:SlL} {bl:BlL} {l:List UInt8} {bad:Bool} {v:Value} (Ψ:World→Prop) (f:FuncId) (args:List Value) (hS0:∀ w w',Fr S0 w0 w→WrFr lo g w w'→Fr S0 w0 w') (hno:noW3 bl=true)
 (hC:∀ w,Fr S0 w0 w→Φ w→Calls P f args.toArray w (fun en w'=>en=.returned v∧Ψ w'∧WrFr lo g w w'))
 (R:∀ w,Φ w→ZaH lo g l bad w) (hΨ:∀ (S:Nat→Prop) (w w':World),Ψ w→Fr S w w'→¬ S g→(∀ i,IsU8 w i→¬ S i)→Ψ w')
 (K:SXi P N S0 w0 ops Q (i + 1) ((ofL sl bl).put d (.v v)) Ψ)
 (hsz:Nat.blt i ops.size=true:=by kernel_rfl) (h:Zb5 P N ops (opAt ops i) (ofL sl bl)=some (f,args,d):=by kernel_rfl):SXi P N S0 w0 ops Q i (ofL sl bl) Φ:=by
 obtain ⟨hw,hq,hd,hn,hv,hk,hN⟩:=ZcA h
 unfold SXi
 rw [ZcD hsz]
 intro L a w hi
 refine wpList_step (fun K' hK=>?_)
 rw [if_pos (hi.want hw)]
 unfold Oper.wp
 rw [hi.exec hn hv,ZeU hq hk,Oper.upon_enter]
 refine Calls.mono (hC w hi.mem.ext hi.box.self) fun en w' h'=>?_
 obtain ⟨rfl,hW,hF⟩:=h'
 simp only [hd]
 have h0:=hi.app0 (d:=d) hN (al_v (s:=ofL sl bl) v)
 obtain ⟨cg,hcg⟩:=(R w hi.box.self).blk
 have hown:∀ b t cs,(ofL sl bl).bl b=some (t,cs)→¬ (L b=g∨(lo≤L b∧IsU8 w (L b))):=fun b t cs e hs=>by
  have hB:w.heap[L b]? = some (.cells _ t (0,0)):=hi.mem.blk b t cs e
  have hq:=List.all_eq_true.1 hno _ (Za9 e)
  simp only [Bool.and_eq_true,Bool.not_eq_true'] at hq
  rcases hs with e | ⟨_,c2,f2,h8⟩
  ·rw [e,hcg] at hB
   injection hB with hB
   injection hB with _ e2 _
   subst e2
   exact absurd hq.1 (by decide)
  ·rw [h8] at hB
   injection hB with hB
   injection hB with _ e2 _
   subst e2
   exact absurd hq.2 (by decide)
 refine hK _ _ (K L _ _ ⟨h0.size,h0.df,h0.sl,⟨fun b t cs e=>(h0.mem.blk b t cs e).fr hF (hown b t cs e),h0.mem.inj,h0.mem.old,?_,h0.mem.slp,h0.mem.cel⟩,fun w2 hf=>?_⟩)
 ·exact hS0 _ _ hi.mem.ext hF
 ·have hB':∀ b t cs,(ofL sl bl).bl b=some (t,cs)→∃ cc,w'.heap[L b]? = some (.cells cc t (0,0)):=fun b t cs e=>⟨_,(h0.mem.blk b t cs e).fr hF (hown b t cs e)⟩
  refine hΨ _ _ _ hW hf (fun ⟨b,hb,e⟩=>?_) (fun i h8 ⟨b,hb,e⟩=>?_)
  ·obtain ⟨⟨t,cs⟩,eb⟩:=Option.isSome_iff_exists.1 hb
   exact hown b t cs eb (Or.inl e)
  ·obtain ⟨⟨t,cs⟩,eb⟩:=Option.isSome_iff_exists.1 hb
   obtain ⟨cc,hcc⟩:=hB' b t cs eb
   obtain ⟨c2,f2,h8⟩:=h8
   have hq:=List.all_eq_true.1 hno _ (Za9 eb)
   simp only [Bool.and_eq_true,Bool.not_eq_true'] at hq
   rw [e,h8] at hcc
   injection hcc with hcc
   injection hcc with _ e2 _
   subst e2
   exact absurd hq.2 (by decide)
end
theorem ZaH.ext {lo g:Nat} {l:List UInt8} {bad:Bool} {w w':World} (h:ZaH lo g l bad w) (hF:Ext w w'):ZaH lo g l bad w':=h.fr hF (fun f=>f) (fun _ _ f=>f)
theorem ZaH.row {lo g b:Nat} {l:List UInt8} {bad:Bool} {w w':World} {cs:Array Value} {T:TypeId} (h:ZaH lo g l bad w) (hB:Blk T w b cs) (hT:T≠5∧T≠162) (hF:Fr (fun i=>i=b) w w'):ZaH lo g l bad w':=by
 have h1:w.heap[b]? = some (.cells cs T (0,0)):=hB
 refine h.fr hF (fun e=>?_) (fun i h8 e=>?_)
 ·obtain ⟨cg,hcg⟩:=h.blk
  have e:g=b:=e
  rw [e,h1] at hcg
  injection hcg with hcg
  injection hcg with _ e2 _
  exact hT.2 e2
 ·obtain ⟨c2,f2,h8⟩:=h8
  have e:i=b:=e
  rw [e,h1] at h8
  injection h8 with h8
  injection h8 with _ e2 _
  exact hT.1 e2
theorem ZaH.new {w:World} {lo b:Nat} (hb:lo≤b) (h:Blk 162 w b #[.pointer none, .slice none 0 0, .bool false]):ZaH lo b [] false w :=
 ⟨.pointer none,Or.inl rfl,hb, .slice none 0 0,h,World.ownsRow_nil w lo 5 1,fun e=>by cases e⟩
end Go.Proofs.YtcpjeaaapocoeaaGreatDoor

namespace Go.Proofs.YtcpjeaaapocoeaaGreatDoor
open Go.RowKit
structure TermR where
 coef:ByteArray
 A:Option Addr
 cap:Nat
 exps:List Int
instance:Inhabited TermR:=⟨⟨⟨#[]⟩,none,0,[]⟩⟩
def TRow (w:World) (A:Option Addr) (ts:List TermR):Prop:=∀ i,i < ts.length→∃ b off,A=some ⟨b,off,none⟩∧b < w.heap.size∧w.cell? ⟨b,off + i * 2,none⟩=some (.string ts[i]!.coef) ∧
 w.cell? ⟨b,off + i * 2 + 1,none⟩=some (.slice ts[i]!.A ts[i]!.exps.length ts[i]!.cap)∧IRow w ts[i]!.A ts[i]!.exps
theorem TRow.ext {w w':World} {A:Option Addr} {ts:List TermR} (h:TRow w A ts) (hf:Ext w w'):TRow w' A ts:=fun i hi=>by
 obtain ⟨b,off,e,hb,h1,h2,h3⟩:=h i hi
 exact ⟨b,off,e,Nat.lt_of_lt_of_le hb hf.size,(hf.cell (p:=⟨b,off + i * 2,none⟩) hb (fun f=>f)).trans h1,(hf.cell (p:=⟨b,off + i * 2 + 1,none⟩) hb (fun f=>f)).trans h2,h3.ext hf⟩
def expB (e:Int):Bool:=decide (0≤e) && decide (e≤1048576)
def Zem (l:List UInt8):Bool:=match ZaB l with
 | some q=>decide (q≠0)
 | none=>false
def ZaF (v:Int) (t:TermR):Bool:=Zem (bytes t.coef) && (decide ((t.exps.length:Int)=v) && t.exps.all expB)
def wfT (v:Int) (ts:List TermR):Nat→Bool
 | 0=>true
 | k + 1=>wfT v ts k && (ZaF v ts[k]! && (decide (k=0) || decide (0 < ordF ts[k - 1]!.exps ts[k]!.exps)))
def ZaG (v:Int) (ts:List TermR):Bool:=decide (ts.length≤4096) && (decide (0≤v) && (decide (v≤6) && (wfT v ts ts.length && (decide (ts.length=0) || decide ((0:Int)≤degF ts[0]!.exps)))))
theorem Zmx {zs:List Int} {i:Nat} (h:i < zs.length):nth zs i ∈ zs:=by
 unfold nth; rw [List.getElem?_eq_getElem h]; exact List.getElem_mem h
theorem Zqt {zs:List Int} (h:zs.all expB=true) (i:Nat):0≤nth zs i∧nth zs i≤1048576:=by
 rcases Nat.lt_or_ge i zs.length with hi | hi
 ·have:=List.all_eq_true.1 h _ (Zmx hi)
  unfold expB at this
  rw [Bool.and_eq_true,decide_eq_true_eq,decide_eq_true_eq] at this
  exact this
 ·unfold nth; rw [List.getElem?_eq_none hi]; simp
theorem ZaF.exp {v:Int} {t:TermR} (h:ZaF v t=true) (hv:v≤6):Zel t.exps∧(t.exps.length:Int)=v:=by
 unfold ZaF at h
 rw [Bool.and_eq_true,Bool.and_eq_true,decide_eq_true_eq] at h
 exact ⟨⟨by have:=h.2.1; omega,Zqt h.2.2⟩,h.2.1⟩
theorem ZfO {zs:List Int} {i:Nat} (hi:i < zs.length) (h:expB (nth zs i)=false):zs.all expB=false:=by
 cases h2:zs.all expB with
 | false=>rfl
 | true=>have:=List.all_eq_true.1 h2 _ (Zmx hi); rw [h] at this; cases this
theorem Zmy {zs:List Int} (h:∀ i,i < zs.length→expB (nth zs i)=true):zs.all expB=true:=by
 rw [List.all_eq_true]
 intro x hx
 obtain ⟨i,hi,e⟩:=List.mem_iff_getElem.1 hx
 have:=h i hi
 unfold nth at this
 rw [List.getElem?_eq_getElem hi,e] at this
 exact this
theorem Zde {v:Int} {ts:List TermR} {k:Nat} (h:wfT v ts k=false):∀ n,k≤n→wfT v ts n=false:=by
 intro n hn
 induction n with
 | zero=>obtain rfl:k=0:=by omega
         exact h
 | succ n ih =>
   rcases (by omega:k=n + 1∨k≤n) with rfl | h2
   ·exact h
   ·unfold wfT; rw [ih h2,Bool.false_and]
section
variable {P:Program} {o:Oper} {ρ:Operand→Value} {w:World} {t e:TypeId} {x ix:Operand}
theorem IRow.ne {A:Option Addr} {zs:List Int} {i:Nat} (h:IRow w A zs) (hi:i < zs.length):A≠none:=by
 obtain ⟨b,off,rfl,_⟩:=h i hi; simp
theorem TRow.ne {A:Option Addr} {ts:List TermR} {i:Nat} (h:TRow w A ts) (hi:i < ts.length):A≠none:=by
 obtain ⟨b,off,rfl,_⟩:=h i hi; simp
theorem ZaN {A:Option Addr} {len cap i sz:Nat} (hA:A≠none) (h:i < len) (ho:o.op=Op.indexAddr t x ix:=by kernel_rfl) (ht:P.underlying t=some (.slice e):=by kernel_rfl) (hs:(P.info? e).map (fun i=>i.size)=some sz:=by kernel_rfl)
 (hx:ρ x=.slice A len cap:=by kernel_rfl) (hi:ρ ix=.int .i64 ((i:Nat):Int):=by kernel_rfl):(execOp ρ o).run P w=.ok (.value (atA A (i * sz))) w:=by
 obtain ⟨inf,hinf,h1⟩:=Option.map_eq_some_iff.1 hs
 obtain ⟨a,rfl⟩:∃ a,A=some a:=by cases A; exact absurd rfl hA; exact ⟨_,rfl⟩
 have h2:(0:Int)≤(i:Int)∧(i:Int) < (len:Int):=by omega
 simp [execOp,ho,Instr.indexAt,asIntOf,underlying,ht,hx,hi,h,sizeOf,typeInfo,hinf,h1,Result.andThen,atA]
theorem Zbd {A:Option Addr} {zs:List Int} {j:Nat} (hS:IRow w A zs) (hj:j < zs.length) (ho:o.op=Op.load t x:=by kernel_rfl) (hx:ρ x=atA A (j * 1):=by kernel_rfl) (ha:(teOf P t).map (fun e=>e.agg)=some false:=by kernel_rfl) :
 (execOp ρ o).run P w=.ok (.value (.int .i64 (nth zs j))) w:=by
 obtain ⟨g,off,rfl,_,hc⟩:=hS j hj
 exact Zgz hc ho (by rw [hx,atA,Option.map_some,ZcH,Nat.mul_one]) ha
theorem Zhf {A:Option Addr} {ts:List TermR} {j:Nat} (hS:TRow w A ts) (hj:j < ts.length) (ho:o.op=Op.load t x:=by kernel_rfl) (hx:ρ x=atA A (j * 2):=by kernel_rfl) (ha:(teOf P t).map (fun e=>(e.agg,e.size))=some (true,2):=by kernel_rfl) :
 (execOp ρ o).run P w=.ok (.value (.agg #[.string ts[j]!.coef, .slice ts[j]!.A ts[j]!.exps.length ts[j]!.cap])) w:=by
 obtain ⟨g,off,rfl,_,h1,h2,_⟩:=hS j hj
 obtain ⟨te,hte,h⟩:=Option.map_eq_some_iff.1 ha
 injection h with ha hn
 have:=Zej (P:=P) (w:=w) hte (g:=g) (off:=off + j * 2) (cs:=[.string ts[j]!.coef, .slice ts[j]!.A ts[j]!.exps.length ts[j]!.cap]) hn.symm (fun i hi=>by
  rcases (by simp at hi; omega:i=0∨i=1) with rfl | rfl
  ·exact h1
  ·exact h2) ha
 simp only [execOp,ho,hx,atA,Option.map_some,ZcH,Sem.run_bind,this,Result.andThen_ok,Sem.run_pure]
theorem Zqu {bt:TypeId} {g:Nat} {cs:List Value} (hB:Blk bt w g cs.toArray) (ho:o.op=Op.load t x:=by kernel_rfl) (hx:ρ x=.pointer (some ⟨g,0,none⟩):=by kernel_rfl) (ha:(teOf P t).map (fun e=>(e.agg,e.size))=some (true,cs.length):=by kernel_rfl) :
 (execOp ρ o).run P w=.ok (.value (.agg cs.toArray)) w:=by
 obtain ⟨te,hte,h⟩:=Option.map_eq_some_iff.1 ha
 injection h with ha hn
 have:=Zej (P:=P) (w:=w) hte (g:=g) (off:=0) (cs:=cs) hn.symm (fun i hi=>by rw [Nat.zero_add,hB.cell]; simp [hi]) ha
 simp only [execOp,ho,hx,Sem.run_bind,this,Result.andThen_ok,Sem.run_pure]
theorem Zmz {z:Int} (h0:¬ z < 0) (h1:¬ 1048576 < z):expB z=true:=by
 unfold expB; rw [Bool.and_eq_true,decide_eq_true_eq,decide_eq_true_eq]; omega
theorem Zqv {A:Option Addr} {ts:List TermR} {j:Nat} (hS:TRow w A ts) (hj:j < ts.length) (ho:o.op=Op.load t x:=by kernel_rfl) (hx:ρ x=atA A (j * 2 + 1):=by kernel_rfl) (ha:(teOf P t).map (fun e=>e.agg)=some false:=by kernel_rfl) :
 (execOp ρ o).run P w=.ok (.value (.slice ts[j]!.A ts[j]!.exps.length ts[j]!.cap)) w:=by
 obtain ⟨g,off,rfl,_,_,h2,_⟩:=hS j hj
 exact Zgz h2 ho (by rw [hx,atA,Option.map_some,ZcH,Nat.add_assoc]) ha
end
end Go.Proofs.YtcpjeaaapocoeaaGreatDoor

namespace Go.Proofs.YtcpjeaaapocoeaaGreatDoor
open Go.RowKit
end Go.Proofs.YtcpjeaaapocoeaaGreatDoor

namespace Go.Proofs.YtcpjeaaapocoeaaGreatDoor
open Go.RowKit
theorem Zk8 {x y:Int} (hy:0 < y):(Rat.divInt x y).num=x.tdiv (Int.gcd x y:Int)∧((Rat.divInt x y).den:Int)=y.tdiv (Int.gcd x y:Int):=by
 have hd1:(Int.gcd x y:Int) ∣ x:=Int.gcd_dvd_left _ _
 have hd2:(Int.gcd x y:Int) ∣ y:=Int.gcd_dvd_right _ _
 rw [Rat.num_divInt,Rat.den_divInt,if_neg (by omega),Int.sign_eq_one_of_pos hy,Int.one_mul,Int.gcd_comm y x,Int.tdiv_eq_ediv_of_dvd hd1,Int.tdiv_eq_ediv_of_dvd hd2]
 refine ⟨rfl,?_⟩
 rw [Int.natCast_ediv]
 congr 1
 omega
theorem ZgC {x y:Int} (hy:0 < y) (h:((Int.gcd x y:Nat):Int)=1):(Rat.divInt x y).num=x∧((Rat.divInt x y).den:Int)=y:=by
 have:=Zk8 (x:=x) hy
 rwa [h,Int.tdiv_one,Int.tdiv_one] at this
end Go.Proofs.YtcpjeaaapocoeaaGreatDoor

namespace Go.Proofs.YtcpjeaaapocoeaaGreatDoor
open Go.RowKit
theorem Zd7 (a:Value) (q:Rat) (w:World) (ha:Zbq w a q) :
 Calls Tryz.prog 131 #[a] w (RetV w (.bool (decide (q.num=0)))):=by
 obtain ⟨s0,A0,l0,c0,t0,B0,m0,d0,rfl⟩:=ha.shp
 refine Za6 (Φ:=fun w=>Zbq w (.agg #[.bool s0, .slice A0 l0 c0, .bool t0, .slice B0 m0 d0]) (q)) Tryz.func131 rfl (by kernel_rfl) (fun w' hf=>ha.ext hf) ?_
 refine Zac (Zab (xr 2 [(1, .p 1 0),(2, .v (.bool false))] [bR4 1 142 s0 A0 l0 c0 t0 B0 m0 d0] ?_))
 refine xe (Zaa (Zac (Zab (xr 2 [(2, .v (.bool false)),eI2 4 s0 A0 l0 c0] [] ?_))))
 refine xc 55 [vI2 s0 A0 l0 c0] 5 (fun _:Unit=>.bool (decide (q.num=0))) _ (fun w R Q=>(Znf _ (q.num) _ Q.num).mono (fun _ _ h=>Zay h rfl)) (fun xx=>?_)
 refine xr 1 [(2, .v (.bool (decide (q.num=0))))] [] ?_
 refine xe (Zaa (Zau ?_))
 refine Zai (v:=.bool (decide (q.num=0))) (by kernel_rfl) (fun w' R Q=>?_)
 exact ⟨rfl,R⟩
end Go.Proofs.YtcpjeaaapocoeaaGreatDoor

namespace Go.Proofs.YtcpjeaaapocoeaaGreatDoor
open Go.RowKit
section
variable {P:Program} {N:Nat} {S0:Nat→Prop} {w0:World} {ops:Array Oper} {Q:Exit→Act→World→Prop} {s:St} {Φ:World→Prop}
end
section
variable {P:Program} {o:Oper} {ρ:Operand→Value} {w:World} {t e:TypeId} {x:Operand}
end
/-! ### adding a number to a row from a place on -/
end Go.Proofs.YtcpjeaaapocoeaaGreatDoor

namespace Go.Proofs.YtcpjeaaapocoeaaGreatDoor
open Go.RowKit
end Go.Proofs.YtcpjeaaapocoeaaGreatDoor

namespace Go.Proofs.YtcpjeaaapocoeaaGreatDoor
open Go.RowKit
instance {b:Nat} {A A2:Option Addr}:Nonempty {q:ShN // ∀ a,q.1=some a→b < a.block∨q.1=A∨q.1=A2}:=⟨⟨(none,0,0),fun a h=>by cases h⟩⟩
section
variable {P:Program} {o:Oper} {ρ:Operand→Value} {w:World}
end
end Go.Proofs.YtcpjeaaapocoeaaGreatDoor

namespace Go.Proofs.YtcpjeaaapocoeaaGreatDoor
open Go.RowKit
section
variable {P:Program} {N:Nat} {S0:Nat→Prop} {w0:World} {ops:Array Oper} {Q:Exit→Act→World→Prop} {s:St} {Φ:World→Prop}
end
end Go.Proofs.YtcpjeaaapocoeaaGreatDoor

namespace Go.Proofs.YtcpjeaaapocoeaaGreatDoor
open Go.RowKit
end Go.Proofs.YtcpjeaaapocoeaaGreatDoor

namespace Go.Proofs.YtcpjeaaapocoeaaGreatDoor
open Go.RowKit Go.Sort
end Go.Proofs.YtcpjeaaapocoeaaGreatDoor

namespace Go.Proofs.YtcpjeaaapocoeaaGreatDoor
open Go.RowKit Go.Sort
end Go.Proofs.YtcpjeaaapocoeaaGreatDoor

namespace Go.Proofs.YtcpjeaaapocoeaaGreatDoor
open Go.RowKit Go.Sort
theorem TBuf.bytes {w:World} {A:Option Addr} {cap:Nat} {l:List UInt8} (h:TBuf w A cap l) (hl:l≠[]):∃ b,A=some ⟨b,0,none⟩∧∀ j (hj:j < l.length),w.cell? ((⟨b,0,none⟩:Addr).add j)=some (.int .u8 (l[j].toNat:Int)):=by
 rcases h with ⟨_,h,_⟩ | ⟨b,rfl,hO,_⟩
 ·simp [nats] at h; exact absurd h hl
 ·refine ⟨b,rfl,fun j hj=>?_⟩
  have:=hO.cell (i:=j) (by rw [Zff]; exact hj)
  rw [Lib.add_plain,Nat.zero_add,this]
  simp [nats,hj]
end Go.Proofs.YtcpjeaaapocoeaaGreatDoor

namespace Go.Proofs.YtcpjeaaapocoeaaGreatDoor
open Go.RowKit
def ZcO (n:Nat) (xs:List Nat) (m:Nat):Prop:=Dig 1000000000 xs∧n=val 1000000000 xs + 1000000000 ^ xs.length * m
theorem ZcO.start (n:Nat):ZcO n [] n:=⟨Dig.nil,by simp⟩
theorem ZcO.step {n m:Nat} {xs:List Nat} (h:ZcO n xs m):ZcO n (xs ++ [m % 1000000000]) (m / 1000000000):=by
 obtain ⟨h1,h2⟩:=h
 refine ⟨h1.append (Dig.nil.cons (Nat.mod_lt _ (by omega))),?_⟩
 rw [Zbx,List.length_append,List.length_singleton,Nat.pow_succ,Nat.add_assoc,Nat.mul_assoc,← Nat.mul_add,Zc5,ZdX,Nat.mul_zero,Nat.add_zero,Nat.mod_add_div]
 exact h2
theorem ZcO.len {n m C:Nat} {xs:List Nat} (h:ZcO n xs m) (hm:0 < m) (hC:n < 1000000000 ^ C):xs.length < C:=by
 obtain ⟨_,h2⟩:=h
 rcases Nat.lt_or_ge xs.length C with hl | hl
 ·exact hl
 ·have h3:1000000000 ^ C≤1000000000 ^ xs.length:=Nat.pow_le_pow_right (by omega) hl
  have h4:1000000000 ^ xs.length * 1≤1000000000 ^ xs.length * m:=Nat.mul_le_mul_left _ hm
  generalize 1000000000 ^ xs.length=P at *
  generalize 1000000000 ^ C=Q at *
  omega
theorem ZpL {n C:Nat} (hC:n < 1000000000 ^ C):ml n≤C:=Zc9.2 (Nat.lt_of_lt_of_le hC (Nat.pow_le_pow_left (by rw [Zap]; omega) _))
theorem Zam.len {w:World} {A:Option Addr} {l c n:Nat} (h:Zam w (.slice A l c) n):l=ml n:=by
 obtain ⟨A',xs,c',h1,h2,h3,h4,h5,h6⟩:=h
 injection h1 with e1 e2 e3
 rw [e2,ZbI h4 h5,h6]
theorem ZfS (b:Nat):¬ ZaD none b:=fun hb=>by obtain ⟨a,ha,_⟩:=hb; cases ha
theorem Zqz {a:Nat} (h:a < 4294967296):(a:Int) % 4294967296=(a:Int):=by omega
def dive (e:Nat):Nat:=100000000 / 10 ^ e
theorem Zoy:dive 0=100000000:=by simp [dive]
theorem Zoz:dive 9=0:=by decide
theorem ZgG (e:Nat):dive e / 10=dive (e + 1):=by unfold dive; rw [Nat.div_div_eq_div_mul,Nat.pow_succ]
theorem ZmG {e:Nat} (h:e < 9):dive e=10 ^ (9 - 1 - e):=by
 have:e=0∨e=1∨e=2∨e=3∨e=4∨e=5∨e=6∨e=7∨e=8:=by omega
 rcases this with rfl | rfl | rfl | rfl | rfl | rfl | rfl | rfl | rfl<;>decide
theorem ZqA (e:Nat):dive e≤100000000:=Nat.div_le_self _ _
theorem ZpM {e:Nat} (h:e < 9):0 < dive e:=by rw [ZmG h]; exact Nat.pow_pos (by omega)
def ZmH (C:Nat) (w wr:World) (n m:Nat) (xs:List Nat) (A:Option Addr) (cap:Nat) (mv:Value):Prop :=
 ZcO n xs m∧Buf .u32 329 wr A cap xs∧Zam wr mv m∧Ext w wr∧ml m≤ml n∧(∀ b,ZaD A b→w.heap.size≤b)∧xs.length≤C
theorem Zam.fr {S:Nat→Prop} {w w':World} {v:Value} {n:Nat} (h:Zam w v n) (hf:Fr S w w') (hs:∀ A l c,v=.slice A l c→0 < l→∀ a,A=some a→¬ S a.block):Zam w' v n:=by
 obtain ⟨A,xs,c,h1,h2,h3,h4⟩:=h
 refine ⟨A,xs,c,h1,h2,?_,h4⟩
 cases xs with
 | nil=>exact Zan.nil
 | cons x xs=>exact h3.fr hf (fun a ha _=>hs A _ c h1 (by simp) a ha)
def Zen (w wr:World) (xs:List Nat) (A:Option Addr) (cap h t:Nat) (A3:Option Addr) (cap3:Nat):Prop :=
 Buf .u32 329 wr A cap xs∧TBuf wr A3 cap3 (Zbg h)∧(Zbg h).length=t∧Ext w wr∧(∀ b,ZaD A b→w.heap.size≤b)∧(∀ b,ZaD A3 b→w.heap.size≤b)∧(∀ b,ZaD A b→¬ ZaD A3 b)
theorem Zle {w wr w2:World} {xs:List Nat} {A:Option Addr} {cap h h' t c':Nat} {A3 A4:Option Addr} {cap3 cap4:Nat} {o:Obj} (hS:Zen w wr xs A cap h t A3 cap3) (hT:Zbg h'=Zbg h ++ [UInt8.ofNat (48 + c')]) (hc:c' < 10)
 (hB:Buf .u8 5 w2 A4 cap4 (nats (Zbg h) ++ [48 + c'])) (hF:Fr (ZaD A3) (wr.alloc o) w2) (hA:∀ b,ZaD A4 b→ZaD A3 b∨b=(wr.alloc o).heap.size):Zen w w2 xs A cap h' (t + 1) A4 cap4:=by
 obtain ⟨h1,h2,h3,h4,h5,h6,h7⟩:=hS
 have hF':Fr (ZaD A3) wr w2:=((Fr.refl (ZaD A3) wr).alloc o).trans (hF.mono (fun _ _ h=>h))
 refine ⟨h1.fr hF' h7,?_,by rw [hT]; simp [h3],h4.next hF' (fun i hi hb=>by have:=h6 i hb; omega),h5,?_,?_⟩
 ·show Buf _ _ _ _ _ (nats (Zbg h'))
  rw [hT,ZlZ]
  have:nats [UInt8.ofNat (48 + c')]=[48 + c']:=by
   simp [nats]; omega
  rw [this]; exact hB
 ·intro b hb
  rcases hA b hb with h | h
  ·exact h6 b h
  ·have:=h4.size; simp at h; omega
 ·intro b hb hb4
  rcases hA b hb4 with h | h
  ·exact h7 b hb h
  ·have:=h1.lt hb; simp at h; omega
set_option maxHeartbeats 1000000 in
theorem Znt (s:Bool) (A0:Option Addr) (l0 c0:Nat) (n:Nat) (w:World) (hN:Zam w (.slice A0 l0 c0) n) (h0:0 < n) (C:Nat) (hn:n < 1000000000 ^ C) (hC:C≤15637498706141) :
 Calls Tryz.prog 143 #[.agg #[.bool s, .slice A0 l0 c0]] w (RetV w (.string ⟨(Lib.decDigits n).toArray⟩)):=by
 have HN:=zh hN
 have H0:=zh h0
 have Hn:=zh hn
 have HC1:Hid (C≤15637498706141):=hC
 have HC0:Hid (ml n≤17592186044416):=by have:=ZpL hn; unfold Hid; omega
 have hl0:((l0:Int) == 0)=false:=by
  obtain ⟨A,xs,c,h1,h2,h3,h4,h5,h6⟩:=hN
  injection h1 with e1 e2 e3
  subst e2
  have k1:=ZbI h4 h5
  rw [h6] at k1
  have k2:=Zix h0
  simp
  intro e
  rw [e] at k1
  simp at k1
  omega
 clear hN h0 hn hC
 go_enter Tryz.func143,Tryz.ntmps143
 go_wp2
 obtain ⟨wb,ewb⟩:∃ wb,w.alloc (.cells #[.bool s, .slice A0 l0 c0] 155)=wb:=⟨_,rfl⟩
 rw [ewb]
 have HEb:Hid (Ext w wb):=ewb ▸ (Fr.refl _ _).alloc _
 clear ewb
 go_loopw [3,4,5,6] (fun pv mv _ _ wr=>∃ (xs:List Nat) (m:Nat) (A:Option Addr) (cap:Nat) (A1:Option Addr) (l c:Nat),pv=.slice A xs.length cap∧mv=.slice A1 l c∧Hid (ZmH C w wr n m xs A cap (.slice A1 l c))) (fun pv _ _ _ _=>match pv with | .slice _ k _=>C - k | _=>0)
 case atStart=>exact ⟨[],n,none,0,A0,l0,c0,rfl,rfl,ZcO.start n,Buf.nil,HN.out.ext HEb.out,HEb.out,Nat.le_refl _,fun b hb=>(ZfS b hb).elim,by simp⟩
 case round =>
  obtain ⟨xs,m,A,cap,A1,l,c,rfl,rfl,hS⟩:=hrel
  have hl:=hS.out.2.2.1.len
  by_cases hm:0 < m
  ·have hlen:=hS.out.1.len hm Hn.out
   have hlp:0 < l:=by rw [hl]; exact Zix hm
   have hn2:=HC0.out
   have hn3:=HC1.out
   have hml:ml m≤17592186044416:=by have:=hS.out.2.2.2.2.1; omega
   have HD:=zh (Zgp _ m 1000000000 wr hS.out.2.2.1 hml (by omega) (by rw [Zap]; omega))
   obtain ⟨k2,ek⟩:∃ k2,C=k2:=⟨_,rfl⟩
   rw [ek] at hlen
   have hk2:k2≤15637498706141:=by omega
   clear hn2 hn3
   have hr:=Nat.mod_lt m (y:=1000000000) (by omega)
   have HC2:=zh hS.out.1.step
   have hmm:ml (m / 1000000000)≤ml m:=Zfr (Nat.div_le_self _ _)
   have Hmm:Hid (ml (m / 1000000000)≤ml n):=Nat.le_trans hmm hS.out.2.2.2.2.1
   obtain ⟨r,er⟩:∃ r,m % 1000000000=r:=⟨_,rfl⟩
   obtain ⟨m2,em⟩:∃ m2,m / 1000000000=m2:=⟨_,rfl⟩
   rw [er] at HC2
   rw [em] at HC2 Hmm
   clear hl hmm hr
   go_wp2_with fail
   refine HD.out.mono ?_
   rintro e w1 ⟨l2,c2,rfl,hM1,hF1⟩
   rw [er]
   rw [em] at hM1
   have HM1:=zh hM1
   have HF1:=zh hF1
   clear HD hM1 hF1 er em
   go_wp2_with (at_builtin; refine Hid.out ?_)
   refine zh ?_
   have hSh:Hid (Zan .u32 (w1.alloc (.cells #[.int .u32 (r:Int)] 329)) (some ⟨w1.heap.size,0,none⟩) [r]):=(Own.new w1 329 .u32 [r] []).shows0
   have hBx:Hid (Buf .u32 329 w1 A cap xs):=hS.out.2.1.ext HF1.out
   refine Za8 rfl _ _ _ rfl _ .u32 4 Tryz.underlying153 Zef A (some ⟨w1.heap.size,0,none⟩) xs.length 1 cap 1 rfl rfl xs [r] rfl rfl (hBx.out.ext ((Fr.refl _ _).alloc _)) hSh.out (by simp only [maxLen]; omega) (by omega) ?_
   intro A2 cap2 w2 hB2 hF2 hA2
   have HNew:Hid (ZmH C w w2 n m2 (xs ++ [r]) A2 cap2 (.slice (some ⟨wr.heap.size,0,none⟩) l2 c2)):=by
    have hnew:=hS.out.2.2.2.2.2.1
    have hE1:Ext w w1:=hS.out.2.2.2.1.trans HF1.out
    refine ⟨HC2.out,hB2,(HM1.out.ext ((Fr.refl _ _).alloc _)).fr hF2 ?_,(hE1.alloc _).next hF2 (fun i hi hb=>by have:=hnew i hb; omega),Hmm.out,?_,by rw [List.length_append,List.length_singleton]; omega⟩
    ·intro A' l' c' e _ a ha hb
     injection e with e1 e2 e3
     rw [← e1] at ha
     injection ha with ha
     subst ha
     have:wr.heap.size < wr.heap.size:=hS.out.2.1.lt hb
     omega
    ·intro b hb
     rcases hA2 b hb with h | h
     ·exact hnew b h
     ·have:=hE1.size; simp at h; omega
   clear hB2 hF2 hA2 hSh hBx HM1 HF1 HC2 hS
   have ek':=zh ek
   clear ek
   go_wp2
   go_roundw
   case rel=>exact ⟨xs ++ [r],m2,A2,cap2,_,l2,c2,by rw [List.length_append]; rfl,rfl,HNew⟩
   case measure =>
    simp
    rw [ek'.out]
    omega
  ·obtain rfl:m=0:=by omega
   obtain ⟨hC,hB,hM,Q,_,hA,hxl⟩:=hS.out
   have hxl2:xs.length≤15637498706141:=by have:=HC1.out; omega
   obtain rfl:l=0:=by rw [hl]; rfl
   have HC:Hid (Dig 1000000000 xs∧n=val 1000000000 xs):=by
    obtain ⟨c1,c2⟩:=hC
    exact ⟨c1,by simpa using c2⟩
   have HB:=zh hB
   have HE:=zh Q
   have HA:=zh hA
   clear hC hB hM Q hA hS hl hm hxl
   go_wp2
   obtain ⟨wo,rfl⟩:∃ wo:World,wo=wr:=⟨_,rfl⟩
   go_loopw [7,8,9,10] (fun ov iv _ _ wr=>∃ (k t:Nat) (A3:Option Addr) (cap3:Nat),k≤xs.length∧iv=.int .i64 ((k:Int) - 1)∧ov=.slice A3 t cap3∧t≤9 * (xs.length - k)∧Hid (Zen w wr xs A cap (val 1000000000 (xs.drop k)) t A3 cap3)) (fun _ iv _ _ _=>(intOf iv + 1).toNat)
   case atStart=>exact ⟨xs.length,0,none,0,Nat.le_refl _,rfl,rfl,by omega,HB.out,by rw [List.drop_length]; exact Buf.nil,by rw [List.drop_length]; rfl,HE.out,HA.out,fun b hb=>(ZfS b hb).elim,fun b _ hb=>ZfS b hb⟩
   case round =>
    obtain ⟨k,t,A3,cap3,hk,rfl,rfl,ht,hS⟩:=hrel
    by_cases hk0:0 < k
    ·obtain ⟨k,rfl⟩:∃ j,k=j + 1:=⟨k - 1,by omega⟩
     have hi:((k + 1:Nat):Int) - 1=(k:Int):=by omega
     rw [hi]
     clear hi
     have hkx:k < xs.length:=by omega
     obtain ⟨p,ep⟩:∃ p,xs[k]?.getD 0=p:=⟨_,rfl⟩
     have hp:p < 1000000000:=ep ▸ HC.out.1.getD (by omega) k
     obtain ⟨H,eH⟩:∃ H,val 1000000000 (xs.drop (k + 1))=H:=⟨_,rfl⟩
     have HNext:Hid (topE H p 9 9=val 1000000000 (xs.drop k)):=by
      unfold Hid
      rw [ZpK,ZaK k hkx,ep,eH,Nat.mul_comm]
      omega
     have HP:=zh ep
     rw [eH] at hS
     have hS2:Hid (Zen w wr xs A cap (topE H p 9 0) t A3 cap3):=by rw [Znr (by omega)]; exact hS
     have hd0:((100000000:Nat):Int)=((dive 0:Nat):Int):=by rw [Zoy]
     clear ep eH hS
     go_wp2
     obtain ⟨wo2,rfl⟩:∃ wo:World,wo=wr:=⟨_,rfl⟩
     obtain ⟨T0,eT⟩:∃ T0,9 * (xs.length - (k + 1))=T0:=⟨_,rfl⟩
     rw [eT] at ht
     go_loopw [7,9,10] (fun ov dv _ wr=>∃ (e t:Nat) (A3:Option Addr) (cap3:Nat),e≤9∧dv=.int .u32 (dive e:Nat)∧ov=.slice A3 t cap3∧t≤T0 + e∧Hid (Zen w wr xs A cap (topE H p 9 e) t A3 cap3)) (fun _ dv _ _=>(intOf dv).toNat)
     case atStart=>exact ⟨0,t,A3,cap3,by omega,by rw [← hd0]; rfl,rfl,by omega,hS2⟩
     case round =>
      clear ht hS2
      obtain ⟨e,t,A3,cap3,he,rfl,rfl,ht,hS⟩:=hrel
      by_cases he9:e < 9
      ·have hDp:=ZpM he9
       have hDl:=ZqA e
       have hT0:T0≤140737488355260:=by omega
       obtain ⟨b2,off2,hA,_,hcp⟩:=hS.out.1.shows.at hkx
       rw [HP.out] at hcp
       have HStep:=zh (Zox (H:=H) (p:=p) (k:=9) he9)
       rw [← ZmG he9] at HStep
       have hc10:p / dive e % 10 < 10:=Nat.mod_lt _ (by omega)
       have q1:(p:Int).tdiv (dive e:Int)=((p / dive e:Nat):Int):=by rw [Int.tdiv_eq_ediv_of_nonneg (by omega)]; rfl
       have q1':(p:Int) / (dive e:Int)=((p / dive e:Nat):Int):=rfl
       have q2:((p / dive e:Nat):Int).tmod 10=((p / dive e % 10:Nat):Int):=by rw [Int.tmod_eq_emod_of_nonneg (Int.natCast_nonneg _)]; rfl
       have q2':((p / dive e:Nat):Int) % 10=((p / dive e % 10:Nat):Int):=rfl
       have hpd:p / dive e≤p:=Nat.div_le_self _ _
       have q3:((p / dive e:Nat):Int) % 4294967296=((p / dive e:Nat):Int):=Zqz (Nat.lt_of_le_of_lt hpd (by omega))
       have q5:(dive e:Int).tdiv 10=((dive (e + 1):Nat):Int):=by rw [Int.tdiv_eq_ediv_of_nonneg (by omega),← ZgG]; rfl
       have q5':(dive e:Int) / 10=((dive (e + 1):Nat):Int):=by rw [← ZgG]; rfl
       have hlt:dive (e + 1) < dive e:=by rw [← ZgG]; omega
       have q6:((dive (e + 1):Nat):Int) % 4294967296=((dive (e + 1):Nat):Int):=by omega
       obtain ⟨D,eD⟩:∃ D,dive e=D:=⟨_,rfl⟩
       obtain ⟨D2,eD2⟩:∃ D2,dive (e + 1)=D2:=⟨_,rfl⟩
       have HD2:=zh eD2
       rw [eD] at hDp hDl HStep hc10 q1 q1' q2 q2' hpd q3 q5 q5' hlt ⊢
       rw [eD2] at q5 q5' hlt q6
       obtain ⟨q,eq⟩:∃ q,p / D=q:=⟨_,rfl⟩
       rw [eq] at q1 q1' q2 q2' HStep hc10 q3 hpd
       obtain ⟨c',ec⟩:∃ c',q % 10=c':=⟨_,rfl⟩
       rw [ec] at q2 q2' HStep hc10
       have hlen:(0 < t) ↔ 0 < topE H p 9 e:=by rw [← hS.out.2.2.1]; exact Zl3
       have q7:((48:Int) + (c':Int)) % 4294967296=((48 + c':Nat):Int):=by omega
       have q8:((48 + c':Nat):Int) % 256=((48 + c':Nat):Int):=by omega
       subst hA
       clear eD eD2 eq ec
       by_cases hgo:0 < t∨c'≠0
       ·have hlen3:=hS.out.2.2.1
        have HTx:=zh (ZgF (h:=topE H p 9 e) hc10 (by omega))
        rw [← HStep.out] at HTx
        have hSh:Hid (Zan .u8 (wr.alloc (.cells #[.int .u8 (48 + (c':Int))] 5)) (some ⟨wr.heap.size,0,none⟩) [48 + c']):=(Own.new wr 5 .u8 [48 + c'] []).shows0
        have hBo:Hid (TBuf wr A3 cap3 (Zbg (topE H p 9 e))):=hS.out.2.1
        have hgo2:(decide (0 < t) || ((48 + c':Nat):Int) != 48)=true:=by
         rcases hgo with h | h
         ·simp [h]
         ·have:(((48 + c':Nat):Int) != 48)=true:=by simp; omega
          rw [this,Bool.or_true]
        have Hlen3:=zh hlen3
        have HSt:=zh hS.out
        clear hlen hlen3 HStep hS
        by_cases ht0:0 < t
        ·clear hgo hgo2
         go_wp2_with (at_builtin; refine Hid.out ?_)
         refine zh ?_
         refine Za8 rfl _ _ _ rfl _ .u8 1 Tryz.underlying37 Zp8 A3 (some ⟨wr.heap.size,0,none⟩) t 1 cap3 1 rfl rfl (nats (Zbg (topE H p 9 e))) [48 + c'] (by rw [Zff]; exact Hlen3.out) rfl (hBo.out.ext ((Fr.refl _ _).alloc _)) hSh.out (by simp only [maxLen]; omega) (by omega) ?_
         intro A4 cap4 w2 hB4 hF4 hA4
         have HNew:Hid (Zen w w2 xs (some ⟨b2,off2,none⟩) cap (topE H p 9 (e + 1)) (t + 1) A4 cap4):=Zle HSt.out HTx.out hc10 hB4 hF4 hA4
         clear hB4 hF4 hA4 hSh hBo HSt HTx
         go_wp2
         go_roundw
         case rel=>exact ⟨e + 1,t + 1,A4,cap4,by omega,by rw [HD2.out],rfl,by omega,HNew⟩
         case measure=>simp [intOf]; omega
        ·have hc0:(((48 + c':Nat):Int) != 48)=true:=by simp; omega
         clear hgo hgo2
         go_wp2_with (at_builtin; refine Hid.out ?_)
         refine zh ?_
         refine Za8 rfl _ _ _ rfl _ .u8 1 Tryz.underlying37 Zp8 A3 (some ⟨wr.heap.size,0,none⟩) t 1 cap3 1 rfl rfl (nats (Zbg (topE H p 9 e))) [48 + c'] (by rw [Zff]; exact Hlen3.out) rfl (hBo.out.ext ((Fr.refl _ _).alloc _)) hSh.out (by simp only [maxLen]; omega) (by omega) ?_
         intro A4 cap4 w2 hB4 hF4 hA4
         have HNew:Hid (Zen w w2 xs (some ⟨b2,off2,none⟩) cap (topE H p 9 (e + 1)) (t + 1) A4 cap4):=Zle HSt.out HTx.out hc10 hB4 hF4 hA4
         clear hB4 hF4 hA4 hSh hBo HSt HTx
         go_wp2
         go_roundw
         case rel=>exact ⟨e + 1,t + 1,A4,cap4,by omega,by rw [HD2.out],rfl,by omega,HNew⟩
         case measure=>simp [intOf]; omega
       ·obtain rfl:t=0:=by omega
        obtain rfl:c'=0:=by omega
        have HNew:Hid (Zen w wr xs (some ⟨b2,off2,none⟩) cap (topE H p 9 (e + 1)) 0 A3 cap3):=by
         have h0:topE H p 9 e=0:=by omega
         unfold Hid
         rw [HStep.out,h0]
         have:=hS.out
         rw [h0] at this
         exact this
        clear hS hlen HStep
        go_wp2
        go_roundw
        case rel=>exact ⟨e + 1,0,A3,cap3,by omega,by rw [HD2.out],rfl,by omega,HNew⟩
        case measure=>simp [intOf]; omega
      ·obtain rfl:e=9:=by omega
       have HS9:Hid (Zen w wr xs A cap (val 1000000000 (xs.drop k)) t A3 cap3):=by
        rw [← HNext.out]; exact hS
       have ht9:t≤9 * (xs.length - k):=by omega
       rw [Zoz]
       clear hS
       go_wp2
       go_roundw
       case rel=>exact ⟨k,t,A3,cap3,by omega,by go_num,rfl,ht9,HS9⟩
       case measure=>simp [intOf]
    ·obtain rfl:k=0:=by omega
     obtain ⟨_,hTb,_,hE2,_,_,_⟩:=hS.out
     rw [List.drop_zero,← HC.out.2,Zcv H0.out] at hTb
     have hlt:(Lib.decDigits n).length=t:=by
      have:=hS.out.2.2.1
      rwa [List.drop_zero,← HC.out.2,Zcv H0.out] at this
     obtain ⟨b,rfl,hc⟩:=TBuf.bytes hTb (Zbe n)
     have hcv:=run_convert_bytes_back (P:=Tryz.prog) wr 37 9 5 ⟨b,0,none⟩ cap3 (Lib.decDigits n) Tryz.underlying37 Tryz.underlying5 Tryz.underlying9 hc
     rw [hlt] at hcv
     have HE2:=zh hE2
     generalize Lib.decDigits n=txt at *
     clear hTb hE2 hc hS hlt
     go_wp2
     go_ret
     exact ⟨rfl,HE2.out⟩
end Go.Proofs.YtcpjeaaapocoeaaGreatDoor

namespace Go.Proofs.YtcpjeaaapocoeaaGreatDoor
open Go.RowKit
set_option maxHeartbeats 1000000 in
theorem Zl4 (s:Bool) (A0:Option Addr) (c0:Nat) (w:World) :
 Calls Tryz.prog 143 #[.agg #[.bool s, .slice A0 0 c0]] w (RetV w (.string ⟨(Lib.decDigits 0).toArray⟩)):=by
 have hd:Lib.decDigits 0=[48]:=Lib.decDigits_one (by omega)
 have HD:=zh hd
 clear hd
 go_enter Tryz.func143,Tryz.ntmps143
 go_wp2
 go_ret
 exact ⟨by rw [HD.out]; rfl,(Fr.refl _ _).alloc _⟩
theorem Zl5 (s:Bool) (A0:Option Addr) (l0 c0:Nat) (n:Nat) (w:World) (hN:Zam w (.slice A0 l0 c0) n) (C:Nat) (hn:n < 1000000000 ^ C) (hC:C≤15637498706141) :
 Calls Tryz.prog 143 #[.agg #[.bool s, .slice A0 l0 c0]] w (RetV w (.string ⟨(Lib.decDigits n).toArray⟩)):=by
 rcases Nat.eq_zero_or_pos n with h | h
 ·subst h
  have hl:=hN.len
  rw [Zjb] at hl
  subst hl
  exact Zl4 s A0 c0 w
 ·exact Znt s A0 l0 c0 n w hN h C hn hC
end Go.Proofs.YtcpjeaaapocoeaaGreatDoor

namespace Go.Proofs.YtcpjeaaapocoeaaGreatDoor
open Go.RowKit
def ZaA (q:Rat):List UInt8:=if q.den=1 then Lib.itoa q.num else Lib.itoa q.num ++ [47] ++ Lib.itoa (q.den:Int)
end Go.Proofs.YtcpjeaaapocoeaaGreatDoor

namespace Go.Proofs.YtcpjeaaapocoeaaGreatDoor
open Go.RowKit
def Zq7 (w:World) (A:Option Addr) (zs:List Int):Prop :=
 zs≠[]→∃ b off,A=some ⟨b,off,none⟩∧b < w.heap.size∧∀ i,i < zs.length→w.cell? ⟨b,off + i,none⟩=some (.int .i64 (zs.getD i 0))
def Zq8 (zs:List Int):Prop:=∀ z ∈ zs,-9223372036854775808≤z∧z≤9223372036854775807
end Go.Proofs.YtcpjeaaapocoeaaGreatDoor

namespace Go.Proofs.YtcpjeaaapocoeaaGreatDoor
open Go.RowKit
theorem Zhi {x:Int} (h:0≤x):Lib.itoa x=Lib.decDigits x.natAbs:=by
 unfold Lib.itoa
 rw [if_neg (by omega)]
 congr 1; omega
end Go.Proofs.YtcpjeaaapocoeaaGreatDoor

namespace Go.Proofs.YtcpjeaaapocoeaaGreatDoor
end Go.Proofs.YtcpjeaaapocoeaaGreatDoor

namespace Go.Proofs.YtcpjeaaapocoeaaGreatDoor
open Go.RowKit
theorem ZfT {n:Nat} (h:10≤n):Lib.decDigits n=Lib.decDigits (n / 10) ++ [UInt8.ofNat (48 + n % 10)]:=by
 rw [Lib.decDigits,dif_neg (by omega)]
theorem Zev {n:Nat} (h:n < 10):Lib.decDigits n=[UInt8.ofNat (48 + n)]:=Lib.decDigits_one h
theorem Zec {n:Nat} (h:n < 10):(UInt8.ofNat (48 + n)).toNat=48 + n:=by
 rw [UInt8.toNat_ofNat']; omega
theorem ZhB {n:Nat} (h:n < 10):Zaj (UInt8.ofNat (48 + n))=true:=by
 unfold Zaj; rw [Zec h]; simp; omega
theorem ZcC:∀ n,(Lib.decDigits n).all Zaj=true:=by
 intro n
 induction n using Nat.strongRecOn with
 | _ n ih =>
   rcases Nat.lt_or_ge n 10 with h | h
   ·rw [Zev h,List.all_cons,ZhB h]; rfl
   ·rw [ZfT h,List.all_append,ih (n / 10) (by omega),List.all_cons,ZhB (Nat.mod_lt n (by omega:0 < 10))]; rfl
theorem Zd1:∀ n,Zad (Lib.decDigits n)=n:=by
 intro n
 induction n using Nat.strongRecOn with
 | _ n ih =>
   rcases Nat.lt_or_ge n 10 with h | h
   ·rw [Zev h]; simp only [Zad,List.foldl_cons,List.foldl_nil]; rw [Zec h]; omega
   ·rw [ZfT h,Zdo,ih (n / 10) (by omega),Zec (Nat.mod_lt n (by omega:0 < 10))]; omega
theorem Zd2:∀ n,0 < n→(Lib.decDigits n).head? ≠ some 48:=by
 intro n
 induction n using Nat.strongRecOn with
 | _ n ih =>
   intro h0
   rcases Nat.lt_or_ge n 10 with h | h
   ·rw [Zev h]
    intro e
    simp only [List.head?_cons,Option.some.injEq] at e
    have:=congrArg UInt8.toNat e
    rw [Zec h] at this
    simp at this; omega
   ·have h1:=ih (n / 10) (by omega) (by omega)
    rw [ZfT h,List.head?_append]
    cases hc:(Lib.decDigits (n / 10)).head? with
    | none=>exact absurd (List.head?_eq_none_iff.1 hc) (Zbe _)
    | some c=>rw [hc] at h1; exact h1
theorem Zdu {p:UInt8→Bool} {l:List UInt8} (h:l.all p=true):l.takeWhile p=l∧l.dropWhile p=[]:=by
 induction l with
 | nil=>exact ⟨rfl,rfl⟩
 | cons x xs ih =>
   simp only [List.all_cons,Bool.and_eq_true] at h
   obtain ⟨h1,h2⟩:=ih h.2
   rw [List.takeWhile_cons,List.dropWhile_cons,h.1]
   simp [h1,h2]
theorem Znu {l:List UInt8} (h:l.all Zaj=true):Zaz l=(false,l):=by
 unfold Zaz
 rw [if_neg]
 intro e
 cases l with
 | nil=>cases e
 | cons x xs =>
   simp only [List.head?_cons,Option.some.injEq] at e
   subst e
   simp only [List.all_cons,Bool.and_eq_true] at h
   exact absurd h.1 (by decide)
theorem ZoC (n:Nat):ZaU (Lib.decDigits n)=(false,Lib.decDigits n,[],true):=by
 obtain ⟨h1,h2⟩:=Zdu (ZcC n)
 unfold ZaU
 rw [Znu (ZcC n)]
 simp only []
 rw [h1,h2]
 rcases Nat.eq_zero_or_pos n with h0 | h0
 ·subst h0; rw [Zev (by omega)]; rfl
 ·have hne:Lib.decDigits n≠[48]:=fun e=>Zd2 n h0 (by rw [e]; rfl)
  rw [if_neg hne,if_neg (fun e=>e.elim (Zbe n) (Zd2 n h0)),if_pos rfl]
theorem ZoD {n:Nat} (h:0 < n):ZaU ([45] ++ Lib.decDigits n)=(true,Lib.decDigits n,[],true):=by
 obtain ⟨h1,h2⟩:=Zdu (ZcC n)
 unfold ZaU
 have e:Zaz ([45] ++ Lib.decDigits n)=(true,Lib.decDigits n):=rfl
 rw [e]
 simp only []
 rw [h1,h2]
 have hne:Lib.decDigits n≠[48]:=fun e=>Zd2 n h (by rw [e]; rfl)
 rw [if_neg hne,if_neg (fun e=>e.elim (Zbe n) (Zd2 n h)),if_pos rfl]
theorem itoa_neg {z:Int} (h:z < 0):Lib.itoa z=[45] ++ Lib.decDigits z.natAbs:=by
 unfold Lib.itoa
 rw [if_pos h]
 rfl
theorem Znv (z:Int):ZaU (Lib.itoa z)=(decide (z < 0),Lib.decDigits z.natAbs,[],true):=by
 by_cases h:z < 0
 ·rw [itoa_neg h,ZoD (by omega),decide_eq_true h]
 ·rw [Zhi (by omega),ZoC,decide_eq_false h]
theorem ZoE (z:Int):ZaB (Lib.itoa z)=some (z:Rat):=by
 unfold ZaB
 rw [Znv]
 simp only []
 rw [if_pos trivial,Zd1]
 congr 2
 unfold sg
 split
 ·rename_i h; have:=of_decide_eq_true h; omega
 ·rename_i h; have:¬ z < 0:=fun k=>h (decide_eq_true k); omega
end Go.Proofs.YtcpjeaaapocoeaaGreatDoor

namespace Go.Proofs.YtcpjeaaapocoeaaGreatDoor
open Go.RowKit
theorem ZiQ {c:UInt8} (h:Zaj c=true):UInt8.ofNat (48 + (c.toNat - 48))=c:=by
 have:=ZeJ h
 apply UInt8.toNat.inj
 rw [UInt8.toNat_ofNat']
 have:=c.toNat_lt
 omega
theorem ZoF:∀ (k:Nat) (l:List UInt8),l.length=k→l.all Zaj=true→l≠[]→l.head? ≠ some 48→Lib.decDigits (Zad l)=l:=by
 intro k
 induction k with
 | zero=>intro l hl _ h0; exact absurd (List.length_eq_zero_iff.1 hl) h0
 | succ k ih =>
   intro l hl hd h0 h48
   obtain ⟨l',c,rfl⟩:∃ l' c,l=l' ++ [c]:=by
    rcases List.eq_nil_or_concat l with h | ⟨l',c,h⟩
    ·exact absurd h h0
    ·exact ⟨l',c,by simpa using h⟩
   rw [List.all_append,Bool.and_eq_true] at hd
   have hc:Zaj c=true:=by simpa using hd.2
   have hcb:=ZeJ hc
   rw [Zdo]
   by_cases hl0:l'=[]
   ·subst hl0
    have e:Zad []=0:=rfl
    rw [e,Nat.mul_zero,Nat.zero_add,Zev (by omega),ZiQ hc]; rfl
   ·have hh:l'.head? ≠ some 48:=by
     rw [List.head?_append] at h48
     cases hx:l'.head? with
     | none=>exact absurd (List.head?_eq_none_iff.1 hx) hl0
     | some x=>rw [hx] at h48; exact h48
    have h1:=ih l' (by simp at hl; exact hl) hd.1 hl0 hh
    have hp:=(ZfG hd.1 hl0 hh).1
    rw [ZfT (by omega),show (10 * Zad l' + (c.toNat - 48)) / 10=Zad l' by omega,show (10 * Zad l' + (c.toNat - 48)) % 10=c.toNat - 48 by omega,h1,ZiQ hc]
theorem Zl7 (n:Nat):(Lib.decDigits n).head? ≠ some 45:=by
 intro e
 cases h:Lib.decDigits n with
 | nil=>exact Zbe n h
 | cons x xs =>
   rw [h] at e
   simp only [List.head?_cons,Option.some.injEq] at e
   subst e
   have:=ZcC n
   rw [h] at this
   simp only [List.all_cons,Bool.and_eq_true] at this
   exact absurd this.1 (by decide)
theorem Zfw {p:UInt8→Bool} {l r:List UInt8} {c:UInt8} (h:l.all p=true) (hc:p c=false):(l ++ c :: r).takeWhile p=l∧(l ++ c :: r).dropWhile p=c :: r:=by
 induction l with
 | nil=>simp [hc]
 | cons x xs ih =>
   simp only [List.all_cons,Bool.and_eq_true] at h
   obtain ⟨h1,h2⟩:=ih h.2
   rw [List.cons_append,List.takeWhile_cons,List.dropWhile_cons,h.1]
   simp [h1,h2]
theorem Zfi (z:Int) (r:List UInt8):Zaz (Lib.itoa z ++ r)=(decide (z < 0),Lib.decDigits z.natAbs ++ r):=by
 by_cases h:z < 0
 ·rw [itoa_neg h,decide_eq_true h]
  unfold Zaz
  rw [if_pos (by simp)]
  rfl
 ·rw [Zhi (by omega),decide_eq_false h]
  unfold Zaz
  rw [if_neg]
  intro e
  rw [List.head?_append] at e
  cases hx:(Lib.decDigits z.natAbs).head? with
  | none=>exact absurd (List.head?_eq_none_iff.1 hx) (Zbe _)
  | some c =>
    rw [hx] at e
    exact Zl7 _ (hx.trans e)
theorem Zlh (z:Int):sg (decide (z < 0)) z.natAbs=z:=by
 unfold sg
 split
 ·rename_i h; have:=of_decide_eq_true h; omega
 ·rename_i h; have:¬ z < 0:=fun k=>h (decide_eq_true k); omega
theorem ZiR {q:Rat} (h:q.den=1):((q.num:Int):Rat)=q:=by
 apply Rat.ext<;>simp [h]
theorem Zq9 {q:Rat} (h:q.den≠1):q.num≠0:=by
 intro e
 have:=q.reduced
 rw [e] at this
 simp [Nat.Coprime] at this
 exact h this
theorem ZfU (n:Nat):Lib.itoa (n:Int)=Lib.decDigits n:=by
 rw [Zhi (by omega),Int.natAbs_natCast]
theorem Znw {q:Rat} (h:q.den≠1):ZaU (ZaA q)=(decide (q.num < 0),Lib.decDigits q.num.natAbs,Lib.decDigits q.den,true):=by
 have hn:=Zq9 h
 have hd:=q.den_nz
 unfold ZaA
 rw [if_neg h,ZfU,List.append_assoc]
 unfold ZaU
 rw [Zfi]
 simp only []
 obtain ⟨h1,h2⟩:=Zfw (p:=Zaj) (r:=Lib.decDigits q.den) (c:=47) (ZcC q.num.natAbs) (by decide)
 have e:Lib.decDigits q.num.natAbs ++ ([47] ++ Lib.decDigits q.den)=Lib.decDigits q.num.natAbs ++ 47 :: Lib.decDigits q.den:=rfl
 rw [e,h1,h2]
 have hh:=Zd2 q.num.natAbs (by omega)
 rw [if_neg (fun e=>hh (by rw [e]; rfl)),if_neg (fun e=>e.elim (Zbe _) hh),if_neg (by simp),if_neg (by simp)]
 simp only [List.tail_cons]
 obtain ⟨h3,h4⟩:=Zdu (ZcC q.den)
 rw [h3,h4]
 have hh2:=Zd2 q.den (by omega)
 have h49:Lib.decDigits q.den≠[49]:=fun e=>by
  have:=Zd1 q.den
  rw [e] at this
  exact h (by rw [← this]; rfl)
 have hne:=Zbe q.den
 simp [hh2,h49,hne]
theorem Zj5 (q:Rat):ZaB (ZaA q)=some q:=by
 by_cases h:q.den=1
 ·unfold ZaA
  rw [if_pos h,ZoE,ZiR h]
 ·unfold ZaB
  rw [Znw h]
  simp only []
  rw [if_neg (Zbe _),Zd1,Zd1,if_pos q.reduced,Zlh,Rat.mkRat_self]
theorem Zj6 {neg:Bool} {a:Nat} (h:a=0→neg=false):(sg neg a < 0 ↔ neg=true)∧(sg neg a).natAbs=a:=by
 cases neg with
 | false=>simp [sg]
 | true =>
   have:a≠0:=fun e=>by cases h e
   simp [sg]; omega
theorem ZmI {neg:Bool} {a:Nat} (h:a=0→neg=false):Lib.itoa (sg neg a)=(if neg then [45] else []) ++ Lib.decDigits a:=by
 obtain ⟨h1,h2⟩:=Zj6 h
 cases neg with
 | false=>rw [Zhi (by simp [sg]),h2]; rfl
 | true=>rw [itoa_neg (h1.2 rfl),h2]; rfl
theorem Zl8 {l r:List UInt8} {neg:Bool} (h:Zaz l=(neg,r)):l=(if neg then [45] else []) ++ r:=by
 unfold Zaz at h
 split at h
 ·rename_i hh
  injection h with h1 h2
  subst h1 h2
  cases l with
  | nil=>cases hh
  | cons x xs=>simp at hh; subst hh; rfl
 ·injection h with h1 h2
  subst h1 h2
  rfl
theorem ZgI {l:List UInt8} {q:Rat} (h:ZaB l=some q):ZaA q=l:=by
 unfold ZaB at h
 cases hs:ZaU l with
 | mk neg r =>
   obtain ⟨num,den,ok⟩:=r
   rw [hs] at h
   cases ok with
   | false=>cases h
   | true =>
     simp only [] at h
     have hdg:=Zcl hs
     obtain ⟨s1,s2⟩:=ZfH hs
     cases hu:Zaz l with
     | mk neg' t =>
       have hl:=Zl8 hu
       have htw:t.takeWhile Zaj ++ t.dropWhile Zaj=t:=List.takeWhile_append_dropWhile
       unfold ZaU at hs
       rw [hu] at hs
       simp only [] at hs
       split at hs
       ·-- zero
        rename_i h48
        injection hs with e1 hs; injection hs with e2 hs; injection hs with e3 e4
        subst e1 e2 e3
        simp at e4
        rw [if_pos rfl,h48] at h
        have hv:Zad [48]=0:=rfl
        rw [hv] at h
        injection h with h
        rw [e4.1] at h hl
        rw [← h,hl,← htw,h48,e4.2]
        simp only [sg]
        unfold ZaA
        rw [if_pos (by simp)]
        have:Lib.itoa ((0:Nat):Int)=[48]:=by rw [ZfU,Zev (by omega)]; rfl
        simpa using this
       split at hs
       ·injection hs with _ hs; injection hs with _ hs; injection hs with _ hs; cases hs
       rename_i hn
       have hn1:t.takeWhile Zaj≠[]:=fun e=>hn (Or.inl e)
       have hn2:(t.takeWhile Zaj).head? ≠ some 48:=fun e=>hn (Or.inr e)
       have hdn:=ZoF _ _ rfl (ZbD (p:=Zaj) t) hn1 hn2
       split at hs
       ·rename_i hr
        injection hs with e1 hs; injection hs with e2 hs; injection hs with e3 _
        subst e1 e2 e3
        rw [if_pos rfl] at h
        injection h with h
        rw [← h]
        unfold ZaA
        rw [if_pos (by simp)]
        have hnum:(((sg neg' (Zad (t.takeWhile Zaj)):Int)):Rat).num=sg neg' (Zad (t.takeWhile Zaj)):=rfl
        rw [hnum,ZmI (fun e=>(s2 e).1),hdn,hl]
        rw [hr,List.append_nil] at htw
        rw [htw]
       split at hs
       ·injection hs with _ hs; injection hs with _ hs; injection hs with _ hs; cases hs
       ·rename_i hr h47
        injection hs with e1 hs; injection hs with e2 hs; injection hs with e3 e4
        subst e1 e2
        rw [e3] at e4
        simp at e4
        obtain ⟨⟨⟨k1,k2⟩,k3⟩,k4⟩:=e4
        rw [if_neg k2] at h
        split at h
        ·rename_i hg
         injection h with h
         have h2:=s1 k2
         have hq:q.num=sg neg' (Zad (t.takeWhile Zaj))∧q.den=Zad den:=by
          have:=ZgC (x:=sg neg' (Zad (t.takeWhile Zaj))) (y:=(Zad den:Int)) (by omega) (by
           unfold Int.gcd
           rw [(Zj6 (fun e=>(s2 e).1)).2,Int.natAbs_natCast,hg]; rfl)
          rw [Rat.divInt_ofNat,h] at this
          exact ⟨this.1,by have:=this.2; omega⟩
         unfold ZaA
         rw [if_neg (by rw [hq.2]; omega),hq.1,hq.2,ZmI (fun e=>(s2 e).1),hdn,ZfU,ZoF _ _ rfl hdg.2.1 k2 k3,hl]
         have htail:t.dropWhile Zaj=47 :: den:=by
          cases hx:t.dropWhile Zaj with
          | nil=>exact absurd hx hr
          | cons c r =>
            rw [hx] at h47 k1 e3
            simp at h47 k1 e3
            subst h47
            have:=List.takeWhile_append_dropWhile (p:=Zaj) (l:=r)
            rw [e3,k1,List.append_nil] at this
            rw [this]
         rw [htail] at htw
         rw [List.append_assoc,List.append_assoc]
         congr 1
        ·cases h
theorem Zh3 {l:List UInt8} {q:Rat}:ZaB l=some q ↔ ZaA q=l :=
 ⟨ZgI,fun h=>by rw [← h]; exact Zj5 q⟩
end Go.Proofs.YtcpjeaaapocoeaaGreatDoor

namespace Go.Proofs.YtcpjeaaapocoeaaGreatDoor
open Go.RowKit
theorem ZiW {l:List UInt8} (hd:l.all Zaj=true) (hl:l.length≤570):wl (Zad l)≤30:=by
 rw [Zc7]
 have h1:=Zbp l hd
 obtain ⟨k,hk⟩:∃ k,k=30:=⟨_,rfl⟩
 have h2:10 ^ l.length≤10 ^ (19 * k):=Nat.pow_le_pow_right (by omega) (by omega)
 rw [← hk]
 rw [Nat.pow_mul] at h2
 have h3:(10 ^ 19) ^ k≤W64 ^ k:=Nat.pow_le_pow_left (by rw [Zah]; decide) k
 exact Nat.lt_of_lt_of_le h1 (Nat.le_trans h2 h3)
theorem Zgx.of_len {l:List UInt8} (h:l.length≤570):Zgx l:=by
 refine ⟨h,fun neg num den hs _=>?_⟩
 obtain ⟨d1,d2,d3⟩:=Zcl hs
 have w1:=ZiW d1 (by omega)
 have w2:=ZiW d2 (by omega)
 have hn:(sg neg (Zad num)).natAbs=Zad num:=by unfold sg; split<;>omega
 exact ZeY.words (by rw [hn]; omega) (by rw [Int.natAbs_natCast]; omega)
end Go.Proofs.YtcpjeaaapocoeaaGreatDoor

namespace Go.Proofs.YtcpjeaaapocoeaaGreatDoor
open Go.RowKit
theorem Zbt (p:Value) (w:World):Calls Tryz.prog 139 #[p, .bool true] w fun e w'=>e=.returned (.tuple #[])∧w'=w:=by
 go_enter Tryz.func139,Tryz.ntmps139
 go_wp2
 go_end0
 exact ⟨rfl,rfl⟩
end Go.Proofs.YtcpjeaaapocoeaaGreatDoor
