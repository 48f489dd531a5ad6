/-
 My texts Gen, Small, Rat2, SxK, Sx8, Sx9, Sx12, Sx13, Pw, Fna, Nr, Ng, FlM, Fnb, Fnc put together.
-/
import Derived.Test.YtklpdkpcocnglaaGreatDoorV12
import Derived.Test.YtklpdkpcocnglaaGreatDoorV14
import Derived.Test.YtklpdkpcocnglaaGreatDoorV15
import Derived.Outline
import Derived.Test.YtklpdkpcocnglaaGreatDoorV13
import Derived.Test.YtklpdkpcocnglaaGreatDoorV01
import Derived.Deep.LoopGhost
import Derived.Test.YtklpdkpcocnglaaGreatDoorV06
import Derived.Test.YtklpdkpcocnglaaGreatDoorV03
import Derived.Test.YtklpdkpcocnglaaGreatDoorV07
import Derived.Test.YtklpdkpcocnglaaGreatDoorV08
set_option maxRecDepth 100000
namespace Go.Proofs.YtklpdkpcocnglaaGreatDoor
open Go.RowKit
theorem Zah:Tryz.prog.follows .mixedOrders=true:=by kernel_rfl
def ZiK (cs:Array Value):Prop:=∀ (i:Nat) (k:IntKind) (z:Int),cs[i]? = some (.int k z)→k=.i64
theorem Zbe {s:Bool} {A:Option Addr} {l c:Nat}:ZiK #[.bool s, .slice A l c]:=by
 intro i k z; rcases i with _ | _ | i<;>simp
theorem Zae.other {k:IntKind} {t:TypeId} {w w':World} {r:Nat} {A:Option Addr} {xs:List Nat} {cs:Array Value} (h:Zae k w A xs) (hk:k≠.i64) (hB:Blk t w r cs) (hc:ZiK cs) (hF:Fr (fun i=>i=r) w w'):Zae k w' A xs:=by
 cases xs with
 | nil=>exact Zae.nil
 | cons x xs =>
   refine h.fr hF (fun ad hA hlt e=>?_)
   obtain ⟨g,off,e',_,hcl⟩:=h.at (i:=0) (by simp)
   rw [e'] at hA
   injection hA with hA
   subst hA
   simp at e
   subst e
   rw [hB.cell] at hcl
   exact hk (hc _ _ _ hcl)
theorem Zar.oth {t:TypeId} {w w':World} {r n:Nat} {u:Value} {cs:Array Value} (h:Zar w u n) (hB:Blk t w r cs) (hc:ZiK cs) (hF:Fr (fun i=>i=r) w w'):Zar w' u n:=by
 obtain ⟨A',xs,c',h1,h2,h3,h4⟩:=h
 exact ⟨A',xs,c',h1,h2,h3.other (by decide) hB hc hF,h4⟩
theorem Zai.oth {t:TypeId} {w w':World} {r:Nat} {v:Value} {z:Int} {cs:Array Value} (h:Zai w v z) (hB:Blk t w r cs) (hc:ZiK cs) (hF:Fr (fun i=>i=r) w w'):Zai w' v z:=by
 obtain ⟨s',u,n,h1,h2,h3⟩:=h
 exact ⟨s',u,n,h1,h2.oth hB hc hF,h3⟩
theorem Zai.shp {w:World} {v:Value} {z:Int} (h:Zai w v z):∃ (s:Bool) (A:Option Addr) (l c:Nat),v=.agg #[.bool s, .slice A l c]:=by
 obtain ⟨s,A,l,c,h,_⟩:=h.open
 exact ⟨s,A,l,c,h⟩
theorem ZcS.shp {w:World} {v:Value} {z:Int} (h:ZcS w v z):∃ (s:Bool) (A:Option Addr) (l c:Nat),v=.agg #[.bool s, .slice A l c]:=h.shape
theorem Zai.nil (w:World):Zai w (.agg #[.bool false, .slice none 0 0]) 0:=⟨false,_,0,rfl,Zar.zero w,fun _=>rfl,rfl⟩
theorem Zm9 {a b c d a' b' c' d':Value} (h:Value.agg #[a,b,c,d]=.agg #[a',b',c',d']):a=a'∧b=b'∧c=c'∧d=d':=by
 injection h with h
 simpa using h
def Zaw (w:World) (v:Value) (q:Rat):Prop:=∃ (s t:Bool) (A B:Option Addr) (l c l' c':Nat),v=.agg #[.bool s, .slice A l c, .bool t, .slice B l' c']∧Zai w (.agg #[.bool s, .slice A l c]) q.num∧Zai w (.agg #[.bool t, .slice B l' c']) (denF q)
theorem Zaw.ext {w w':World} {v:Value} {q:Rat} (h:Zaw w v q) (hf:Ext w w'):Zaw w' v q:=by
 obtain ⟨s,t,A,B,l,c,l',c',h1,h2,h3⟩:=h
 exact ⟨s,t,A,B,l,c,l',c',h1,h2.ext hf,h3.ext hf⟩
theorem Zaw.oth {t:TypeId} {w w':World} {r:Nat} {v:Value} {q:Rat} {cs:Array Value} (h:Zaw w v q) (hB:Blk t w r cs) (hc:ZiK cs) (hF:Fr (fun i=>i=r) w w'):Zaw w' v q:=by
 obtain ⟨s,t,A,B,l,c,l',c',h1,h2,h3⟩:=h
 exact ⟨s,t,A,B,l,c,l',c',h1,h2.oth hB hc hF,h3.oth hB hc hF⟩
theorem Zaw.shp {w:World} {v:Value} {q:Rat} (h:Zaw w v q):∃ (s:Bool) (A:Option Addr) (l c:Nat) (t:Bool) (B:Option Addr) (l' c':Nat),v=.agg #[.bool s, .slice A l c, .bool t, .slice B l' c']:=by
 obtain ⟨s,t,A,B,l,c,l',c',h,_⟩:=h
 exact ⟨s,A,l,c,t,B,l',c',h⟩
theorem Zaw.num {w:World} {a b c d:Value} {q:Rat} (h:Zaw w (.agg #[a,b,c,d]) q):Zai w (.agg #[a,b]) q.num:=by
 obtain ⟨s,t,A,B,l,c,l',c',h,h1,h2⟩:=h
 obtain ⟨rfl,rfl,rfl,rfl⟩:=Zm9 h
 exact h1
theorem Zaw.den {w:World} {a b c d:Value} {q:Rat} (h:Zaw w (.agg #[a,b,c,d]) q):Zai w (.agg #[c,d]) (denF q):=by
 obtain ⟨s,t,A,B,l,c,l',c',h,h1,h2⟩:=h
 obtain ⟨rfl,rfl,rfl,rfl⟩:=Zm9 h
 exact h2
theorem Zaw.of {w:World} {s t:Bool} {A B:Option Addr} {l c l' c':Nat} {q:Rat} (h1:Zai w (.agg #[.bool s, .slice A l c]) q.num) (h2:Zai w (.agg #[.bool t, .slice B l' c']) (denF q)):Zaw w (.agg #[.bool s, .slice A l c, .bool t, .slice B l' c']) q :=
 ⟨_,_,_,_,_,_,_,_,rfl,h1,h2⟩
def Zc5 (w:World) (q:Rat) (e:Ending) (w':World):Prop:=∃ v,e=.returned v∧Zaw w' v q∧Ext w w'
theorem Zaw.nil (w:World):Zaw w (.agg #[.bool false, .slice none 0 0, .bool false, .slice none 0 0]) 0:=⟨_,_,_,_,_,_,_,_,rfl,Zai.nil w,Zai.nil w⟩
theorem ZcQ {t0:TypeId} {w wb:World} {c0:Array Value} (h:w.alloc (.cells c0 t0)=wb):Blk t0 wb w.heap.size c0∧Ext w wb:=by
 subst h; exact ⟨Blk.new _ _ _,(Fr.refl _ _).alloc _⟩
theorem ZfC {t0 t1:TypeId} {w wb:World} {c0 c1:Array Value} (h:(w.alloc (.cells c0 t0)).alloc (.cells c1 t1)=wb):Blk t0 wb w.heap.size c0∧Blk t1 wb (w.heap.size + 1) c1∧Ext w wb:=by
 obtain ⟨b0,e0⟩:=ZcQ (w:=w) (c0:=c0) (t0:=t0) rfl
 have e:(w.alloc (.cells c0 t0)).heap.size=w.heap.size + 1:=by simp
 obtain ⟨b1,e1⟩:=ZcQ h
 rw [e] at b1
 exact ⟨b0.ext e1,b1,e0.trans e1⟩
theorem Zla {t0 t1 t2:TypeId} {w wb:World} {c0 c1 c2:Array Value} (h:((w.alloc (.cells c0 t0)).alloc (.cells c1 t1)).alloc (.cells c2 t2)=wb):Blk t0 wb w.heap.size c0∧Blk t1 wb (w.heap.size + 1) c1∧Blk t2 wb (w.heap.size + 1 + 1) c2∧Ext w wb:=by
 obtain ⟨b0,b1,e0⟩:=ZfC (w:=w) (c0:=c0) (t0:=t0) (c1:=c1) (t1:=t1) rfl
 have e:((w.alloc (.cells c0 t0)).alloc (.cells c1 t1)).heap.size=w.heap.size + 1 + 1:=by simp
 obtain ⟨b2,e2⟩:=ZcQ h
 rw [e] at b2
 exact ⟨b0.ext e2,b1.ext e2,b2,e0.trans e2⟩
theorem Ztp {t0 t1 t2 t3:TypeId} {w wb:World} {c0 c1 c2 c3:Array Value} (h:(((w.alloc (.cells c0 t0)).alloc (.cells c1 t1)).alloc (.cells c2 t2)).alloc (.cells c3 t3)=wb):Blk t0 wb w.heap.size c0∧Blk t1 wb (w.heap.size + 1) c1∧Blk t2 wb (w.heap.size + 1 + 1) c2∧Blk t3 wb (w.heap.size + 1 + 1 + 1) c3∧Ext w wb:=by
 obtain ⟨b0,b1,b2,e0⟩:=Zla (w:=w) (c0:=c0) (t0:=t0) (c1:=c1) (t1:=t1) (c2:=c2) (t2:=t2) rfl
 have e:(((w.alloc (.cells c0 t0)).alloc (.cells c1 t1)).alloc (.cells c2 t2)).heap.size=w.heap.size + 1 + 1 + 1:=by simp
 obtain ⟨b3,e3⟩:=ZcQ h
 rw [e] at b3
 exact ⟨b0.ext e3,b1.ext e3,b2.ext e3,b3,e0.trans e3⟩
theorem Blk.two {t:TypeId} {w:World} {g:Nat} {cs:Array Value} {x y:Value} (h:Blk t w g cs) (o:Nat) (hx:cs[o]? = some x) (hy:cs[o + 1]? = some y):w.cell? ⟨g,o,none⟩=some x∧w.cell? ⟨g,o + 1,none⟩=some y :=
 ⟨(h.cell o).trans hx,(h.cell (o + 1)).trans hy⟩
theorem Blk.one' {t:TypeId} {w:World} {g:Nat} {cs:Array Value} {x:Value} (h:Blk t w g cs) (o:Nat) (hx:cs[o]? = some x):w.cell? ⟨g,o,none⟩=some x:=(h.cell o).trans hx
section
variable {ops:Array Oper} {S:World→Prop} {o:Oper} {a:Act} {p:Operand} {g off:Nat} {x y z u v:Value}
theorem ym (hw:Region.wanted o (yielded ops a.tmps)=true) (ho:o.op=Op.move p) (hp:a.eval p=v):YieldsIf Tryz.prog ops S o v a :=
 Or.inl ⟨hw,fun w _=>by simp only [execOp,ho,hp]; simp [go_sem]⟩
theorem ZlJ (hw:Region.wanted o (yielded ops a.tmps)=true) (ho:o.op=Op.load 32 p) (hp:a.eval p=.pointer (some ⟨g,off,none⟩)) (hc:∀ w,S w→w.cell? ⟨g,off,none⟩=some x∧w.cell? ⟨g,off + 1,none⟩=some y):YieldsIf Tryz.prog ops S o (.agg #[x,y]) a :=
 Or.inl ⟨hw,fun w hS=>by
  obtain ⟨h0,h1⟩:=hc w hS
  simp only [execOp,ho,hp]
  simp [go_sem,h0,h1]⟩
theorem Zlb (hw:Region.wanted o (yielded ops a.tmps)=true) (ho:o.op=Op.load 4 p) (hp:a.eval p=.pointer (some ⟨g,off,none⟩)) (hc:∀ w,S w→w.cell? ⟨g,off,none⟩=some x):YieldsIf Tryz.prog ops S o x a :=
 Or.inl ⟨hw,fun w hS=>by
  have h0:=hc w hS
  simp only [execOp,ho,hp]
  simp [go_sem,h0]⟩
theorem Zhc (hw:Region.wanted o (yielded ops a.tmps)=true) (ho:o.op=Op.fieldAddr 32 p 0) (hp:a.eval p=.pointer (some ⟨g,off,none⟩)):YieldsIf Tryz.prog ops S o (.pointer (some ⟨g,off,none⟩)) a :=
 Or.inl ⟨hw,fun w _=>by simp only [execOp,ho,hp]; simp [go_sem]⟩
theorem Zse {b c:Bool} {q:Operand} (hw:Region.wanted o (yielded ops a.tmps)=true) (ho:o.op=Op.binOp .neq 4 p q 4) (hp:a.eval p=.bool b) (hq:a.eval q=.bool c):YieldsIf Tryz.prog ops S o (.bool (b != c)) a :=
 Or.inl ⟨hw,fun w _=>by simp only [execOp,ho,hp,hq]; simp [go_sem]; cases b<;>cases c<;>rfl⟩
end
end Go.Proofs.YtklpdkpcocnglaaGreatDoor

namespace Go.Proofs.YtklpdkpcocnglaaGreatDoor
open Go.RowKit
end Go.Proofs.YtklpdkpcocnglaaGreatDoor

namespace Go.Proofs.YtklpdkpcocnglaaGreatDoor
open Go.RowKit
end Go.Proofs.YtklpdkpcocnglaaGreatDoor

namespace Go.Proofs.YtklpdkpcocnglaaGreatDoor
open Go.RowKit
section
variable {S:Nat→Prop} {w w' w0:World} {k:IntKind} {A:Option Addr} {xs:List Nat}
theorem Zae.nrb (hk:k≠.i64) (h:Zae k w A xs) (hS:∀ i,S i→NRB w i) (hF:Fr S w w'):Zae k w' A xs:=by
 cases xs with
 | nil=>exact Zae.nil
 | cons x xs =>
   refine h.fr hF (fun ad hA hlt hs=>?_)
   obtain ⟨g,off,e',_,hcl⟩:=h.at (i:=0) (by simp)
   rw [e'] at hA
   injection hA with hA
   subst hA
   obtain ⟨t,cs,hB,hc⟩:=hS _ hs
   rw [hB.cell] at hcl
   exact hk (hc _ _ _ hcl)
theorem Zal.nrb {u:Value} {n:Nat} (h:Zal w u n) (hS:∀ i,S i→NRB w i) (hF:Fr S w w'):Zal w' u n:=by
 obtain ⟨A',xs,c',h1,h2,h3,h4⟩:=h
 exact ⟨A',xs,c',h1,h2,h3.nrb (by decide) hS hF,h4⟩
theorem ZcS.nrb {v:Value} {z:Int} (h:ZcS w v z) (hS:∀ i,S i→NRB w i) (hF:Fr S w w'):ZcS w' v z:=by
 obtain ⟨s',u,n,h1,h2,h3⟩:=h
 exact ⟨s',u,n,h1,h2.nrb hS hF,h3⟩
theorem Zar.nrb {u:Value} {n:Nat} (h:Zar w u n) (hS:∀ i,S i→NRB w i) (hF:Fr S w w'):Zar w' u n:=by
 obtain ⟨A',xs,c',h1,h2,h3,h4⟩:=h
 exact ⟨A',xs,c',h1,h2,h3.nrb (by decide) hS hF,h4⟩
theorem Zai.nrb {v:Value} {z:Int} (h:Zai w v z) (hS:∀ i,S i→NRB w i) (hF:Fr S w w'):Zai w' v z:=by
 obtain ⟨s',u,n,h1,h2,h3⟩:=h
 exact ⟨s',u,n,h1,h2.nrb hS hF,h3⟩
theorem Zaw.nrb {v:Value} {q:Rat} (h:Zaw w v q) (hS:∀ i,S i→NRB w i) (hF:Fr S w w'):Zaw w' v q:=by
 obtain ⟨s,t,A,B,l,c,l',c',h1,h2,h3⟩:=h
 exact ⟨s,t,A,B,l,c,l',c',h1,h2.nrb hS hF,h3.nrb hS hF⟩
theorem NRB.ext {i:Nat} (h:NRB w i) (he:Ext w w'):NRB w' i:=by
 obtain ⟨t,cs,hB,hc⟩:=h
 exact ⟨t,cs,hB.ext he,hc⟩
theorem boxn {φ:World→Prop} (he:Ext w w') (h:∀ S w'',(∀ i,S i→NRB w' i)→Fr S w' w''→φ w''):BoxN w w' φ:=fun S hS w'' hf=>h S w'' (fun i hi=>(hS i hi).2.ext he) hf
end
abbrev ShI:=Bool × Option Addr × Nat × Nat
abbrev ShQ:=Bool × Option Addr × Nat × Nat × Bool × Option Addr × Nat × Nat
abbrev ShN:=Option Addr × Nat × Nat
def ZaE (x:ShI):Value:=.agg #[.bool x.1, .slice x.2.1 x.2.2.1 x.2.2.2]
def Zbf (x:ShQ):Value:=.agg #[.bool x.1, .slice x.2.1 x.2.2.1 x.2.2.2.1, .bool x.2.2.2.2.1, .slice x.2.2.2.2.2.1 x.2.2.2.2.2.2.1 x.2.2.2.2.2.2.2]
def Za7 (x:ShN):Value:=.slice x.1 x.2.1 x.2.2
section
variable {w w':World} {e:Ending}
theorem ZjD {z:Int} (h:Zkk w z e w'):Zbx ZaE (fun x w=>ZcS w (ZaE x) z) w e w':=by
 obtain ⟨v,rfl,hI,Q⟩:=h
 obtain ⟨s,A,l,c,rfl⟩:=hI.shp
 exact ⟨(s,A,l,c),rfl,Q,boxn Q (fun S w'' hS hF=>hI.nrb hS hF)⟩
theorem ZaH {z:Int} (h:Zba w z e w'):Zbx ZaE (fun x w=>Zai w (ZaE x) z) w e w':=by
 obtain ⟨v,rfl,hI,Q⟩:=h
 obtain ⟨s,A,l,c,rfl⟩:=hI.shp
 exact ⟨(s,A,l,c),rfl,Q,boxn Q (fun S w'' hS hF=>hI.nrb hS hF)⟩
theorem Za4 {q:Rat} (h:Zc5 w q e w'):Zbx Zbf (fun x w=>Zaw w (Zbf x) q) w e w':=by
 obtain ⟨v,rfl,hI,Q⟩:=h
 obtain ⟨s,A,l,c,t,B,m,d,rfl⟩:=hI.shp
 exact ⟨(s,A,l,c,t,B,m,d),rfl,Q,boxn Q (fun S w'' hS hF=>hI.nrb hS hF)⟩
def Zfl (x:ShI × ShI):Value:=.tuple #[ZaE x.1,ZaE x.2]
theorem Zad {v u:Value} (h:e=.returned v∧Ext w w') (hv:v=u):Zbx (fun _:Unit=>u) (fun _ _=>True) w e w':=by
 obtain ⟨rfl,Q⟩:=h
 subst hv
 exact ⟨(),rfl,Q,BoxN.pure trivial⟩
end
end Go.Proofs.YtklpdkpcocnglaaGreatDoor

namespace Go.Proofs.YtklpdkpcocnglaaGreatDoor
open Go.RowKit
section
variable {N:Nat} {S0:Nat→Prop} {w0:World} {s s':St} {Φ Ψ Φ0:World→Prop} {L:Nat→Nat} {a:Act} {w:World} {P:Program} {ops:Array Oper} {Q:Exit→Act→World→Prop} {o:Oper}
theorem ZaG.of {sl:SlL} {bl:BlL} (h:(sl.map (fun q=>s.sl q.1),bl.map (fun q=>s.bl q.1))=(sl.map (fun q=>some q.2),bl.map (fun q=>some q.2))):ZaG s sl bl:=h
def ZsX (N:Nat) (S0:Nat→Prop) (w0:World) (J:Nat→St→(World→Prop)→Prop) (n:Nat) (a:Act) (w:World):Prop:=∃ n' s' Φ' L',n' < n∧J n' s' Φ'∧Inv N S0 w0 s' Φ' L' a w
theorem ZbR {c:Code} (J:Nat→St→(World→Prop)→Prop) (n0:Nat) (h0:J n0 s Φ)
 (round:∀ n s Φ,J n s Φ→SXc P N S0 w0 (Exit.then (ZsX N S0 w0 J n) Q) c s Φ):SXc P N S0 w0 Q (.loop c) s Φ:=fun L a w hi=>by
 refine wp_loop_ghost (fun n a w=>∃ s Φ L,J n s Φ∧Inv N S0 w0 s Φ L a w) n0 ⟨s,Φ,L,h0,hi⟩ ?_
 rintro n a w ⟨s,Φ,L,hJ,hi⟩
 refine wp_mono (round n s Φ hJ L a w hi) ?_
 intro e a' w' hq
 cases e with
 | normal =>
   obtain ⟨n',s',Φ',L',h1,h2,h3⟩:=hq
   exact ⟨n',h1,s',Φ',L',h2,h3⟩
 | exit id=>exact hq
 | goto l=>exact hq
 | ret=>exact hq
 | panic ch=>exact hq
 | outgrown=>exact hq
theorem Zbc {J:Nat→St→(World→Prop)→Prop} {n:Nat} (n':Nat) (hlt:n' < n) (h:J n' s Φ):SXq N S0 w0 (Exit.then (ZsX N S0 w0 J n) Q .normal) s Φ:=fun _ _ _ hi=>⟨n',s,Φ,_,hlt,h,hi⟩
theorem Zh2 {x y:Code} (J:St→(World→Prop)→Prop) (h1:SXc P N S0 w0 (Exit.then (fun a w=>∃ s' Φ' L',J s' Φ'∧Inv N S0 w0 s' Φ' L' a w) Q) x s Φ) (h2:∀ s Φ,J s Φ→SXc P N S0 w0 Q y s Φ):SXc P N S0 w0 Q (.seq x y) s Φ:=fun L a w hi=>by
 refine wp_seq (wp_mono (h1 L a w hi) ?_)
 intro e a' w' hq
 cases e with
 | normal =>
   obtain ⟨s',Φ',L',h2',h3⟩:=hq
   exact h2 s' Φ' h2' L' a' w' h3
 | exit id=>exact hq
 | goto l=>exact hq
 | ret=>exact hq
 | panic ch=>exact hq
 | outgrown=>exact hq
theorem Zcp {J:St→(World→Prop)→Prop} (h:J s Φ):SXq N S0 w0 (Exit.then (fun a w=>∃ s' Φ' L',J s' Φ'∧Inv N S0 w0 s' Φ' L' a w) Q .normal) s Φ:=fun _ _ _ hi=>⟨s,Φ,_,h,hi⟩
theorem Ztq {n i:Nat} (d:Nat) {α:Type} [hα:Nonempty α] (sh:α→Value) (φ:α→World→Prop) (hi:Nat.blt i n=true) (hm:cls (opAt ops i).op=2)
 (hw:s.wantB ops (opAt ops i)=some true) (hn:Zcc (opAt ops i).op=true) (hv:(opAt ops i).op.operands.toList.all s.vB=true) (hd:(opAt ops i).dst=some d) (hN:Nat.blt d N=true)
 (hdo:∀ w,Fr S0 w0 w→Φ w→Does P (opAt ops i) s.rho w (DoR sh φ w)) (K:∀ x,StI P N S0 w0 ops Φ0 Q n (i + 1) (s.put d (.v (sh x))) (fun w=>Φ w∧φ x w)):StI P N S0 w0 ops Φ0 Q n i s Φ:=by
 have hi':i < n:=Nat.le_of_ble_eq_true hi
 unfold StI
 rw [show n - i=(n - (i + 1)) + 1 by omega,List.range'_succ]
 exact .does hα sh φ hm hw hn hv hd (Nat.le_of_ble_eq_true hN) hdo K
end
def Zc0 (w:World) (v:Value) (xs:List Nat):Prop:=∃ A c,v=.slice A xs.length c∧xs.length≤c∧Zae .u32 w A xs
theorem Zc0.nrb {S:Nat→Prop} {w w':World} {v:Value} {xs:List Nat} (h:Zc0 w v xs) (hS:∀ i,S i→NRB w i) (hF:Fr S w w'):Zc0 w' v xs:=by
 obtain ⟨A,c,h1,h2,h3⟩:=h
 exact ⟨A,c,h1,h2,h3.nrb (by decide) hS hF⟩
theorem Zc0.shows {w:World} {A:Option Addr} {l c:Nat} {xs:List Nat} (h:Zc0 w (.slice A l c) xs):xs.length=l∧xs.length≤c∧Zae .u32 w A xs:=by
 obtain ⟨A',c',h1,h2,h3⟩:=h
 injection h1 with e1 e2 e3
 subst e1; subst e3
 exact ⟨e2.symm,h2,h3⟩
theorem Zar.row {w:World} {v:Value} {n:Nat} (h:Zar w v n):∃ xs,Zc0 w v xs∧Dig W32 xs∧Trim xs∧val W32 xs=n:=by
 obtain ⟨A,xs,c,h1,h2,h3,h4⟩:=h
 exact ⟨xs,⟨A,c,h1,h2,h3⟩,h4⟩
theorem Zlc {P:Program} (w:World) (t ty e:TypeId) (k:IntKind) (bytes:Nat) (ht:P.underlying t=some (.slice e))
 (hinfo:(P.info? e).map (fun i=>(i.zero,i.size,i.bytes))=some (some (.int k 0),1,bytes)) (b a:Addr) (n m cap c:Nat) (xs news:List Nat) (hn:xs.length=n) (hm:news.length=m)
 (hB:Zae k w (some b) xs) (hX:Zae k w (some a) news) (hg:cap < n + m) (h63:n + m≤maxLen) (hbytes:(n + m) * bytes≤140737488355328) :
 ∃ g cap' w',(Builtin.append_ #[t,t] ty #[.slice (some b) n cap, .slice (some a) m c]).run P w=.ok (.slice (some ⟨g,0,none⟩) (n + m) cap') w'∧n + m≤cap'∧Own k e w' g (xs ++ news)∧Ext w w':=by
 obtain ⟨i,hi,hz,hs,hby⟩:=info_parts hinfo
 have cells:∀ (zs:List Nat) (d:Addr),Zae k w (some d) zs→∀ j u,(zs.map fun x:Nat=>Value.int k (x:Int))[j]? = some u→w.cell? (d.add j)=some u:=by
  intro zs d hZ j u hu
  rw [List.getElem?_map] at hu
  obtain ⟨x,hx,rfl⟩:=Option.map_eq_some_iff.1 hu
  have hj:j < zs.length:=(List.getElem?_eq_some_iff.1 hx).1
  obtain ⟨b',off,h,_,hc⟩:=hZ.at hj
  injection h with h
  subst h
  rw [hx] at hc
  by_cases e0:j=0
  ·subst e0; simpa [Addr.add] using hc
  ·simpa [Addr.add,e0] using hc
 have hr:=run_append_grow (P:=P) (w:=w) t ty e i (.int k 0) ht hi hz b n cap (xs.map fun x:Nat=>Value.int k (x:Int)) (by rw [hs]; simp [hn]) (cells _ _ hB) a m c (news.map fun x:Nat=>Value.int k (x:Int)) (by rw [hs]; simp [hm]) (cells _ _ hX) hg (by simp only [maxLen] at h63; omega) (growslice_fits (by omega) (by rw [hby]; exact hbytes))
 refine ⟨_,_,_,hr,?_,?_,((Fr.refl _ _).drew).alloc _⟩
 ·exact grownCap_ge _ _ _ _
 ·refine ⟨(Builtin.zeroCells (Value.int k 0).cells (grownCap w (n + m) cap e - (n + m))).toList,fun v hv=>?_,?_⟩
  ·rw [Array.mem_toList_iff] at hv
   simp only [Builtin.zeroCells] at hv
   obtain ⟨j,_,rfl⟩:=Array.mem_map.1 hv
   exact ⟨0,by simp [Value.cells,Nat.mod_one]⟩
  ·rw [show w.heap.size=w.drew.heap.size from rfl,heap_alloc_new]
   simp [cellsOf]
theorem Own.row {e:TypeId} {w:World} {g c:Nat} {xs:List Nat} (h:Own .u32 e w g xs) (hc:xs.length≤c):Zc0 w (.slice (some ⟨g,0,none⟩) xs.length c) xs:=⟨_,c,rfl,hc,h.shows0⟩
theorem Zmm {P:Program} {o:Oper} {ρ:Operand→Value} {w:World} {x y:Operand} {t e:TypeId} (ho:o.op=.call { callee:=.builtin .append,args:=#[x,y],argTypes:=#[t,t] }) (ht:P.underlying t=some (.slice e))
 (hinfo:(P.info? e).map (fun i=>(i.zero,i.size,i.bytes))=some (some (.int .u32 0),1,4)) {b:Addr} {A:Option Addr} {n m cap c:Nat} (hx:ρ x=.slice (some b) n cap) (hy:ρ y=.slice A m c) {xs news:List Nat}
 (hB:Zc0 w (.slice (some b) n cap) xs) (hX:Zc0 w (.slice A m c) news) (hg:cap < n + m) (h:n + m≤35184372088832):Does P o ρ w (DoR Za7 (fun z w=>Zc0 w (Za7 z) (xs ++ news)) w):=by
 obtain ⟨b1,b2,b3⟩:=hB.shows
 obtain ⟨x1,x2,x3⟩:=hX.shows
 obtain ⟨a,rfl⟩:∃ a,A=some a:=by
  cases news with
  | nil=>simp at x1; omega
  | cons z zs=>obtain ⟨g,off,e,_⟩:=x3.at (i:=0) (by simp); exact ⟨_,e⟩
 obtain ⟨g,cap',w',hr,h1,h2,h3⟩:=Zlc (P:=P) w t o.type e .u32 4 ht hinfo b a n m cap c xs news b1 x1 b3 x3 hg (by simp only [maxLen]; omega) (by omega)
 refine Or.inl ⟨.slice (some ⟨g,0,none⟩) (n + m) cap',w',?_,(some ⟨g,0,none⟩,n + m,cap'),rfl,h3,boxn h3 (fun S w'' hS hF=>?_)⟩
 ·simp only [execOp,ho,resolve,invoke,builtin,Sem.run_bind,Sem.run_pure,Result.andThen_ok,List.map_toArray,List.map_cons,List.map_nil,hx,hy,hr]
 ·have:=(h2.row (c:=cap') (by simp; omega)).nrb hS hF
  simpa [Za7,b1,x1] using this
theorem Zoo {P:Program} {o:Oper} {ρ:Operand→Value} {w:World} {l c:Operand} {t e:TypeId} (ho:o.op=Op.makeSlice t l c) (ht:P.underlying t=some (.slice e))
 (hinfo:(P.info? e).map (fun i=>(i.zero,i.size,i.bytes))=some (some (.int .u32 0),1,4)) {kl kc:IntKind} {n:Nat} (hl:ρ l=.int kl n) (hc:ρ c=.int kc n) (h:n≤35184372088832) :
 Does P o ρ w (DoR (fun b:Nat=>.slice (some ⟨b,0,none⟩) n n) (fun b w=>Zc0 w (.slice (some ⟨b,0,none⟩) n n) (List.replicate n 0)) w):=by
 have hrun:=run_make_row' (P:=P) t e (.int .u32 0) 4 ht hinfo rfl kl kc n (by omega) (by omega) w
 rw [ZeN] at hrun
 have Q:Ext w (w.alloc (.cells (cellsOf .u32 (List.replicate n 0) []) e)):=(Fr.refl _ w).alloc _
 refine Or.inl ⟨.slice (some ⟨w.heap.size,0,none⟩) n n,_,by simp [execOp,ho,hl,hc,hrun,Result.andThen],w.heap.size,rfl,Q,boxn Q (fun S w'' hS hF=>?_)⟩
 have:=((Own.new w e .u32 (List.replicate n 0) []).row (c:=n) (by simp)).nrb hS hF
 simpa using this
end Go.Proofs.YtklpdkpcocnglaaGreatDoor

namespace Go.Proofs.YtklpdkpcocnglaaGreatDoor
open Go.RowKit
theorem ZbC (x:Int):(x == x)=true:=by simp
theorem ZpX {P:Program} {ρ:Operand→Value} {w:World} {t e:TypeId} {n sz:Nat} {z:Value} {parts:Array (Nat × Operand)} {cells:Array Value} (ht:P.underlying t=some (.slice e))
 (hinfo:(P.info? e).map (fun i=>(i.zero,i.size))=some (some z,sz)) (hn:Nat.ble (n * sz) 1000=true) (hn0:Nat.beq (n * sz) 0=false)
 (hf:Instr.fill (fun i=>some (i * sz,sz)) ((List.range (n * sz)).map (fun i=>z.cells[i % z.cells.size]!)).toArray (parts.toList.map fun q=>(q.1,ρ q.2))=some cells) :
 (Instr.buildSlice t n (parts.map fun q:Nat × Operand=>(q.1,ρ q.2))).run P w=.ok (.slice (some ⟨w.heap.size,0,none⟩) n n) (w.alloc (.cells cells e)):=by
 obtain ⟨i,hi,h1⟩:=Option.map_eq_some_iff.1 hinfo
 injection h1 with h1 h2
 have hn':=Nat.le_of_ble_eq_true hn
 have hn1:¬ n * sz=0:=fun h=>by rw [h] at hn0; cases hn0
 have hn2:¬ 2 ^ 24 < n * sz:=by omega
 have e1:(Array.range (n * sz)).map (fun i=>z.cells[i % z.cells.size]!)=((List.range (n * sz)).map (fun i=>z.cells[i % z.cells.size]!)).toArray:=by
  apply Array.ext'; simp
 have e2:(parts.map fun q:Nat × Operand=>(q.1,ρ q.2)).toList=parts.toList.map fun q=>(q.1,ρ q.2):=by simp
 unfold Instr.buildSlice
 simp [underlying,ht,sizeOf,typeInfo,hi,h2,zeroValue,h1,hn1,hn2,e1,hf,newRow,newObj,Result.andThen]
 rfl
theorem Zdy {P:Program} {o:Oper} {ρ:Operand→Value} {w:World} {t e:TypeId} {n sz:Nat} {z:Value} {parts:Array (Nat × Operand)} {cells:Array Value} (ho:o.op=Op.buildSlice t n parts) (ht:P.underlying t=some (.slice e))
 (hinfo:(P.info? e).map (fun i=>(i.zero,i.size))=some (some z,sz)) (hn:Nat.ble (n * sz) 1000=true) (hn0:Nat.beq (n * sz) 0=false)
 (hf:Instr.fill (fun i=>some (i * sz,sz)) ((List.range (n * sz)).map (fun i=>z.cells[i % z.cells.size]!)).toArray (parts.toList.map fun q=>(q.1,ρ q.2))=some cells) :
 Does P o ρ w (DoR (fun b:Nat=>.slice (some ⟨b,0,none⟩) n n) (fun b w=>Blk e w b cells) w):=by
 have hrun:=ZpX (w:=w) ht hinfo hn hn0 hf
 exact Or.inl ⟨_,_,by simp [execOp,ho,hrun,Result.andThen],w.heap.size,rfl,(Fr.refl _ w).alloc _,fun S hS w'' hF=>(Blk.new w e cells).fr hF (fun h=>by have:=(hS _ h).1; omega)⟩
theorem ZcK {P:Program} {o:Oper} {ρ:Operand→Value} {w:World} {t:TypeId} {x:Operand} {lo hi:Option Operand} {b r:ByteArray} (l h:Nat) (ho:o.op=Op.slice t x lo hi none) (ht:P.underlying t=some .string) (hx:ρ x=.string b)
 (hl:lo.map ρ=none∧l=0∨lo.map ρ=some (.int .i64 l)) (hh:hi.map ρ=none∧h=b.size∨hi.map ρ=some (.int .i64 h)) (h1:l≤h) (h2:h≤b.size) (hr:b.extract l h=r):(execOp ρ o).run P w=.ok (.value (.string r)) w:=by
 subst hr
 rcases hl with ⟨hl,rfl⟩ | hl<;>rcases hh with ⟨hh,rfl⟩ | hh <;>
  simp [execOp,ho,Instr.sliceAt,Instr.slice,Instr.sliceBounds,Instr.sliceBound,asIntOf,underlying,ht,hx,hl,hh,h1,h2,Result.andThen]
theorem ZpY {P:Program} {o:Oper} {ρ:Operand→Value} {w:World} {t k:TypeId} {x y:Operand} {a b r:ByteArray} (ho:o.op=Op.binOp .add t x y k) (hx:ρ x=.string a) (hy:ρ y=.string b) (hs:a.size + b.size≤1099511627776) (hr:a ++ b=r):(execOp ρ o).run P w=.ok (.value (.string r)) w:=by
 have h:¬ ((a.size + b.size:Nat):Int) > IntKind.i64.max:=by
  have:IntKind.i64.max=9223372036854775807:=by decide
  rw [this]; omega
 simp only [execOp,ho,hx,hy,eqGuard,binOp,Op.stringOp,if_neg h,hr]
 rfl
end Go.Proofs.YtklpdkpcocnglaaGreatDoor

namespace Go.Proofs.YtklpdkpcocnglaaGreatDoor
open Go.RowKit
open Classical in
theorem Fr.split {A B:Nat→Prop} {w w2:World} (h:Fr (fun i=>A i∨B i) w w2):∃ w1,Fr A w w1∧Fr B w1 w2:=by
 have hg:∀ i,i < w2.heap.size→(w2.heap.mapIdx fun i o=>if A i∨w.heap.size≤i then o else (w.heap[i]?).getD o)[i]? = if A i∨w.heap.size≤i then w2.heap[i]? else w.heap[i]? := by
  intro i hi
  rw [Array.getElem?_mapIdx,Array.getElem?_eq_getElem hi]
  by_cases hc:A i∨w.heap.size≤i
  ·simp [hc]
  ·have hlt:i < w.heap.size:=by
    rcases Nat.lt_or_ge i w.heap.size with h' | h'
    ·exact h'
    ·exact absurd (Or.inr h') hc
   simp only [hc,Option.map_some,if_false,Array.getElem?_eq_getElem hlt,Option.getD_some]
 refine ⟨{ w2 with heap:=w2.heap.mapIdx fun i o=>if A i∨w.heap.size≤i then o else (w.heap[i]?).getD o },⟨h.os,h.tape,h.output,?_,fun i hi ha=>?_⟩,⟨rfl,rfl,rfl,?_,fun i hi hb=>?_⟩⟩
 ·simpa using h.size
 ·have h2:=hg i (Nat.lt_of_lt_of_le hi h.size)
  rw [if_neg (fun hc=>hc.elim ha (fun h'=>by omega))] at h2
  exact h2
 ·simp
 ·have hi2:i < w2.heap.size:=by simpa using hi
  have h2:=hg i hi2
  by_cases hc:A i∨w.heap.size≤i
  ·rw [if_pos hc] at h2; exact h2.symm
  ·rw [if_neg hc] at h2
   have hlt:i < w.heap.size:=by
    rcases Nat.lt_or_ge i w.heap.size with h' | h'
    ·exact h'
    ·exact absurd (Or.inr h') hc
   exact (h.block i hlt (fun h'=>h'.elim (fun ha=>hc (Or.inl ha)) hb)).trans h2.symm
theorem bl2 (b:Bool):b=true∨b=false:=by cases b<;>simp
theorem Own.same {k:IntKind} {t:TypeId} {w w':World} {b:Nat} {xs:List Nat} (h:Own k t w b xs) (e:w'.heap[b]? = w.heap[b]?):Own k t w' b xs:=by
 obtain ⟨tail,h1,h2⟩:=h
 exact ⟨tail,h1,e.trans h2⟩
section
variable {N:Nat} {S0:Nat→Prop} {w0:World} {s:St} {Φ Ψ:World→Prop} {L:Nat→Nat} {a:Act} {w:World} {P:Program} {ops:Array Oper} {Q:Exit→Act→World→Prop}
theorem Inv.notOwn (h:Inv N S0 w0 s Φ L a w) {r j:Nat} {c:Value} (hc:∀ w,Φ w→w.cell? ⟨r,j,none⟩=some c):¬ s.own L r:=fun ho=>by
 have h1:=hc w h.box.self
 have key:∀ u:Value,u≠c→False:=fun u hu=>by
  have h2:=hc (w.setCell ⟨r,j,none⟩ u) (h.box _ ((Fr.refl _ _).setCell (p:=⟨r,j,none⟩) (Or.inl ho) u))
  rw [World.cell?_setCell_same _ _ _ h1] at h2
  injection h2 with h2
  exact hu h2
 by_cases e:c=.bool true
 ·exact key (.bool false) (by rw [e]; intro h; cases h)
 ·exact key (.bool true) (fun h=>e h.symm)
theorem Inv.eff (h:Inv N S0 w0 s Φ L a w) {w':World} {r:Nat} (hF:Fr (fun i=>i=r) w w') (hr:¬ s.own L r) (hnew:w0.heap.size≤r∨S0 r) (hlt:r < w.heap.size)
 (hΨ:∀ w1 w2,Φ w1→Fr (fun i=>i=r) w1 w2→w2.heap[r]? = w'.heap[r]? → Ψ w2):Inv N S0 w0 s Ψ L a w':=by
 refine ⟨h.size,h.df,h.sl,⟨fun b t cs e=>(h.mem.blk b t cs e).fr hF (fun e'=>hr ⟨b,by rw [e]; rfl,e'⟩),h.mem.inj,h.mem.old,h.mem.ext.next hF (fun i hi e=>?_),h.mem.slp,h.mem.cel⟩,fun w2 hf=>?_⟩
 ·rcases hnew with h' | h'
  ·omega
  ·rw [e]; exact h'
 ·have h2:Fr (fun i=>s.own L i∨i=r) w w2:=(hF.mono (fun i _ e=>Or.inr e)).trans (hf.mono (fun i _ e=>Or.inl e))
  obtain ⟨w1,k1,k2⟩:=h2.split
  exact hΨ w1 w2 (h.box w1 k1) k2 (hf.block r (Nat.lt_of_lt_of_le hlt hF.size) hr)
theorem ZpZ {α:Type} (l:List α) (j:Nat) (c:α) (h:j < l.length):Zch l j [c]=l.set j c:=by
 unfold Zch
 rw [List.set_eq_take_append_cons_drop,if_pos h]
 simp
theorem Zna {t e:TypeId} {k:IntKind} {b j:Nat} {xs:List Nat} (hs:(teOf P t).map (fun e=>e.size)=some 1) (hO:Own k e w b xs) (hj:j < xs.length) (v:Nat) :
 ∃ w',(Instr.storeAt t (.pointer (some ⟨b,j,none⟩)) (.int k (v:Int))).run P w=.ok () w'∧Own k e w' b (xs.set j v)∧Fr (fun i=>i=b) w w':=by
 obtain ⟨te,hte,h1⟩:=Option.map_eq_some_iff.1 hs
 obtain ⟨tail,ht,hO⟩:=hO
 obtain ⟨w',hr,hB,hF⟩:=Zjd (P:=P) hte (g:=b) (bt:=e) (off:=j) (cur:=(xs.map fun x:Nat=>Value.int k (x:Int)) ++ tail) (v:=.int k (v:Int)) hO (by rw [h1]; rfl) (by simp [Value.cells]; omega) (fun c hc=>by simp [Value.cells] at hc; rw [hc]; rfl)
 refine ⟨w',hr,⟨tail,ht,?_⟩,hF⟩
 have e2:Zch ((xs.map fun x:Nat=>Value.int k (x:Int)) ++ tail) j (Value.cells (.int k (v:Int))).toList=((xs.set j v).map fun x:Nat=>Value.int k (x:Int)) ++ tail:=by
  rw [show (Value.cells (.int k (v:Int))).toList=[.int k (v:Int)] from rfl,ZpZ _ _ _ (by simp; omega),List.set_append_left _ _ (by simpa using hj),List.map_set]
 rw [e2] at hB
 exact hB
theorem ZcL {i:Nat} {t e:TypeId} {k:IntKind} {x y:Operand} {xs:List Nat} (b j v:Nat) (Ψ:World→Prop) (hO:∀ w,Φ w→Own k e w b xs) (hj:j < xs.length) (hnew:w0.heap.size≤b∨S0 b)
 (hΨ:∀ w w',Φ w→Fr (fun i=>i=b) w w'→Own k e w' b (xs.set j v)→Ψ w') (K:SXi P N S0 w0 ops Q (i + 1) s Ψ)
 (hsz:Nat.blt i ops.size=true:=by kernel_rfl) (hw:s.wantB ops (opAt ops i)=some true:=by kernel_rfl) (ho:(opAt ops i).op=.store t x y:=by kernel_rfl) (hd:(opAt ops i).dst=none:=by kernel_rfl) (hs:(teOf P t).map (fun e=>e.size)=some 1:=by kernel_rfl)
 (hx:s.eval x=some (.v (.pointer (some ⟨b,j,none⟩))):=by kernel_rfl) (hy:s.eval y=some (.v (.int k (v:Int))):=by kernel_rfl):SXi P N S0 w0 ops Q i s Φ:=by
 unfold SXi
 rw [Zc8 hsz]
 intro L a w hi
 refine wpList_step (fun K' hK=>?_)
 rw [if_pos (hi.want hw)]
 have hO1:=hO w hi.box.self
 obtain ⟨w',hr,hO2,hF⟩:=Zna (P:=P) hs hO1 hj v
 unfold Oper.wp
 have ex:=hi.eval hx
 have ey:=hi.eval hy
 have hrun:(execOp a.eval (opAt ops i)).run P w=.ok .skip w':=by simp only [execOp,ho,Sem.run_bind,ex,ey,AV.conc,hr,Result.andThen_ok,Sem.run_pure]
 rw [hrun,Oper.upon_skip,hd]
 refine hK _ _ (K L _ _ (hi.eff hF (hi.notOwn (fun w R=>(hO w R).cell hj)) hnew hO1.lt (fun w1 w2 h1 h2 h3=>hΨ w1 w2 h1 h2 (hO2.same h3))))
theorem Zhd {i d:Nat} {e:TypeId} {k:IntKind} {xs:List Nat} {α:Type} (f:FuncId) (args:List Value) (sh:α→Value) (p:α→Prop) (zs:α→List Nat) (b:Nat) (Ψ:α→World→Prop) (hO:∀ w,Φ w→Own k e w b xs) (hj:0 < xs.length) (hnew:w0.heap.size≤b∨S0 b)
 (hC:∀ w,Fr S0 w0 w→Φ w→Calls P f args.toArray w (fun en w'=>∃ x,en=.returned (sh x)∧p x∧Fr (fun i=>i=b) w w'∧Own k e w' b (zs x)))
 (hΨ:∀ x w w',p x→Φ w→Fr (fun i=>i=b) w w'→Own k e w' b (zs x)→Ψ x w') (K:∀ x,p x→SXi P N S0 w0 ops Q (i + 1) (s.put d (.v (sh x))) (Ψ x))
 (hsz:Nat.blt i ops.size=true:=by kernel_rfl) (h:Zc3 P N ops (opAt ops i) s=some (f,args,d):=by kernel_rfl):SXi P N S0 w0 ops Q i s Φ:=by
 obtain ⟨hw,hq,hd,hn,hv,hk,hN⟩:=ZdQ h
 unfold SXi
 rw [Zc8 hsz]
 intro L a w hi
 refine wpList_step (fun K' hK=>?_)
 rw [if_pos (hi.want hw)]
 unfold Oper.wp
 rw [hi.exec hn hv,Zgg hq hk,Oper.upon_enter]
 refine Calls.mono (hC w hi.mem.ext hi.box.self) fun en w' h'=>?_
 obtain ⟨x,rfl,hp,hF,hO2⟩:=h'
 simp only [hd]
 have h0:=hi.app0 (d:=d) hN (al_v (s:=s) (sh x))
 exact hK _ _ (K x hp L _ _ (h0.eff hF (hi.notOwn (fun w R=>(hO w R).cell hj)) hnew (hO w hi.box.self).lt (fun w1 w2 h1 h2 h3=>hΨ x w1 w2 hp h1 h2 (hO2.same h3))))
theorem ZiL {i d:Nat} {t e:TypeId} {k kl kc:IntKind} {l c:Operand} (n bytes:Nat) (hn:n≤35184372088832) (hby:bytes≤8)
 (K:∀ b,w0.heap.size≤b→(∀ r,(∀ w,Φ w→r < w.heap.size)→r < b)→SXi P N S0 w0 ops Q (i + 1) (s.put d (.v (.slice (some ⟨b,0,none⟩) n n))) (fun w=>Box (fun j=>b≤j) w Φ∧Own k e w b (List.replicate n 0)))
 (hsz:Nat.blt i ops.size=true:=by kernel_rfl) (hw:s.wantB ops (opAt ops i)=some true:=by kernel_rfl) (hv:(opAt ops i).op.operands.toList.all s.vB=true:=by kernel_rfl) (ho:(opAt ops i).op=Op.makeSlice t l c:=by kernel_rfl) (hd:(opAt ops i).dst=some d:=by kernel_rfl) (hN:Nat.blt d N=true:=by kernel_rfl)
 (ht:P.underlying t=some (.slice e):=by kernel_rfl) (hinfo:(P.info? e).map (fun i=>(i.zero,i.size,i.bytes))=some (some (.int k 0),1,bytes):=by kernel_rfl) (hl:s.rho l=.int kl n:=by kernel_rfl) (hc:s.rho c=.int kc n:=by kernel_rfl):SXi P N S0 w0 ops Q i s Φ:=by
 unfold SXi
 rw [Zc8 hsz]
 intro L a w hi
 refine wpList_step (fun K' hK=>?_)
 rw [if_pos (hi.want hw)]
 unfold Oper.wp
 have hns:Zcc (opAt ops i).op=true:=by rw [ho]; rfl
 have hbn:bytes * n≤8 * n:=Nat.mul_le_mul_right n hby
 rw [hi.exec hns hv]
 have hrun:=run_make_row' (P:=P) t e (.int k 0) bytes ht hinfo rfl kl kc n (by omega) (by omega) w
 rw [ZeN] at hrun
 have hrun2:(execOp s.rho (opAt ops i)).run P w=.ok (.value (.slice (some ⟨w.heap.size,0,none⟩) n n)) (w.alloc (.cells (cellsOf k (List.replicate n 0) []) e)):=by simp [execOp,ho,hl,hc,hrun,Result.andThen]
 rw [hrun2,Oper.upon_value,hd]
 have R:Ext w (w.alloc (.cells (cellsOf k (List.replicate n 0) []) e)):=(Fr.refl _ w).alloc _
 have h0:=hi.app0 (d:=d) (Nat.le_of_ble_eq_true hN) (al_v (s:=s) (.slice (some ⟨w.heap.size,0,none⟩) n n))
 have hO:=Own.new w e k (List.replicate n 0) []
 refine hK _ _ (K w.heap.size hi.mem.ext.size (fun r h=>h w hi.box.self) L _ _ ⟨h0.size,h0.df,h0.sl,⟨fun b t cs e=>(h0.mem.blk b t cs e).ext R,h0.mem.inj,h0.mem.old,h0.mem.ext.ext R,h0.mem.slp,h0.mem.cel⟩,fun w2 hf=>⟨fun w3 hf3=>?_,?_⟩⟩)
 ·refine hi.box w3 ⟨hf3.os.trans (hf.os.trans R.os),hf3.tape.trans (hf.tape.trans R.tape),hf3.output.trans (hf.output.trans R.output),Nat.le_trans R.size (Nat.le_trans hf.size hf3.size),fun j hj hno=>?_⟩
  have h1:=R.block j hj (fun f=>f)
  have h2:=hf.block j (Nat.lt_of_lt_of_le hj R.size) hno
  have h3:=hf3.block j (Nat.lt_of_lt_of_le hj (Nat.le_trans R.size hf.size)) (by omega)
  exact h3.trans (h2.trans h1)
 ·refine hO.fr hf (fun ho=>?_)
  obtain ⟨b,hb,eb⟩:=ho
  obtain ⟨q,eq⟩:=Option.isSome_iff_exists.1 hb
  have:=(hi.mem.blk b q.1 q.2 eq).lt
  omega
theorem SXi.know {i:Nat} {p:Prop} (h:∀ w,Fr S0 w0 w→Φ w→p) (K:p→SXi P N S0 w0 ops Q i s Φ):SXi P N S0 w0 ops Q i s Φ:=fun L a w hi=>K (h w hi.mem.ext hi.box.self) L a w hi
theorem Zsf {i d:Nat} {e:TypeId} {k:IntKind} (f:FuncId) (args:List Value) (xs:List Nat) (hC:∀ w,Fr S0 w0 w→Φ w→Calls P f args.toArray w (fun en w'=>∃ b c,en=.returned (.slice (some ⟨b,0,none⟩) xs.length c)∧w.heap.size≤b∧xs.length≤c∧Ext w w'∧Own k e w' b xs))
 (K:∀ b c,w0.heap.size≤b→xs.length≤c→(∀ r,(∀ w,Φ w→r < w.heap.size)→r < b)→SXi P N S0 w0 ops Q (i + 1) (s.put d (.v (.slice (some ⟨b,0,none⟩) xs.length c))) (fun w=>Box (fun j=>b≤j) w Φ∧Own k e w b xs))
 (hsz:Nat.blt i ops.size=true:=by kernel_rfl) (h:Zc3 P N ops (opAt ops i) s=some (f,args,d):=by kernel_rfl):SXi P N S0 w0 ops Q i s Φ:=by
 obtain ⟨hw,hq,hd,hn,hv,hk,hN⟩:=ZdQ h
 unfold SXi
 rw [Zc8 hsz]
 intro L a w hi
 refine wpList_step (fun K' hK=>?_)
 rw [if_pos (hi.want hw)]
 unfold Oper.wp
 rw [hi.exec hn hv,Zgg hq hk,Oper.upon_enter]
 refine Calls.mono (hC w hi.mem.ext hi.box.self) fun en w' h'=>?_
 obtain ⟨b,c,rfl,hb,hc,R,hO⟩:=h'
 simp only [hd]
 have h0:=hi.app0 (d:=d) hN (al_v (s:=s) (.slice (some ⟨b,0,none⟩) xs.length c))
 refine hK _ _ (K b c (Nat.le_trans hi.mem.ext.size hb) hc (fun r h=>Nat.lt_of_lt_of_le (h w hi.box.self) hb) L _ _ ⟨h0.size,h0.df,h0.sl,⟨fun b t cs e=>(h0.mem.blk b t cs e).ext R,h0.mem.inj,h0.mem.old,h0.mem.ext.ext R,h0.mem.slp,h0.mem.cel⟩,fun w2 hf=>⟨fun w3 hf3=>?_,?_⟩⟩)
 ·refine hi.box w3 ⟨hf3.os.trans (hf.os.trans R.os),hf3.tape.trans (hf.tape.trans R.tape),hf3.output.trans (hf.output.trans R.output),Nat.le_trans R.size (Nat.le_trans hf.size hf3.size),fun j hj hno=>?_⟩
  have h1:=R.block j hj (fun f=>f)
  have h2:=hf.block j (Nat.lt_of_lt_of_le hj R.size) hno
  have h3:=hf3.block j (Nat.lt_of_lt_of_le hj (Nat.le_trans R.size hf.size)) (by omega)
  exact h3.trans (h2.trans h1)
 ·refine hO.fr hf (fun ho=>?_)
  obtain ⟨b',hb',eb⟩:=ho
  obtain ⟨q,eq⟩:=Option.isSome_iff_exists.1 hb'
  have:=(hi.mem.blk b' q.1 q.2 eq).lt
  omega
theorem Ztr {i d:Nat} {dT sT e:TypeId} {k:IntKind} {dx sx:Operand} {sp:Option Addr} {n m dc sc:Nat} {mid ys:List Nat} (b:Nat) (Ψ:World→Prop) (hn:mid.length=n) (hm:ys.length=m) (hpos:0 < mid.length) (hO:∀ w,Φ w→Own k e w b mid) (hY:∀ w,Φ w→Zae k w sp ys) (hnew:w0.heap.size≤b∨S0 b)
 (hΨ:∀ w w',Φ w→Fr (fun i=>i=b) w w'→Own k e w' b (ys.take mid.length ++ mid.drop ys.length)→Ψ w') (K:SXi P N S0 w0 ops Q (i + 1) s Ψ)
 (hsz:Nat.blt i ops.size=true:=by kernel_rfl) (hg:(opAt ops i).guard=none:=by kernel_rfl) (ho:(opAt ops i).op=.call { callee:=.builtin .copy,args:=#[dx,sx],argTypes:=#[dT,sT] }:=by kernel_rfl) (hd:(opAt ops i).dst=some d:=by kernel_rfl) (hf:(s.sl d).isNone=true:=by kernel_rfl)
 (hu:P.underlying dT=some (.slice e):=by kernel_rfl) (hs:(P.info? e).map (·.size)=some 1:=by kernel_rfl) (hx:s.eval dx=some (.v (.slice (some ⟨b,0,none⟩) n dc)):=by kernel_rfl) (hy:s.eval sx=some (.v (.slice sp m sc)):=by kernel_rfl):SXi P N S0 w0 ops Q i s Φ:=by
 unfold SXi
 rw [Zc8 hsz]
 intro L a w hi
 have ex:=hi.eval hx
 have ey:=hi.eval hy
 have hO1:=hO w hi.box.self
 refine Zfr hg dx sx dT sT ho e k hu hs (some ⟨b,0,none⟩) sp n m dc sc ex ey b [] mid [] ys hn hm (by simpa using hO1) (hY w hi.box.self) (fun _=>rfl) ?_
 intro w' z hO2 _ hF _
 have hO3:Own k e w' b (ys.take mid.length ++ mid.drop ys.length):=by simpa using hO2
 have h1:=hi.eff hF (hi.notOwn (fun w R=>(hO w R).cell hpos)) hnew hO1.lt (fun w1 w2 h1 h2 h3=>hΨ w1 w2 h1 h2 (hO3.same h3))
 have hsl:s.sl d=none:=by simpa using hf
 refine K L _ _ ⟨by rw [hd]; simp [Act.put,h1.size],by rw [hd]; exact h1.df,fun j x hj=>?_,h1.mem,h1.box⟩
 have hne:d≠j:=fun e=>by rw [e,hj] at hsl; cases hsl
 have:=h1.sl j x hj
 rw [hd]
 simp [Act.put,Array.getElem?_setIfInBounds_ne hne,this]
theorem xj {Φ0:World→Prop} {n i:Nat} (d:Nat) (y:Value) (hx:∀ w,Φ0 w→(execOp s.rho (opAt ops i)).run P w=.ok (.value y) w) (K:StI P N S0 w0 ops Φ0 Q n (i + 1) (s.put d (.v y)) Φ)
 (hi:Nat.blt i n=true:=by kernel_rfl) (hk:ZhS (opAt ops i).op=true:=by kernel_rfl) (hw:s.wantB ops (opAt ops i)=some true:=by kernel_rfl) (hv:(opAt ops i).op.operands.toList.all s.vB=true:=by kernel_rfl) (hd:(opAt ops i).dst=some d:=by kernel_rfl) (hN:Nat.blt d N=true:=by kernel_rfl):StI P N S0 w0 ops Φ0 Q n i s Φ :=
 ZiH d y hi hk hw hv hd hN hx K
end
def atA (A:Option Addr) (i:Nat):Value:=.pointer (A.map (·.add i))
section
variable {P:Program} {o:Oper} {ρ:Operand→Value} {w:World} {t e:TypeId} {x ix:Operand} {k:IntKind} {xs:List Nat}
theorem Za1 {A:Option Addr} {len cap i:Nat} (hA:A≠none) (h:i < len) (ho:o.op=Op.indexAddr t x ix:=by kernel_rfl) (ht:P.underlying t=some (.slice e):=by kernel_rfl) (hs:(P.info? e).map (fun i=>i.size)=some 1:=by kernel_rfl)
 (hx:ρ x=.slice A len cap:=by kernel_rfl) (hi:ρ ix=.int .i64 ((i:Nat):Int):=by kernel_rfl):(execOp ρ o).run P w=.ok (.value (atA A i)) w:=by
 obtain ⟨inf,hinf,h1⟩:=Option.map_eq_some_iff.1 hs
 obtain ⟨a,rfl⟩:∃ a,A=some a:=by cases A; exact absurd rfl hA; exact ⟨_,rfl⟩
 have h2:(0:Int)≤(i:Int)∧(i:Int) < (len:Int):=by omega
 simp [execOp,ho,Instr.indexAt,asIntOf,underlying,ht,hx,hi,h,sizeOf,typeInfo,hinf,h1,Result.andThen,atA]
theorem Zb9 {g off len cap i:Nat} (h:i < len) (ho:o.op=Op.indexAddr t x ix:=by kernel_rfl) (ht:P.underlying t=some (.slice e):=by kernel_rfl) (hs:(P.info? e).map (fun i=>i.size)=some 1:=by kernel_rfl)
 (hx:ρ x=.slice (some ⟨g,off,none⟩) len cap:=by kernel_rfl) (hi:ρ ix=.int .i64 ((i:Nat):Int):=by kernel_rfl):(execOp ρ o).run P w=.ok (.value (.pointer (some ⟨g,off + i,none⟩))) w:=by
 rw [Za1 (A:=some ⟨g,off,none⟩) (by simp) h ho ht hs hx hi,atA,Option.map_some,ZeR]
theorem ZbP {g len cap i:Nat} (h:i < len) (ho:o.op=Op.indexAddr t x ix:=by kernel_rfl) (ht:P.underlying t=some (.slice e):=by kernel_rfl) (hs:(P.info? e).map (fun i=>i.size)=some 1:=by kernel_rfl)
 (hx:ρ x=.slice (some ⟨g,0,none⟩) len cap:=by kernel_rfl) (hi:ρ ix=.int .i64 ((i:Nat):Int):=by kernel_rfl):(execOp ρ o).run P w=.ok (.value (.pointer (some ⟨g,i,none⟩))) w:=by
 have:=Zb9 (w:=w) h ho ht hs hx hi
 rwa [Nat.zero_add] at this
theorem Zh3 {g off:Nat} {c:Value} (hc:w.cell? ⟨g,off,none⟩=some c) (ho:o.op=Op.load t x:=by kernel_rfl) (hx:ρ x=.pointer (some ⟨g,off,none⟩):=by kernel_rfl) (ha:(teOf P t).map (fun e=>e.agg)=some false:=by kernel_rfl) :
 (execOp ρ o).run P w=.ok (.value c) w:=by
 obtain ⟨e,he,h1⟩:=Option.map_eq_some_iff.1 ha
 have:=Zjc (P:=P) (w:=w) he hc h1
 simp only [execOp,ho,hx,Sem.run_bind,this,Result.andThen_ok,Sem.run_pure]
theorem ZcR {b j:Nat} (hO:Own k e w b xs) (hj:j < xs.length) (ho:o.op=Op.load t x:=by kernel_rfl) (hx:ρ x=.pointer (some ⟨b,j,none⟩):=by kernel_rfl) (ha:(teOf P t).map (fun e=>e.agg)=some false:=by kernel_rfl) :
 (execOp ρ o).run P w=.ok (.value (.int k ((xs[j]?.getD 0:Nat):Int))) w:=Zh3 (hO.cell hj) ho hx ha
theorem Zbb {A:Option Addr} {j:Nat} (hS:Zae k w A xs) (hj:j < xs.length) (ho:o.op=Op.load t x:=by kernel_rfl) (hx:ρ x=atA A j:=by kernel_rfl) (ha:(teOf P t).map (fun e=>e.agg)=some false:=by kernel_rfl) :
 (execOp ρ o).run P w=.ok (.value (.int k ((xs[j]?.getD 0:Nat):Int))) w:=by
 obtain ⟨g,off,rfl,_,hc⟩:=hS.at hj
 exact Zh3 hc ho (by rw [hx,atA,Option.map_some,ZeR]) ha
theorem Zug {A:Option Addr} {len cap h:Nat} {hi:Operand} (hle:h≤cap) (ho:o.op=Op.slice t x none (some hi) none:=by kernel_rfl) (ht:P.underlying t=some (.slice e):=by kernel_rfl) (hs:(P.info? e).map (fun i=>i.size)=some 1:=by kernel_rfl)
 (hx:ρ x=.slice A len cap:=by kernel_rfl) (hh:ρ hi=.int .i64 ((h:Nat):Int):=by kernel_rfl):(execOp ρ o).run P w=.ok (.value (.slice A h cap)) w:=by
 obtain ⟨inf,hinf,_⟩:=Option.map_eq_some_iff.1 hs
 have h3:A.map (fun a=>a.add 0)=A:=by cases A with
  | none=>rfl
  | some a=>simp [Addr.add]
 simp [execOp,ho,Instr.sliceAt,Instr.slice,Instr.sliceBounds,Instr.sliceBound,asIntOf,underlying,ht,hx,hh,hle,sizeOf,typeInfo,hinf,Result.andThen,h3]
theorem Zsg {A:Option Addr} {len cap l:Nat} {lo:Operand} (hle:l≤len) (ho:o.op=Op.slice t x (some lo) none none:=by kernel_rfl) (ht:P.underlying t=some (.slice e):=by kernel_rfl) (hs:(P.info? e).map (fun i=>i.size)=some 1:=by kernel_rfl)
 (hx:ρ x=.slice A len cap:=by kernel_rfl) (hl:ρ lo=.int .i64 ((l:Nat):Int):=by kernel_rfl):(execOp ρ o).run P w=.ok (.value (.slice (if cap=l then A else A.map (·.add l)) (len - l) (cap - l))) w:=by
 obtain ⟨inf,hinf,h1⟩:=Option.map_eq_some_iff.1 hs
 simp [execOp,ho,Instr.sliceAt,Instr.slice,Instr.sliceBounds,Instr.sliceBound,asIntOf,underlying,ht,hx,hl,hle,sizeOf,typeInfo,hinf,h1,Result.andThen]
theorem Zts {g len cap off l h n m:Nat} {lo hi:Operand} (hle:l≤h) (hle2:h≤cap) (hlt:l < cap) (hn:h - l=n) (hm:cap - l=m) (ho:o.op=Op.slice t x (some lo) (some hi) none:=by kernel_rfl) (ht:P.underlying t=some (.slice e):=by kernel_rfl) (hs:(P.info? e).map (fun i=>i.size)=some 1:=by kernel_rfl)
 (hx:ρ x=.slice (some ⟨g,off,none⟩) len cap:=by kernel_rfl) (hl:ρ lo=.int .i64 ((l:Nat):Int):=by kernel_rfl) (hh:ρ hi=.int .i64 ((h:Nat):Int):=by kernel_rfl):(execOp ρ o).run P w=.ok (.value (.slice (some ⟨g,off + l,none⟩) n m)) w:=by
 subst hn hm
 obtain ⟨inf,hinf,h1⟩:=Option.map_eq_some_iff.1 hs
 have hne:¬ cap=l:=by omega
 simp [execOp,ho,Instr.sliceAt,Instr.slice,Instr.sliceBounds,Instr.sliceBound,asIntOf,underlying,ht,hx,hl,hh,hle,hle2,sizeOf,typeInfo,hinf,h1,Result.andThen,hne,ZeR]
theorem Zsh {g len cap l h n m:Nat} {lo hi:Operand} (hle:l≤h) (hle2:h≤cap) (hlt:l < cap) (hn:h - l=n) (hm:cap - l=m) (ho:o.op=Op.slice t x (some lo) (some hi) none:=by kernel_rfl) (ht:P.underlying t=some (.slice e):=by kernel_rfl) (hs:(P.info? e).map (fun i=>i.size)=some 1:=by kernel_rfl)
 (hx:ρ x=.slice (some ⟨g,0,none⟩) len cap:=by kernel_rfl) (hl:ρ lo=.int .i64 ((l:Nat):Int):=by kernel_rfl) (hh:ρ hi=.int .i64 ((h:Nat):Int):=by kernel_rfl):(execOp ρ o).run P w=.ok (.value (.slice (some ⟨g,l,none⟩) n m)) w:=by
 have:=Zts (w:=w) hle hle2 hlt hn hm ho ht hs hx hl hh
 rwa [Nat.zero_add] at this
theorem Zae.ne {A:Option Addr} (hS:Zae k w A xs) {j:Nat} (hj:j < xs.length):A≠none:=by
 obtain ⟨g,off,rfl,_⟩:=hS.at hj
 intro h; cases h
end
end Go.Proofs.YtklpdkpcocnglaaGreatDoor

namespace Go.Proofs.YtklpdkpcocnglaaGreatDoor
open Go.RowKit
def Ze8 (ops:Array Oper) (i k:Nat):List Nat:=((ops.toList.drop i).take k).filterMap (fun o=>o.dst)
def Ze9 (l:List Nat) (sl:SlL):SlL:=sl.filter (fun q => !(l.any (Nat.beq q.1)))
def ZmA (nb:BlL) (bl:BlL):BlL:=bl.filter (fun q => !(nb.any (fun p=>Nat.beq p.1 q.1)))
section
variable {N:Nat} {S0:Nat→Prop} {w0:World} {sl:SlL} {bl:BlL} {Φ Φ0:World→Prop} {P:Program} {ops:Array Oper} {Q:Exit→Act→World→Prop}
theorem xq {i:Nat} (k:Nat) (nw:SlL) (nb:BlL) (K:SXi P N S0 w0 ops Q (i + k) (ofL (nw ++ Ze9 (Ze8 ops i k) sl) (nb ++ ZmA nb bl)) Φ)
 (h:Zkb P N ops i k (ofL sl bl) (nw ++ Ze9 (Ze8 ops i k) sl) (nb ++ ZmA nb bl)=some ((nw ++ Ze9 (Ze8 ops i k) sl).map (fun q=>some q.2),(nb ++ ZmA nb bl).map (fun q=>some q.2)):=by kernel_rfl)
 (h2:wfB (nw ++ Ze9 (Ze8 ops i k) sl) (nb ++ ZmA nb bl)=true:=by kernel_rfl):SXi P N S0 w0 ops Q i (ofL sl bl) Φ:=ZqR k _ _ h h2 K
theorem xqf {n i:Nat} (k:Nat) (nw:SlL) (bl':BlL) (K:StI P N S0 w0 ops Φ0 Q n (i + k) (ofL (nw ++ Ze9 (Ze8 ops i k) sl) bl') Φ)
 (h:ZgJ P N ops k i (ofL sl bl) (nw ++ Ze9 (Ze8 ops i k) sl)=some ((nw ++ Ze9 (Ze8 ops i k) sl).map (fun q=>some q.2),ZdC bl'):=by kernel_rfl) (hk:Nat.ble (i + k) n=true:=by kernel_rfl):StI P N S0 w0 ops Φ0 Q n i (ofL sl bl) Φ:=ZmW k _ _ h hk K
theorem xqg {n i:Nat} (k:Nat) (nw:SlL) (K:StI P N S0 w0 ops Φ0 Q n (i + k) (ofL (nw ++ Ze9 (Ze8 ops i k) sl) bl) Φ)
 (h:ZgJ P N ops k i (ofL sl bl) (nw ++ Ze9 (Ze8 ops i k) sl)=some ((nw ++ Ze9 (Ze8 ops i k) sl).map (fun q=>some q.2),ZdC bl):=by kernel_rfl) (hk:Nat.ble (i + k) n=true:=by kernel_rfl):StI P N S0 w0 ops Φ0 Q n i (ofL sl bl) Φ:=ZmW k _ _ h hk K
theorem xqc {i:Nat} (f:FuncId) (args:List Value) (d:Nat) {α:Type} (sh:α→Value) (φ:α→World→Prop) (hC:∀ w,Fr S0 w0 w→Φ w→Calls P f args.toArray w (Zbx sh φ w)) (K:∀ x,SXi P N S0 w0 ops Q (i + 1) (ofL ((d, .v (sh x)) :: sl) bl) (fun w=>Φ w∧φ x w))
 (hsz:Nat.blt i ops.size=true:=by kernel_rfl) (h:Zc3 P N ops (opAt ops i) (ofL sl bl)=some (f,args,d):=by kernel_rfl):SXi P N S0 w0 ops Q i (ofL sl bl) Φ:=ZoQ f args d sh φ hsz h hC K
theorem xqd {n i:Nat} (f:FuncId) (args:List Value) (d:Nat) {α:Type} [hα:Nonempty α] (sh:α→Value) (φ:α→World→Prop) (hC:∀ w,Fr S0 w0 w→Φ w→Calls P f args.toArray w (Zbx sh φ w)) (K:∀ x,StI P N S0 w0 ops Φ0 Q n (i + 1) (ofL ((d, .v (sh x)) :: sl) bl) (fun w=>Φ w∧φ x w))
 (hi:Nat.blt i n=true:=by kernel_rfl) (hm:cls (opAt ops i).op=2:=by kernel_rfl) (h:Zc3 P N ops (opAt ops i) (ofL sl bl)=some (f,args,d):=by kernel_rfl):StI P N S0 w0 ops Φ0 Q n i (ofL sl bl) Φ:=ZoS f args d sh φ hi hm h hC K
theorem xqk {i:Nat} (d:Nat) (y:Value) (hx:∀ w,Fr S0 w0 w→Φ w→(execOp (ofL sl bl).rho (opAt ops i)).run P w=.ok (.value y) w) (K:SXi P N S0 w0 ops Q (i + 1) (ofL ((d, .v y) :: sl) bl) Φ)
 (hi:Nat.blt i ops.size=true:=by kernel_rfl) (hs:Zcc (opAt ops i).op=true:=by kernel_rfl) (hw:(ofL sl bl).wantB ops (opAt ops i)=some true:=by kernel_rfl) (hv:(opAt ops i).op.operands.toList.all (ofL sl bl).vB=true:=by kernel_rfl) (hd:(opAt ops i).dst=some d:=by kernel_rfl) (hN:Nat.blt d N=true:=by kernel_rfl):SXi P N S0 w0 ops Q i (ofL sl bl) Φ :=
 ZcO d y hi hs hw hv hd hN hx K
theorem xqj {n i:Nat} (d:Nat) (y:Value) (hx:∀ w,Φ0 w→(execOp (ofL sl bl).rho (opAt ops i)).run P w=.ok (.value y) w) (K:StI P N S0 w0 ops Φ0 Q n (i + 1) (ofL ((d, .v y) :: sl) bl) Φ)
 (hi:Nat.blt i n=true:=by kernel_rfl) (hk:ZhS (opAt ops i).op=true:=by kernel_rfl) (hw:(ofL sl bl).wantB ops (opAt ops i)=some true:=by kernel_rfl) (hv:(opAt ops i).op.operands.toList.all (ofL sl bl).vB=true:=by kernel_rfl) (hd:(opAt ops i).dst=some d:=by kernel_rfl) (hN:Nat.blt d N=true:=by kernel_rfl):StI P N S0 w0 ops Φ0 Q n i (ofL sl bl) Φ :=
 ZiH d y hi hk hw hv hd hN hx K
end
end Go.Proofs.YtklpdkpcocnglaaGreatDoor

namespace Go.Proofs.YtklpdkpcocnglaaGreatDoor
open Go.RowKit
theorem Zbd {w w':World} {e:Ending} {n:Nat} (h:Zbj w n e w'):Zbx Za7 (fun x w=>Zal w (Za7 x) n) w e w':=by
 obtain ⟨v,rfl,h2,Q⟩:=h
 obtain ⟨A,l,c,rfl⟩:=h2.slice
 exact ⟨(A,l,c),rfl,Q,boxn Q (fun S w'' hS hF=>h2.nrb hS hF)⟩
end Go.Proofs.YtklpdkpcocnglaaGreatDoor

namespace Go.Proofs.YtklpdkpcocnglaaGreatDoor
open Go.RowKit
theorem ZeW {P:Program} {o:Oper} {ρ:Operand→Value} {w:World} {y:Value} {f:FuncId} {args:List Operand} {ts:Array TypeId} {vs:List Value} (h:(callFunc f vs.toArray).run P w=.ok (.value y) w)
 (ho:o.op=.call { callee:=.value (.func f),args:=args.toArray,argTypes:=ts }:=by kernel_rfl) (hv:args.map ρ=vs:=by kernel_rfl) (hf:ρ (.func f)=.func (.func f) #[] #[]:=by kernel_rfl):(execOp ρ o).run P w=.ok (.value y) w:=by
 subst hv
 have e2:(#[] ++ args.toArray.map ρ ++ #[]:Array Value)=(args.map ρ).toArray:=by simp
 simp only [execOp,ho,resolve,hf,Deferred.ofValue,Sem.run_bind,Sem.run_pure,Result.andThen_ok,invoke,e2,h]
theorem tdq (a c:Nat) (h:a < 9223372036854775808):IntKind.i64.wrap (((a:Nat):Int).tdiv (c:Int))=((a / c:Nat):Int):=by
 rw [← Int.ofNat_tdiv,IntKind.wrap_i64]
 have:=Nat.div_le_self a c
 generalize a / c=q at *
 omega
theorem tdr (a c:Nat):(((a:Nat):Int).tmod (c:Int))=((a % c:Nat):Int):=(Int.ofNat_tmod a c).symm
theorem ZbS {a b:Int} (h:((a:Int) == b)=false):a≠b:=by simpa using h
theorem ZdW {a b:Int} (h:((a:Int) != b)=true):a≠b:=by simpa using h
theorem ZdX {a b:Int} (h:((a:Int) != b)=false):a=b:=by simpa using h
section
variable {P:Program} {o:Oper} {ρ:Operand→Value} {w:World} {x y:Operand} {t k:TypeId}
theorem Znb {a n:Nat} (hn:n≤64) (ho:o.op=Op.binOp .shr t x y k:=by kernel_rfl) (hx:ρ x=.int .u64 ((a:Nat):Int):=by kernel_rfl) {ky:IntKind} (hy:ρ y=.int ky ((n:Nat):Int):=by kernel_rfl):(execOp ρ o).run P w=.ok (.value (.int .u64 ((a / 2 ^ n:Nat):Int))) w:=by
 have h0:¬ ((n:Int) < 0):=by omega
 have h1:min ((n:Int)).toNat IntKind.u64.bits=n:=by show min ((n:Int)).toNat 64=n; omega
 have h2:((a:Int)).fdiv (2 ^ n)=((a / 2 ^ n:Nat):Int):=by
  rw [Int.fdiv_eq_ediv_of_nonneg _ (by rw [show ((2:Int) ^ n)=((2 ^ n:Nat):Int) by rw [Int.natCast_pow]; rfl]; exact Int.natCast_nonneg _)]
  exact ZfS a n
 simp only [execOp,ho,hx,hy,eqGuard,binOp,Op.shift,if_neg h0,h1,h2]
 rfl
theorem Znc {a n:Nat} (hn:n≤64) (ho:o.op=Op.binOp .shl t x y k:=by kernel_rfl) (hx:ρ x=.int .u64 ((a:Nat):Int):=by kernel_rfl) {ky:IntKind} (hy:ρ y=.int ky ((n:Nat):Int):=by kernel_rfl):(execOp ρ o).run P w=.ok (.value (.int .u64 ((a * 2 ^ n % W64:Nat):Int))) w:=by
 have h0:¬ ((n:Int) < 0):=by omega
 have h1:min ((n:Int)).toNat IntKind.u64.bits=n:=by show min ((n:Int)).toNat 64=n; omega
 simp only [execOp,ho,hx,hy,eqGuard,binOp,Op.shift,if_neg h0,h1,ZeQ]
 rfl
theorem ZsY {a b r:Nat} (ha:a < W64) (hb:b < W64) (h:a ||| b=r) (ho:o.op=Op.binOp .or t x y k:=by kernel_rfl) (hx:ρ x=.int .u64 ((a:Nat):Int):=by kernel_rfl) (hy:ρ y=.int .u64 ((b:Nat):Int):=by kernel_rfl):(execOp ρ o).run P w=.ok (.value (.int .u64 ((r:Nat):Int))) w:=by
 have:=Zea ha hb
 rw [h] at this
 rw [← this]
 simp only [execOp,ho,hx,hy,eqGuard,binOp]
 rfl
end
theorem ZbG {B:Nat} {xs:List Nat} (k:Nat):val B (xs.take (k + 1))=val B (xs.take k) + B ^ k * (xs[k]?.getD 0):=by
 rcases Nat.lt_or_ge k xs.length with h | h
 ·exact Zas k h
 ·rw [List.take_of_length_le (by omega),List.take_of_length_le h,List.getElem?_eq_none h]; simp
/-! ### plus,minus -/
def Zfw (xs ys:List Nat) (k:Nat) (zs:List Nat) (c:Nat):Prop :=
 zs.length=xs.length + 1∧Dig W64 zs∧c≤1∧val W64 (zs.take k) + W64 ^ k * c=val W64 (xs.take k) + val W64 (ys.take k)
theorem Zfw.start (xs ys:List Nat):Zfw xs ys 0 (List.replicate (xs.length + 1) 0) 0:=⟨by simp,Dig.replicate Zan _,by omega,by simp⟩
theorem Zfw.step {xs ys zs:List Nat} {k c x y:Nat} (h:Zfw xs ys k zs c) (hk:k < xs.length) (ex:xs[k]?.getD 0=x) (ey:ys[k]?.getD 0=y) (hx:Dig W64 xs) (hy:Dig W64 ys):Zfw xs ys (k + 1) (zs.set k (ZaP x y c)) (ZaV x y c):=by
 obtain ⟨h1,h2,h3,h4⟩:=h
 refine ⟨by simpa using h1,h2.set k (Zen _ _ _),ZgW (ex ▸ hx.getD Zan k) (ey ▸ hy.getD Zan k) h3,?_⟩
 rw [ZaI _ _ _ _ (by omega),ZbG k,ZbG k,ex,ey,Nat.pow_succ]
 exact ZfL _ _ _ _ _ _ _ _ _ _ h4 (ZdI x y c)
theorem Zfw.done {xs ys zs:List Nat} {c:Nat} (h:Zfw xs ys xs.length zs c) (hl:ys.length≤xs.length):(zs.set xs.length c).length=xs.length + 1∧Dig W64 (zs.set xs.length c)∧val W64 (zs.set xs.length c)=val W64 xs + val W64 ys:=by
 obtain ⟨h1,h2,h3,h4⟩:=h
 have e:(zs.set xs.length c).length=xs.length + 1:=by simpa using h1
 refine ⟨e,h2.set _ (by have:=Zc1; omega),?_⟩
 rw [← List.take_of_length_le (l:=zs.set xs.length c) (i:=xs.length + 1) (by omega),ZaI _ _ _ _ (by omega),h4,List.take_of_length_le (Nat.le_refl _),List.take_of_length_le hl]
/-! ### times -/
theorem Zp0 {a b:Nat} (h:a + b < W64):IntKind.u64.wrap ((a:Int) + (b:Int))=((a + b:Nat):Int):=by rw [← Int.natCast_add]; exact ZaS _ h
theorem ZlK (x y:Nat) (w:World) (hx:x < W64) (hy:y < W64):Calls Tryz.prog 145 #[.int .u64 (x:Int), .int .u64 (y:Int)] w (RetV w (.tuple #[.int .u64 ((Zbm x y:Nat):Int), .int .u64 ((ZaJ x y:Nat):Int)])):=by
 refine (Zfh x y hx hy w).mono ?_
 rintro e w' ⟨rfl,rfl⟩
 exact ⟨rfl,Fr.refl _ _⟩
theorem Zh4 (A:Option Addr) (xs:List Nat) (c:Nat) (w:World) (hX:Zae .u64 w A xs) (hl:xs.length≤1099511627776) (hc:xs.length≤c) :
 Calls Tryz.prog 106 #[.slice A xs.length c] w (RetV w (.slice A (ZaZ xs xs.length) c)):=by
 refine Zaz (Φ:=fun w=>Zae .u64 w A xs) Tryz.func106 rfl (by kernel_rfl) (fun w' hf=>hX.ext hf) ?_
 refine Zac (Zab (xq 1 [eS1 2 none 0 0] [] ?_))
 refine xe (Zaa (Zac (ZaO ?_)))
 refine SXc.weak [(0, .v (.slice A (xs.length) c))] [] (Ψ:=fun w=>Zae .u64 w A (xs)) (ZaG.of (by kernel_rfl)) (by kernel_rfl) (fun w Q=>Q) ?_
 refine ZbR (fun nn ss ff=>∃ (k:Nat),ss=ofL [(0, .v (.slice A k c))] []∧ff=(fun w=>Zae .u64 w A (xs))∧(ZaZ xs xs.length=ZaZ xs k)∧(k≤xs.length)∧nn=(1 + k)) ((1 + (xs.length))) ⟨(xs.length),rfl,rfl,rfl,Nat.le_refl _,rfl⟩ ?_
 rintro nn ss ff ⟨k,rfl,rfl,HR,hk,rfl⟩
 refine Zac (Zac (Zab (xq 4 [(6, .v (.bool (decide (((k:Nat):Int) > 0))))] [] ?_)))
 rcases bl2 ((decide (((k:Nat):Int) > 0))) with hb10 | hb10
 ·rw [hb10]
  have hb10':=of_decide_eq_true hb10
  refine xq 4 [eS1 7 A k c,(10, .v (.int .i64 (IntKind.i64.wrap (((k:Nat):Int) - 1))))] [] ?_
  rw [show IntKind.i64.wrap ((((k:Nat):Int) - 1))=((k - 1:Nat):Int) from by rw [IntKind.wrap_i64]; omega]
  refine xqk 11 (atA A (k - 1)) (fun w R Q=>Za1 (t:=77) (e:=94) (x:=(Operand.tmp 7)) (ix:=(Operand.tmp 10)) (len:=k) (cap:=c) (i:=k - 1) ((Q).ne (j:=k - 1) (by omega)) (by omega)) ?_
  obtain ⟨x11,hx11⟩:∃ x,xs[k - 1]?.getD 0=x:=⟨_,rfl⟩
  refine xqk 12 (.int .u64 ((x11:Nat):Int)) (fun w R Q=>by rw [← hx11]; exact Zbb (t:=94) (x:=(Operand.tmp 11)) (Q) (j:=k - 1) (by omega)) ?_
  refine xq 2 [(14, .v (.bool ((((x11:Nat):Int):Int) == 0)))] [] ?_
  refine xe (Zaa ?_)
  refine ZaA (((((x11:Nat):Int):Int) == 0)) (by kernel_rfl) (fun hb12=>?_) (fun hb12=>?_)
  ·have hb12':=beq_iff_eq.1 hb12
   refine Zap (Zaa (ZaO (Zab (xq 4 [eS1 15 A k c,(18, .v (.int .i64 (IntKind.i64.wrap (((k:Nat):Int) - 1))))] [] ?_))))
   rw [show IntKind.i64.wrap ((((k:Nat):Int) - 1))=((k - 1:Nat):Int) from by rw [IntKind.wrap_i64]; omega]
   refine xqk 19 (.slice A (k - 1) c) (fun w R Q=>Zug (t:=77) (e:=94) (x:=(Operand.tmp 15)) (len:=k) (cap:=c) (h:=k - 1) (hi:=(Operand.tmp 18)) (by omega)) ?_
   refine xq 1 [eS1 0 A (k - 1) c] [] ?_
   refine xe (ZbK ?_)
   refine SXq.weak [(0, .v (.slice A ((k - 1)) c))] [] (Ψ:=fun w=>Zae .u64 w A (xs)) (ZaG.of (by kernel_rfl)) (by kernel_rfl) (fun w Q=>Q) ?_
   have HS:ZaZ xs xs.length=ZaZ xs (k - 1):=by obtain ⟨m,rfl⟩:∃ m,k=m + 1:=⟨k - 1,by omega⟩; rw [HR,ZaZ,if_pos (by rw [Nat.add_sub_cancel] at hx11; omega),Nat.add_sub_cancel]
   exact Zbc ((1 + ((k - 1)))) (by omega) ⟨((k - 1)),rfl,rfl,HS,by omega,rfl⟩
  ·have hb12':=ZbS hb12
   refine Zbp (Zax (Zax (ZbA (Zaa (Zac (Zab (xq 2 [eS1 2 A k c] [] ?_)))))))
   refine xe (Zaa (Zaj ?_))
   refine Zaf (v:=.slice A k c) (by kernel_rfl) (fun w' R Q=>?_)
   exact ⟨by obtain ⟨m,rfl⟩:∃ m,k=m + 1:=⟨k - 1,by omega⟩; rw [HR,ZaZ,if_neg (by rw [Nat.add_sub_cancel] at hx11; omega)],R⟩
 ·rw [hb10]
  have hb10':=of_decide_eq_false hb10
  refine xq 8 [(14, .v (.bool false))] [] ?_
  refine xe (Zaa (xb (Zbp (Zax (Zax (ZbA (Zaa (Zac (Zab (xq 2 [eS1 2 A k c] [] ?_))))))))))
  refine xe (Zaa (Zaj ?_))
  refine Zaf (v:=.slice A k c) (by kernel_rfl) (fun w' R Q=>?_)
  obtain rfl:k=0:=by omega
  exact ⟨by rw [HR]; rfl,R⟩
theorem Zh5 {b n v:Nat} {xs:List Nat} {w:World} (hO:Own .u64 94 w b xs) (hd:Dig W64 xs) (hn:xs.length=n) (hv:val W64 xs=v) (hl:n≤1099511627776):Calls Tryz.prog 106 #[.slice (some ⟨b,0,none⟩) n n] w (Zbj w v):=by
 subst hn hv
 refine (Zh4 _ xs _ w hO.shows0 hl (Nat.le_refl _)).mono ?_
 rintro e w' ⟨rfl,Q⟩
 exact ⟨_,rfl,(Zal.of_own hO hd (Nat.le_refl _)).ext Q,Q⟩
theorem Zq8 (A A2:Option Addr) (xs ys:List Nat) (c c2:Nat) (w:World) (hX:Zae .u64 w A xs) (hY:Zae .u64 w A2 ys) (hl:xs.length≤4294967296) (hl2:ys.length≤4294967296) (hx:Dig W64 xs) (hy:Dig W64 ys) :
 Calls Tryz.prog 126 #[.slice A xs.length c, .slice A2 ys.length c2] w (Zbj w (val W64 xs + val W64 ys)):=by
 refine Zaz (Φ:=fun w=>(Zae .u64 w A xs∧Zae .u64 w A2 ys)) Tryz.func126 rfl (by kernel_rfl) (fun w' hf=>⟨hX.ext hf,hY.ext hf⟩) ?_
 refine Zac (Zab (xq 1 [eS1 4 none 0 0] [] ?_))
 refine xe (Zaa ?_)
 refine Zh2 (fun ss ff=>∃ (B1 B2:Option Addr) (us vs:List Nat) (d1 d2:Nat),ss=ofL [(0, .v (.slice B1 us.length d1)),(1, .v (.slice B2 vs.length d2)),(4, .v (.slice none 0 0))] []∧ff=(fun w=>(Zae .u64 w B1 (us)∧Zae .u64 w B2 (vs)))∧(vs.length≤us.length)∧(Dig W64 us)∧(Dig W64 vs)∧(us.length≤4294967296)∧(val W64 us + val W64 vs=val W64 xs + val W64 ys)) ?_ ?_
 ·refine Zac (Zab (xq 5 [(13, .v (.bool (decide (((xs.length:Nat):Int) < ((ys.length:Nat):Int)))))] [] ?_))
  refine xe (Zaa ?_)
  refine ZaA ((decide (((xs.length:Nat):Int) < ((ys.length:Nat):Int)))) (by kernel_rfl) (fun hb10=>?_) (fun hb10=>?_)
  ·have hb10':=of_decide_eq_true hb10
   refine Zab (xq 4 [eS1 0 A2 ys.length c2,eS1 1 A xs.length c] [] ?_)
   refine xe ?_
   refine SXq.weak [(0, .v (.slice A2 ys.length c2)),(1, .v (.slice A xs.length c)),(4, .v (.slice none 0 0))] [] (Ψ:=fun w=>(Zae .u64 w A2 (ys)∧Zae .u64 w A (xs))) (ZaG.of (by kernel_rfl)) (by kernel_rfl) (fun w Q=>⟨Q.2,Q.1⟩) ?_
   exact Zcp ⟨A2,A,ys,xs,c2,c,rfl,rfl,(by omega),hy,hx,hl2,Nat.add_comm _ _⟩
  ·have hb10':=of_decide_eq_false hb10
   refine Zap ?_
   refine SXq.weak [(0, .v (.slice A xs.length c)),(1, .v (.slice A2 ys.length c2)),(4, .v (.slice none 0 0))] [] (Ψ:=fun w=>(Zae .u64 w A (xs)∧Zae .u64 w A2 (ys))) (ZaG.of (by kernel_rfl)) (by kernel_rfl) (fun w Q=>⟨Q.1,Q.2⟩) ?_
   exact Zcp ⟨A,A2,xs,ys,c,c2,rfl,rfl,(by omega),hx,hy,hl,rfl⟩
 ·rintro ss ff ⟨B1,B2,us,vs,d1,d2,rfl,rfl,h1,hu,hv,hul,hsum⟩
  refine Zac (Zab (xq 3 [(18, .v (.int .i64 (IntKind.i64.wrap (((us.length:Nat):Int) + 1))))] [] ?_))
  rw [show IntKind.i64.wrap ((((us.length:Nat):Int) + 1))=((us.length + 1:Nat):Int) from by rw [IntKind.wrap_i64]; omega]
  refine ZiL (d:=19) (t:=77) (e:=94) (k:=.u64) (kl:=.i64) (kc:=.i64) (l:=(Operand.tmp 18)) (c:=(Operand.tmp 18)) (us.length + 1) 8 (by omega) (by decide) (fun r11 hr11 _=>?_)
  refine xr 1 [eS1 0 B1 us.length d1,eS1 1 B2 vs.length d2,eS1 4 none 0 0,eS1 5 (some ⟨r11,0,none⟩) (us.length + 1) (us.length + 1)] [] ?_
  refine xe (Zaa (Zac (Zab (xq 1 [(6, .v (.int .u64 0))] [] ?_))))
  refine xe (Zaa (Zac (Zac (Zab (xq 3 [(21, .v (.int .i64 ((us.length:Nat):Int))),(22, .v (.int .i64 0))] [] ?_)))))
  refine xe (Zaa (ZaO ?_))
  refine SXc.weak [(0, .v (.slice B1 us.length d1)),(1, .v (.slice B2 vs.length d2)),(4, .v (.slice none 0 0)),(5, .v (.slice (some ⟨r11,0,none⟩) (us.length + 1) (us.length + 1))),(6, .v (.int .u64 ((0:Nat):Int))),(21, .v (.int .i64 ((us.length:Nat):Int))),(22, .v (.int .i64 ((0:Nat):Int)))] [] (Ψ:=fun w=>(Box (fun j=>r11≤j) w (fun w=>(Zae .u64 w B1 (us)∧Zae .u64 w B2 (vs)))∧Own .u64 94 w r11 ((List.replicate (us.length + 1) 0)))) (ZaG.of (by kernel_rfl)) (by kernel_rfl) (fun w Q=>⟨Q.1,Q.2⟩) ?_
  refine ZbR (fun nn ss ff=>∃ (cc k:Nat) (zs:List Nat),ss=ofL [(0, .v (.slice B1 us.length d1)),(1, .v (.slice B2 vs.length d2)),(4, .v (.slice none 0 0)),(5, .v (.slice (some ⟨r11,0,none⟩) (us.length + 1) (us.length + 1))),(6, .v (.int .u64 ((cc:Nat):Int))),(21, .v (.int .i64 ((us.length:Nat):Int))),(22, .v (.int .i64 ((k:Nat):Int)))] []∧ff=(fun w=>(Box (fun j=>r11≤j) w (fun w=>(Zae .u64 w B1 (us)∧Zae .u64 w B2 (vs)))∧Own .u64 94 w r11 (zs)))∧(Zfw us vs k zs cc)∧(k≤us.length)∧nn=(us.length - k)) ((us.length - 0)) ⟨0,0,(List.replicate (us.length + 1) 0),rfl,rfl,Zfw.start us vs,by omega,rfl⟩ ?_
  rintro nn ss ff ⟨cc,k,zs,rfl,rfl,HR,hk,rfl⟩
  refine Zac (Zab (xq 1 [(23, .v (.bool (decide (((k:Nat):Int) < ((us.length:Nat):Int)))))] [] ?_))
  refine xe (Zaa (Zac ?_))
  refine ZaA ((decide (((k:Nat):Int) < ((us.length:Nat):Int)))) (by kernel_rfl) (fun hb12=>?_) (fun hb12=>?_)
  ·have hb12':=of_decide_eq_true hb12
   have hzl:=HR.1
   have hcc:=HR.2.2.1
   refine Zap (Zaa (Zac (ZaO (Zac (Zab (xq 2 [(7, .v (.int .i64 ((k:Nat):Int)))] [] ?_))))))
   refine xe (Zaa (Zac (Zab (xq 1 [(8, .v (.int .u64 0))] [] ?_))))
   refine xe (Zaa (Zac (Zac (Zab (xq 4 [(28, .v (.bool (decide (((k:Nat):Int) < ((vs.length:Nat):Int)))))] [] ?_)))))
   refine xe (Zaa ?_)
   refine ZaA ((decide (((k:Nat):Int) < ((vs.length:Nat):Int)))) (by kernel_rfl) (fun hb13=>?_) (fun hb13=>?_)
   ·have hb13':=of_decide_eq_true hb13
    refine Zab (xq 2 [eS1 29 B2 vs.length d2,(30, .v (.int .i64 ((k:Nat):Int)))] [] ?_)
    refine xqk 31 (atA B2 k) (fun w R Q=>Za1 (t:=77) (e:=94) (x:=(Operand.tmp 29)) (ix:=(Operand.tmp 30)) (len:=vs.length) (cap:=d2) (i:=k) (((Q.1).self.2).ne (j:=k) (by omega)) (by omega)) ?_
    obtain ⟨x14,hx14⟩:∃ x,vs[k]?.getD 0=x:=⟨_,rfl⟩
    refine xqk 32 (.int .u64 ((x14:Nat):Int)) (fun w R Q=>by rw [← hx14]; exact Zbb (t:=94) (x:=(Operand.tmp 31)) ((Q.1).self.2) (j:=k) (by omega)) ?_
    refine xq 1 [(8, .v (.int .u64 ((x14:Nat):Int)))] [] ?_
    refine xe (Zaa (Zab (xq 4 [eS1 34 (some ⟨r11,0,none⟩) (us.length + 1) (us.length + 1),(35, .v (.int .i64 ((k:Nat):Int))),eS1 36 B1 us.length d1,(37, .v (.int .i64 ((k:Nat):Int)))] [] ?_)))
    refine xqk 38 (atA B1 k) (fun w R Q=>Za1 (t:=77) (e:=94) (x:=(Operand.tmp 36)) (ix:=(Operand.tmp 37)) (len:=us.length) (cap:=d1) (i:=k) (((Q.1).self.1).ne (j:=k) (by omega)) (by omega)) ?_
    obtain ⟨x15,hx15⟩:∃ x,us[k]?.getD 0=x:=⟨_,rfl⟩
    refine xqk 39 (.int .u64 ((x15:Nat):Int)) (fun w R Q=>by rw [← hx15]; exact Zbb (t:=94) (x:=(Operand.tmp 38)) ((Q.1).self.1) (j:=k) (by omega)) ?_
    refine xq 2 [(40, .v (.int .u64 ((x14:Nat):Int))),(41, .v (.int .u64 ((cc:Nat):Int)))] [] ?_
    refine xqk 42 (.tuple #[.int .u64 ((ZaP x15 x14 cc:Nat):Int), .int .u64 ((ZaV x15 x14 cc:Nat):Int)]) (fun w R Q=>ZeW (args:=[Operand.tmp 39,Operand.tmp 40,Operand.tmp 41]) (ts:=#[94,94,94]) (ZdJ x15 x14 cc (by omega) w)) ?_
    refine xq 3 [(43, .v (.int .u64 ((ZaP x15 x14 cc:Nat):Int))),(44, .v (.int .u64 ((ZaV x15 x14 cc:Nat):Int)))] [] ?_
    refine xqk 45 (.pointer (some ⟨r11,k,none⟩)) (fun w R Q=>ZbP (t:=77) (e:=94) (x:=(Operand.tmp 34)) (ix:=(Operand.tmp 35)) (len:=(us.length + 1)) (cap:=(us.length + 1)) (i:=k) (by omega)) ?_
    refine ZcL (t:=94) (x:=(Operand.tmp 45)) (y:=(Operand.tmp 43)) r11 (k) (ZaP x15 x14 cc) (fun w=>(Box (fun j=>r11≤j) w (fun w=>(Zae .u64 w B1 (us)∧Zae .u64 w B2 (vs)))∧Own .u64 94 w r11 ((zs).set (k) (ZaP x15 x14 cc)))) (fun w Q=>Q.2) (by omega) (Or.inl hr11) (fun w w' Q hF hO=>⟨((Q.1).fr (hF.mono (fun _ _ e=>by rw [e]; exact Nat.le_refl _))),hO⟩) ?_
    refine xq 1 [(6, .v (.int .u64 ((ZaV x15 x14 cc:Nat):Int)))] [] ?_
    refine xe (ZbK (Zaa (Zab (xq 1 [(46, .v (.int .i64 (IntKind.i64.wrap (((k:Nat):Int) + 1))))] [] ?_))))
    rw [show IntKind.i64.wrap ((((k:Nat):Int) + 1))=((k + 1:Nat):Int) from by rw [IntKind.wrap_i64]; omega]
    refine xq 1 [(22, .v (.int .i64 ((k + 1:Nat):Int)))] [] ?_
    refine xe ?_
    refine SXq.weak [(0, .v (.slice B1 us.length d1)),(1, .v (.slice B2 vs.length d2)),(4, .v (.slice none 0 0)),(5, .v (.slice (some ⟨r11,0,none⟩) (us.length + 1) (us.length + 1))),(6, .v (.int .u64 (((ZaV x15 x14 cc):Nat):Int))),(21, .v (.int .i64 ((us.length:Nat):Int))),(22, .v (.int .i64 (((k + 1):Nat):Int)))] [] (Ψ:=fun w=>(Box (fun j=>r11≤j) w (fun w=>(Zae .u64 w B1 (us)∧Zae .u64 w B2 (vs)))∧Own .u64 94 w r11 (((zs).set (k) (ZaP x15 x14 cc))))) (ZaG.of (by kernel_rfl)) (by kernel_rfl) (fun w Q=>⟨Q.1,Q.2⟩) ?_
    have HS:=HR.step (k:=k) (by omega) hx15 (y:=x14) hx14 hu hv
    exact Zbc ((us.length - (k + 1))) (by omega) ⟨(ZaV x15 x14 cc),(k + 1),((zs).set (k) (ZaP x15 x14 cc)),rfl,rfl,HS,by omega,rfl⟩
   ·have hb13':=of_decide_eq_false hb13
    refine Zap (Zaa (Zab (xq 4 [eS1 34 (some ⟨r11,0,none⟩) (us.length + 1) (us.length + 1),(35, .v (.int .i64 ((k:Nat):Int))),eS1 36 B1 us.length d1,(37, .v (.int .i64 ((k:Nat):Int)))] [] ?_)))
    refine xqk 38 (atA B1 k) (fun w R Q=>Za1 (t:=77) (e:=94) (x:=(Operand.tmp 36)) (ix:=(Operand.tmp 37)) (len:=us.length) (cap:=d1) (i:=k) (((Q.1).self.1).ne (j:=k) (by omega)) (by omega)) ?_
    obtain ⟨x16,hx16⟩:∃ x,us[k]?.getD 0=x:=⟨_,rfl⟩
    refine xqk 39 (.int .u64 ((x16:Nat):Int)) (fun w R Q=>by rw [← hx16]; exact Zbb (t:=94) (x:=(Operand.tmp 38)) ((Q.1).self.1) (j:=k) (by omega)) ?_
    refine xq 2 [(40, .v (.int .u64 0)),(41, .v (.int .u64 ((cc:Nat):Int)))] [] ?_
    refine xqk 42 (.tuple #[.int .u64 ((ZaP x16 0 cc:Nat):Int), .int .u64 ((ZaV x16 0 cc:Nat):Int)]) (fun w R Q=>ZeW (args:=[Operand.tmp 39,Operand.tmp 40,Operand.tmp 41]) (ts:=#[94,94,94]) (ZdJ x16 0 cc (by omega) w)) ?_
    refine xq 3 [(43, .v (.int .u64 ((ZaP x16 0 cc:Nat):Int))),(44, .v (.int .u64 ((ZaV x16 0 cc:Nat):Int)))] [] ?_
    refine xqk 45 (.pointer (some ⟨r11,k,none⟩)) (fun w R Q=>ZbP (t:=77) (e:=94) (x:=(Operand.tmp 34)) (ix:=(Operand.tmp 35)) (len:=(us.length + 1)) (cap:=(us.length + 1)) (i:=k) (by omega)) ?_
    refine ZcL (t:=94) (x:=(Operand.tmp 45)) (y:=(Operand.tmp 43)) r11 (k) (ZaP x16 0 cc) (fun w=>(Box (fun j=>r11≤j) w (fun w=>(Zae .u64 w B1 (us)∧Zae .u64 w B2 (vs)))∧Own .u64 94 w r11 ((zs).set (k) (ZaP x16 0 cc)))) (fun w Q=>Q.2) (by omega) (Or.inl hr11) (fun w w' Q hF hO=>⟨((Q.1).fr (hF.mono (fun _ _ e=>by rw [e]; exact Nat.le_refl _))),hO⟩) ?_
    refine xq 1 [(6, .v (.int .u64 ((ZaV x16 0 cc:Nat):Int)))] [] ?_
    refine xe (ZbK (Zaa (Zab (xq 1 [(46, .v (.int .i64 (IntKind.i64.wrap (((k:Nat):Int) + 1))))] [] ?_))))
    rw [show IntKind.i64.wrap ((((k:Nat):Int) + 1))=((k + 1:Nat):Int) from by rw [IntKind.wrap_i64]; omega]
    refine xq 1 [(22, .v (.int .i64 ((k + 1:Nat):Int)))] [] ?_
    refine xe ?_
    refine SXq.weak [(0, .v (.slice B1 us.length d1)),(1, .v (.slice B2 vs.length d2)),(4, .v (.slice none 0 0)),(5, .v (.slice (some ⟨r11,0,none⟩) (us.length + 1) (us.length + 1))),(6, .v (.int .u64 (((ZaV x16 0 cc):Nat):Int))),(21, .v (.int .i64 ((us.length:Nat):Int))),(22, .v (.int .i64 (((k + 1):Nat):Int)))] [] (Ψ:=fun w=>(Box (fun j=>r11≤j) w (fun w=>(Zae .u64 w B1 (us)∧Zae .u64 w B2 (vs)))∧Own .u64 94 w r11 (((zs).set (k) (ZaP x16 0 cc))))) (ZaG.of (by kernel_rfl)) (by kernel_rfl) (fun w Q=>⟨Q.1,Q.2⟩) ?_
    have HS:=HR.step (k:=k) (by omega) hx16 (y:=0) (by rw [List.getElem?_eq_none (by omega)]; rfl) hu hv
    exact Zbc ((us.length - (k + 1))) (by omega) ⟨(ZaV x16 0 cc),(k + 1),((zs).set (k) (ZaP x16 0 cc)),rfl,rfl,HS,by omega,rfl⟩
  ·have hb12':=of_decide_eq_false hb12
   obtain rfl:k=us.length:=by omega
   have hzl:=HR.1
   have HD:=HR.done h1
   refine Zbp (Zax (Zax (ZbA (Zaa (Zac (Zab (xq 4 [eS1 47 (some ⟨r11,0,none⟩) (us.length + 1) (us.length + 1),(49, .v (.int .i64 ((us.length:Nat):Int))),(50, .v (.int .u64 ((cc:Nat):Int)))] [] ?_)))))))
   refine xqk 51 (.pointer (some ⟨r11,us.length,none⟩)) (fun w R Q=>ZbP (t:=77) (e:=94) (x:=(Operand.tmp 47)) (ix:=(Operand.tmp 49)) (len:=(us.length + 1)) (cap:=(us.length + 1)) (i:=us.length) (by omega)) ?_
   refine ZcL (t:=94) (x:=(Operand.tmp 51)) (y:=(Operand.tmp 50)) r11 (us.length) (cc) (fun w=>(Box (fun j=>r11≤j) w (fun w=>(Zae .u64 w B1 (us)∧Zae .u64 w B2 (vs)))∧Own .u64 94 w r11 ((zs).set (us.length) (cc)))) (fun w Q=>Q.2) (by omega) (Or.inl hr11) (fun w w' Q hF hO=>⟨((Q.1).fr (hF.mono (fun _ _ e=>by rw [e]; exact Nat.le_refl _))),hO⟩) ?_
   refine xe (Zaa (Zac (Zab (xq 1 [eS1 52 (some ⟨r11,0,none⟩) (us.length + 1) (us.length + 1)] [] ?_))))
   refine xqc 106 [.slice (some ⟨r11,0,none⟩) (us.length + 1) (us.length + 1)] 53 Za7 _ (fun w R Q=>(Zh5 Q.2 HD.2.1 HD.1 (HD.2.2.trans hsum) (by omega)).mono (fun _ _=>Zbd)) (fun xx=>?_)
   obtain ⟨A17,l17,c17⟩:=xx
   refine xq 1 [eS1 4 A17 l17 c17] [] ?_
   refine xe (Zaa (Zaj ?_))
   refine Zaf (v:=.slice A17 l17 c17) (by kernel_rfl) (fun w' R Q=>?_)
   exact ⟨_,rfl,Q.2,R⟩
theorem Ztt (A:Option Addr) (xs:List Nat) (c k:Nat) (w:World) (hN:Zal w (.slice A xs.length c) (val W64 xs)) (hX:Zae .u64 w A xs) (hl:xs.length≤4294967296) (hd:Dig W64 xs) (hk:k≤274877906944) :
 Calls Tryz.prog 66 #[.slice A xs.length c, .int .i64 ((k:Nat):Int)] w (Zbj w (val W64 xs * 2 ^ k)):=by
 refine Zaz (Φ:=fun w=>(Zal w (.slice A xs.length c) (val W64 xs)∧Zae .u64 w A xs)) Tryz.func66 rfl (by kernel_rfl) (fun w' hf=>⟨hN.ext hf,hX.ext hf⟩) ?_
 refine Zac (Zab (xq 1 [eS1 4 none 0 0] [] ?_))
 refine xe (Zaa (Zac (Zac (Zab (xq 4 [(13, .v (.bool ((((xs.length:Nat):Int):Int) == 0)))] [] ?_)))))
 rcases bl2 (((((xs.length:Nat):Int):Int) == 0)) with hb10 | hb10
 ·rw [hb10]
  have hb10':=beq_iff_eq.1 hb10
  refine xq 3 [(16, .v (.bool true))] [] ?_
  refine xe (Zaa (xa (Zac (Zab (xq 2 [eS1 4 A xs.length c] [] ?_)))))
  refine xe (Zaa (Zaj (Zak ?_)))
  refine Zaf (v:=.slice A xs.length c) (by kernel_rfl) (fun w' R Q=>?_)
  exact ⟨_,rfl,(by obtain rfl:xs=[]:=List.length_eq_zero_iff.1 (by omega); rw [Zdt,Nat.zero_mul]; exact Q.1),R⟩
 ·rw [hb10]
  have hb10':=ZbS hb10
  refine xq 3 [(16, .v (.bool ((((k:Nat):Int):Int) == 0)))] [] ?_
  refine xe (Zaa ?_)
  refine ZaA (((((k:Nat):Int):Int) == 0)) (by kernel_rfl) (fun hb11=>?_) (fun hb11=>?_)
  ·have hb11':=beq_iff_eq.1 hb11
   refine Zac (Zab (xq 2 [eS1 4 A xs.length c] [] ?_))
   refine xe (Zaa (Zaj (Zak ?_)))
   refine Zaf (v:=.slice A xs.length c) (by kernel_rfl) (fun w' R Q=>?_)
   exact ⟨_,rfl,(by obtain rfl:k=0:=(by omega); rw [Nat.pow_zero,Nat.mul_one]; exact Q.1),R⟩
  ·have hb11':=ZbS hb11
   refine Zap (Zaa (Zac (Zab (xq 2 [(19, .v (.int .i64 (IntKind.i64.wrap ((((k:Nat):Int)).tdiv 64))))] [] ?_))))
   rw [show IntKind.i64.wrap (((((k:Nat):Int)).tdiv 64))=((k / 64:Nat):Int) from tdq (k) 64 (by omega)]
   refine xq 2 [(21, .v (.int .i64 ((((k:Nat):Int)).tmod 64)))] [] ?_
   rw [show (((k:Nat):Int)).tmod 64=((k % 64:Nat):Int) from tdr (k) 64]
   refine xq 1 [(22, .v (.int .u64 (IntKind.u64.wrap (((k % 64:Nat):Int)))))] [] ?_
   rw [show IntKind.u64.wrap (((k % 64:Nat):Int))=((k % 64:Nat):Int) from by rw [IntKind.wrap_u64]; omega]
   refine xq 2 [(5, .v (.int .i64 ((k / 64:Nat):Int))),(6, .v (.int .u64 ((k % 64:Nat):Int)))] [] ?_
   refine xe (Zaa (Zac (Zab (xq 4 [(26, .v (.int .i64 (IntKind.i64.wrap (((xs.length:Nat):Int) + ((k / 64:Nat):Int)))))] [] ?_))))
   rw [show IntKind.i64.wrap ((((xs.length:Nat):Int) + ((k / 64:Nat):Int)))=((xs.length + (k / 64):Nat):Int) from by rw [IntKind.wrap_i64]; omega]
   refine xq 1 [(27, .v (.int .i64 (IntKind.i64.wrap (((xs.length + (k / 64):Nat):Int) + 1))))] [] ?_
   rw [show IntKind.i64.wrap ((((xs.length + (k / 64):Nat):Int) + 1))=((xs.length + (k / 64) + 1:Nat):Int) from by rw [IntKind.wrap_i64]; omega]
   refine ZiL (d:=28) (t:=77) (e:=94) (k:=.u64) (kl:=.i64) (kc:=.i64) (l:=(Operand.tmp 27)) (c:=(Operand.tmp 27)) (xs.length + (k / 64) + 1) 8 (by omega) (by decide) (fun r12 hr12 _=>?_)
   refine xr 1 [eS1 0 A xs.length c,eS1 4 none 0 0,(5, .v (.int .i64 ((k / 64:Nat):Int))),(6, .v (.int .u64 ((k % 64:Nat):Int))),(7, .v (.slice (some ⟨r12,0,none⟩) (xs.length + (k / 64) + 1) (xs.length + (k / 64) + 1)))] [] ?_
   refine xe (Zaa (Zac (Zac (Zab (xq 3 [eS1 29 A xs.length c,(30, .v (.int .i64 ((xs.length:Nat):Int))),(31, .v (.int .i64 0))] [] ?_)))))
   refine xe (Zaa (ZaO ?_))
   refine SXc.weak [(4, .v (.slice none 0 0)),(5, .v (.int .i64 ((k / 64:Nat):Int))),(6, .v (.int .u64 ((k % 64:Nat):Int))),(7, .v (.slice (some ⟨r12,0,none⟩) (xs.length + (k / 64) + 1) (xs.length + (k / 64) + 1))),(29, .v (.slice A xs.length c)),(30, .v (.int .i64 ((xs.length:Nat):Int))),(31, .v (.int .i64 ((0:Nat):Int)))] [] (Ψ:=fun w=>(Box (fun j=>r12≤j) w (fun w=>(Zal w (.slice A xs.length c) (val W64 xs)∧Zae .u64 w A (xs)))∧Own .u64 94 w r12 ((List.replicate (xs.length + (k / 64) + 1) 0)))) (ZaG.of (by kernel_rfl)) (by kernel_rfl) (fun w Q=>⟨Q.1,Q.2⟩) ?_
   refine ZbR (fun nn ss ff=>∃ (i:Nat) (zs:List Nat),ss=ofL [(4, .v (.slice none 0 0)),(5, .v (.int .i64 ((k / 64:Nat):Int))),(6, .v (.int .u64 ((k % 64:Nat):Int))),(7, .v (.slice (some ⟨r12,0,none⟩) (xs.length + (k / 64) + 1) (xs.length + (k / 64) + 1))),(29, .v (.slice A xs.length c)),(30, .v (.int .i64 ((xs.length:Nat):Int))),(31, .v (.int .i64 ((i:Nat):Int)))] []∧ff=(fun w=>(Box (fun j=>r12≤j) w (fun w=>(Zal w (.slice A xs.length c) (val W64 xs)∧Zae .u64 w A (xs)))∧Own .u64 94 w r12 (zs)))∧(ZdN xs (k / 64) (k % 64) i zs)∧(i≤xs.length)∧nn=(xs.length - i)) ((xs.length - 0)) ⟨0,(List.replicate (xs.length + (k / 64) + 1) 0),rfl,rfl,ZdN.start xs (k / 64) (k % 64),by omega,rfl⟩ ?_
   rintro nn ss ff ⟨i,zs,rfl,rfl,HR,hi,rfl⟩
   refine Zac (Zab (xq 1 [(32, .v (.bool (decide (((i:Nat):Int) < ((xs.length:Nat):Int)))))] [] ?_))
   refine xe (Zaa (Zac ?_))
   refine ZaA ((decide (((i:Nat):Int) < ((xs.length:Nat):Int)))) (by kernel_rfl) (fun hb13=>?_) (fun hb13=>?_)
   ·have hb13':=of_decide_eq_true hb13
    have hzl:=HR.1
    refine Zap (Zaa (Zac (ZaO (Zac (Zab (xq 1 [(33, .v (.int .i64 ((i:Nat):Int)))] [] ?_))))))
    refine xqk 34 (atA A i) (fun w R Q=>Za1 (t:=77) (e:=94) (x:=(Operand.tmp 29)) (ix:=(Operand.tmp 31)) (len:=xs.length) (cap:=c) (i:=i) (((Q.1).self.2).ne (j:=i) (by omega)) (by omega)) ?_
    obtain ⟨x14,hx14⟩:∃ x,xs[i]?.getD 0=x:=⟨_,rfl⟩
    refine xqk 35 (.int .u64 ((x14:Nat):Int)) (fun w R Q=>by rw [← hx14]; exact Zbb (t:=94) (x:=(Operand.tmp 34)) ((Q.1).self.2) (j:=i) (by omega)) ?_
    refine xq 2 [(8, .v (.int .i64 ((i:Nat):Int))),(9, .v (.int .u64 ((x14:Nat):Int)))] [] ?_
    refine xe (Zaa (Zac (Zab (xq 4 [(36, .v (.slice (some ⟨r12,0,none⟩) (xs.length + (k / 64) + 1) (xs.length + (k / 64) + 1))),(39, .v (.int .i64 (IntKind.i64.wrap (((i:Nat):Int) + ((k / 64:Nat):Int)))))] [] ?_))))
    rw [show IntKind.i64.wrap ((((i:Nat):Int) + ((k / 64:Nat):Int)))=((i + (k / 64):Nat):Int) from by rw [IntKind.wrap_i64]; omega]
    refine xqk 40 (.pointer (some ⟨r12,i + (k / 64),none⟩)) (fun w R Q=>ZbP (t:=77) (e:=94) (x:=(Operand.tmp 36)) (ix:=(Operand.tmp 39)) (len:=(xs.length + (k / 64) + 1)) (cap:=(xs.length + (k / 64) + 1)) (i:=i + (k / 64)) (by omega)) ?_
    obtain ⟨x15,hx15⟩:∃ x,zs[i + (k / 64)]?.getD 0=x:=⟨_,rfl⟩
    refine xqk 41 (.int .u64 ((x15:Nat):Int)) (fun w R Q=>by rw [← hx15]; exact ZcR (t:=94) (x:=(Operand.tmp 40)) (Q.2) (j:=i + (k / 64)) (by omega)) ?_
    refine xq 2 [(42, .v (.int .u64 ((x14:Nat):Int))),(43, .v (.int .u64 ((k % 64:Nat):Int)))] [] ?_
    refine xqk 44 (.int .u64 ((x14 * 2 ^ (k % 64) % W64:Nat):Int)) (fun w R Q=>Znc (t:=94) (x:=(Operand.tmp 42)) (y:=(Operand.tmp 43)) (k:=103) (ky:=.u64) (a:=x14) (n:=(k % 64)) (by omega)) ?_
    have HS:=HR.step (k:=i) (by omega) (by omega) hx15 hx14 (by rw [← hx14]; exact hd.getD Zan _)
    refine xqk 45 (.int .u64 ((x15 + x14 * 2 ^ (k % 64) % W64:Nat):Int)) (fun w R Q=>ZsY (t:=94) (x:=(Operand.tmp 41)) (y:=(Operand.tmp 44)) (k:=94) (a:=x15) (b:=(x14 * 2 ^ (k % 64) % W64)) (by rw [← hx15]; exact HR.2.1.getD Zan _) (Nat.mod_lt _ Zan) (ZqK (by rw [← hx15]; exact HR.2.2.2) (by omega))) ?_
    refine xqk 46 (.pointer (some ⟨r12,i + (k / 64),none⟩)) (fun w R Q=>ZbP (t:=77) (e:=94) (x:=(Operand.tmp 36)) (ix:=(Operand.tmp 39)) (len:=(xs.length + (k / 64) + 1)) (cap:=(xs.length + (k / 64) + 1)) (i:=i + (k / 64)) (by omega)) ?_
    refine ZcL (t:=94) (x:=(Operand.tmp 46)) (y:=(Operand.tmp 45)) r12 (i + (k / 64)) (x15 + x14 * 2 ^ (k % 64) % W64) (fun w=>(Box (fun j=>r12≤j) w (fun w=>(Zal w (.slice A xs.length c) (val W64 xs)∧Zae .u64 w A (xs)))∧Own .u64 94 w r12 ((zs).set (i + (k / 64)) (x15 + x14 * 2 ^ (k % 64) % W64)))) (fun w Q=>Q.2) (by omega) (Or.inl hr12) (fun w w' Q hF hO=>⟨((Q.1).fr (hF.mono (fun _ _ e=>by rw [e]; exact Nat.le_refl _))),hO⟩) ?_
    refine xe (Zaa (Zab (xq 4 [(47, .v (.slice (some ⟨r12,0,none⟩) (xs.length + (k / 64) + 1) (xs.length + (k / 64) + 1))),(50, .v (.int .i64 (IntKind.i64.wrap (((i:Nat):Int) + ((k / 64:Nat):Int)))))] [] ?_)))
    rw [show IntKind.i64.wrap ((((i:Nat):Int) + ((k / 64:Nat):Int)))=((i + (k / 64):Nat):Int) from by rw [IntKind.wrap_i64]; omega]
    refine xq 1 [(51, .v (.int .i64 (IntKind.i64.wrap (((i + (k / 64):Nat):Int) + 1))))] [] ?_
    rw [show IntKind.i64.wrap ((((i + (k / 64):Nat):Int) + 1))=((i + (k / 64) + 1:Nat):Int) from by rw [IntKind.wrap_i64]; omega]
    refine xq 3 [(52, .v (.int .u64 ((x14:Nat):Int))),(54, .v (.int .u64 (IntKind.u64.wrap (64 - ((k % 64:Nat):Int)))))] [] ?_
    rw [show IntKind.u64.wrap ((64 - ((k % 64:Nat):Int)))=((64 - (k % 64):Nat):Int) from by rw [IntKind.wrap_u64]; have:=Zam; omega]
    refine xqk 55 (.int .u64 ((x14 / 2 ^ (64 - (k % 64)):Nat):Int)) (fun w R Q=>Znb (t:=94) (x:=(Operand.tmp 52)) (y:=(Operand.tmp 54)) (k:=103) (ky:=.u64) (a:=x14) (n:=(64 - (k % 64))) (by omega)) ?_
    refine xqk 56 (.pointer (some ⟨r12,i + (k / 64) + 1,none⟩)) (fun w R Q=>ZbP (t:=77) (e:=94) (x:=(Operand.tmp 47)) (ix:=(Operand.tmp 51)) (len:=(xs.length + (k / 64) + 1)) (cap:=(xs.length + (k / 64) + 1)) (i:=i + (k / 64) + 1) (by omega)) ?_
    refine ZcL (t:=94) (x:=(Operand.tmp 56)) (y:=(Operand.tmp 55)) r12 (i + (k / 64) + 1) (x14 / 2 ^ (64 - (k % 64))) (fun w=>(Box (fun j=>r12≤j) w (fun w=>(Zal w (.slice A xs.length c) (val W64 xs)∧Zae .u64 w A (xs)))∧Own .u64 94 w r12 (((zs).set (i + (k / 64)) (x15 + x14 * 2 ^ (k % 64) % W64)).set (i + (k / 64) + 1) (x14 / 2 ^ (64 - (k % 64)))))) (fun w Q=>Q.2) (by simp only [List.length_set]; omega) (Or.inl hr12) (fun w w' Q hF hO=>⟨((Q.1).fr (hF.mono (fun _ _ e=>by rw [e]; exact Nat.le_refl _))),hO⟩) ?_
    refine xe (ZbK (Zaa (Zab (xq 1 [(57, .v (.int .i64 (IntKind.i64.wrap (((i:Nat):Int) + 1))))] [] ?_))))
    rw [show IntKind.i64.wrap ((((i:Nat):Int) + 1))=((i + 1:Nat):Int) from by rw [IntKind.wrap_i64]; omega]
    refine xq 1 [(31, .v (.int .i64 ((i + 1:Nat):Int)))] [] ?_
    refine xe ?_
    refine SXq.weak [(4, .v (.slice none 0 0)),(5, .v (.int .i64 ((k / 64:Nat):Int))),(6, .v (.int .u64 ((k % 64:Nat):Int))),(7, .v (.slice (some ⟨r12,0,none⟩) (xs.length + (k / 64) + 1) (xs.length + (k / 64) + 1))),(29, .v (.slice A xs.length c)),(30, .v (.int .i64 ((xs.length:Nat):Int))),(31, .v (.int .i64 (((i + 1):Nat):Int)))] [] (Ψ:=fun w=>(Box (fun j=>r12≤j) w (fun w=>(Zal w (.slice A xs.length c) (val W64 xs)∧Zae .u64 w A (xs)))∧Own .u64 94 w r12 ((((zs).set (i + (k / 64)) (x15 + x14 * 2 ^ (k % 64) % W64)).set (i + (k / 64) + 1) (x14 / 2 ^ (64 - (k % 64))))))) (ZaG.of (by kernel_rfl)) (by kernel_rfl) (fun w Q=>⟨Q.1,Q.2⟩) ?_
    exact Zbc ((xs.length - (i + 1))) (by omega) ⟨(i + 1),(((zs).set (i + (k / 64)) (x15 + x14 * 2 ^ (k % 64) % W64)).set (i + (k / 64) + 1) (x14 / 2 ^ (64 - (k % 64)))),rfl,rfl,HS.1,by omega,rfl⟩
   ·have hb13':=of_decide_eq_false hb13
    have hzl:=HR.1
    obtain rfl:i=xs.length:=by omega
    have HD:=HR.done
    rw [show 64 * (k / 64) + k % 64=k by omega] at HD
    refine Zbp (Zax (Zax (ZbA (Zaa (Zac (Zab (xq 1 [(58, .v (.slice (some ⟨r12,0,none⟩) (xs.length + (k / 64) + 1) (xs.length + (k / 64) + 1)))] [] ?_)))))))
    refine xqc 106 [.slice (some ⟨r12,0,none⟩) (xs.length + (k / 64) + 1) (xs.length + (k / 64) + 1)] 59 Za7 _ (fun w R Q=>(Zh5 Q.2 HR.2.1 HR.1 HD (by omega)).mono (fun _ _=>Zbd)) (fun xx=>?_)
    obtain ⟨A16,l16,c16⟩:=xx
    refine xq 1 [eS1 4 A16 l16 c16] [] ?_
    refine xe (Zaa (Zaj ?_))
    refine Zaf (v:=.slice A16 l16 c16) (by kernel_rfl) (fun w' R Q=>?_)
    exact ⟨_,rfl,Q.2,R⟩
theorem Zq9 (A:Option Addr) (xs:List Nat) (c k:Nat) (w:World) (hN:Zal w (.slice A xs.length c) (val W64 xs)) (hX:Zae .u64 w A xs) (hl:xs.length≤4294967296) (hd:Dig W64 xs) (hk:k≤274877906944) :
 Calls Tryz.prog 128 #[.slice A xs.length c, .int .i64 ((k:Nat):Int)] w (Zbj w (val W64 xs / 2 ^ k)):=by
 refine Zaz (Φ:=fun w=>(Zal w (.slice A xs.length c) (val W64 xs)∧Zae .u64 w A xs)) Tryz.func128 rfl (by kernel_rfl) (fun w' hf=>⟨hN.ext hf,hX.ext hf⟩) ?_
 refine Zac (Zab (xq 1 [eS1 4 none 0 0] [] ?_))
 refine xe (Zaa (Zac (Zab (xq 2 [(10, .v (.int .i64 (IntKind.i64.wrap ((((k:Nat):Int)).tdiv 64))))] [] ?_))))
 rw [show IntKind.i64.wrap (((((k:Nat):Int)).tdiv 64))=((k / 64:Nat):Int) from tdq (k) 64 (by omega)]
 refine xq 2 [(12, .v (.int .i64 ((((k:Nat):Int)).tmod 64)))] [] ?_
 rw [show (((k:Nat):Int)).tmod 64=((k % 64:Nat):Int) from tdr (k) 64]
 refine xq 1 [(13, .v (.int .u64 (IntKind.u64.wrap (((k % 64:Nat):Int)))))] [] ?_
 rw [show IntKind.u64.wrap (((k % 64:Nat):Int))=((k % 64:Nat):Int) from by rw [IntKind.wrap_u64]; omega]
 refine xq 2 [(5, .v (.int .i64 ((k / 64:Nat):Int))),(6, .v (.int .u64 ((k % 64:Nat):Int)))] [] ?_
 refine xe (Zaa (Zac (Zac (Zab (xq 4 [(17, .v (.bool (decide (((k / 64:Nat):Int) ≥ ((xs.length:Nat):Int)))))] [] ?_)))))
 refine xe (Zaa ?_)
 refine ZaA ((decide (((k / 64:Nat):Int) ≥ ((xs.length:Nat):Int)))) (by kernel_rfl) (fun hb10=>?_) (fun hb10=>?_)
 ·have hb10':=of_decide_eq_true hb10
  refine Zac (Zab (xq 1 [eS1 4 none 0 0] [] ?_))
  refine xe (Zaa (Zaj (Zak ?_)))
  refine Zaf (v:=.slice none 0 0) (by kernel_rfl) (fun w' R Q=>?_)
  exact ⟨_,rfl,by rw [Zjw hd (by omega)]; exact Zal.zero _,R⟩
 ·have hb10':=of_decide_eq_false hb10
  refine Zap (Zaa (Zac (Zac (Zab (xq 2 [(19, .v (.bool ((((k:Nat):Int):Int) == 0)))] [] ?_)))))
  refine xe (Zaa ?_)
  refine ZaA (((((k:Nat):Int):Int) == 0)) (by kernel_rfl) (fun hb11=>?_) (fun hb11=>?_)
  ·have hb11':=beq_iff_eq.1 hb11
   refine Zac (Zab (xq 2 [eS1 4 A xs.length c] [] ?_))
   refine xe (Zaa (Zaj (Zak ?_)))
   refine Zaf (v:=.slice A xs.length c) (by kernel_rfl) (fun w' R Q=>?_)
   exact ⟨_,rfl,by obtain rfl:k=0:=(by omega); rw [Nat.pow_zero,Nat.div_one]; exact Q.1,R⟩
  ·have hb11':=ZbS hb11
   refine Zap (Zaa (Zac (Zab (xq 4 [(24, .v (.int .i64 (IntKind.i64.wrap (((xs.length:Nat):Int) - ((k / 64:Nat):Int)))))] [] ?_))))
   rw [show IntKind.i64.wrap ((((xs.length:Nat):Int) - ((k / 64:Nat):Int)))=((xs.length - (k / 64):Nat):Int) from by rw [IntKind.wrap_i64]; omega]
   refine ZiL (d:=25) (t:=77) (e:=94) (k:=.u64) (kl:=.i64) (kc:=.i64) (l:=(Operand.tmp 24)) (c:=(Operand.tmp 24)) (xs.length - (k / 64)) 8 (by omega) (by decide) (fun r12 hr12 _=>?_)
   refine xr 1 [eS1 0 A xs.length c,eS1 4 none 0 0,(5, .v (.int .i64 ((k / 64:Nat):Int))),(6, .v (.int .u64 ((k % 64:Nat):Int))),(7, .v (.slice (some ⟨r12,0,none⟩) (xs.length - (k / 64)) (xs.length - (k / 64))))] [] ?_
   refine xe (Zaa (Zac (Zac (Zab (xq 3 [(27, .v (.int .i64 ((xs.length - (k / 64):Nat):Int))),(28, .v (.int .i64 0))] [] ?_)))))
   refine xe (Zaa (ZaO ?_))
   refine SXc.weak [(0, .v (.slice A xs.length c)),(4, .v (.slice none 0 0)),(5, .v (.int .i64 ((k / 64:Nat):Int))),(6, .v (.int .u64 ((k % 64:Nat):Int))),(7, .v (.slice (some ⟨r12,0,none⟩) (xs.length - (k / 64)) (xs.length - (k / 64)))),(27, .v (.int .i64 ((xs.length - (k / 64):Nat):Int))),(28, .v (.int .i64 ((0:Nat):Int)))] [] (Ψ:=fun w=>(Box (fun j=>r12≤j) w (fun w=>(Zal w (.slice A xs.length c) (val W64 xs)∧Zae .u64 w A (xs)))∧Own .u64 94 w r12 ((List.replicate (xs.length - (k / 64)) 0)))) (ZaG.of (by kernel_rfl)) (by kernel_rfl) (fun w Q=>⟨Q.1,Q.2⟩) ?_
   refine ZbR (fun nn ss ff=>∃ (i:Nat) (zs:List Nat),ss=ofL [(0, .v (.slice A xs.length c)),(4, .v (.slice none 0 0)),(5, .v (.int .i64 ((k / 64:Nat):Int))),(6, .v (.int .u64 ((k % 64:Nat):Int))),(7, .v (.slice (some ⟨r12,0,none⟩) (xs.length - (k / 64)) (xs.length - (k / 64)))),(27, .v (.int .i64 ((xs.length - (k / 64):Nat):Int))),(28, .v (.int .i64 ((i:Nat):Int)))] []∧ff=(fun w=>(Box (fun j=>r12≤j) w (fun w=>(Zal w (.slice A xs.length c) (val W64 xs)∧Zae .u64 w A (xs)))∧Own .u64 94 w r12 (zs)))∧(ZdO (xs.drop (k / 64)) (k % 64) i zs)∧(i≤xs.length - k / 64)∧nn=(xs.length - k / 64 - i)) ((xs.length - k / 64 - 0)) ⟨0,(List.replicate (xs.length - (k / 64)) 0),rfl,rfl,(by have:=ZdO.start (xs.drop (k / 64)) (k % 64); rwa [List.length_drop] at this),by omega,rfl⟩ ?_
   rintro nn ss ff ⟨i,zs,rfl,rfl,HR,hi,rfl⟩
   refine Zac (Zab (xq 1 [(29, .v (.bool (decide (((i:Nat):Int) < ((xs.length - (k / 64):Nat):Int)))))] [] ?_))
   refine xe (Zaa (Zac ?_))
   refine ZaA ((decide (((i:Nat):Int) < ((xs.length - (k / 64):Nat):Int)))) (by kernel_rfl) (fun hb13=>?_) (fun hb13=>?_)
   ·have hb13':=of_decide_eq_true hb13
    have hzl:zs.length=xs.length - k / 64:=by rw [HR.1,List.length_drop]
    refine Zap (Zaa (Zac (ZaO (Zac (Zab (xq 2 [(8, .v (.int .i64 ((i:Nat):Int)))] [] ?_))))))
    refine xe (Zaa (Zac (Zab (xq 6 [(31, .v (.slice (some ⟨r12,0,none⟩) (xs.length - (k / 64)) (xs.length - (k / 64)))),(32, .v (.int .i64 ((i:Nat):Int))),eS1 33 A xs.length c,(36, .v (.int .i64 (IntKind.i64.wrap (((i:Nat):Int) + ((k / 64:Nat):Int)))))] [] ?_))))
    rw [show IntKind.i64.wrap ((((i:Nat):Int) + ((k / 64:Nat):Int)))=((i + (k / 64):Nat):Int) from by rw [IntKind.wrap_i64]; omega]
    refine xqk 37 (atA A (i + (k / 64))) (fun w R Q=>Za1 (t:=77) (e:=94) (x:=(Operand.tmp 33)) (ix:=(Operand.tmp 36)) (len:=xs.length) (cap:=c) (i:=i + (k / 64)) (((Q.1).self.2).ne (j:=i + (k / 64)) (by omega)) (by omega)) ?_
    obtain ⟨x14,hx14⟩:∃ x,xs[i + (k / 64)]?.getD 0=x:=⟨_,rfl⟩
    refine xqk 38 (.int .u64 ((x14:Nat):Int)) (fun w R Q=>by rw [← hx14]; exact Zbb (t:=94) (x:=(Operand.tmp 37)) ((Q.1).self.2) (j:=i + (k / 64)) (by omega)) ?_
    refine xq 1 [(39, .v (.int .u64 ((k % 64:Nat):Int)))] [] ?_
    refine xqk 40 (.int .u64 ((x14 / 2 ^ (k % 64):Nat):Int)) (fun w R Q=>Znb (t:=94) (x:=(Operand.tmp 38)) (y:=(Operand.tmp 39)) (k:=103) (ky:=.u64) (a:=x14) (n:=(k % 64)) (by omega)) ?_
    refine xqk 41 (.pointer (some ⟨r12,i,none⟩)) (fun w R Q=>ZbP (t:=77) (e:=94) (x:=(Operand.tmp 31)) (ix:=(Operand.tmp 32)) (len:=(xs.length - (k / 64))) (cap:=(xs.length - (k / 64))) (i:=i) (by omega)) ?_
    refine ZcL (t:=94) (x:=(Operand.tmp 41)) (y:=(Operand.tmp 40)) r12 (i) (x14 / 2 ^ (k % 64)) (fun w=>(Box (fun j=>r12≤j) w (fun w=>(Zal w (.slice A xs.length c) (val W64 xs)∧Zae .u64 w A (xs)))∧Own .u64 94 w r12 ((zs).set (i) (x14 / 2 ^ (k % 64))))) (fun w Q=>Q.2) (by omega) (Or.inl hr12) (fun w w' Q hF hO=>⟨((Q.1).fr (hF.mono (fun _ _ e=>by rw [e]; exact Nat.le_refl _))),hO⟩) ?_
    refine xe (Zaa (Zac (Zab (xq 3 [(44, .v (.int .i64 (IntKind.i64.wrap (((i:Nat):Int) + ((k / 64:Nat):Int)))))] [] ?_))))
    rw [show IntKind.i64.wrap ((((i:Nat):Int) + ((k / 64:Nat):Int)))=((i + (k / 64):Nat):Int) from by rw [IntKind.wrap_i64]; omega]
    refine xq 1 [(45, .v (.int .i64 (IntKind.i64.wrap (((i + (k / 64):Nat):Int) + 1))))] [] ?_
    rw [show IntKind.i64.wrap ((((i + (k / 64):Nat):Int) + 1))=((i + (k / 64) + 1:Nat):Int) from by rw [IntKind.wrap_i64]; omega]
    refine xq 3 [(48, .v (.bool (decide (((i + (k / 64) + 1:Nat):Int) < ((xs.length:Nat):Int)))))] [] ?_
    refine xe (Zaa ?_)
    refine ZaA ((decide (((i + (k / 64) + 1:Nat):Int) < ((xs.length:Nat):Int)))) (by kernel_rfl) (fun hb15=>?_) (fun hb15=>?_)
    ·have hb15':=of_decide_eq_true hb15
     refine ZcI 16 [0,0,3,7,0,0,0,96,224,496,1008,0,2048,8176,16383,32767] (by kernel_rfl) (by kernel_rfl) Zah ?_
     refine xqf 2 [(49, .v (.slice (some ⟨r12,0,none⟩) (xs.length - (k / 64)) (xs.length - (k / 64)))),(50, .v (.int .i64 ((i:Nat):Int)))] [] ?_
     refine xqj 51 (.pointer (some ⟨r12,i,none⟩)) (fun w Q=>ZbP (t:=77) (e:=94) (x:=(Operand.tmp 49)) (ix:=(Operand.tmp 50)) (len:=(xs.length - (k / 64))) (cap:=(xs.length - (k / 64))) (i:=i) (by omega)) ?_
     obtain ⟨x16,hx16⟩:∃ x,((zs).set (i) (x14 / 2 ^ (k % 64)))[i]?.getD 0=x:=⟨_,rfl⟩
     refine xqj 52 (.int .u64 ((x16:Nat):Int)) (fun w Q=>by rw [← hx16]; exact ZcR (t:=94) (x:=(Operand.tmp 51)) (Q.2) (j:=i) (by simp only [List.length_set]; omega)) ?_
     obtain rfl:x16=x14 / 2 ^ (k % 64):=by rw [← hx16,List.getElem?_set_self (by omega)]; rfl
     refine xqf 4 [eS1 53 A xs.length c,(56, .v (.int .i64 (IntKind.i64.wrap (((i:Nat):Int) + ((k / 64:Nat):Int)))))] [] ?_
     rw [show IntKind.i64.wrap ((((i:Nat):Int) + ((k / 64:Nat):Int)))=((i + (k / 64):Nat):Int) from by rw [IntKind.wrap_i64]; omega]
     refine xqf 1 [(57, .v (.int .i64 (IntKind.i64.wrap (((i + (k / 64):Nat):Int) + 1))))] [] ?_
     rw [show IntKind.i64.wrap ((((i + (k / 64):Nat):Int) + 1))=((i + (k / 64) + 1:Nat):Int) from by rw [IntKind.wrap_i64]; omega]
     refine xqj 58 (atA A (i + (k / 64) + 1)) (fun w Q=>Za1 (t:=77) (e:=94) (x:=(Operand.tmp 53)) (ix:=(Operand.tmp 57)) (len:=xs.length) (cap:=c) (i:=i + (k / 64) + 1) (((Q.1).self.2).ne (j:=i + (k / 64) + 1) (by omega)) (by omega)) ?_
     obtain ⟨x17,hx17⟩:∃ x,xs[i + (k / 64) + 1]?.getD 0=x:=⟨_,rfl⟩
     refine xqj 59 (.int .u64 ((x17:Nat):Int)) (fun w Q=>by rw [← hx17]; exact Zbb (t:=94) (x:=(Operand.tmp 58)) ((Q.1).self.2) (j:=i + (k / 64) + 1) (by omega)) ?_
     refine xqf 2 [(61, .v (.int .u64 (IntKind.u64.wrap (64 - ((k % 64:Nat):Int)))))] [] ?_
     rw [show IntKind.u64.wrap ((64 - ((k % 64:Nat):Int)))=((64 - (k % 64):Nat):Int) from by rw [IntKind.wrap_u64]; have:=Zam; omega]
     refine xqj 62 (.int .u64 ((x17 * 2 ^ (64 - (k % 64)) % W64:Nat):Int)) (fun w Q=>Znc (t:=94) (x:=(Operand.tmp 59)) (y:=(Operand.tmp 61)) (k:=103) (ky:=.u64) (a:=x17) (n:=(64 - (k % 64))) (by omega)) ?_
     have HS:=HR.step (k:=i) (x:=x14) (y:=x17) (by omega) (by rw [List.length_drop]; omega) (by rw [List.getElem?_drop,Nat.add_comm]; exact hx14) (by rw [List.getElem?_drop,show k / 64 + (i + 1)=i + k / 64 + 1 by omega]; exact hx17) (by rw [← hx14]; exact hd.getD Zan _)
     refine xqj 63 (.int .u64 ((x14 / 2 ^ (k % 64) + x17 % 2 ^ (k % 64) * 2 ^ (64 - k % 64):Nat):Int)) (fun w Q=>ZsY (t:=94) (x:=(Operand.tmp 52)) (y:=(Operand.tmp 62)) (k:=94) (a:=((x14 / 2 ^ (k % 64)))) (b:=(x17 * 2 ^ (64 - (k % 64)) % W64)) (Nat.lt_of_le_of_lt (Nat.div_le_self _ _) (by rw [← hx14]; exact hd.getD Zan _)) (Nat.mod_lt _ Zan) (ZqL (by omega) (by rw [← hx14]; exact hd.getD Zan _))) ?_
     refine xqj 64 (.pointer (some ⟨r12,i,none⟩)) (fun w Q=>ZbP (t:=77) (e:=94) (x:=(Operand.tmp 49)) (ix:=(Operand.tmp 50)) (len:=(xs.length - (k / 64))) (cap:=(xs.length - (k / 64))) (i:=i) (by omega)) ?_
     refine xz ?_
     refine ZcL (t:=94) (x:=(Operand.tmp 64)) (y:=(Operand.tmp 63)) r12 (i) (x14 / 2 ^ (k % 64) + x17 % 2 ^ (k % 64) * 2 ^ (64 - k % 64)) (fun w=>(Box (fun j=>r12≤j) w (fun w=>(Zal w (.slice A xs.length c) (val W64 xs)∧Zae .u64 w A (xs)))∧Own .u64 94 w r12 (((zs).set (i) (x14 / 2 ^ (k % 64))).set (i) (x14 / 2 ^ (k % 64) + x17 % 2 ^ (k % 64) * 2 ^ (64 - k % 64))))) (fun w Q=>Q.2) (by simp only [List.length_set]; omega) (Or.inl hr12) (fun w w' Q hF hO=>⟨((Q.1).fr (hF.mono (fun _ _ e=>by rw [e]; exact Nat.le_refl _))),hO⟩) ?_
     refine xe (ZbK (Zaa (Zab (xq 1 [(65, .v (.int .i64 (IntKind.i64.wrap (((i:Nat):Int) + 1))))] [] ?_))))
     rw [show IntKind.i64.wrap ((((i:Nat):Int) + 1))=((i + 1:Nat):Int) from by rw [IntKind.wrap_i64]; omega]
     refine xr 1 [eS1 0 A xs.length c,eS1 4 none 0 0,(5, .v (.int .i64 ((k / 64:Nat):Int))),(6, .v (.int .u64 ((k % 64:Nat):Int))),(7, .v (.slice (some ⟨r12,0,none⟩) (xs.length - (k / 64)) (xs.length - (k / 64)))),(27, .v (.int .i64 ((xs.length - (k / 64):Nat):Int))),(28, .v (.int .i64 ((i + 1:Nat):Int)))] [] ?_
     refine xe ?_
     refine SXq.weak [(0, .v (.slice A xs.length c)),(4, .v (.slice none 0 0)),(5, .v (.int .i64 ((k / 64:Nat):Int))),(6, .v (.int .u64 ((k % 64:Nat):Int))),(7, .v (.slice (some ⟨r12,0,none⟩) (xs.length - (k / 64)) (xs.length - (k / 64)))),(27, .v (.int .i64 ((xs.length - (k / 64):Nat):Int))),(28, .v (.int .i64 (((i + 1):Nat):Int)))] [] (Ψ:=fun w=>(Box (fun j=>r12≤j) w (fun w=>(Zal w (.slice A xs.length c) (val W64 xs)∧Zae .u64 w A (xs)))∧Own .u64 94 w r12 ((((zs).set (i) (x14 / 2 ^ (k % 64))).set (i) (x14 / 2 ^ (k % 64) + x17 % 2 ^ (k % 64) * 2 ^ (64 - k % 64)))))) (ZaG.of (by kernel_rfl)) (by kernel_rfl) (fun w Q=>⟨Q.1,Q.2⟩) ?_
     exact Zbc ((xs.length - k / 64 - (i + 1))) (by omega) ⟨(i + 1),(((zs).set (i) (x14 / 2 ^ (k % 64))).set (i) (x14 / 2 ^ (k % 64) + x17 % 2 ^ (k % 64) * 2 ^ (64 - k % 64))),rfl,rfl,(by rw [List.set_set]; exact HS),by omega,rfl⟩
    ·have hb15':=of_decide_eq_false hb15
     have HS:=HR.step (k:=i) (x:=x14) (y:=0) (by omega) (by rw [List.length_drop]; omega) (by rw [List.getElem?_drop,Nat.add_comm]; exact hx14) (by rw [List.getElem?_drop,List.getElem?_eq_none (by omega)]; rfl) (by rw [← hx14]; exact hd.getD Zan _)
     rw [Nat.zero_mod,Nat.zero_mul,Nat.add_zero] at HS
     refine Zap (ZbK (Zaa (Zab (xq 1 [(65, .v (.int .i64 (IntKind.i64.wrap (((i:Nat):Int) + 1))))] [] ?_))))
     rw [show IntKind.i64.wrap ((((i:Nat):Int) + 1))=((i + 1:Nat):Int) from by rw [IntKind.wrap_i64]; omega]
     refine xq 1 [(28, .v (.int .i64 ((i + 1:Nat):Int)))] [] ?_
     refine xe ?_
     refine SXq.weak [(0, .v (.slice A xs.length c)),(4, .v (.slice none 0 0)),(5, .v (.int .i64 ((k / 64:Nat):Int))),(6, .v (.int .u64 ((k % 64:Nat):Int))),(7, .v (.slice (some ⟨r12,0,none⟩) (xs.length - (k / 64)) (xs.length - (k / 64)))),(27, .v (.int .i64 ((xs.length - (k / 64):Nat):Int))),(28, .v (.int .i64 (((i + 1):Nat):Int)))] [] (Ψ:=fun w=>(Box (fun j=>r12≤j) w (fun w=>(Zal w (.slice A xs.length c) (val W64 xs)∧Zae .u64 w A (xs)))∧Own .u64 94 w r12 (((zs).set (i) (x14 / 2 ^ (k % 64)))))) (ZaG.of (by kernel_rfl)) (by kernel_rfl) (fun w Q=>⟨Q.1,Q.2⟩) ?_
     exact Zbc ((xs.length - k / 64 - (i + 1))) (by omega) ⟨(i + 1),((zs).set (i) (x14 / 2 ^ (k % 64))),rfl,rfl,HS,by omega,rfl⟩
   ·have hb13':=of_decide_eq_false hb13
    have hzl:zs.length=xs.length - k / 64:=by rw [HR.1,List.length_drop]
    obtain rfl:i=xs.length - k / 64:=by omega
    have HD:=HR
    rw [← List.length_drop] at HD
    replace HD:=HD.done
    rw [ZkV xs (k / 64) (k % 64) hd (by omega),show 64 * (k / 64) + k % 64=k by omega] at HD
    refine Zbp (Zax (Zax (ZbA (Zaa (Zac (Zab (xq 1 [(66, .v (.slice (some ⟨r12,0,none⟩) (xs.length - (k / 64)) (xs.length - (k / 64))))] [] ?_)))))))
    refine xqc 106 [.slice (some ⟨r12,0,none⟩) (xs.length - (k / 64)) (xs.length - (k / 64))] 67 Za7 _ (fun w R Q=>(Zh5 Q.2 HR.2.1 hzl HD (by omega)).mono (fun _ _=>Zbd)) (fun xx=>?_)
    obtain ⟨A18,l18,c18⟩:=xx
    refine xq 1 [eS1 4 A18 l18 c18] [] ?_
    refine xe (Zaa (Zaj ?_))
    refine Zaf (v:=.slice A18 l18 c18) (by kernel_rfl) (fun w' R Q=>?_)
    exact ⟨_,rfl,Q.2,R⟩
end Go.Proofs.YtklpdkpcocnglaaGreatDoor

namespace Go.Proofs.YtklpdkpcocnglaaGreatDoor
open Go.RowKit
theorem Zc9 (neg:Bool) (u:Value) (n:Nat) (w:World) (hu:Zar w u n):Calls Tryz.prog 61 #[.bool neg,u] w (Zba w (sg neg n)):=by
 refine (ZbQ neg u n w hu).mono ?_
 rintro e w1 ⟨s,rfl,hs,hF⟩
 exact ⟨_,rfl,Zai.signed (hu.ext hF) hs.out,hF⟩
theorem Zai.opn {w:World} {s:Bool} {A:Option Addr} {l c:Nat} {z:Int} (h:Zai w (.agg #[.bool s, .slice A l c]) z):Zar w (.slice A l c) z.natAbs∧z=sg s z.natAbs∧(z=0→s=false):=by
 obtain ⟨s',A',l',c',he,h1,h2,h3⟩:=h.open
 injection he with he
 simp at he
 obtain ⟨rfl,rfl,rfl,rfl⟩:=he
 exact ⟨h1,h2,h3⟩
theorem Zai.mag {w:World} {s:Bool} {A:Option Addr} {l c:Nat} {z:Int} (h:Zai w (.agg #[.bool s, .slice A l c]) z):Zar w (.slice A l c) z.natAbs:=h.opn.1
theorem Zuj {w:World} {s:Bool} {A:Option Addr} {l c:Nat} {z:Int} (h:Zai w (.agg #[.bool s, .slice A l c]) z):sg (!s) z.natAbs = -z:=by
 obtain ⟨_,h2,h3⟩:=h.opn
 cases s<;>simp [sg] at *<;>omega
theorem ZaM.neg {x:Int} (h:ZaM x):ZaM (-x):=by
 unfold ZaM at *; rw [Int.natAbs_neg]; exact h
theorem ZfD {fn:Func} {t:Tmp} {tmps:Array Value} {w w':World} {r:Nat} {x y:Value} {z:Int} (hres:fn.results=#[.cell t 32]) (ht:tmps[t]? = some (.pointer (some ⟨r,0,none⟩)))
 (hB:Blk 32 w' r #[x,y]) (hI:Zai w' (.agg #[x,y]) z) (Q:Ext w w'):bodyPost Tryz.prog fn (Zba w z) .ret ⟨tmps,[]⟩ w' :=
 bodyPost_ret (Ze7 hres _ _ r _ _ ht hB) rfl ⟨_,rfl,hI,Q⟩
theorem Zai.sneg {w:World} {s:Bool} {A:Option Addr} {l c:Nat} {z:Int} (h:Zai w (.agg #[.bool s, .slice A l c]) z) (hz:z < 0):s=true:=by
 obtain ⟨_,h2,h3⟩:=h.opn
 cases s with
 | true=>rfl
 | false=>simp [sg] at h2; omega
theorem Zai.spos {w:World} {s:Bool} {A:Option Addr} {l c:Nat} {z:Int} (h:Zai w (.agg #[.bool s, .slice A l c]) z) (hz:0≤z):s=false:=by
 obtain ⟨_,h2,h3⟩:=h.opn
 cases s with
 | false=>rfl
 | true=>simp [sg] at h2; exact h3 (by omega)
theorem Zai.len0 {w:World} {s:Bool} {A:Option Addr} {l c:Nat} {z:Int} (h:Zai w (.agg #[.bool s, .slice A l c]) z) (hz:z=0):l=0:=by
 obtain ⟨h1,_,_⟩:=h.opn
 obtain ⟨A',xs,c',he,_,_,hd,ht,hv⟩:=h1
 injection he with _ he
 rw [hz] at hv
 have:=Zmf ht Zau hv
 rw [this] at he
 simpa using he
theorem Zai.lenp {w:World} {s:Bool} {A:Option Addr} {l c:Nat} {z:Int} (h:Zai w (.agg #[.bool s, .slice A l c]) z) (hz:z≠0):0 < l:=by
 obtain ⟨h1,_,_⟩:=h.opn
 obtain ⟨A',xs,c',he,_,_,hd,ht,hv⟩:=h1
 injection he with _ he
 rcases Nat.eq_zero_or_pos l with e | e
 ·rw [e] at he
  have:xs=[]:=List.length_eq_zero_iff.1 he.symm
  rw [this] at hv
  simp at hv
  omega
 ·exact e
theorem Zai.quo {w:World} {s t:Bool} {A B:Option Addr} {l c l' c':Nat} {x y:Int} (h:Zai w (.agg #[.bool s, .slice A l c]) x) (k:Zai w (.agg #[.bool t, .slice B l' c']) y):sg (s != t) (x.natAbs / y.natAbs)=x.tdiv y∧sg s (x.natAbs % y.natAbs)=x.tmod y:=by
 obtain ⟨_,h2,h3⟩:=h.opn
 obtain ⟨_,k2,k3⟩:=k.opn
 generalize x.natAbs=m at *
 generalize y.natAbs=n at *
 subst h2 k2
 cases s<;>cases t<;>simp [sg,Int.neg_tdiv,Int.tdiv_neg,Int.neg_tmod,Int.tmod_neg]<;>exact (Int.tmod_eq_emod_of_nonneg (by omega)).symm
def ZiM (w:World) (q r:Int) (e:Ending) (w':World):Prop:=∃ u v,e=.returned (.tuple #[u,v])∧Zai w' u q∧Zai w' v r∧Ext w w'
theorem Zsn {fn:Func} {t t':Tmp} {tmps:Array Value} {w w':World} {r r':Nat} {x y x' y':Value} {z z':Int} (hres:fn.results=#[.cell t 32, .cell t' 32]) (ht:tmps[t]? = some (.pointer (some ⟨r,0,none⟩))) (ht':tmps[t']? = some (.pointer (some ⟨r',0,none⟩)))
 (hB:Blk 32 w' r #[x,y]) (hB':Blk 32 w' r' #[x',y']) (hI:Zai w' (.agg #[x,y]) z) (hI':Zai w' (.agg #[x',y']) z') (Q:Ext w w'):bodyPost Tryz.prog fn (ZiM w z z') .ret ⟨tmps,[]⟩ w':=by
 obtain ⟨h0,h1,_⟩:=hB.cell2
 obtain ⟨k0,k1,_⟩:=hB'.cell2
 exact bodyPost_ret (v:=.tuple #[.agg #[x,y], .agg #[x',y']]) (by simp [results,hres,ht,ht',go_sem,h0,h1,k0,k1]) rfl ⟨_,_,rfl,hI,hI',Q⟩
theorem ZgP {q:Rat} (h:¬ q.den=1):denF q≠0:=by rw [ZcW h]; have:=q.den_nz; omega
set_option maxHeartbeats 2000000 in
theorem Zhf (a:Value) (x:Int) (w:World) (ha:Zai w a x) :
 Calls Tryz.prog 68 #[a] w (Zba w (-x)):=by
 obtain ⟨s1,A1,l1,c1,rfl⟩:=ha.shp
 have F2:Hid (Zai w (.agg #[.bool s1, .slice A1 l1 c1]) (x)):=ha
 clear ha
 have Hs:=zh (Zuj F2.out)
 go_enter Tryz.func68,Tryz.ntmps68
 go_wp2_with fail
 generalize hwb:World.alloc (World.alloc w _) _=w5
 obtain ⟨b_B3,b_B4,hE0⟩:=ZfC hwb
 clear hwb
 have B3:=zh b_B3
 have B4:=zh b_B4
 clear b_B3 b_B4
 replace F2:=zh (F2.out.ext hE0)
 have HE:=zh hE0
 clear hE0
 have F6:Hid (Zar w5 (.slice A1 l1 c1) ((x).natAbs)):=F2.out.mag
 refine (Zc9 ((!s1)) _ _ _ F6.out).mono ?_
 rintro e w7 ⟨_,rfl,hI,hF⟩
 obtain ⟨s8,A8,l8,c8,rfl⟩:=hI.shp
 replace B3:=zh (B3.out.ext hF)
 replace B4:=zh (B4.out.ext hF)
 replace F2:=zh (F2.out.ext hF)
 replace F6:=zh (F6.out.ext hF)
 replace HE:=zh (HE.out.trans hF)
 have F9:Hid (Zai w7 (.agg #[.bool s8, .slice A8 l8 c8]) (sg ((!s1)) ((x).natAbs))):=hI
 clear hF hI
 obtain ⟨c10_0,c10_1,f10_0,f10_1⟩:=B3.out.cell2
 obtain ⟨c11_0,c11_1,f11_0,f11_1⟩:=B4.out.cell2
 go_wp2
 clear c10_0 c10_1 f10_0 f10_1 c11_0 c11_1 f11_0 f11_1
 have hFs:Fr (fun i=>i=(w.heap.size + 1)) w7 ((w7.setCell ⟨(w.heap.size + 1),0,none⟩ (.bool s8)).setCell ⟨(w.heap.size + 1),1,none⟩ (.slice A8 l8 c8)):=(((Fr.refl (fun i=>i=(w.heap.size + 1)) _).setCell (p:=⟨(w.heap.size + 1),0,none⟩) (Or.inl rfl) _).setCell (p:=⟨(w.heap.size + 1),1,none⟩) (Or.inl rfl) _)
 replace F2:=zh (F2.out.oth B4.out Zbe hFs)
 replace F6:=zh (F6.out.oth B4.out Zbe hFs)
 replace F9:=zh (F9.out.oth B4.out Zbe hFs)
 replace B3:=zh (B3.out.fr hFs (by first | omega | (have:=B3.out.lt; have:=B4.out.lt; omega)))
 replace HE:=zh (HE.out.next hFs (fun i hi e=>by first | omega | (have:=HE.out.size; have:=B4.out.lt; omega)))
 have b_new:Blk 32 ((w7.setCell ⟨(w.heap.size + 1),0,none⟩ (.bool s8)).setCell ⟨(w.heap.size + 1),1,none⟩ (.slice A8 l8 c8)) (w.heap.size + 1) #[.bool s8, .slice A8 l8 c8]:=((B4.out.set_ 0 _).set_ 1 _)
 generalize ((w7.setCell ⟨(w.heap.size + 1),0,none⟩ (.bool s8)).setCell ⟨(w.heap.size + 1),1,none⟩ (.slice A8 l8 c8))=w12 at *
 replace B4:=zh b_new; clear b_new hFs
 exact ZfD rfl rfl B4.out (by have:=F9.out; rw [Hs.out] at this; exact this) HE.out
set_option maxHeartbeats 2000000 in
theorem Zso (a b:Value) (x y:Int) (w:World) (ha:Zai w a x) (hb:Zai w b y) (hx:ZaM x) (hy:ZaM y) :
 Calls Tryz.prog 160 #[a,b] w (Zba w (x - y)):=by
 obtain ⟨s1,A1,l1,c1,rfl⟩:=ha.shp
 have F2:Hid (Zai w (.agg #[.bool s1, .slice A1 l1 c1]) (x)):=ha
 clear ha
 obtain ⟨s3,A3,l3,c3,rfl⟩:=hb.shp
 have F4:Hid (Zai w (.agg #[.bool s3, .slice A3 l3 c3]) (y)):=hb
 clear hb
 have Hx:=zh hx
 have Hy:=zh hy
 clear hx hy
 go_enter Tryz.func160,Tryz.ntmps160
 go_wp2_with fail
 generalize hwb:World.alloc (World.alloc (World.alloc w _) _) _=w8
 obtain ⟨b_B5,b_B6,b_B7,hE0⟩:=Zla hwb
 clear hwb
 have B5:=zh b_B5
 have B6:=zh b_B6
 have B7:=zh b_B7
 clear b_B5 b_B6 b_B7
 replace F2:=zh (F2.out.ext hE0)
 replace F4:=zh (F4.out.ext hE0)
 have HE:=zh hE0
 clear hE0
 refine Zje 4 (fun W'=>Blk 32 W' w.heap.size #[.bool s1, .slice A1 l1 c1]∧Blk 32 W' (w.heap.size + 1) #[.bool s3, .slice A3 l3 c3]∧Blk 32 W' (w.heap.size + 1 + 1) #[.bool false, .slice none 0 0]) Zah ?_
 replace B5:=zh (B5.out.ext (Fr.refl _ _).drew)
 replace B6:=zh (B6.out.ext (Fr.refl _ _).drew)
 replace B7:=zh (B7.out.ext (Fr.refl _ _).drew)
 replace F2:=zh (F2.out.ext (Fr.refl _ _).drew)
 replace F4:=zh (F4.out.ext (Fr.refl _ _).drew)
 replace HE:=zh (HE.out.trans (Fr.refl _ _).drew)
 generalize w8.drew=w9 at *
 have hS:=(⟨B5.out,B6.out,B7.out⟩:(fun W'=>Blk 32 W' w.heap.size #[.bool s1, .slice A1 l1 c1]∧Blk 32 W' (w.heap.size + 1) #[.bool s3, .slice A3 l3 c3]∧Blk 32 W' (w.heap.size + 1 + 1) #[.bool false, .slice none 0 0]) w9)
 refine ZcH 0 rfl (by kernel_rfl) (fun _ _ _ h=>h) hS (fun _=>ZlJ (g:=w.heap.size) (off:=0) (x:=.bool s1) (y:=.slice A1 l1 c1) rfl rfl (by kernel_rfl) (fun _ h=>Blk.two (h.1) 0 rfl rfl)) (fun hS=>?_)
 refine ZcH 1 rfl (by kernel_rfl) (fun _ _ _ h=>h) hS (fun _=>ZlJ (g:=(w.heap.size + 1)) (off:=0) (x:=.bool s3) (y:=.slice A3 l3 c3) rfl rfl (by kernel_rfl) (fun _ h=>Blk.two (h.2.1) 0 rfl rfl)) (fun hS=>?_)
 refine Zg4 2 rfl (by kernel_rfl) rfl (fun K hK=>?_)
 go_simp
 clear hS
 refine (Zhf _ (y) _ F4.out).mono ?_
 rintro e w10 ⟨_,rfl,hI,hF⟩
 obtain ⟨s11,A11,l11,c11,rfl⟩:=hI.shp
 replace B5:=zh (B5.out.ext hF)
 replace B6:=zh (B6.out.ext hF)
 replace B7:=zh (B7.out.ext hF)
 replace F2:=zh (F2.out.ext hF)
 replace F4:=zh (F4.out.ext hF)
 replace HE:=zh (HE.out.trans hF)
 have F12:Hid (Zai w10 (.agg #[.bool s11, .slice A11 l11 c11]) (-(y))):=hI
 clear hF hI
 have hS:=(⟨B5.out,B6.out,B7.out⟩:(fun W'=>Blk 32 W' w.heap.size #[.bool s1, .slice A1 l1 c1]∧Blk 32 W' (w.heap.size + 1) #[.bool s3, .slice A3 l3 c3]∧Blk 32 W' (w.heap.size + 1 + 1) #[.bool false, .slice none 0 0]) w10)
 refine hK _ _ hS ?_
 clear hK
 refine Zg4 3 rfl (by kernel_rfl) rfl (fun K hK=>?_)
 go_simp
 clear hS
 refine (ZfZ _ _ (x) (-(y)) _ F2.out F12.out (by first | exact Hx.out | exact Hy.out | exact ZaM.neg Hy.out | exact Hx'.out | exact Hy'.out) (by first | exact Hx.out | exact Hy.out | exact ZaM.neg Hy.out | exact Hx'.out | exact Hy'.out)).mono ?_
 rintro e w13 ⟨_,rfl,hI,hF⟩
 obtain ⟨s14,A14,l14,c14,rfl⟩:=hI.shp
 replace B5:=zh (B5.out.ext hF)
 replace B6:=zh (B6.out.ext hF)
 replace B7:=zh (B7.out.ext hF)
 replace F2:=zh (F2.out.ext hF)
 replace F4:=zh (F4.out.ext hF)
 replace F12:=zh (F12.out.ext hF)
 replace HE:=zh (HE.out.trans hF)
 have F15:Hid (Zai w13 (.agg #[.bool s14, .slice A14 l14 c14]) ((x) + (-(y)))):=hI
 clear hF hI
 have hS:=(⟨B5.out,B6.out,B7.out⟩:(fun W'=>Blk 32 W' w.heap.size #[.bool s1, .slice A1 l1 c1]∧Blk 32 W' (w.heap.size + 1) #[.bool s3, .slice A3 l3 c3]∧Blk 32 W' (w.heap.size + 1 + 1) #[.bool false, .slice none 0 0]) w13)
 refine hK _ _ hS ?_
 clear hK
 refine ZmS (l:=[_]) 4 rfl (by kernel_rfl) ?_
 clear hS
 obtain ⟨c16_0,c16_1,f16_0,f16_1⟩:=B5.out.cell2
 obtain ⟨c17_0,c17_1,f17_0,f17_1⟩:=B6.out.cell2
 obtain ⟨c18_0,c18_1,f18_0,f18_1⟩:=B7.out.cell2
 go_wp2
 clear c16_0 c16_1 f16_0 f16_1 c17_0 c17_1 f17_0 f17_1 c18_0 c18_1 f18_0 f18_1
 have hFs:Fr (fun i=>i=(w.heap.size + 1 + 1)) w13 ((w13.setCell ⟨(w.heap.size + 1 + 1),0,none⟩ (.bool s14)).setCell ⟨(w.heap.size + 1 + 1),1,none⟩ (.slice A14 l14 c14)):=(((Fr.refl (fun i=>i=(w.heap.size + 1 + 1)) _).setCell (p:=⟨(w.heap.size + 1 + 1),0,none⟩) (Or.inl rfl) _).setCell (p:=⟨(w.heap.size + 1 + 1),1,none⟩) (Or.inl rfl) _)
 replace F2:=zh (F2.out.oth B7.out Zbe hFs)
 replace F4:=zh (F4.out.oth B7.out Zbe hFs)
 replace F12:=zh (F12.out.oth B7.out Zbe hFs)
 replace F15:=zh (F15.out.oth B7.out Zbe hFs)
 replace B5:=zh (B5.out.fr hFs (by first | omega | (have:=B5.out.lt; have:=B7.out.lt; omega)))
 replace B6:=zh (B6.out.fr hFs (by first | omega | (have:=B6.out.lt; have:=B7.out.lt; omega)))
 replace HE:=zh (HE.out.next hFs (fun i hi e=>by first | omega | (have:=HE.out.size; have:=B7.out.lt; omega)))
 have b_new:Blk 32 ((w13.setCell ⟨(w.heap.size + 1 + 1),0,none⟩ (.bool s14)).setCell ⟨(w.heap.size + 1 + 1),1,none⟩ (.slice A14 l14 c14)) (w.heap.size + 1 + 1) #[.bool s14, .slice A14 l14 c14]:=((B7.out.set_ 0 _).set_ 1 _)
 generalize ((w13.setCell ⟨(w.heap.size + 1 + 1),0,none⟩ (.bool s14)).setCell ⟨(w.heap.size + 1 + 1),1,none⟩ (.slice A14 l14 c14))=w19 at *
 replace B7:=zh b_new; clear b_new hFs
 exact ZfD rfl rfl B7.out (by rw [Int.sub_eq_add_neg]; exact F15.out) HE.out
set_option maxHeartbeats 2000000 in
theorem Zrd (a:Value) (x:Int) (w:World) (ha:Zai w a x) (hx:x < 0) :
 Calls Tryz.prog 62 #[a] w (RetV w (.int .i64 (-1))):=by
 obtain ⟨s1,A1,l1,c1,rfl⟩:=ha.shp
 have F2:Hid (Zai w (.agg #[.bool s1, .slice A1 l1 c1]) (x)):=ha
 clear ha
 obtain rfl:s1=true:=F2.out.sneg hx
 clear hx
 go_enter Tryz.func62,Tryz.ntmps62
 go_wp2
 generalize hwb:World.alloc w _=w4
 obtain ⟨b_B3,hE0⟩:=ZcQ hwb
 clear hwb
 have B3:=zh b_B3
 clear b_B3
 replace F2:=zh (F2.out.ext hE0)
 have HE:=zh hE0
 clear hE0
 go_ret
 exact ⟨rfl,HE.out⟩
set_option maxHeartbeats 2000000 in
theorem Zp3 (a:Value) (x:Int) (w:World) (ha:Zai w a x) (hx:x=0) :
 Calls Tryz.prog 62 #[a] w (RetV w (.int .i64 (0))):=by
 obtain ⟨s1,A1,l1,c1,rfl⟩:=ha.shp
 have F2:Hid (Zai w (.agg #[.bool s1, .slice A1 l1 c1]) (x)):=ha
 clear ha
 obtain rfl:s1=false:=F2.out.spos (by omega)
 obtain rfl:l1=0:=F2.out.len0 hx
 clear hx
 go_enter Tryz.func62,Tryz.ntmps62
 go_wp2
 generalize hwb:World.alloc w _=w4
 obtain ⟨b_B3,hE0⟩:=ZcQ hwb
 clear hwb
 have B3:=zh b_B3
 clear b_B3
 replace F2:=zh (F2.out.ext hE0)
 have HE:=zh hE0
 clear hE0
 go_ret
 exact ⟨rfl,HE.out⟩
set_option maxHeartbeats 2000000 in
theorem Zre (a:Value) (x:Int) (w:World) (ha:Zai w a x) (hx:0 < x) :
 Calls Tryz.prog 62 #[a] w (RetV w (.int .i64 (1))):=by
 obtain ⟨s1,A1,l1,c1,rfl⟩:=ha.shp
 have F2:Hid (Zai w (.agg #[.bool s1, .slice A1 l1 c1]) (x)):=ha
 clear ha
 obtain rfl:s1=false:=F2.out.spos (by omega)
 have hl:((l1:Int) == 0)=false:=by have:=F2.out.lenp (by omega); simp; omega
 clear hx
 go_enter Tryz.func62,Tryz.ntmps62
 go_wp2
 generalize hwb:World.alloc w _=w4
 obtain ⟨b_B3,hE0⟩:=ZcQ hwb
 clear hwb
 have B3:=zh b_B3
 clear b_B3
 replace F2:=zh (F2.out.ext hE0)
 have HE:=zh hE0
 clear hE0
 go_ret
 exact ⟨rfl,HE.out⟩
theorem ZcD (a:Value) (x:Int) (w:World) (ha:Zai w a x):Calls Tryz.prog 62 #[a] w (RetV w (.int .i64 x.sign)):=by
 rcases Int.lt_trichotomy x 0 with h | h | h
 ·rw [Int.sign_eq_neg_one_of_neg h]; exact Zrd a x w ha h
 ·rw [h,Int.sign_zero]; exact Zp3 a x w ha h
 ·rw [Int.sign_eq_one_of_pos h]; exact Zre a x w ha h
set_option maxHeartbeats 2000000 in
theorem Zsp (a b:Value) (x y:Int) (w:World) (ha:Zai w a x) (hb:Zai w b y) (hx:ZaM x) (hy:ZaM y) :
 Calls Tryz.prog 133 #[a,b] w (RetV w (.int .i64 (x - y).sign)):=by
 obtain ⟨s1,A1,l1,c1,rfl⟩:=ha.shp
 have F2:Hid (Zai w (.agg #[.bool s1, .slice A1 l1 c1]) (x)):=ha
 clear ha
 obtain ⟨s3,A3,l3,c3,rfl⟩:=hb.shp
 have F4:Hid (Zai w (.agg #[.bool s3, .slice A3 l3 c3]) (y)):=hb
 clear hb
 have Hx:=zh hx
 have Hy:=zh hy
 clear hx hy
 obtain ⟨r,er⟩:∃ r,(x - y).sign=r:=⟨_,rfl⟩
 rw [er]
 have Hr:=zh er
 clear er
 go_enter Tryz.func133,Tryz.ntmps133
 go_wp2_with fail
 generalize hwb:World.alloc (World.alloc w _) _=w7
 obtain ⟨b_B5,b_B6,hE0⟩:=ZfC hwb
 clear hwb
 have B5:=zh b_B5
 have B6:=zh b_B6
 clear b_B5 b_B6
 replace F2:=zh (F2.out.ext hE0)
 replace F4:=zh (F4.out.ext hE0)
 have HE:=zh hE0
 clear hE0
 refine (Zso _ _ (x) (y) _ F2.out F4.out (by first | exact Hx.out | exact Hy.out | exact ZaM.neg Hy.out | exact Hx'.out | exact Hy'.out) (by first | exact Hx.out | exact Hy.out | exact ZaM.neg Hy.out | exact Hx'.out | exact Hy'.out)).mono ?_
 rintro e w8 ⟨_,rfl,hI,hF⟩
 obtain ⟨s9,A9,l9,c9,rfl⟩:=hI.shp
 replace B5:=zh (B5.out.ext hF)
 replace B6:=zh (B6.out.ext hF)
 replace F2:=zh (F2.out.ext hF)
 replace F4:=zh (F4.out.ext hF)
 replace HE:=zh (HE.out.trans hF)
 have F10:Hid (Zai w8 (.agg #[.bool s9, .slice A9 l9 c9]) ((x) - (y))):=hI
 clear hF hI
 obtain ⟨c11_0,c11_1,f11_0,f11_1⟩:=B5.out.cell2
 obtain ⟨c12_0,c12_1,f12_0,f12_1⟩:=B6.out.cell2
 go_wp2_with fail
 clear c11_0 c11_1 f11_0 f11_1 c12_0 c12_1 f12_0 f12_1
 refine (ZcD _ ((x) - (y)) _ F10.out).mono ?_
 obtain ⟨sg14,esg14⟩:∃ s,((x) - (y)).sign=s:=⟨_,rfl⟩
 rw [esg14]; have Hsg14:=zh esg14; clear esg14
 rintro e w13 ⟨rfl,hF⟩
 replace B5:=zh (B5.out.ext hF)
 replace B6:=zh (B6.out.ext hF)
 replace F2:=zh (F2.out.ext hF)
 replace F4:=zh (F4.out.ext hF)
 replace F10:=zh (F10.out.ext hF)
 replace HE:=zh (HE.out.trans hF)
 clear hF
 obtain ⟨c15_0,c15_1,f15_0,f15_1⟩:=B5.out.cell2
 obtain ⟨c16_0,c16_1,f16_0,f16_1⟩:=B6.out.cell2
 go_wp2
 clear c15_0 c15_1 f15_0 f15_1 c16_0 c16_1 f16_0 f16_1
 go_ret
 exact ⟨by rw [← Hr.out,← Hsg14.out]; rfl,HE.out⟩
set_option maxHeartbeats 2000000 in
theorem Zef (a b:Value) (x y:Int) (w:World) (ha:Zai w a x) (hb:Zai w b y) (hx:ZaM x) (hy:ZaM y) (h0:y≠0) :
 Calls Tryz.prog 70 #[a,b] w (ZiM w (x.tdiv y) (x.tmod y)):=by
 obtain ⟨s1,A1,l1,c1,rfl⟩:=ha.shp
 have F2:Hid (Zai w (.agg #[.bool s1, .slice A1 l1 c1]) (x)):=ha
 clear ha
 obtain ⟨s3,A3,l3,c3,rfl⟩:=hb.shp
 have F4:Hid (Zai w (.agg #[.bool s3, .slice A3 l3 c3]) (y)):=hb
 clear hb
 have Hx:Hid (ml x.natAbs≤1048576):=hx
 have Hy:Hid (ml y.natAbs≤1048576):=hy
 have H0:Hid (0 < y.natAbs):=by unfold Hid; omega
 have HQ:=zh (F2.out.quo F4.out)
 clear hx hy h0
 go_enter Tryz.func70,Tryz.ntmps70
 go_wp2_with fail
 generalize hwb:World.alloc (World.alloc (World.alloc (World.alloc w _) _) _) _=w9
 obtain ⟨b_B5,b_B6,b_B7,b_B8,hE0⟩:=Ztp hwb
 clear hwb
 have B5:=zh b_B5
 have B6:=zh b_B6
 have B7:=zh b_B7
 have B8:=zh b_B8
 clear b_B5 b_B6 b_B7 b_B8
 replace F2:=zh (F2.out.ext hE0)
 replace F4:=zh (F4.out.ext hE0)
 have HE:=zh hE0
 clear hE0
 have F10:Hid (Zar w9 (.slice A1 l1 c1) ((x).natAbs)):=F2.out.mag
 have F11:Hid (Zar w9 (.slice A3 l3 c3) ((y).natAbs)):=F4.out.mag
 refine (Zku _ _ ((x).natAbs) ((y).natAbs) _ F10.out F11.out Hx.out Hy.out H0.out).mono ?_
 rintro e w12 ⟨_,_,rfl,hq,hr,hF⟩
 obtain ⟨Aq13,lq13,cq13,rfl⟩:=hq.slice
 obtain ⟨Ar13,lr13,cr13,rfl⟩:=hr.slice
 replace B5:=zh (B5.out.ext hF)
 replace B6:=zh (B6.out.ext hF)
 replace B7:=zh (B7.out.ext hF)
 replace B8:=zh (B8.out.ext hF)
 replace F2:=zh (F2.out.ext hF)
 replace F4:=zh (F4.out.ext hF)
 replace F10:=zh (F10.out.ext hF)
 replace F11:=zh (F11.out.ext hF)
 replace HE:=zh (HE.out.trans hF)
 have F14:Hid (Zar w12 (.slice Aq13 lq13 cq13) (((x).natAbs) / ((y).natAbs))):=hq
 have F15:Hid (Zar w12 (.slice Ar13 lr13 cr13) (((x).natAbs) % ((y).natAbs))):=hr
 clear hF hq hr
 obtain ⟨c16_0,c16_1,f16_0,f16_1⟩:=B5.out.cell2
 obtain ⟨c17_0,c17_1,f17_0,f17_1⟩:=B6.out.cell2
 obtain ⟨c18_0,c18_1,f18_0,f18_1⟩:=B7.out.cell2
 obtain ⟨c19_0,c19_1,f19_0,f19_1⟩:=B8.out.cell2
 go_wp2_with fail
 clear c16_0 c16_1 f16_0 f16_1 c17_0 c17_1 f17_0 f17_1 c18_0 c18_1 f18_0 f18_1 c19_0 c19_1 f19_0 f19_1
 refine Zje 11 (fun W'=>Blk 32 W' w.heap.size #[.bool s1, .slice A1 l1 c1]∧Blk 32 W' (w.heap.size + 1) #[.bool s3, .slice A3 l3 c3]∧Blk 32 W' (w.heap.size + 1 + 1) #[.bool false, .slice none 0 0]∧Blk 32 W' (w.heap.size + 1 + 1 + 1) #[.bool false, .slice none 0 0]) Zah ?_
 replace B5:=zh (B5.out.ext (Fr.refl _ _).drew)
 replace B6:=zh (B6.out.ext (Fr.refl _ _).drew)
 replace B7:=zh (B7.out.ext (Fr.refl _ _).drew)
 replace B8:=zh (B8.out.ext (Fr.refl _ _).drew)
 replace F2:=zh (F2.out.ext (Fr.refl _ _).drew)
 replace F4:=zh (F4.out.ext (Fr.refl _ _).drew)
 replace F10:=zh (F10.out.ext (Fr.refl _ _).drew)
 replace F11:=zh (F11.out.ext (Fr.refl _ _).drew)
 replace F14:=zh (F14.out.ext (Fr.refl _ _).drew)
 replace F15:=zh (F15.out.ext (Fr.refl _ _).drew)
 replace HE:=zh (HE.out.trans (Fr.refl _ _).drew)
 generalize w12.drew=w20 at *
 have hS:=(⟨B5.out,B6.out,B7.out,B8.out⟩:(fun W'=>Blk 32 W' w.heap.size #[.bool s1, .slice A1 l1 c1]∧Blk 32 W' (w.heap.size + 1) #[.bool s3, .slice A3 l3 c3]∧Blk 32 W' (w.heap.size + 1 + 1) #[.bool false, .slice none 0 0]∧Blk 32 W' (w.heap.size + 1 + 1 + 1) #[.bool false, .slice none 0 0]) w20)
 refine ZcH 0 rfl (by kernel_rfl) (fun _ _ _ h=>h) hS (fun _=>Zhc (g:=w.heap.size) (off:=0) rfl rfl (by kernel_rfl)) (fun hS=>?_)
 refine ZcH 1 rfl (by kernel_rfl) (fun _ _ _ h=>h) hS (fun _=>Zlb (g:=w.heap.size) (off:=0) (x:=.bool s1) rfl rfl (by kernel_rfl) (fun _ h=>Blk.one' (h.1) 0 rfl)) (fun hS=>?_)
 refine ZcH 2 rfl (by kernel_rfl) (fun _ _ _ h=>h) hS (fun _=>Zhc (g:=(w.heap.size + 1)) (off:=0) rfl rfl (by kernel_rfl)) (fun hS=>?_)
 refine ZcH 3 rfl (by kernel_rfl) (fun _ _ _ h=>h) hS (fun _=>Zlb (g:=(w.heap.size + 1)) (off:=0) (x:=.bool s3) rfl rfl (by kernel_rfl) (fun _ h=>Blk.one' (h.2.1) 0 rfl)) (fun hS=>?_)
 refine ZcH 4 rfl (by kernel_rfl) (fun _ _ _ h=>h) hS (fun _=>Zse (b:=s1) (c:=s3) rfl rfl (by kernel_rfl) (by kernel_rfl)) (fun hS=>?_)
 refine ZcH 5 rfl (by kernel_rfl) (fun _ _ _ h=>h) hS (fun _=>ym (v:=.slice Aq13 lq13 cq13) rfl rfl (by kernel_rfl)) (fun hS=>?_)
 refine ZcH 7 rfl (by kernel_rfl) (fun _ _ _ h=>h) hS (fun _=>Zhc (g:=w.heap.size) (off:=0) rfl rfl (by kernel_rfl)) (fun hS=>?_)
 refine ZcH 8 rfl (by kernel_rfl) (fun _ _ _ h=>h) hS (fun _=>Zlb (g:=w.heap.size) (off:=0) (x:=.bool s1) rfl rfl (by kernel_rfl) (fun _ h=>Blk.one' (h.1) 0 rfl)) (fun hS=>?_)
 refine ZcH 9 rfl (by kernel_rfl) (fun _ _ _ h=>h) hS (fun _=>ym (v:=.slice Ar13 lr13 cr13) rfl rfl (by kernel_rfl)) (fun hS=>?_)
 refine Zg4 6 rfl (by kernel_rfl) rfl (fun K hK=>?_)
 go_simp
 clear hS
 refine (Zc9 ((s1 != s3)) _ _ _ F14.out).mono ?_
 rintro e w21 ⟨_,rfl,hI,hF⟩
 obtain ⟨s22,A22,l22,c22,rfl⟩:=hI.shp
 replace B5:=zh (B5.out.ext hF)
 replace B6:=zh (B6.out.ext hF)
 replace B7:=zh (B7.out.ext hF)
 replace B8:=zh (B8.out.ext hF)
 replace F2:=zh (F2.out.ext hF)
 replace F4:=zh (F4.out.ext hF)
 replace F10:=zh (F10.out.ext hF)
 replace F11:=zh (F11.out.ext hF)
 replace F14:=zh (F14.out.ext hF)
 replace F15:=zh (F15.out.ext hF)
 replace HE:=zh (HE.out.trans hF)
 have F23:Hid (Zai w21 (.agg #[.bool s22, .slice A22 l22 c22]) (sg ((s1 != s3)) (((x).natAbs) / ((y).natAbs)))):=hI
 clear hF hI
 have hS:=(⟨B5.out,B6.out,B7.out,B8.out⟩:(fun W'=>Blk 32 W' w.heap.size #[.bool s1, .slice A1 l1 c1]∧Blk 32 W' (w.heap.size + 1) #[.bool s3, .slice A3 l3 c3]∧Blk 32 W' (w.heap.size + 1 + 1) #[.bool false, .slice none 0 0]∧Blk 32 W' (w.heap.size + 1 + 1 + 1) #[.bool false, .slice none 0 0]) w21)
 refine hK _ _ hS ?_
 clear hK
 refine Zg4 10 rfl (by kernel_rfl) rfl (fun K hK=>?_)
 go_simp
 clear hS
 refine (Zc9 (s1) _ _ _ F15.out).mono ?_
 rintro e w24 ⟨_,rfl,hI,hF⟩
 obtain ⟨s25,A25,l25,c25,rfl⟩:=hI.shp
 replace B5:=zh (B5.out.ext hF)
 replace B6:=zh (B6.out.ext hF)
 replace B7:=zh (B7.out.ext hF)
 replace B8:=zh (B8.out.ext hF)
 replace F2:=zh (F2.out.ext hF)
 replace F4:=zh (F4.out.ext hF)
 replace F10:=zh (F10.out.ext hF)
 replace F11:=zh (F11.out.ext hF)
 replace F14:=zh (F14.out.ext hF)
 replace F15:=zh (F15.out.ext hF)
 replace F23:=zh (F23.out.ext hF)
 replace HE:=zh (HE.out.trans hF)
 have F26:Hid (Zai w24 (.agg #[.bool s25, .slice A25 l25 c25]) (sg (s1) (((x).natAbs) % ((y).natAbs)))):=hI
 clear hF hI
 have hS:=(⟨B5.out,B6.out,B7.out,B8.out⟩:(fun W'=>Blk 32 W' w.heap.size #[.bool s1, .slice A1 l1 c1]∧Blk 32 W' (w.heap.size + 1) #[.bool s3, .slice A3 l3 c3]∧Blk 32 W' (w.heap.size + 1 + 1) #[.bool false, .slice none 0 0]∧Blk 32 W' (w.heap.size + 1 + 1 + 1) #[.bool false, .slice none 0 0]) w24)
 refine hK _ _ hS ?_
 clear hK
 refine ZmS (l:=[_,_]) 11 rfl (by kernel_rfl) ?_
 clear hS
 obtain ⟨c27_0,c27_1,f27_0,f27_1⟩:=B5.out.cell2
 obtain ⟨c28_0,c28_1,f28_0,f28_1⟩:=B6.out.cell2
 obtain ⟨c29_0,c29_1,f29_0,f29_1⟩:=B7.out.cell2
 obtain ⟨c30_0,c30_1,f30_0,f30_1⟩:=B8.out.cell2
 go_wp2
 clear c27_0 c27_1 f27_0 f27_1 c28_0 c28_1 f28_0 f28_1 c29_0 c29_1 f29_0 f29_1 c30_0 c30_1 f30_0 f30_1
 have hFs:Fr (fun i=>i=(w.heap.size + 1 + 1)) w24 ((w24.setCell ⟨(w.heap.size + 1 + 1),0,none⟩ (.bool s22)).setCell ⟨(w.heap.size + 1 + 1),1,none⟩ (.slice A22 l22 c22)):=(((Fr.refl (fun i=>i=(w.heap.size + 1 + 1)) _).setCell (p:=⟨(w.heap.size + 1 + 1),0,none⟩) (Or.inl rfl) _).setCell (p:=⟨(w.heap.size + 1 + 1),1,none⟩) (Or.inl rfl) _)
 replace F2:=zh (F2.out.oth B7.out Zbe hFs)
 replace F4:=zh (F4.out.oth B7.out Zbe hFs)
 replace F10:=zh (F10.out.oth B7.out Zbe hFs)
 replace F11:=zh (F11.out.oth B7.out Zbe hFs)
 replace F14:=zh (F14.out.oth B7.out Zbe hFs)
 replace F15:=zh (F15.out.oth B7.out Zbe hFs)
 replace F23:=zh (F23.out.oth B7.out Zbe hFs)
 replace F26:=zh (F26.out.oth B7.out Zbe hFs)
 replace B5:=zh (B5.out.fr hFs (by first | omega | (have:=B5.out.lt; have:=B7.out.lt; omega)))
 replace B6:=zh (B6.out.fr hFs (by first | omega | (have:=B6.out.lt; have:=B7.out.lt; omega)))
 replace B8:=zh (B8.out.fr hFs (by first | omega | (have:=B8.out.lt; have:=B7.out.lt; omega)))
 replace HE:=zh (HE.out.next hFs (fun i hi e=>by first | omega | (have:=HE.out.size; have:=B7.out.lt; omega)))
 have b_new:Blk 32 ((w24.setCell ⟨(w.heap.size + 1 + 1),0,none⟩ (.bool s22)).setCell ⟨(w.heap.size + 1 + 1),1,none⟩ (.slice A22 l22 c22)) (w.heap.size + 1 + 1) #[.bool s22, .slice A22 l22 c22]:=((B7.out.set_ 0 _).set_ 1 _)
 generalize ((w24.setCell ⟨(w.heap.size + 1 + 1),0,none⟩ (.bool s22)).setCell ⟨(w.heap.size + 1 + 1),1,none⟩ (.slice A22 l22 c22))=w31 at *
 replace B7:=zh b_new; clear b_new hFs
 have hFs:Fr (fun i=>i=(w.heap.size + 1 + 1 + 1)) w31 ((w31.setCell ⟨(w.heap.size + 1 + 1 + 1),0,none⟩ (.bool s25)).setCell ⟨(w.heap.size + 1 + 1 + 1),1,none⟩ (.slice A25 l25 c25)):=(((Fr.refl (fun i=>i=(w.heap.size + 1 + 1 + 1)) _).setCell (p:=⟨(w.heap.size + 1 + 1 + 1),0,none⟩) (Or.inl rfl) _).setCell (p:=⟨(w.heap.size + 1 + 1 + 1),1,none⟩) (Or.inl rfl) _)
 replace F2:=zh (F2.out.oth B8.out Zbe hFs)
 replace F4:=zh (F4.out.oth B8.out Zbe hFs)
 replace F10:=zh (F10.out.oth B8.out Zbe hFs)
 replace F11:=zh (F11.out.oth B8.out Zbe hFs)
 replace F14:=zh (F14.out.oth B8.out Zbe hFs)
 replace F15:=zh (F15.out.oth B8.out Zbe hFs)
 replace F23:=zh (F23.out.oth B8.out Zbe hFs)
 replace F26:=zh (F26.out.oth B8.out Zbe hFs)
 replace B5:=zh (B5.out.fr hFs (by first | omega | (have:=B5.out.lt; have:=B8.out.lt; omega)))
 replace B6:=zh (B6.out.fr hFs (by first | omega | (have:=B6.out.lt; have:=B8.out.lt; omega)))
 replace B7:=zh (B7.out.fr hFs (by first | omega | (have:=B7.out.lt; have:=B8.out.lt; omega)))
 replace HE:=zh (HE.out.next hFs (fun i hi e=>by first | omega | (have:=HE.out.size; have:=B8.out.lt; omega)))
 have b_new:Blk 32 ((w31.setCell ⟨(w.heap.size + 1 + 1 + 1),0,none⟩ (.bool s25)).setCell ⟨(w.heap.size + 1 + 1 + 1),1,none⟩ (.slice A25 l25 c25)) (w.heap.size + 1 + 1 + 1) #[.bool s25, .slice A25 l25 c25]:=((B8.out.set_ 0 _).set_ 1 _)
 generalize ((w31.setCell ⟨(w.heap.size + 1 + 1 + 1),0,none⟩ (.bool s25)).setCell ⟨(w.heap.size + 1 + 1 + 1),1,none⟩ (.slice A25 l25 c25))=w32 at *
 replace B8:=zh b_new; clear b_new hFs
 exact Zsn rfl rfl rfl B7.out B8.out (by rw [← HQ.out.1]; exact F23.out) (by rw [← HQ.out.2]; exact F26.out) HE.out
set_option maxHeartbeats 2000000 in
theorem Zsq (a:Value) (q:Rat) (w:World) (ha:Zaw w a q) (hq:q.den=1) :
 Calls Tryz.prog 75 #[a] w (Zba w (q.den:Int)):=by
 obtain ⟨s1,A1,l1,c1,t1,B1,m1,d1,rfl⟩:=ha.shp
 have F2:Hid (Zaw w (.agg #[.bool s1, .slice A1 l1 c1, .bool t1, .slice B1 m1 d1]) (q)):=ha
 clear ha
 have Fd:=F2.out.den
 obtain rfl:m1=0:=Fd.len0 (Zcy hq)
 have Hq:Hid ((q.den:Int)=1):=by unfold Hid; omega
 clear Fd hq
 go_enter Tryz.func75,Tryz.ntmps75
 go_wp2_with fail
 generalize hwb:World.alloc (World.alloc w _) _=w5
 obtain ⟨b_B3,b_B4,hE0⟩:=ZfC hwb
 clear hwb
 have B3:=zh b_B3
 have B4:=zh b_B4
 clear b_B3 b_B4
 replace F2:=zh (F2.out.ext hE0)
 have HE:=zh hE0
 clear hE0
 refine (ZeH 1 _ (by omega) (by omega)).mono ?_
 rintro e w6 ⟨_,rfl,hI,hF⟩
 obtain ⟨s7,A7,l7,c7,rfl⟩:=hI.shp
 replace B3:=zh (B3.out.ext hF)
 replace B4:=zh (B4.out.ext hF)
 replace F2:=zh (F2.out.ext hF)
 replace HE:=zh (HE.out.trans hF)
 have F8:Hid (Zai w6 (.agg #[.bool s7, .slice A7 l7 c7]) (1)):=hI
 clear hF hI
 obtain ⟨c9_0,c9_1,c9_2,c9_3,f9_0,f9_1,f9_2,f9_3⟩:=B3.out.cell4
 obtain ⟨c10_0,c10_1,f10_0,f10_1⟩:=B4.out.cell2
 go_wp2
 clear c9_0 c9_1 c9_2 c9_3 f9_0 f9_1 f9_2 f9_3 c10_0 c10_1 f10_0 f10_1
 have hFs:Fr (fun i=>i=(w.heap.size + 1)) w6 ((w6.setCell ⟨(w.heap.size + 1),0,none⟩ (.bool s7)).setCell ⟨(w.heap.size + 1),1,none⟩ (.slice A7 l7 c7)):=(((Fr.refl (fun i=>i=(w.heap.size + 1)) _).setCell (p:=⟨(w.heap.size + 1),0,none⟩) (Or.inl rfl) _).setCell (p:=⟨(w.heap.size + 1),1,none⟩) (Or.inl rfl) _)
 replace F2:=zh (F2.out.oth B4.out Zbe hFs)
 replace F8:=zh (F8.out.oth B4.out Zbe hFs)
 replace B3:=zh (B3.out.fr hFs (by first | omega | (have:=B3.out.lt; have:=B4.out.lt; omega)))
 replace HE:=zh (HE.out.next hFs (fun i hi e=>by first | omega | (have:=HE.out.size; have:=B4.out.lt; omega)))
 have b_new:Blk 32 ((w6.setCell ⟨(w.heap.size + 1),0,none⟩ (.bool s7)).setCell ⟨(w.heap.size + 1),1,none⟩ (.slice A7 l7 c7)) (w.heap.size + 1) #[.bool s7, .slice A7 l7 c7]:=((B4.out.set_ 0 _).set_ 1 _)
 generalize ((w6.setCell ⟨(w.heap.size + 1),0,none⟩ (.bool s7)).setCell ⟨(w.heap.size + 1),1,none⟩ (.slice A7 l7 c7))=w11 at *
 replace B4:=zh b_new; clear b_new hFs
 exact ZfD rfl rfl B4.out (by rw [Hq.out]; exact F8.out) HE.out
set_option maxHeartbeats 2000000 in
theorem Zsr (a:Value) (q:Rat) (w:World) (ha:Zaw w a q) (hq:¬ q.den=1) :
 Calls Tryz.prog 75 #[a] w (Zba w (q.den:Int)):=by
 obtain ⟨s1,A1,l1,c1,t1,B1,m1,d1,rfl⟩:=ha.shp
 have F2:Hid (Zaw w (.agg #[.bool s1, .slice A1 l1 c1, .bool t1, .slice B1 m1 d1]) (q)):=ha
 clear ha
 have Fd:=F2.out.den
 have hl:((m1:Int) == 0)=false:=by have:=Fd.lenp (ZgP hq); simp; omega
 have Hq:=zh (ZcW hq)
 clear Fd hq
 go_enter Tryz.func75,Tryz.ntmps75
 go_wp2
 generalize hwb:World.alloc (World.alloc w _) _=w5
 obtain ⟨b_B3,b_B4,hE0⟩:=ZfC hwb
 clear hwb
 have B3:=zh b_B3
 have B4:=zh b_B4
 clear b_B3 b_B4
 replace F2:=zh (F2.out.ext hE0)
 have HE:=zh hE0
 clear hE0
 have F6:Hid (Zai w5 (.agg #[.bool t1, .slice B1 m1 d1]) (denF (q))):=F2.out.den
 exact ZfD rfl rfl B4.out (by rw [← Hq.out]; exact F6.out) HE.out
theorem Zdj (a:Value) (q:Rat) (w:World) (ha:Zaw w a q):Calls Tryz.prog 75 #[a] w (Zba w (q.den:Int)):=by
 by_cases h:q.den=1
 ·exact Zsq a q w ha h
 ·exact Zsr a q w ha h
set_option maxHeartbeats 2000000 in
theorem Zhg (a:Value) (q:Rat) (w:World) (ha:Zaw w a q) :
 Calls Tryz.prog 79 #[a] w (Zba w (q.den:Int)):=by
 obtain ⟨s1,A1,l1,c1,t1,B1,m1,d1,rfl⟩:=ha.shp
 have F2:Hid (Zaw w (.agg #[.bool s1, .slice A1 l1 c1, .bool t1, .slice B1 m1 d1]) (q)):=ha
 clear ha
 go_enter Tryz.func79,Tryz.ntmps79
 go_wp2_with fail
 generalize hwb:World.alloc (World.alloc w _) _=w5
 obtain ⟨b_B3,b_B4,hE0⟩:=ZfC hwb
 clear hwb
 have B3:=zh b_B3
 have B4:=zh b_B4
 clear b_B3 b_B4
 replace F2:=zh (F2.out.ext hE0)
 have HE:=zh hE0
 clear hE0
 refine (Zdj _ (q) _ F2.out).mono ?_
 rintro e w6 ⟨_,rfl,hI,hF⟩
 obtain ⟨s7,A7,l7,c7,rfl⟩:=hI.shp
 replace B3:=zh (B3.out.ext hF)
 replace B4:=zh (B4.out.ext hF)
 replace F2:=zh (F2.out.ext hF)
 replace HE:=zh (HE.out.trans hF)
 have F8:Hid (Zai w6 (.agg #[.bool s7, .slice A7 l7 c7]) (((q).den:Int))):=hI
 clear hF hI
 obtain ⟨c9_0,c9_1,c9_2,c9_3,f9_0,f9_1,f9_2,f9_3⟩:=B3.out.cell4
 obtain ⟨c10_0,c10_1,f10_0,f10_1⟩:=B4.out.cell2
 go_wp2
 clear c9_0 c9_1 c9_2 c9_3 f9_0 f9_1 f9_2 f9_3 c10_0 c10_1 f10_0 f10_1
 have hFs:Fr (fun i=>i=(w.heap.size + 1)) w6 ((w6.setCell ⟨(w.heap.size + 1),0,none⟩ (.bool s7)).setCell ⟨(w.heap.size + 1),1,none⟩ (.slice A7 l7 c7)):=(((Fr.refl (fun i=>i=(w.heap.size + 1)) _).setCell (p:=⟨(w.heap.size + 1),0,none⟩) (Or.inl rfl) _).setCell (p:=⟨(w.heap.size + 1),1,none⟩) (Or.inl rfl) _)
 replace F2:=zh (F2.out.oth B4.out Zbe hFs)
 replace F8:=zh (F8.out.oth B4.out Zbe hFs)
 replace B3:=zh (B3.out.fr hFs (by first | omega | (have:=B3.out.lt; have:=B4.out.lt; omega)))
 replace HE:=zh (HE.out.next hFs (fun i hi e=>by first | omega | (have:=HE.out.size; have:=B4.out.lt; omega)))
 have b_new:Blk 32 ((w6.setCell ⟨(w.heap.size + 1),0,none⟩ (.bool s7)).setCell ⟨(w.heap.size + 1),1,none⟩ (.slice A7 l7 c7)) (w.heap.size + 1) #[.bool s7, .slice A7 l7 c7]:=((B4.out.set_ 0 _).set_ 1 _)
 generalize ((w6.setCell ⟨(w.heap.size + 1),0,none⟩ (.bool s7)).setCell ⟨(w.heap.size + 1),1,none⟩ (.slice A7 l7 c7))=w11 at *
 replace B4:=zh b_new; clear b_new hFs
 exact ZfD rfl rfl B4.out (by exact F8.out) HE.out
end Go.Proofs.YtklpdkpcocnglaaGreatDoor

namespace Go.Proofs.YtklpdkpcocnglaaGreatDoor
open Go.RowKit
def blen (n:Nat):Nat:=if n=0 then 0 else n.log2 + 1
theorem Zda:blen 0=0:=rfl
theorem Zc6 (n:Nat):n < 2 ^ blen n:=by
 unfold blen
 split
 ·rename_i h; subst h; decide
 ·rename_i h; exact (Nat.log2_lt h).1 (Nat.lt_succ_self _)
theorem ZbH {n k:Nat}:blen n≤k ↔ n < 2 ^ k:=by
 unfold blen
 split
 ·rename_i h; subst h; simp [Nat.pow_pos]
 ·rename_i h; rw [← Nat.log2_lt h]; omega
theorem Zgo {n:Nat} (h:0 < n):blen n=blen (n / 2) + 1:=by
 have h1:blen (n / 2) + 1≤blen n:=by
  have:blen (n / 2)≤blen n - 1:=ZbH.2 (by
   have h2:=Zc6 n
   have h3:0 < blen n:=by unfold blen; rw [if_neg (by omega)]; omega
   obtain ⟨k,hk⟩:∃ k,blen n=k + 1:=⟨blen n - 1,by omega⟩
   rw [hk] at h2 ⊢
   rw [Nat.pow_succ] at h2
   show n / 2 < 2 ^ (k + 1 - 1)
   rw [Nat.add_sub_cancel]
   omega)
  have h3:0 < blen n:=by unfold blen; rw [if_neg (by omega)]; omega
  omega
 have h2:blen n≤blen (n / 2) + 1:=ZbH.2 (by
  have:=Zc6 (n / 2)
  rw [Nat.pow_succ]
  omega)
 omega
theorem Zni:blen 1=1:=by decide
theorem Zce {n:Nat}:blen n=1 ↔ n=1:=by
 constructor
 ·intro h
  have h1:=Zc6 n
  rw [h] at h1
  rcases Nat.eq_zero_or_pos n with e | e
  ·subst e; rw [Zda] at h; omega
  ·omega
 ·rintro rfl; decide
theorem Zfa {n:Nat}:1 < blen n ↔ 1 < n:=by
 rcases Nat.lt_or_ge 1 n with h | h
 ·have:¬ blen n≤1:=fun k=>by have:=ZbH.1 k; omega
  omega
 ·have:blen n≤1:=ZbH.2 (by omega)
  omega
theorem Znj {B k t low:Nat} (hl:low < 2 ^ (B * k)) (ht:0 < t):blen (low + 2 ^ (B * k) * t)=B * k + blen t:=by
 have h1:=Zc6 t
 have h2:blen (low + 2 ^ (B * k) * t)≤B * k + blen t:=ZbH.2 (by
  rw [Nat.pow_add]
  have:2 ^ (B * k) * (t + 1)≤2 ^ (B * k) * 2 ^ blen t:=Nat.mul_le_mul_left _ h1
  rw [Nat.mul_add] at this
  omega)
 have h3:¬ blen (low + 2 ^ (B * k) * t)≤B * k + blen t - 1:=fun h=>by
  have h4:=ZbH.1 h
  obtain ⟨j,hj⟩:∃ j,blen t=j + 1:=⟨blen t - 1,by have:=Zgo ht; omega⟩
  rw [hj,show B * k + (j + 1) - 1=B * k + j by omega,Nat.pow_add] at h4
  have h5:2 ^ j≤t:=by
   rcases Nat.lt_or_ge t (2 ^ j) with h | h
   ·have:=ZbH.2 h; omega
   ·exact h
  have:2 ^ (B * k) * 2 ^ j≤2 ^ (B * k) * t:=Nat.mul_le_mul_left _ h5
  omega
 have:0 < blen t:=by have:=Zgo ht; omega
 omega
set_option maxHeartbeats 1000000 in
theorem ZbT (a:Value) (x:Int) (w:World) (ha:Zai w a x) (hx:ZaM x):Calls Tryz.prog 37 #[a] w (RetV w (.int .i64 (blen x.natAbs:Int))):=by
 obtain ⟨s,A,l,c,rfl⟩:=ha.shp
 have h1:=ha.mag
 have h0:=ha.len0
 obtain ⟨A',xs,c',he,hc,hX,hd,ht,hv⟩:=h1
 injection he with e1 e2 e3
 subst e1 e2 e3
 unfold ZaM at hx
 rw [← hv,← Zby hd ht] at hx
 rw [← hv]
 clear ha h0 hv
 rcases Nat.eq_zero_or_pos xs.length with hl | hl
 ·obtain rfl:xs=[]:=List.length_eq_zero_iff.1 hl
  go_enter Tryz.func37,Tryz.ntmps37
  go_wp2
  go_ret
  exact ⟨rfl,(Fr.refl _ _).alloc _⟩
 ·obtain ⟨k,hk⟩:∃ k,xs.length=k + 1:=⟨xs.length - 1,by omega⟩
  obtain ⟨b,off,rfl,hb,hct⟩:=hX.at (i:=k) (by omega)
  obtain ⟨t,et⟩:∃ t,xs[k]?.getD 0=t:=⟨_,rfl⟩
  rw [et] at hct
  have ht0:0 < t:=by have:=ht k hk; omega
  have EV:val W32 xs=val W32 (xs.take k) + W32 ^ k * t:=by
   have:=Zas (B:=W32) (xs:=xs) k (by omega)
   rw [List.take_of_length_le (by omega),et] at this
   exact this
  have hlow:=ZaQ (hd.take k)
  rw [List.length_take,Nat.min_eq_left (by omega),ZeS] at hlow
  have HB:Hid (blen (val W32 xs)=32 * k + blen t):=by
   unfold Hid
   rw [EV,ZeS]
   exact Znj hlow ht0
  have htW:t < W32:=et ▸ hd.getD Zau k
  have hbt:blen t≤32:=ZbH.2 (by rw [Zaq] at htW; exact htW)
  obtain ⟨r,er⟩:∃ r,blen (val W32 xs)=r:=⟨_,rfl⟩
  rw [er] at HB ⊢
  have hne:b≠w.heap.size:=Nat.ne_of_lt hb
  rw [hk]
  clear hX hd ht EV hlow et er htW hc hl
  have g0:(((k:Int) + 1) == 0)=false:=by simp; omega
  go_enter Tryz.func37,Tryz.ntmps37
  go_wp2
  go_loop [3,4] (fun nv tv=>∃ n t':Nat,nv=.int .i64 (n:Int)∧tv=.int .u32 (t':Int)∧Hid (n + blen t'=r)∧n≤32 * k + 32) (fun _ tv=>(intOf tv).toNat)
  case atStart=>exact ⟨32 * k,t,by go_num,rfl,by have:=HB.out; unfold Hid; omega,by omega⟩
  case round =>
   obtain ⟨n,t',rfl,rfl,hR,hn⟩:=hrel
   by_cases hz:0 < t'
   ·have hR2:Hid (n + 1 + blen (t' / 2)=r):=by have h1:=hR.out; rw [Zgo hz] at h1; unfold Hid; omega
    have hle:n + 1≤32 * k + 32:=by
     have h1:=hR.out; have h2:=HB.out; rw [Zgo hz] at h1; omega
    have q1:(t':Int) / 2=((t' / 2:Nat):Int):=rfl
    have hlt:t' / 2 < t':=by omega
    obtain ⟨t2,et2⟩:∃ t2,t' / 2=t2:=⟨_,rfl⟩
    rw [et2] at hR2 q1 hlt
    clear et2
    go_wp2
    go_round
    case rel=>exact ⟨n + 1,t2,by go_num,rfl,hR2,hle⟩
    case measure=>simp [intOf]; omega
   ·obtain rfl:t'=0:=by omega
    have hR2:Hid (n=r):=by have h1:=hR.out; rw [Zda] at h1; exact h1
    go_wp2
    go_ret
    exact ⟨by rw [hR2.out]; rfl,(Fr.refl _ _).alloc _⟩
theorem Zar.inj {w:World} {v:Value} {m n:Nat} (h:Zar w v m) (k:Zar w v n):m=n:=by
 obtain ⟨A,xs,c,rfl,_,hX,_,_,rfl⟩:=h
 obtain ⟨A',ys,c',he,_,hY,_,_,rfl⟩:=k
 injection he with e1 e2 e3
 subst e1
 have:xs=ys:=by
  apply List.ext_getElem e2
  intro i h1 h2
  obtain ⟨b,o,rfl,_,c1⟩:=hX.at h1
  obtain ⟨b',o',e',_,c2⟩:=hY.at h2
  injection e' with e'
  injection e' with e3 e4
  subst e3 e4
  rw [c1] at c2
  injection c2 with c2
  injection c2 with _ c2
  rw [List.getElem?_eq_getElem h1,List.getElem?_eq_getElem h2] at c2
  simp only [Option.getD_some] at c2
  omega
 rw [this]
open Classical in
noncomputable def Zh8 (w:World) (v:Value):Nat:=if h:∃ n,Zar w v n then Classical.choose h else 0
theorem ZlQ {w:World} {v:Value} {n:Nat} (h:Zar w v n):Zh8 w v=n:=by
 have hx:∃ n,Zar w v n:=⟨n,h⟩
 unfold Zh8
 rw [dif_pos hx]
 exact (Classical.choose_spec hx).inj h
theorem Zar.len_zero {w:World} {A:Option Addr} {l c n:Nat} (h:Zar w (.slice A l c) n):(n=0 ↔ l=0)∧l=ml n:=by
 obtain ⟨A',xs,c',he,_,_,hd,ht,hv⟩:=h
 injection he with _ he
 have hl:=Zby hd ht
 rw [hv] at hl
 refine ⟨⟨fun e=>?_,fun e=>?_⟩,by omega⟩
 ·rw [e,ZkZ] at hl; omega
 ·rw [e] at he
  have:xs=[]:=List.length_eq_zero_iff.1 he.symm
  rw [this] at hv
  simpa using hv.symm
set_option maxHeartbeats 1000000 in
theorem Znk (a b:Value) (x y:Int) (w:World) (ha:Zai w a x) (hb:Zai w b y) (hx:ZaM x) (hy:ZaM y):Calls Tryz.prog 69 #[a,b] w (Zba w (Int.gcd x y:Int)):=by
 obtain ⟨s,A,l,c,rfl⟩:=ha.shp
 obtain ⟨t,B,m,d,rfl⟩:=hb.shp
 have HM:=zh ha.mag
 have HN:=zh hb.mag
 have HX:Hid (ml x.natAbs≤1048576):=hx
 have HY:Hid (ml y.natAbs≤1048576):=hy
 obtain ⟨r,er⟩:∃ r,Int.gcd x y=r:=⟨_,rfl⟩
 have HR:Hid (Nat.gcd x.natAbs y.natAbs=r):=er
 rw [er]
 clear ha hb hx hy er
 go_enter Tryz.func69,Tryz.ntmps69
 go_wp2_with fail
 generalize hwb:World.alloc (World.alloc (World.alloc w _) _) _=w1
 obtain ⟨b0,b1,b2,hE0⟩:=Zla hwb
 clear hwb
 have HB2:=zh b2
 have HE:=zh hE0
 replace HM:=zh (HM.out.ext hE0)
 replace HN:=zh (HN.out.ext hE0)
 obtain ⟨c0,c1,f0,f1⟩:=b0.cell2
 obtain ⟨c2,c3,f2,f3⟩:=b1.cell2
 clear b0 b1 b2 hE0
 go_quiet (fail)
 clear c0 c1 f0 f1 c2 c3 f2 f3
 go_wp2_with fail
 go_loopw [5,6,7,8] (fun xv yv _ _ wr=>∃ (u v:Nat) (A' B':Option Addr) (l' c' m' d':Nat),xv=.slice A' l' c'∧yv=.slice B' m' d'∧Hid (Zar wr (.slice A' l' c') u)∧Hid (Zar wr (.slice B' m' d') v)∧Hid (ml u≤1048576)∧Hid (ml v≤1048576)∧Hid (Nat.gcd u v=r)∧Hid (Ext w1 wr)) (fun _ yv _ _ wr=>Zh8 wr yv)
 case atStart=>exact ⟨_,_,_,_,_,_,_,_,rfl,rfl,HM.out.ext ((Fr.refl _ _).drewN _),HN.out.ext ((Fr.refl _ _).drewN _),HX,HY,HR,(Fr.refl _ _).drewN _⟩
 case round =>
  obtain ⟨u,v,A',B',l',c',m',d',rfl,rfl,hU,hV,hu,hv,hG,hF⟩:=hrel
  obtain ⟨z1,z2⟩:=hV.out.len_zero
  have hm':m'≤1048576:=by have:=hv.out; omega
  by_cases hm:m'=0
  ·subst hm
   have hv0:v=0:=z1.2 rfl
   have HG:Hid (u=r):=by have:=hG.out; rw [hv0,Nat.gcd_zero_right] at this; exact this
   have HB:=zh (HB2.out.ext hF.out)
   have HEE:=zh (HE.out.trans hF.out)
   clear z1 z2 hv0
   go_wp2_with fail
   refine (Zc9 false _ u _ hU.out).mono ?_
   rintro e w2 ⟨_,rfl,hI,hF2⟩
   obtain ⟨s2,A2,l2,c2,rfl⟩:=hI.shp
   have HI:=zh hI
   have HB':=zh (HB.out.ext hF2)
   have HE':=zh (HEE.out.trans hF2)
   obtain ⟨k0,k1,k2,k3⟩:=HB'.out.cell2
   clear hI hF2
   go_wp2
   have hFs:Fr (fun i=>i=(w.heap.size + 1 + 1)) w2 ((w2.setCell ⟨w.heap.size + 1 + 1,0,none⟩ (.bool s2)).setCell ⟨w.heap.size + 1 + 1,1,none⟩ (.slice A2 l2 c2)):=((Fr.refl (fun i=>i=(w.heap.size + 1 + 1)) _).setCell (p:=⟨w.heap.size + 1 + 1,0,none⟩) (Or.inl rfl) _).setCell (p:=⟨w.heap.size + 1 + 1,1,none⟩) (Or.inl rfl) _
   exact ZfD rfl rfl ((HB'.out.set_ 0 _).set_ 1 _) (by rw [← HG.out]; exact HI.out.oth HB'.out Zbe hFs) (HE'.out.next hFs (fun i hi e=>by omega))
  ·have hm0:0 < m':=by omega
   have hv0:0 < v:=by rcases Nat.eq_zero_or_pos v with e | e; · exact absurd (z1.1 e) hm
                      ·exact e
   have HG:Hid (Nat.gcd v (u % v)=r):=by have:=hG.out; rw [Nat.gcd_comm,Nat.gcd_rec,Nat.gcd_comm] at this; exact this
   have hml:=zh (Nat.le_trans (ZbF (Nat.le_of_lt (Nat.mod_lt u hv0))) hv.out)
   have hlt:=zh (Nat.mod_lt u hv0)
   have HC:=zh (Zku _ _ u v wr hU.out hV.out hu.out hv.out hv0)
   clear z1 z2 hv0 hm hG
   go_wp2_with fail
   refine HC.out.mono ?_
   rintro e w2 ⟨_,_,rfl,hq,hr,hF2⟩
   obtain ⟨A2,l2,c2,rfl⟩:=hq.slice
   obtain ⟨A3,l3,c3,rfl⟩:=hr.slice
   have HQr:=zh hr
   have HV2:=zh (hV.out.ext hF2)
   have HF2:=zh (hF.out.trans hF2)
   have hme:Hid (Zh8 wr (.slice B' m' d')=v):=ZlQ hV.out
   have hme2:Hid (Zh8 w2 (.slice A3 l3 c3)=u % v):=ZlQ hr
   clear hq hr hF2 HC
   go_wp2
   go_roundw
   case rel=>exact ⟨v,u % v,_,_,_,_,_,_,rfl,rfl,HV2,HQr,hv,hml,HG,HF2⟩
   case measure=>rw [hme.out,hme2.out]; exact hlt.out
end Go.Proofs.YtklpdkpcocnglaaGreatDoor

namespace Go.Proofs.YtklpdkpcocnglaaGreatDoor
theorem ZfE {n k:Nat}:k < blen n ↔ 2 ^ k≤n:=by have:=@ZbH n k; omega
theorem ZdY {n:Nat} (h:0 < n):0 < blen n:=ZfE.2 (by rw [Nat.pow_zero]; exact h)
theorem ZiN {n k:Nat} (h1:2 ^ k≤n) (h2:n < 2 ^ (k + 1)):blen n=k + 1:=by
 have:=ZfE.2 h1; have:=ZbH.2 h2; omega
theorem Zf2 {n:Nat} (h:0 < n):2 ^ (blen n - 1)≤n:=ZfE.1 (by have:=ZdY h; omega)
theorem p2 (k:Nat):0 < 2 ^ k:=Nat.pow_pos (by decide)
theorem Zgp {n:Nat} (h:0 < n) (j:Nat):blen (n * 2 ^ j)=blen n + j:=by
 have h1:=Zf2 h
 have h2:=Zc6 n
 obtain ⟨k,hk⟩:∃ k,blen n=k + 1:=⟨blen n - 1,by have:=ZdY h; omega⟩
 rw [hk] at h1 h2 ⊢
 rw [show k + 1 + j=k + j + 1 by omega]
 refine ZiN ?_ ?_
 ·rw [Nat.pow_add]; exact Nat.mul_le_mul_right _ (by simpa using h1)
 ·rw [show k + j + 1=k + 1 + j by omega,Nat.pow_add]; exact (Nat.mul_lt_mul_right (p2 j)).2 h2
theorem Zfm (n j:Nat):blen (n / 2 ^ j)=blen n - j:=by
 rcases Nat.lt_or_ge j (blen n) with h | h
 ·have hn:0 < n:=by rcases Nat.eq_zero_or_pos n with e | e; · subst e; rw [Zda] at h; omega
                    ·exact e
  have h1:=Zf2 hn
  have h2:=Zc6 n
  obtain ⟨k,hk⟩:∃ k,blen n=j + (k + 1):=⟨blen n - j - 1,by omega⟩
  rw [hk] at h1 h2 ⊢
  rw [show j + (k + 1) - j=k + 1 by omega]
  refine ZiN ?_ ?_
  ·rw [Nat.le_div_iff_mul_le (p2 j),← Nat.pow_add]; rw [show j + (k + 1) - 1=k + j by omega] at h1; exact h1
  ·rw [Nat.div_lt_iff_lt_mul (p2 j),← Nat.pow_add,Nat.add_comm]; exact h2
 ·rw [Nat.div_eq_of_lt (ZbH.1 h),Zda]; omega
def Zb0 (a b:Nat):Nat:=if b < 2 * (a % b)∨(2 * (a % b)=b∧a / b % 2=1) then a / b + 1 else a / b
theorem Zp4 {a b c:Nat} (hc:0 < c):Zb0 (a * c) (b * c)=Zb0 a b:=by
 unfold Zb0
 rw [Nat.mul_mod_mul_right,Nat.mul_div_mul_right _ _ hc,← Nat.mul_assoc]
 have e1:b * c < 2 * (a % b) * c ↔ b < 2 * (a % b):=Nat.mul_lt_mul_right hc
 have e2:2 * (a % b) * c=b * c ↔ 2 * (a % b)=b:=⟨fun h=>Nat.eq_of_mul_eq_mul_right hc h,fun h=>by rw [h]⟩
 simp only [e1,e2]
def Zhh (q j:Nat) (m:Bool):Nat:=if q / 2 ^ j % 2=1∧(q % 2 ^ j≠0∨q / 2 ^ (j + 1) % 2=1∨m=true) then q / 2 ^ (j + 1) + 1 else q / 2 ^ (j + 1)
theorem Zp5 {a b j:Nat} (hb:0 < b):Zb0 a (b * 2 ^ (j + 1))=Zhh (a / b) j (decide (a % b≠0)):=by
 unfold Zb0 Zhh
 have hq:a / (b * 2 ^ (j + 1))=a / b / 2 ^ (j + 1):=(Nat.div_div_eq_div_mul _ _ _).symm
 have h0:=Nat.div_add_mod a b
 have hr:=Nat.mod_lt a hb
 rw [hq]
 generalize a / b=q at *
 generalize a % b=r at *
 obtain ⟨h,hh⟩:∃ h,h=2 ^ j:=⟨_,rfl⟩
 have hp:0 < h:=by rw [hh]; exact p2 j
 have e1:2 ^ (j + 1)=h * 2:=by rw [Nat.pow_succ,hh]
 have h1:=Nat.div_add_mod q h
 have hz:=Nat.mod_lt q hp
 rw [e1,← hh,← Nat.div_div_eq_div_mul]
 generalize q / h=p at *
 generalize q % h=z at *
 have h2:=Nat.div_add_mod p 2
 have hs:=Nat.mod_lt p (show 0 < 2 by decide)
 generalize p / 2=u at *
 generalize p % 2=s at *
 have hR:a % (b * (h * 2))=b * (h * s + z) + r:=by
  have e:a=b * (h * 2) * u + (b * (h * s + z) + r):=by
   rw [← h0,← h1,← h2]
   simp only [Nat.mul_add,Nat.mul_assoc,Nat.add_assoc]
  have hlt:b * (h * s + z) + r < b * (h * 2):=by
   have k1:h * s + z + 1≤h * 2:=by
    have:h * s≤h * 1:=Nat.mul_le_mul_left _ (by omega)
    omega
   have k2:=Nat.mul_le_mul_left b k1
   rw [Nat.mul_add,Nat.mul_one] at k2
   omega
  rw [e,Nat.mul_add_mod,Nat.mod_eq_of_lt hlt]
 rw [hR]
 have kz:b * z + b≤b * h:=by
  have:=Nat.mul_le_mul_left b (show z + 1≤h by omega)
  rwa [Nat.mul_add,Nat.mul_one] at this
 have e3:b * (h * 2)=2 * (b * h):=by rw [← Nat.mul_assoc,Nat.mul_comm]
 have hzz:z=0∨b≤b * z:=by
  rcases Nat.eq_zero_or_pos z with e | e
  ·exact Or.inl e
  ·exact Or.inr (by have:=Nat.mul_le_mul_left b e; simpa using this)
 rcases (by omega:s=0∨s=1) with rfl | rfl
 ·rw [if_neg,if_neg (by omega)]
  rw [Nat.mul_zero,Nat.zero_add,e3]
  omega
 ·rw [Nat.mul_one,Nat.mul_add b h z,e3]
  have c1:(2 * (b * h) < 2 * (b * h + b * z + r)) ↔ (z≠0∨r≠0):=by
   constructor
   ·intro hc
    rcases Nat.eq_zero_or_pos z with e | e
    ·subst e; right; intro er; subst er; simp at hc
    ·left; omega
   ·intro hc
    rcases hzz with e | e
    ·subst e; rcases hc with hc | hc; · exact absurd rfl hc
     ·simp; omega
    ·omega
  have c2:(2 * (b * h + b * z + r)=2 * (b * h)) ↔ (z=0∧r=0):=by
   constructor
   ·intro hc
    rcases hzz with e | e
    ·subst e; refine ⟨rfl,?_⟩; rw [Nat.mul_zero] at hc; omega
    ·omega
   ·rintro ⟨rfl,rfl⟩; simp
  simp only [c1,c2]
  by_cases d1:z=0<;>by_cases d2:r=0<;>by_cases d3:u % 2=1<;>simp [d1,d2,d3]
def fa (n:Nat) (k:Int):Nat:=n * 2 ^ (-k).toNat
def fb (d:Nat) (k:Int):Nat:=d * 2 ^ k.toNat
def fq (n d:Nat) (k:Int):Nat:=fa n k / fb d k
theorem Zrf {d:Nat} (h:0 < d) (k:Int):0 < fb d k:=Nat.mul_pos h (p2 _)
theorem Zo3 (n d:Nat) (k:Int) (j:Nat):∃ c,0 < c∧fa n k=fa n (k + j) * c∧fb d k * 2 ^ j=fb d (k + j) * c:=by
 unfold fa fb
 rcases Int.le_total 0 k with h | h
 ·obtain ⟨m,rfl⟩:=Int.eq_ofNat_of_zero_le h
  refine ⟨1,by decide,?_,?_⟩
  ·rw [show (-(m:Int)).toNat=0 by omega,show (-((m:Int) + j)).toNat=0 by omega]; simp
  ·rw [show ((m:Int)).toNat=m by omega,show ((m:Int) + j).toNat=m + j by omega,Nat.mul_assoc,← Nat.pow_add,Nat.mul_one]
 ·obtain ⟨m,hm⟩:=Int.eq_ofNat_of_zero_le (show 0 ≤ -k by omega)
  obtain rfl:k = -(m:Int):=by omega
  rcases Nat.le_total j m with h2 | h2
  ·refine ⟨2 ^ j,p2 j,?_,?_⟩
   ·rw [show (- -(m:Int)).toNat=m by omega,show (-(-(m:Int) + j)).toNat=m - j by omega,Nat.mul_assoc,← Nat.pow_add,Nat.sub_add_cancel h2]
   ·rw [show (-(m:Int)).toNat=0 by omega,show (-(m:Int) + j).toNat=0 by omega]
  ·refine ⟨2 ^ m,p2 m,?_,?_⟩
   ·rw [show (- -(m:Int)).toNat=m by omega,show (-(-(m:Int) + j)).toNat=0 by omega]; simp
   ·rw [show (-(m:Int)).toNat=0 by omega,show (-(m:Int) + j).toNat=j - m by omega,Nat.mul_assoc,Nat.mul_assoc,← Nat.pow_add,← Nat.pow_add,Nat.sub_add_cancel h2,Nat.zero_add]
theorem Zh9 (n d:Nat) (k:Int) (j:Nat):fq n d (k + j)=fq n d k / 2 ^ j:=by
 obtain ⟨c,hc,h1,h2⟩:=Zo3 n d k j
 unfold fq
 rw [Nat.div_div_eq_div_mul,h1,h2,Nat.mul_div_mul_right _ _ hc]
theorem Zss {n d:Nat} (k:Int) (j:Nat) (hd:0 < d):Zb0 (fa n (k + (j + 1:Nat))) (fb d (k + (j + 1:Nat)))=Zhh (fq n d k) j (decide (fa n k % fb d k≠0)):=by
 obtain ⟨c,hc,h1,h2⟩:=Zo3 n d k (j + 1)
 unfold fq
 rw [← Zp5 (Zrf hd k),h2,h1,Zp4 hc]
def rk0 (n d bits:Nat):Int:=(blen n:Int) - blen d - bits
theorem ZjE {n d bits:Nat} (hn:0 < n) (hd:0 < d) (hb:0 < bits):bits≤blen (fq n d (rk0 n d bits))∧blen (fq n d (rk0 n d bits))≤bits + 1:=by
 have n1:=Zf2 hn
 have n2:=Zc6 n
 have d1:=Zf2 hd
 have d2:=Zc6 d
 obtain ⟨p,hp⟩:∃ p,blen n=p + 1:=⟨blen n - 1,by have:=ZdY hn; omega⟩
 obtain ⟨q,hq⟩:∃ q,blen d=q + 1:=⟨blen d - 1,by have:=ZdY hd; omega⟩
 obtain ⟨b,rfl⟩:∃ b,bits=b + 1:=⟨bits - 1,by omega⟩
 have key:fb d (rk0 n d (b + 1)) * 2 ^ b≤fa n (rk0 n d (b + 1))∧fa n (rk0 n d (b + 1)) < fb d (rk0 n d (b + 1)) * 2 ^ (b + 2):=by
  unfold fa fb rk0
  rw [hp] at n1 n2 ⊢
  rw [hq] at d1 d2 ⊢
  rw [Nat.add_sub_cancel] at n1 d1
  rcases Int.le_total 0 ((p + 1:Nat) - (q + 1:Nat) - (b + 1:Nat):Int) with h | h
  ·obtain ⟨m,hm⟩:=Int.eq_ofNat_of_zero_le h
   have hp2:p=q + m + b + 1:=by omega
   subst hp2
   rw [hm,show ((m:Nat):Int).toNat=m by omega,show (-((m:Nat):Int)).toNat=0 by omega]
   simp only [Nat.pow_zero,Nat.mul_one]
   constructor
   ·refine Nat.le_trans ?_ n1
    rw [show q + m + b + 1=(q + 1) + (m + b) by omega,Nat.pow_add,Nat.mul_assoc,← Nat.pow_add]
    exact Nat.mul_le_mul_right _ (Nat.le_of_lt d2)
   ·refine Nat.lt_of_lt_of_le n2 ?_
    rw [show q + m + b + 1 + 1=q + (m + (b + 2)) by omega,Nat.pow_add 2 q,Nat.mul_assoc,← Nat.pow_add 2 m]
    exact Nat.mul_le_mul_right _ d1
  ·obtain ⟨m,hm⟩:=Int.eq_ofNat_of_zero_le (show 0 ≤ -((p + 1:Nat) - (q + 1:Nat) - (b + 1:Nat):Int) by omega)
   have hp2:p + m=q + b + 1:=by omega
   rw [hm,show ((m:Nat):Int).toNat=m by omega,show ((p + 1:Nat) - (q + 1:Nat) - (b + 1:Nat):Int).toNat=0 by omega]
   simp only [Nat.pow_zero,Nat.mul_one]
   constructor
   ·refine Nat.le_trans ?_ (Nat.mul_le_mul_right _ n1)
    rw [← Nat.pow_add,hp2,show q + b + 1=(q + 1) + b by omega,Nat.pow_add]
    exact Nat.mul_le_mul_right _ (Nat.le_of_lt d2)
   ·refine Nat.lt_of_lt_of_le ((Nat.mul_lt_mul_right (p2 m)).2 n2) ?_
    rw [← Nat.pow_add,show p + 1 + m=q + (b + 2) by omega,Nat.pow_add]
    exact Nat.mul_le_mul_right _ d1
 have hfb:=Zrf hd (rk0 n d (b + 1))
 constructor
 ·have:2 ^ b≤fq n d (rk0 n d (b + 1)):=by
   unfold fq
   rw [Nat.le_div_iff_mul_le hfb,Nat.mul_comm]; exact key.1
  have:=ZfE.2 this
  omega
 ·refine ZbH.2 ?_
  unfold fq
  rw [Nat.div_lt_iff_lt_mul hfb,Nat.mul_comm]; exact key.2
def rndK (n d bits:Nat):Int:=if blen (fq n d (rk0 n d bits))=bits then rk0 n d bits else rk0 n d bits + 1
theorem Zfn {n d bits:Nat} (hn:0 < n) (hd:0 < d) (hb:0 < bits):blen (fq n d (rndK n d bits))=bits:=by
 obtain ⟨h1,h2⟩:=ZjE hn hd hb
 unfold rndK
 split
 ·assumption
 ·have:=Zh9 n d (rk0 n d bits) 1
  rw [show (rk0 n d bits + 1:Int)=rk0 n d bits + (1:Nat) by simp,this,Zfm]
  omega
theorem Zo4 {n d bits:Nat} (hn:0 < n) (hd:0 < d) (hb:0 < bits) {k:Int} (h:blen (fq n d k)=bits):rndK n d bits=k:=by
 have h2:=Zfn hn hd hb
 rcases Int.lt_trichotomy (rndK n d bits) k with h3 | h3 | h3
 ·obtain ⟨j,hj⟩:=Int.eq_ofNat_of_zero_le (show 0≤k - rndK n d bits by omega)
  have:=Zh9 n d (rndK n d bits) j
  rw [show rndK n d bits + (j:Int)=k by omega] at this
  rw [this,Zfm,h2] at h
  omega
 ·exact h3
 ·obtain ⟨j,hj⟩:=Int.eq_ofNat_of_zero_le (show 0≤rndK n d bits - k by omega)
  have:=Zh9 n d k j
  rw [show k + (j:Int)=rndK n d bits by omega] at this
  rw [this,Zfm,h] at h2
  omega
def rndM (n d bits:Nat):Nat:=Zb0 (fa n (rndK n d bits)) (fb d (rndK n d bits))
theorem ZiO (a b:Nat):a / b≤Zb0 a b∧Zb0 a b≤a / b + 1:=by unfold Zb0; split<;>omega
theorem Znl {n d bits:Nat} (hn:0 < n) (hd:0 < d) (hb:0 < bits):0 < rndM n d bits:=by
 have h:=Zfn hn hd hb
 have:=(ZiO (fa n (rndK n d bits)) (fb d (rndK n d bits))).1
 have h3:0 < fq n d (rndK n d bits):=by
  rcases Nat.eq_zero_or_pos (fq n d (rndK n d bits)) with e | e
  ·rw [e,Zda] at h; omega
  ·exact e
 unfold rndM
 unfold fq at h3
 omega
theorem Zrg {n d bits:Nat} (hn:0 < n) (hd:0 < d) (hb:0 < bits) (k:Int) (j:Nat) (h:blen (fq n d k)=bits + (j + 1)) :
 rndK n d bits=k + (j + 1:Nat)∧rndM n d bits=Zhh (fq n d k) j (decide (fa n k % fb d k≠0)):=by
 have h1:rndK n d bits=k + (j + 1:Nat):=Zo4 hn hd hb (by rw [Zh9,Zfm,h]; omega)
 refine ⟨h1,?_⟩
 unfold rndM
 rw [h1,Zss k j hd]
def tzn (n:Nat):Nat:=if h:n=0∨n % 2=1 then 0 else tzn (n / 2) + 1
termination_by n
decreasing_by omega
theorem ZgQ {n:Nat} (h:n % 2=1):tzn n=0:=by rw [tzn,dif_pos (Or.inr h)]
theorem Zo5 {n:Nat} (h:0 < n):tzn (n * 2)=tzn n + 1:=by
 rw [tzn,dif_neg (by omega),Nat.mul_div_cancel _ (by decide)]
theorem Zld {n:Nat} (h:0 < n):∀ j,tzn (n * 2 ^ j)=tzn n + j
 | 0=>by simp
 | j + 1=>by rw [Nat.pow_succ,← Nat.mul_assoc,Zo5 (Nat.mul_pos h (p2 j)),Zld h j]; omega
theorem Zrh:∀ n:Nat,0 < n→∃ o,o % 2=1∧n=o * 2 ^ tzn n:=by
 intro n
 induction n using Nat.strongRecOn with
 | ind n ih =>
   intro h
   by_cases ho:n % 2=1
   ·exact ⟨n,ho,by rw [ZgQ ho]; simp⟩
   ·obtain ⟨m,rfl⟩:∃ m,n=m * 2:=⟨n / 2,by omega⟩
    obtain ⟨o,h1,h2⟩:=ih m (by omega) (by omega)
    exact ⟨o,h1,by rw [Zo5 (by omega),Nat.pow_succ,← Nat.mul_assoc,← h2]⟩
theorem Znm {o:Nat} (h:o % 2=1) (j:Nat):tzn (o * 2 ^ j)=j:=by rw [Zld (by omega),ZgQ h]; omega
def oddM (n:Nat):Nat:=n / 2 ^ tzn n
theorem Zo6 {o:Nat} (h:o % 2=1) (j:Nat):oddM (o * 2 ^ j)=o:=by unfold oddM; rw [Znm h,Nat.mul_div_cancel _ (p2 j)]
theorem Zdk {n:Nat} (h:0 < n):oddM n % 2=1∧n=oddM n * 2 ^ tzn n:=by
 obtain ⟨o,h1,h2⟩:=Zrh n h
 have:oddM n=o:=by rw [h2]; exact Zo6 h1 _
 rw [this]; exact ⟨h1,h2⟩
theorem Zri {n:Nat} (h:0 < n) (j:Nat):tzn n < j ↔ n % 2 ^ j≠0:=by
 obtain ⟨h1,h2⟩:=Zdk h
 constructor
 ·intro hl e
  obtain ⟨d,hd⟩:∃ d,j=tzn n + (d + 1):=⟨j - tzn n - 1,by omega⟩
  have hdv:=Nat.dvd_of_mod_eq_zero e
  rw [hd,Nat.pow_add,Nat.mul_comm] at hdv
  rw [h2] at hdv
  rw [Znm h1] at hdv
  have:=Nat.dvd_of_mul_dvd_mul_right (p2 _) hdv
  rw [Nat.pow_succ] at this
  have:2 ∣ oddM n:=Nat.dvd_trans ⟨_,Nat.mul_comm _ _⟩ this
  omega
 ·intro hne
  refine Nat.lt_of_not_le fun hl=>hne ?_
  obtain ⟨d,hd⟩:=Nat.exists_eq_add_of_le hl
  rw [h2,hd,Nat.pow_add,← Nat.mul_assoc,Nat.mul_comm (oddM n),Nat.mul_assoc,Nat.mul_mod_right]
end Go.Proofs.YtklpdkpcocnglaaGreatDoor

namespace Go.Proofs.YtklpdkpcocnglaaGreatDoor
open Go.RowKit
section
variable {N:Nat} {S0:Nat→Prop} {w:World} {Φ:World→Prop} {P:Program}
theorem ZdZ (S0:Nat→Prop) {fn:Func} {f:FuncId} {c:Code} {args:List Value} {R:Ending→World→Prop} (hf:P.funcs[f]? = some fn) (hb:fn.body=some c) (hl:Nat.ble args.length fn.ntmps=true) (Q:Box (fun _=>False) w Φ)
 (h:SXc P fn.ntmps S0 w (bodyPost P fn R) c (ofL (ZiF 0 args) []) Φ):Calls P f args.toArray w R:=by
 refine calls_of_wp hf hb (h (fun _=>0) _ w ⟨?_,rfl,fun i x hx=>?_,⟨fun b t cs e=>(by cases e),fun b c e=>(by cases e),fun b e=>(by cases e),Fr.refl _ _,fun i b off e=>?_,fun b t cs e=>(by cases e)⟩,?_⟩)
 ·have:=Nat.le_of_ble_eq_true hl
  simp; omega
 ·obtain ⟨_,v,hv,rfl⟩:=ZfV args 0 i x hx
  have hlt:i < args.length:=by
   rcases Nat.lt_or_ge i args.length with h' | h'
   ·exact h'
   ·rw [List.getElem?_eq_none (by omega)] at hv; cases hv
  simp only [AV.conc]
  rw [Array.getElem?_append_left (by simpa using hlt)]
  simpa using hv
 ·obtain ⟨_,v,hv,e'⟩:=ZfV args 0 i _ e
  cases e'
 ·intro w' hf'
  exact Q w' (hf'.mono (fun i _ h'=>by obtain ⟨b,e,_⟩:=h'; cases e))
end
section
variable {P:Program} {o:Oper} {ρ:Operand→Value} {w:World} {x y:Operand} {t k:TypeId}
theorem Ztx {a:Nat} (ho:o.op=Op.binOp .and t x y k:=by kernel_rfl) (hx:ρ x=.int .u64 ((a:Nat):Int):=by kernel_rfl) (hy:ρ y=.int .u64 1:=by kernel_rfl) (ha:a < W64:=by assumption):(execOp ρ o).run P w=.ok (.value (.int .u64 ((a % 2:Nat):Int))) w:=by
 have h:bits .and .u64 (a:Int) 1=((a % 2:Nat):Int):=by
  have:=bits_and_u64_nat a 1 (by rw [← Zam]; exact ha) (by decide)
  rw [Nat.and_one_is_mod] at this
  exact this
 rw [← h]
 simp only [execOp,ho,hx,hy,eqGuard,binOp]
 rfl
end
/-! ### length -/
theorem Zjj {xs:List Nat} {k t:Nat} (hd:Dig W64 xs) (hl:xs.length=k + 1) (ht:Trim xs) (et:xs[k]?.getD 0=t):blen (val W64 xs)=64 * k + blen t:=by
 have h0:0 < t:=Nat.pos_of_ne_zero (by rw [← et]; exact ht k hl)
 have hv:=Zas (B:=W64) k (show k < xs.length by omega)
 rw [List.take_of_length_le (by omega),et] at hv
 have hlow:=ZaQ (hd.take k)
 rw [List.length_take,Nat.min_eq_left (by omega),Zd2] at hlow
 rw [hv,Zd2]
 exact Znj hlow h0
theorem Zjk {t:Nat} (h:t < W64):Lib.bitLen t=blen t:=by
 rcases Nat.eq_zero_or_pos t with rfl | h0
 ·rfl
 ·obtain ⟨h1,_,h3,h4⟩:=Zdp h0 h
  have:=ZiN (k:=Lib.bitLen t - 1) h3 (by rw [Nat.sub_add_cancel h1]; exact h4)
  omega
theorem Zrj (t:Nat) (w:World) (h:t < W64):Calls Tryz.prog 105 #[.int .u64 (t:Int)] w (RetV w (.int .i64 ((blen t:Nat):Int))):=by
 have h2:=h
 rw [Zam] at h2
 refine (Tryz.bits_Len64 (t:Int) w (by omega) (by omega)).mono ?_
 rintro e w' ⟨rfl,rfl⟩
 exact ⟨by rw [Int.toNat_natCast,Zjk h],Fr.refl _ _⟩
theorem Zp6 (t:Nat) (w:World) (h:t < W64):Calls Tryz.prog 174 #[.int .u64 (t:Int)] w (RetV w (.int .i64 ((64 - blen t:Nat):Int))):=by
 refine (ZeP t w h).mono ?_
 rintro e w' ⟨rfl,rfl⟩
 have:blen t≤64:=ZbH.2 (by rw [Zam] at h; exact h)
 exact ⟨by rw [Zjk h]; congr 2; omega,Fr.refl _ _⟩
/-! ### zeros -/
theorem Zst (x:Nat) (w:World) (hg:Glob w) (h0:0 < x) (h:x < W64):Calls Tryz.prog 186 #[.int .u64 (x:Int)] w (RetV w (.int .i64 ((tzn x:Nat):Int))):=by
 obtain ⟨h1,h2⟩:=Zdk h0
 have ht:tzn x < 64:=by
  refine Nat.lt_of_not_le fun hc=>?_
  have:=Nat.pow_le_pow_right (n:=2) (by decide) hc
  have h3:1 * 2 ^ tzn x≤oddM x * 2 ^ tzn x:=Nat.mul_le_mul_right _ (by omega)
  rw [Zam] at h
  omega
 refine (Zg0 x (tzn x) (oddM x / 2) w hg (by rw [show 2 * (oddM x / 2) + 1=oddM x by omega,Nat.mul_comm]; exact h2) ht h).mono ?_
 rintro e w' ⟨rfl,rfl⟩
 exact ⟨rfl,Fr.refl _ _⟩
def ZerR (xs:List Nat) (k:Nat):Prop:=val W64 (xs.take k)=0
theorem ZerR.start (xs:List Nat):ZerR xs 0:=by unfold ZerR; simp
theorem ZerR.lt {xs:List Nat} {k:Nat} (h:ZerR xs k) (h0:0 < val W64 xs):k < xs.length:=by
 rcases Nat.lt_or_ge k xs.length with h1 | h1
 ·exact h1
 ·unfold ZerR at h; rw [List.take_of_length_le h1] at h; omega
theorem ZerR.step {xs:List Nat} {k:Nat} (h:ZerR xs k) (hk:k < xs.length) (hx:xs[k]?.getD 0=0):ZerR xs (k + 1):=by
 unfold ZerR at *
 rw [Zas k hk,h,hx]; simp
theorem Zty {x r:Nat} (h0:0 < x) (hx:x < W64):tzn (x + W64 * r)=tzn x:=by
 obtain ⟨h1,h2⟩:=Zdk h0
 have ht:tzn x < 64:=by
  refine Nat.lt_of_not_le fun hc=>?_
  have:=Nat.pow_le_pow_right (n:=2) (by decide) hc
  have h3:1 * 2 ^ tzn x≤oddM x * 2 ^ tzn x:=Nat.mul_le_mul_right _ (by omega)
  rw [Zam] at hx
  omega
 have e:x + W64 * r=(oddM x + 2 ^ (64 - tzn x) * r) * 2 ^ tzn x:=by
  rw [Nat.add_mul,← h2,Nat.mul_right_comm,← Nat.pow_add,Nat.sub_add_cancel (by omega),Zam]
 have h5:2 ^ (64 - tzn x)=2 * 2 ^ (63 - tzn x):=by rw [show 64 - tzn x=(63 - tzn x) + 1 by omega,Nat.pow_succ,Nat.mul_comm]
 rw [e]
 exact Znm (by rw [h5,Nat.mul_assoc]; omega) _
theorem ZerR.done {xs:List Nat} {k x:Nat} (h:ZerR xs k) (hd:Dig W64 xs) (hk:k < xs.length) (hx:xs[k]?.getD 0=x) (h0:x≠0):tzn (val W64 xs)=64 * k + tzn x:=by
 unfold ZerR at h
 have hv:=ZaK (B:=W64) (xs:=xs) k
 rw [h,Nat.min_eq_left (by omega),ZaL k hk,hx,Nat.zero_add,Zd2,Nat.mul_comm] at hv
 rw [hv,Zld (by omega),Zty (by omega) (hx ▸ hd.getD Zan k),Nat.add_comm]
theorem ZerR.bound {xs:List Nat} {k x:Nat} (hd:Dig W64 xs) (hx:xs[k]?.getD 0=x) (h0:x≠0):tzn x < 64:=by
 have hxW:x < W64:=hx ▸ hd.getD Zan k
 obtain ⟨h1,h2⟩:=Zdk (show 0 < x by omega)
 refine Nat.lt_of_not_le fun hc=>?_
 have:=Nat.pow_le_pow_right (n:=2) (by decide) hc
 have h3:1 * 2 ^ tzn x≤oddM x * 2 ^ tzn x:=Nat.mul_le_mul_right _ (by omega)
 rw [Zam] at hxW
 omega
/-! ### bit -/
theorem Ztz {xs:List Nat} {i x:Nat} (hd:Dig W64 xs) (hk:i / 64 < xs.length) (hx:xs[i / 64]?.getD 0=x):val W64 xs / 2 ^ i % 2=x / 2 ^ (i % 64) % 2:=by
 have h1:=ZkV xs (i / 64) (i % 64) hd (by omega)
 rw [show 64 * (i / 64) + i % 64=i by omega] at h1
 rw [← h1,ZaL _ hk,hx]
 have ht:i % 64 < 64:=Nat.mod_lt _ (by decide)
 generalize i % 64=t at *
 generalize val W64 (xs.drop (i / 64 + 1))=r
 have e:W64 * r=2 ^ t * (2 ^ (64 - t) * r):=by rw [← Nat.mul_assoc,← Nat.pow_add,show t + (64 - t)=64 by omega,Zam]
 have h5:2 ^ (64 - t)=2 * 2 ^ (63 - t):=by rw [show 64 - t=(63 - t) + 1 by omega,Nat.pow_succ,Nat.mul_comm]
 rw [e,Nat.add_mul_div_left _ _ (p2 t),h5,Nat.mul_assoc,Nat.add_mul_mod_self_left]
theorem Zsu {xs:List Nat} {i:Nat} (hd:Dig W64 xs) (hk:¬ i / 64 < xs.length):val W64 xs / 2 ^ i % 2=0:=by
 rw [Zjw hd (by omega)]
theorem Zuk (m:Nat):(((m % 2:Nat):Int) == 1)=decide (m % 2=1):=by
 rcases Nat.mod_two_eq_zero_or_one m with h | h<;>rw [h]<;>rfl
/-! ### division by a word,in place -/
def DwR (xs:List Nat) (u k:Nat) (qs:List Nat) (r:Nat):Prop:=Zd9 xs u k qs r∧qs.take k=xs.take k
theorem DwR.start {xs:List Nat} {u:Nat} (hd:Dig W64 xs) (hu:0 < u):DwR xs u xs.length xs 0 :=
 ⟨⟨rfl,hd,hu,by rw [List.drop_of_length_le (Nat.le_refl _)]; simp⟩,rfl⟩
theorem DwR.at {xs qs:List Nat} {u k r:Nat} (h:DwR xs u (k + 1) qs r):qs[k]?.getD 0=xs[k]?.getD 0:=by
 have:=congrArg (fun l=>l[k]?.getD 0) h.2
 simp only [List.getElem?_take_of_lt (show k < k + 1 by omega)] at this
 exact this
theorem DwR.step {xs qs:List Nat} {u k r x:Nat} (h:DwR xs u (k + 1) qs r) (hk:k < xs.length) (hx:qs[k]?.getD 0=x) (hxW:x < W64):DwR xs u k (qs.set k (divQ r x u)) (divR r x u):=by
 refine ⟨h.1.step hk (h.at.symm.trans hx) hxW,?_⟩
 have:=congrArg (List.take k) h.2
 rw [List.take_take,List.take_take,Nat.min_eq_left (by omega)] at this
 rw [List.take_set_of_le (Nat.le_refl k)]; exact this
theorem ZlR (hi lo y:Nat) (w:World) (h1:hi < y) (hy:y < W64) (hlo:lo < W64):Calls Tryz.prog 149 #[.int .u64 (hi:Int), .int .u64 (lo:Int), .int .u64 (y:Int)] w (RetV w (.tuple #[.int .u64 ((divQ hi lo y:Nat):Int), .int .u64 ((divR hi lo y:Nat):Int)])):=by
 refine (Zgd hi lo y w h1 hy hlo).mono ?_
 rintro e w' ⟨rfl,n,rfl⟩
 exact ⟨rfl,(Fr.refl _ _).drewN n⟩
/-! ### a multiple subtracted within a row -/
def SpR (zs0 ys:List Nat) (q o k:Nat) (zs:List Nat) (c b:Nat):Prop :=
 zs.length=zs0.length∧Dig W64 zs∧c < W64∧b≤1∧zs.take o=zs0.take o∧zs.drop (o + k)=zs0.drop (o + k) ∧
  val W64 (zs.take (o + k)) + W64 ^ o * (q * val W64 (ys.take k))=val W64 (zs0.take (o + k)) + W64 ^ (o + k) * (c + b)
theorem SpR.start {zs0:List Nat} (ys:List Nat) (q o:Nat) (h:Dig W64 zs0):SpR zs0 ys q o 0 zs0 0 0:=⟨rfl,h,Zan,by omega,rfl,rfl,by simp⟩
theorem ZeJ {zs zs0:List Nat} {k:Nat} (h:zs.drop k=zs0.drop k):zs[k]?.getD 0=zs0[k]?.getD 0:=by
 have:=congrArg (fun l=>l[0]?.getD 0) h
 simpa [List.getElem?_drop] using this
theorem Znn {x q c:Nat} (hx:x < W64) (hq:q < W64) (hc:c < W64):Zbm x q + ZaV (ZaJ x q) c 0 < W64:=by
 have h1:=Zeo x q
 have h2:=ZdI (ZaJ x q) c 0
 have h3:=Zjv hx hq
 refine ZfR _ (Nat.lt_of_le_of_lt (m:=x * q + c) ?_ (by omega))
 rw [Nat.mul_add]; omega
theorem SpR.step {zs0 ys zs:List Nat} {q o k c b x z:Nat} (h:SpR zs0 ys q o k zs c b) (hk:o + k < zs0.length) (hx:ys[k]?.getD 0=x) (hz:zs[o + k]?.getD 0=z) (hy:Dig W64 ys) (hq:q < W64) :
 SpR zs0 ys q o (k + 1) (zs.set (o + k) (Zca z (ZaP (ZaJ x q) c 0) b)) (Zbm x q + ZaV (ZaJ x q) c 0) (ZbW z (ZaP (ZaJ x q) c 0) b):=by
 obtain ⟨h1,h2,h3,h4,h5,h6,h7⟩:=h
 have hxW:x < W64:=hx ▸ hy.getD Zan k
 have hzW:z < W64:=hz ▸ h2.getD Zan _
 have e1:zs0[o + k]?.getD 0=z:=(ZeJ h6).symm.trans hz
 have m1:=Zeo x q
 have m2:=ZdI (ZaJ x q) c 0
 have m3:=ZgX hzW (Zen (ZaJ x q) c 0) h4
 refine ⟨by simpa using h1,h2.set _ (ZfM _ _ _),Znn hxW hq h3,Zjt _ _ _,?_,?_,?_⟩
 ·rw [List.take_set_of_le (by omega)]; exact h5
 ·have e:=congrArg (List.drop 1) h6
  rw [List.drop_drop,List.drop_drop] at e
  rw [List.drop_set_of_lt (by omega),show o + (k + 1)=o + k + 1 by omega]; exact e
 ·rw [show o + (k + 1)=(o + k) + 1 by omega,ZaI _ _ _ _ (by omega),Zas (o + k) hk,ZbG k,e1,hx,Nat.pow_succ]
  have key:Zca z (ZaP (ZaJ x q) c 0) b + x * q + c + b=z + W64 * (Zbm x q + ZaV (ZaJ x q) c 0 + ZbW z (ZaP (ZaJ x q) c 0) b):=by
   rw [Nat.mul_add,Nat.mul_add]; omega
  have key2:=congrArg (W64 ^ (o + k) * ·) key
  simp only [Nat.mul_add] at key2
  have e2:W64 ^ o * (q * (val W64 (ys.take k) + W64 ^ k * x))=W64 ^ o * (q * val W64 (ys.take k)) + W64 ^ (o + k) * (x * q):=by
   rw [Nat.mul_add q,Nat.mul_add (W64 ^ o),Nat.pow_add,Nat.mul_left_comm q (W64 ^ k) x,Nat.mul_assoc (W64 ^ o),Nat.mul_comm q x]
  rw [e2,Nat.mul_assoc (W64 ^ (o + k)) W64]
  simp only [Nat.mul_add]
  rw [Nat.mul_add] at h7
  omega
def Zia (zs0 ys:List Nat) (q o:Nat) (zs:List Nat) (b:Nat):Prop :=
 zs.length=zs0.length∧Dig W64 zs∧b≤1∧zs.take o=zs0.take o∧zs.drop (o + ys.length + 1)=zs0.drop (o + ys.length + 1) ∧
  val W64 (zs.take (o + ys.length + 1)) + W64 ^ o * (q * val W64 ys)=val W64 (zs0.take (o + ys.length + 1)) + W64 ^ (o + ys.length + 1) * b
theorem SpR.done {zs0 ys zs:List Nat} {q o c b z:Nat} (h:SpR zs0 ys q o ys.length zs c b) (hk:o + ys.length < zs0.length) (hz:zs[o + ys.length]?.getD 0=z):Zia zs0 ys q o (zs.set (o + ys.length) (Zca z c b)) (ZbW z c b):=by
 obtain ⟨h1,h2,h3,h4,h5,h6,h7⟩:=h
 have hzW:z < W64:=hz ▸ h2.getD Zan _
 have e1:zs0[o + ys.length]?.getD 0=z:=(ZeJ h6).symm.trans hz
 have m3:=ZgX hzW h3 h4
 refine ⟨by simpa using h1,h2.set _ (ZfM _ _ _),Zjt _ _ _,?_,?_,?_⟩
 ·rw [List.take_set_of_le (by omega)]; exact h5
 ·have e:=congrArg (List.drop 1) h6
  rw [List.drop_drop,List.drop_drop] at e
  rw [List.drop_set_of_lt (by omega)]; exact e
 ·rw [List.take_of_length_le (Nat.le_refl ys.length)] at h7
  rw [ZaI _ _ _ _ (by omega),Zas _ hk,e1,Nat.pow_succ]
  have key2:=congrArg (W64 ^ (o + ys.length) * ·) m3
  simp only [Nat.mul_add] at key2
  rw [Nat.mul_assoc (W64 ^ (o + ys.length)) W64]
  rw [Nat.mul_add] at h7
  omega
/-! ### the divisor added within a row -/
def AbR (zs0 ys:List Nat) (o k:Nat) (zs:List Nat) (c:Nat):Prop :=
 zs.length=zs0.length∧Dig W64 zs∧c≤1∧zs.take o=zs0.take o∧zs.drop (o + k)=zs0.drop (o + k) ∧
  val W64 (zs.take (o + k)) + W64 ^ (o + k) * c=val W64 (zs0.take (o + k)) + W64 ^ o * val W64 (ys.take k)
theorem AbR.start {zs0:List Nat} (ys:List Nat) (o:Nat) (h:Dig W64 zs0):AbR zs0 ys o 0 zs0 0:=⟨rfl,h,by omega,rfl,rfl,by simp⟩
theorem AbR.step {zs0 ys zs:List Nat} {o k c x z:Nat} (h:AbR zs0 ys o k zs c) (hk:o + k < zs0.length) (hx:ys[k]?.getD 0=x) (hz:zs[o + k]?.getD 0=z) (hy:Dig W64 ys):AbR zs0 ys o (k + 1) (zs.set (o + k) (ZaP z x c)) (ZaV z x c):=by
 obtain ⟨h1,h2,h4,h5,h6,h7⟩:=h
 have e1:zs0[o + k]?.getD 0=z:=(ZeJ h6).symm.trans hz
 refine ⟨by simpa using h1,h2.set _ (Zen _ _ _),ZgW (hz ▸ h2.getD Zan _) (hx ▸ hy.getD Zan k) h4,?_,?_,?_⟩
 ·rw [List.take_set_of_le (by omega)]; exact h5
 ·have e:=congrArg (List.drop 1) h6
  rw [List.drop_drop,List.drop_drop] at e
  rw [List.drop_set_of_lt (by omega),show o + (k + 1)=o + k + 1 by omega]; exact e
 ·rw [show o + (k + 1)=(o + k) + 1 by omega,ZaI _ _ _ _ (by omega),Zas (o + k) hk,ZbG k,e1,hx,Nat.pow_succ]
  have key2:=congrArg (W64 ^ (o + k) * ·) (ZdI z x c)
  simp only [Nat.mul_add] at key2
  rw [Nat.mul_add (W64 ^ o),← Nat.mul_assoc (W64 ^ o) (W64 ^ k),← Nat.pow_add,Nat.mul_assoc (W64 ^ (o + k)) W64]
  omega
def Zib (zs0 ys:List Nat) (o:Nat) (zs:List Nat) (c:Nat):Prop :=
 zs.length=zs0.length∧Dig W64 zs∧c≤1∧zs.take o=zs0.take o∧zs.drop (o + ys.length + 1)=zs0.drop (o + ys.length + 1) ∧
  val W64 (zs.take (o + ys.length + 1)) + W64 ^ (o + ys.length + 1) * c=val W64 (zs0.take (o + ys.length + 1)) + W64 ^ o * val W64 ys
theorem AbR.done {zs0 ys zs:List Nat} {o c z:Nat} (h:AbR zs0 ys o ys.length zs c) (hk:o + ys.length < zs0.length) (hz:zs[o + ys.length]?.getD 0=z):Zib zs0 ys o (zs.set (o + ys.length) (ZaP z 0 c)) (ZaV z 0 c):=by
 obtain ⟨h1,h2,h4,h5,h6,h7⟩:=h
 have e1:zs0[o + ys.length]?.getD 0=z:=(ZeJ h6).symm.trans hz
 refine ⟨by simpa using h1,h2.set _ (Zen _ _ _),ZgW (hz ▸ h2.getD Zan _) Zan h4,?_,?_,?_⟩
 ·rw [List.take_set_of_le (by omega)]; exact h5
 ·have e:=congrArg (List.drop 1) h6
  rw [List.drop_drop,List.drop_drop] at e
  rw [List.drop_set_of_lt (by omega)]; exact e
 ·rw [List.take_of_length_le (Nat.le_refl ys.length)] at h7
  rw [ZaI _ _ _ _ (by omega),Zas _ hk,e1,Nat.pow_succ]
  have key2:=congrArg (W64 ^ (o + ys.length) * ·) (ZdI z 0 c)
  simp only [Nat.mul_add] at key2
  rw [Nat.mul_assoc (W64 ^ (o + ys.length)) W64]
  omega
theorem Zos (A:Option Addr) (xs:List Nat) (c:Nat) (w:World) (hX:Zae .u64 w A xs) (hl:xs.length≤4294967296) (hd:Dig W64 xs) (ht:Trim xs) :
 Calls Tryz.prog 65 #[.slice A xs.length c] w (RetV w (.int .i64 ((blen (val W64 xs):Nat):Int))):=by
 refine Zaz (Φ:=fun w=>Zae .u64 w A xs) Tryz.func65 rfl (by kernel_rfl) (fun w' hf=>hX.ext hf) ?_
 refine Zac (Zab (xq 1 [(2, .v (.int .i64 0))] [] ?_))
 refine xe (Zaa (Zac (Zac (Zab (xq 3 [(5, .v (.bool ((((xs.length:Nat):Int):Int) == 0)))] [] ?_)))))
 refine xe (Zaa ?_)
 refine ZaA (((((xs.length:Nat):Int):Int) == 0)) (by kernel_rfl) (fun hb10=>?_) (fun hb10=>?_)
 ·have hb10':=beq_iff_eq.1 hb10
  refine Zac (Zab (xq 1 [(2, .v (.int .i64 0))] [] ?_))
  refine xe (Zaa (Zaj (Zak ?_)))
  refine Zaf (v:=.int .i64 0) (by kernel_rfl) (fun w' R Q=>?_)
  exact ⟨by obtain rfl:xs=[]:=List.length_eq_zero_iff.1 (by omega); rfl,R⟩
 ·have hb10':=ZbS hb10
  refine Zap (Zaa (Zac (Zab (xq 3 [(8, .v (.int .i64 (IntKind.i64.wrap (((xs.length:Nat):Int) - 1))))] [] ?_))))
  rw [show IntKind.i64.wrap ((((xs.length:Nat):Int) - 1))=((xs.length - 1:Nat):Int) from by rw [IntKind.wrap_i64]; omega]
  refine xq 1 [(9, .v (.int .i64 (IntKind.i64.wrap (64 * ((xs.length - 1:Nat):Int)))))] [] ?_
  rw [show IntKind.i64.wrap (64 * ((xs.length - 1:Nat):Int))=((64 * (xs.length - 1):Nat):Int) from by rw [IntKind.wrap_i64]; omega]
  refine xq 4 [eS1 10 A xs.length c,(13, .v (.int .i64 (IntKind.i64.wrap (((xs.length:Nat):Int) - 1))))] [] ?_
  rw [show IntKind.i64.wrap ((((xs.length:Nat):Int) - 1))=((xs.length - 1:Nat):Int) from by rw [IntKind.wrap_i64]; omega]
  refine xqk 14 (atA A (xs.length - 1)) (fun w R Q=>Za1 (t:=77) (e:=94) (x:=(Operand.tmp 10)) (ix:=(Operand.tmp 13)) (len:=xs.length) (cap:=c) (i:=xs.length - 1) ((Q).ne (j:=xs.length - 1) (by omega)) (by omega)) ?_
  obtain ⟨x11,hx11⟩:∃ x,xs[xs.length - 1]?.getD 0=x:=⟨_,rfl⟩
  refine xqk 15 (.int .u64 ((x11:Nat):Int)) (fun w R Q=>by rw [← hx11]; exact Zbb (t:=94) (x:=(Operand.tmp 14)) (Q) (j:=xs.length - 1) (by omega)) ?_
  refine xqc 105 [.int .u64 ((x11:Nat):Int)] 16 (fun _:Unit=>.int .i64 ((blen x11:Nat):Int)) _ (fun w R Q=>(Zrj x11 _ (by rw [← hx11]; exact hd.getD Zan _)).mono (fun _ _ h=>Zad h rfl)) (fun xx=>?_)
  refine xq 1 [(17, .v (.int .i64 (IntKind.i64.wrap (((64 * (xs.length - 1):Nat):Int) + ((blen x11:Nat):Int)))))] [] ?_
  rw [show IntKind.i64.wrap (((64 * (xs.length - 1):Nat):Int) + ((blen x11:Nat):Int))=((blen (val W64 xs):Nat):Int) from by rw [Zjj (k:=xs.length - 1) hd (by omega) ht hx11,IntKind.wrap_i64]; have:=ZbH.2 (show x11 < 2 ^ 64 by have h':x11 < W64:=(by rw [← hx11]; exact hd.getD Zan _); rw [Zam] at h'; exact h'); omega]
  refine xq 1 [(2, .v (.int .i64 ((blen (val W64 xs):Nat):Int)))] [] ?_
  refine xe (Zaa (Zaj ?_))
  refine Zaf (v:=.int .i64 ((blen (val W64 xs):Nat):Int)) (by kernel_rfl) (fun w' R Q=>?_)
  exact ⟨rfl,R⟩
theorem Zp7 (A:Option Addr) (xs:List Nat) (c:Nat) (w:World) (hX:Zae .u64 w A xs) (hl:xs.length≤4294967296) (hd:Dig W64 xs) (hg:Glob w) (h0:0 < val W64 xs) :
 Calls Tryz.prog 157 #[.slice A xs.length c] w (RetV w (.int .i64 ((tzn (val W64 xs):Nat):Int))):=by
 refine Zaz (Φ:=fun w=>(Zae .u64 w A xs∧Glob w)) Tryz.func157 rfl (by kernel_rfl) (fun w' hf=>⟨hX.ext hf,hg.ext hf⟩) ?_
 refine Zac (Zab (xq 1 [(2, .v (.int .i64 0))] [] ?_))
 refine xe (Zaa (Zac (Zab (xq 1 [(3, .v (.int .i64 0))] [] ?_))))
 refine xe (Zaa (Zac (ZaO ?_)))
 refine SXc.weak [(0, .v (.slice A xs.length c)),(2, .v (.int .i64 0)),(3, .v (.int .i64 ((0:Nat):Int)))] [] (Ψ:=fun w=>(Zae .u64 w A (xs)∧Glob w)) (ZaG.of (by kernel_rfl)) (by kernel_rfl) (fun w Q=>⟨Q.1,Q.2⟩) ?_
 refine ZbR (fun nn ss ff=>∃ (k:Nat),ss=ofL [(0, .v (.slice A xs.length c)),(2, .v (.int .i64 0)),(3, .v (.int .i64 ((k:Nat):Int)))] []∧ff=(fun w=>(Zae .u64 w A (xs)∧Glob w))∧(ZerR xs k)∧nn=(xs.length - k)) ((xs.length - 0)) ⟨0,rfl,rfl,ZerR.start xs,rfl⟩ ?_
 rintro nn ss ff ⟨k,rfl,rfl,HR,rfl⟩
 refine Zac (Zac ?_)
 have hkl:=HR.lt h0
 refine Zab (xq 2 [eS1 4 A xs.length c,(5, .v (.int .i64 ((k:Nat):Int)))] [] ?_)
 refine xqk 6 (atA A k) (fun w R Q=>Za1 (t:=77) (e:=94) (x:=(Operand.tmp 4)) (ix:=(Operand.tmp 5)) (len:=xs.length) (cap:=c) (i:=k) ((Q.1).ne (j:=k) (by omega)) (by omega)) ?_
 obtain ⟨x10,hx10⟩:∃ x,xs[k]?.getD 0=x:=⟨_,rfl⟩
 refine xqk 7 (.int .u64 ((x10:Nat):Int)) (fun w R Q=>by rw [← hx10]; exact Zbb (t:=94) (x:=(Operand.tmp 6)) (Q.1) (j:=k) (by omega)) ?_
 refine xq 1 [(8, .v (.bool ((((x10:Nat):Int):Int) == 0)))] [] ?_
 refine xe (Zaa ?_)
 refine ZaA (((((x10:Nat):Int):Int) == 0)) (by kernel_rfl) (fun hb11=>?_) (fun hb11=>?_)
 ·have hb11':=beq_iff_eq.1 hb11
  refine Zap (Zaa (ZaO (Zab (xq 2 [(10, .v (.int .i64 (IntKind.i64.wrap (((k:Nat):Int) + 1))))] [] ?_))))
  rw [show IntKind.i64.wrap ((((k:Nat):Int) + 1))=((k + 1:Nat):Int) from by rw [IntKind.wrap_i64]; omega]
  refine xq 1 [(3, .v (.int .i64 ((k + 1:Nat):Int)))] [] ?_
  refine xe (ZbK ?_)
  refine SXq.weak [(0, .v (.slice A xs.length c)),(2, .v (.int .i64 0)),(3, .v (.int .i64 (((k + 1):Nat):Int)))] [] (Ψ:=fun w=>(Zae .u64 w A (xs)∧Glob w)) (ZaG.of (by kernel_rfl)) (by kernel_rfl) (fun w Q=>⟨Q.1,Q.2⟩) ?_
  exact Zbc ((xs.length - (k + 1))) (by omega) ⟨(k + 1),rfl,rfl,(HR.step hkl (by rw [hx10]; omega)),rfl⟩
 ·have hb11':=ZbS hb11
  refine Zbp (Zax (Zax (ZbA (Zaa (Zac (Zab (xq 2 [(12, .v (.int .i64 (IntKind.i64.wrap (64 * ((k:Nat):Int)))))] [] ?_)))))))
  rw [show IntKind.i64.wrap (64 * ((k:Nat):Int))=((64 * k:Nat):Int) from by rw [IntKind.wrap_i64]; omega]
  refine xq 2 [eS1 13 A xs.length c,(14, .v (.int .i64 ((k:Nat):Int)))] [] ?_
  refine xqk 15 (atA A k) (fun w R Q=>Za1 (t:=77) (e:=94) (x:=(Operand.tmp 13)) (ix:=(Operand.tmp 14)) (len:=xs.length) (cap:=c) (i:=k) ((Q.1).ne (j:=k) (by omega)) (by omega)) ?_
  obtain ⟨x12,hx12⟩:∃ x,xs[k]?.getD 0=x:=⟨_,rfl⟩
  refine xqk 16 (.int .u64 ((x12:Nat):Int)) (fun w R Q=>by rw [← hx12]; exact Zbb (t:=94) (x:=(Operand.tmp 15)) (Q.1) (j:=k) (by omega)) ?_
  obtain rfl:x10=x12:=by rw [← hx10,hx12]
  refine xqc 186 [.int .u64 ((x10:Nat):Int)] 17 (fun _:Unit=>.int .i64 ((tzn x10:Nat):Int)) _ (fun w R Q=>(Zst x10 _ Q.2 (by omega) (by rw [← hx10]; exact hd.getD Zan _)).mono (fun _ _ h=>Zad h rfl)) (fun xx=>?_)
  refine xq 1 [(18, .v (.int .i64 (IntKind.i64.wrap (((64 * k:Nat):Int) + ((tzn x10:Nat):Int)))))] [] ?_
  rw [show IntKind.i64.wrap (((64 * k:Nat):Int) + ((tzn x10:Nat):Int))=((tzn (val W64 xs):Nat):Int) from by rw [HR.done hd hkl hx10 (by omega),IntKind.wrap_i64]; have:=ZerR.bound hd hx10 (by omega); omega]
  refine xq 1 [(2, .v (.int .i64 ((tzn (val W64 xs):Nat):Int)))] [] ?_
  refine xe (Zaa (Zaj ?_))
  refine Zaf (v:=.int .i64 ((tzn (val W64 xs):Nat):Int)) (by kernel_rfl) (fun w' R Q=>?_)
  exact ⟨rfl,R⟩
theorem Zsv (A:Option Addr) (xs:List Nat) (c:Nat) (w:World) (hX:Zae .u64 w A xs) (hd:Dig W64 xs) (i:Nat) (hi:i≤274877906944) :
 Calls Tryz.prog 158 #[.slice A xs.length c, .int .i64 ((i:Nat):Int)] w (RetV w (.bool (decide (val W64 xs / 2 ^ i % 2=1)))):=by
 refine Zaz (Φ:=fun w=>Zae .u64 w A xs) Tryz.func158 rfl (by kernel_rfl) (fun w' hf=>hX.ext hf) ?_
 refine Zac (Zab (xq 1 [(4, .v (.bool false))] [] ?_))
 refine xe (Zaa (Zac (Zab (xq 2 [(6, .v (.int .i64 (IntKind.i64.wrap ((((i:Nat):Int)).tdiv 64))))] [] ?_))))
 rw [show IntKind.i64.wrap (((((i:Nat):Int)).tdiv 64))=((i / 64:Nat):Int) from tdq (i) 64 (by omega)]
 refine xq 4 [(10, .v (.bool (decide (((i / 64:Nat):Int) < ((xs.length:Nat):Int)))))] [] ?_
 rcases bl2 ((decide (((i / 64:Nat):Int) < ((xs.length:Nat):Int)))) with hb10 | hb10
 ·rw [hb10]
  have hb10':=of_decide_eq_true hb10
  have hlt:i / 64 < xs.length:=by omega
  refine xq 3 [eS1 11 A xs.length c,(13, .v (.int .i64 (IntKind.i64.wrap ((((i:Nat):Int)).tdiv 64))))] [] ?_
  rw [show IntKind.i64.wrap (((((i:Nat):Int)).tdiv 64))=((i / 64:Nat):Int) from tdq (i) 64 (by omega)]
  refine xqk 14 (atA A (i / 64)) (fun w R Q=>Za1 (t:=77) (e:=94) (x:=(Operand.tmp 11)) (ix:=(Operand.tmp 13)) (len:=xs.length) (cap:=c) (i:=i / 64) ((Q).ne (j:=i / 64) (by omega)) (by omega)) ?_
  obtain ⟨x11,hx11⟩:∃ x,xs[i / 64]?.getD 0=x:=⟨_,rfl⟩
  refine xqk 15 (.int .u64 ((x11:Nat):Int)) (fun w R Q=>by rw [← hx11]; exact Zbb (t:=94) (x:=(Operand.tmp 14)) (Q) (j:=i / 64) (by omega)) ?_
  refine xq 2 [(17, .v (.int .i64 ((((i:Nat):Int)).tmod 64)))] [] ?_
  rw [show (((i:Nat):Int)).tmod 64=((i % 64:Nat):Int) from tdr (i) 64]
  refine xqk 18 (.int .u64 ((x11 / 2 ^ (i % 64):Nat):Int)) (fun w R Q=>Znb (t:=94) (x:=(Operand.tmp 15)) (y:=(Operand.tmp 17)) (k:=3) (ky:=.i64) (a:=x11) (n:=(i % 64)) (by omega)) ?_
  refine xqk 19 (.int .u64 (((x11 / 2 ^ (i % 64)) % 2:Nat):Int)) (fun w R Q=>Ztx (t:=94) (x:=(Operand.tmp 18)) (y:=(Operand.const (Value.int IntKind.u64 1))) (k:=94) (a:=(x11 / 2 ^ (i % 64))) (ha:=Nat.lt_of_le_of_lt (Nat.div_le_self _ _) (by rw [← hx11]; exact hd.getD Zan _))) ?_
  refine xq 1 [(20, .v (.bool (((((x11 / 2 ^ (i % 64)) % 2:Nat):Int):Int) == 1)))] [] ?_
  rw [show ((((x11 / 2 ^ (i % 64)) % 2:Nat):Int) == 1)=decide (val W64 xs / 2 ^ i % 2=1) from (Zuk _).trans (by rw [Ztz hd hlt hx11])]
  refine xq 2 [(4, .v (.bool (decide (val W64 xs / 2 ^ i % 2=1))))] [] ?_
  refine xe (Zaa (Zaj ?_))
  refine Zaf (v:=.bool (decide (val W64 xs / 2 ^ i % 2=1))) (by kernel_rfl) (fun w' R Q=>?_)
  exact ⟨rfl,R⟩
 ·rw [hb10]
  have hb10':=of_decide_eq_false hb10
  have hlt:¬ i / 64 < xs.length:=by omega
  refine xq 12 [(4, .v (.bool false))] [] ?_
  refine xe (Zaa (Zaj ?_))
  refine Zaf (v:=.bool false) (by kernel_rfl) (fun w' R Q=>?_)
  exact ⟨by rw [Zsu hd hlt]; rfl,R⟩
theorem ZtA {xs ys:List Nat} {j x y:Nat} (h1:j < xs.length) (h2:j < ys.length) (h:xs.drop (j + 1)=ys.drop (j + 1)) (ex:xs[j]?.getD 0=x) (ey:ys[j]?.getD 0=y) (e:x=y):xs.drop j=ys.drop j:=by
 subst e
 rw [List.drop_eq_getElem_cons h1,List.drop_eq_getElem_cons h2,h]
 rw [List.getElem?_eq_getElem h1] at ex
 rw [List.getElem?_eq_getElem h2] at ey
 simp only [Option.getD_some] at ex ey
 rw [ex,ey]
theorem Zno (A A2:Option Addr) (xs ys:List Nat) (c c2:Nat) (w:World) (hX:Zae .u64 w A xs) (hY:Zae .u64 w A2 ys) (hl:xs.length≤4294967296) (hx:Dig W64 xs) (hy:Dig W64 ys) (tx:Trim xs) (ty:Trim ys) :
 Calls Tryz.prog 122 #[.slice A xs.length c, .slice A2 ys.length c2] w (RetV w (.int .i64 (cmpI ((val W64 xs:Nat):Int) ((val W64 ys:Nat):Int)))):=by
 refine Zaz (Φ:=fun w=>(Zae .u64 w A xs∧Zae .u64 w A2 ys)) Tryz.func122 rfl (by kernel_rfl) (fun w' hf=>⟨hX.ext hf,hY.ext hf⟩) ?_
 refine Zac (Zab (xq 1 [(4, .v (.int .i64 0))] [] ?_))
 refine xe (Zaa (Zac (Zac (Zab (xq 5 [(10, .v (.bool ((((xs.length:Nat):Int):Int) != ((ys.length:Nat):Int))))] [] ?_)))))
 refine xe (Zaa ?_)
 refine ZaA (((((xs.length:Nat):Int):Int) != ((ys.length:Nat):Int))) (by kernel_rfl) (fun hb10=>?_) (fun hb10=>?_)
 ·have hb10':=ZdW hb10
  refine Zac (Zac (Zab (xq 5 [(15, .v (.bool (decide (((xs.length:Nat):Int) < ((ys.length:Nat):Int)))))] [] ?_)))
  refine xe (Zaa ?_)
  refine ZaA ((decide (((xs.length:Nat):Int) < ((ys.length:Nat):Int)))) (by kernel_rfl) (fun hb11=>?_) (fun hb11=>?_)
  ·have hb11':=of_decide_eq_true hb11
   refine Zac (Zab (xq 1 [(4, .v (.int .i64 (-1)))] [] ?_))
   refine xe (Zaa (Zaj (Zak (Zak ?_))))
   refine Zaf (v:=.int .i64 (-1)) (by kernel_rfl) (fun w' R Q=>?_)
   exact ⟨by rw [← ZkR hx hy tx ty (by omega),Zb8 (by omega)],R⟩
  ·have hb11':=of_decide_eq_false hb11
   refine Zap (Zaa (Zac (Zab (xq 1 [(4, .v (.int .i64 1))] [] ?_))))
   refine xe (Zaa (Zaj (Zak ?_)))
   refine Zaf (v:=.int .i64 1) (by kernel_rfl) (fun w' R Q=>?_)
   exact ⟨by rw [← ZkR hx hy tx ty (by omega),ZcE (by omega)],R⟩
 ·have hb10':=ZdX hb10
  refine Zap (Zaa (Zac (Zac (Zab (xq 3 [(18, .v (.int .i64 (IntKind.i64.wrap (((xs.length:Nat):Int) - 1))))] [] ?_)))))
  rw [show IntKind.i64.wrap (((xs.length:Nat):Int) - 1)=((xs.length:Nat):Int) - 1 from by rw [IntKind.wrap_i64]; omega]
  refine xq 1 [(5, .v (.int .i64 (((xs.length:Nat):Int) - 1)))] [] ?_
  refine xe (Zaa (ZaO ?_))
  refine SXc.weak [(0, .v (.slice A xs.length c)),(1, .v (.slice A2 ys.length c2)),(4, .v (.int .i64 0)),(5, .v (.int .i64 (((xs.length:Nat):Int) - 1)))] [] (Ψ:=fun w=>(Zae .u64 w A (xs)∧Zae .u64 w A2 (ys))) (ZaG.of (by kernel_rfl)) (by kernel_rfl) (fun w Q=>⟨Q.1,Q.2⟩) ?_
  refine ZbR (fun nn ss ff=>∃ (k:Nat),ss=ofL [(0, .v (.slice A xs.length c)),(1, .v (.slice A2 ys.length c2)),(4, .v (.int .i64 0)),(5, .v (.int .i64 (((k:Nat):Int) - 1)))] []∧ff=(fun w=>(Zae .u64 w A (xs)∧Zae .u64 w A2 (ys)))∧(xs.drop k=ys.drop k)∧(k≤xs.length)∧nn=(1 + k)) ((1 + xs.length)) ⟨xs.length,rfl,rfl,(by rw [List.drop_of_length_le (Nat.le_refl _),List.drop_of_length_le (by omega)]),Nat.le_refl _,rfl⟩ ?_
  rintro nn ss ff ⟨k,rfl,rfl,HR,hk,rfl⟩
  refine Zac (Zac (Zab (xq 2 [(20, .v (.bool (decide ((((k:Nat):Int) - 1) ≥ 0))))] [] ?_)))
  refine xe (Zaa ?_)
  refine ZaA ((decide ((((k:Nat):Int) - 1) ≥ 0))) (by kernel_rfl) (fun hb12=>?_) (fun hb12=>?_)
  ·have hb12':=of_decide_eq_true hb12
   obtain ⟨j,rfl⟩:∃ j,k=j + 1:=⟨k - 1,by omega⟩
   rw [show ((((j + 1):Nat):Int) - 1)=((j:Nat):Int) by omega]
   refine Zap (Zaa (Zac (ZaO (Zac ?_))))
   refine ZaC 9 (by kernel_rfl) (by kernel_rfl) Zah ?_
   refine xqf 2 [eS1 23 A xs.length c,(24, .v (.int .i64 ((j:Nat):Int)))] [] ?_
   refine xqj 25 (atA A j) (fun w Q=>Za1 (t:=77) (e:=94) (x:=(Operand.tmp 23)) (ix:=(Operand.tmp 24)) (len:=xs.length) (cap:=c) (i:=j) ((Q.1).ne (j:=j) (by omega)) (by omega)) ?_
   obtain ⟨x13,hx13⟩:∃ x,xs[j]?.getD 0=x:=⟨_,rfl⟩
   refine xqj 26 (.int .u64 ((x13:Nat):Int)) (fun w Q=>by rw [← hx13]; exact Zbb (t:=94) (x:=(Operand.tmp 25)) (Q.1) (j:=j) (by omega)) ?_
   refine xqf 2 [eS1 27 A2 ys.length c2,(28, .v (.int .i64 ((j:Nat):Int)))] [] ?_
   refine xqj 29 (atA A2 j) (fun w Q=>Za1 (t:=77) (e:=94) (x:=(Operand.tmp 27)) (ix:=(Operand.tmp 28)) (len:=ys.length) (cap:=c2) (i:=j) ((Q.2).ne (j:=j) (by omega)) (by omega)) ?_
   obtain ⟨x14,hx14⟩:∃ x,ys[j]?.getD 0=x:=⟨_,rfl⟩
   refine xqj 30 (.int .u64 ((x14:Nat):Int)) (fun w Q=>by rw [← hx14]; exact Zbb (t:=94) (x:=(Operand.tmp 29)) (Q.2) (j:=j) (by omega)) ?_
   refine xqf 1 [(31, .v (.bool ((((x13:Nat):Int):Int) != ((x14:Nat):Int))))] [] ?_
   refine xz (xe (Zaa ?_))
   refine ZaA (((((x13:Nat):Int):Int) != ((x14:Nat):Int))) (by kernel_rfl) (fun hb15=>?_) (fun hb15=>?_)
   ·have hb15':=ZdW hb15
    refine Zac (Zac ?_)
    refine ZaC 9 (by kernel_rfl) (by kernel_rfl) Zah ?_
    refine xqf 2 [eS1 32 A xs.length c,(33, .v (.int .i64 ((j:Nat):Int)))] [] ?_
    refine xqj 34 (atA A j) (fun w Q=>Za1 (t:=77) (e:=94) (x:=(Operand.tmp 32)) (ix:=(Operand.tmp 33)) (len:=xs.length) (cap:=c) (i:=j) ((Q.1).ne (j:=j) (by omega)) (by omega)) ?_
    obtain ⟨x16,hx16⟩:∃ x,xs[j]?.getD 0=x:=⟨_,rfl⟩
    refine xqj 35 (.int .u64 ((x16:Nat):Int)) (fun w Q=>by rw [← hx16]; exact Zbb (t:=94) (x:=(Operand.tmp 34)) (Q.1) (j:=j) (by omega)) ?_
    obtain rfl:x13=x16:=by rw [← hx13,hx16]
    refine xqf 2 [eS1 36 A2 ys.length c2,(37, .v (.int .i64 ((j:Nat):Int)))] [] ?_
    refine xqj 38 (atA A2 j) (fun w Q=>Za1 (t:=77) (e:=94) (x:=(Operand.tmp 36)) (ix:=(Operand.tmp 37)) (len:=ys.length) (cap:=c2) (i:=j) ((Q.2).ne (j:=j) (by omega)) (by omega)) ?_
    obtain ⟨x17,hx17⟩:∃ x,ys[j]?.getD 0=x:=⟨_,rfl⟩
    refine xqj 39 (.int .u64 ((x17:Nat):Int)) (fun w Q=>by rw [← hx17]; exact Zbb (t:=94) (x:=(Operand.tmp 38)) (Q.2) (j:=j) (by omega)) ?_
    obtain rfl:x14=x17:=by rw [← hx14,hx17]
    refine xqf 1 [(40, .v (.bool (decide (((x13:Nat):Int) < ((x14:Nat):Int)))))] [] ?_
    refine xz (xe (Zaa ?_))
    refine ZaA ((decide (((x13:Nat):Int) < ((x14:Nat):Int)))) (by kernel_rfl) (fun hb18=>?_) (fun hb18=>?_)
    ·have hb18':=of_decide_eq_true hb18
     refine Zac (Zab (xq 1 [(4, .v (.int .i64 (-1)))] [] ?_))
     refine xe (Zaa (Zaj (Zak (Zbv (Zak (Zak (Zbv (Zak ?_))))))))
     refine Zaf (v:=.int .i64 (-1)) (by kernel_rfl) (fun w' R Q=>?_)
     exact ⟨by rw [← ZhL hx hy (by omega) (k:=j) (by omega) HR hx13 hx14 (by omega),Zb8 (by omega)],R⟩
    ·have hb18':=of_decide_eq_false hb18
     refine Zap (Zaa (Zac (Zab (xq 1 [(4, .v (.int .i64 1))] [] ?_))))
     refine xe (Zaa (Zaj (Zbv (Zak (Zak (Zbv (Zak ?_)))))))
     refine Zaf (v:=.int .i64 1) (by kernel_rfl) (fun w' R Q=>?_)
     exact ⟨by rw [← ZhL hx hy (by omega) (k:=j) (by omega) HR hx13 hx14 (by omega),ZcE (by omega)],R⟩
   ·have hb15':=ZdX hb15
    have HS:xs.drop j=ys.drop j:=ZtA (by omega) (by omega) HR hx13 hx14 (by omega)
    refine Zap (ZbK (Zaa (Zab (xq 2 [(22, .v (.int .i64 (IntKind.i64.wrap (((j:Nat):Int) - 1))))] [] ?_))))
    rw [show IntKind.i64.wrap (((j:Nat):Int) - 1)=((j:Nat):Int) - 1 from by rw [IntKind.wrap_i64]; omega]
    refine xq 1 [(5, .v (.int .i64 (((j:Nat):Int) - 1)))] [] ?_
    refine xe ?_
    refine SXq.weak [(0, .v (.slice A xs.length c)),(1, .v (.slice A2 ys.length c2)),(4, .v (.int .i64 0)),(5, .v (.int .i64 (((j:Nat):Int) - 1)))] [] (Ψ:=fun w=>(Zae .u64 w A (xs)∧Zae .u64 w A2 (ys))) (ZaG.of (by kernel_rfl)) (by kernel_rfl) (fun w Q=>⟨Q.1,Q.2⟩) ?_
    exact Zbc ((1 + j)) (by omega) ⟨j,rfl,rfl,HS,by omega,rfl⟩
  ·have hb12':=of_decide_eq_false hb12
   obtain rfl:k=0:=by omega
   refine Zbp (Zax (Zax (ZbA (Zaa (Zac (Zab (xq 1 [(4, .v (.int .i64 0))] [] ?_)))))))
   refine xe (Zaa (Zaj ?_))
   refine Zaf (v:=.int .i64 0) (by kernel_rfl) (fun w' R Q=>?_)
   exact ⟨by rw [List.drop_zero,List.drop_zero] at HR; rw [HR,Zf8],R⟩
def Zul (b:Nat) (xs:List Nat) (u:Nat) (w:World) (e:Ending) (w':World):Prop:=∃ qs,e=.returned (.int .u64 ((val W64 xs % u:Nat):Int))∧(qs.length=xs.length∧Dig W64 qs∧val W64 qs=val W64 xs / u)∧Fr (fun i=>i=b) w w'∧Own .u64 94 w' b qs
theorem Zgq (b c:Nat) (xs:List Nat) (u:Nat) (w:World) (hO:Own .u64 94 w b xs) (hl:xs.length≤4294967296) (hd:Dig W64 xs) (hu:0 < u) (huW:u < W64) :
 Calls Tryz.prog 108 #[.slice (some ⟨b,0,none⟩) xs.length c, .int .u64 ((u:Nat):Int)] w (Zul b xs u w):=by
 refine ZdZ (fun i=>i=b) (Φ:=fun w=>Own .u64 94 w b xs) Tryz.func108 rfl (by kernel_rfl) (fun w' hf=>hO.ext hf) ?_
 refine Zac (Zab (xq 1 [(4, .v (.int .u64 0))] [] ?_))
 refine xe (Zaa (Zac (Zab (xq 1 [(5, .v (.int .u64 0))] [] ?_))))
 refine xe (Zaa (Zac (Zac (Zab (xq 3 [(9, .v (.int .i64 (IntKind.i64.wrap (((xs.length:Nat):Int) - 1))))] [] ?_)))))
 rw [show IntKind.i64.wrap (((xs.length:Nat):Int) - 1)=((xs.length:Nat):Int) - 1 from by rw [IntKind.wrap_i64]; omega]
 refine xq 1 [(6, .v (.int .i64 (((xs.length:Nat):Int) - 1)))] [] ?_
 refine xe (Zaa (ZaO ?_))
 refine SXc.weak [(0, .v (.slice (some ⟨b,0,none⟩) xs.length c)),(1, .v (.int .u64 ((u:Nat):Int))),(4, .v (.int .u64 0)),(5, .v (.int .u64 ((0:Nat):Int))),(6, .v (.int .i64 (((xs.length:Nat):Int) - 1)))] [] (Ψ:=fun w=>Own .u64 94 w b (xs)) (ZaG.of (by kernel_rfl)) (by kernel_rfl) (fun w Q=>Q) ?_
 refine ZbR (fun nn ss ff=>∃ (k:Nat) (r:Nat) (qs:List Nat),ss=ofL [(0, .v (.slice (some ⟨b,0,none⟩) xs.length c)),(1, .v (.int .u64 ((u:Nat):Int))),(4, .v (.int .u64 0)),(5, .v (.int .u64 ((r:Nat):Int))),(6, .v (.int .i64 (((k:Nat):Int) - 1)))] []∧ff=(fun w=>Own .u64 94 w b (qs))∧(DwR xs u k qs r)∧(k≤xs.length)∧nn=(1 + k)) ((1 + xs.length)) ⟨xs.length,0,xs,rfl,rfl,DwR.start hd hu,Nat.le_refl _,rfl⟩ ?_
 rintro nn ss ff ⟨k,r,qs,rfl,rfl,HR,hk,rfl⟩
 refine Zac (Zac (Zab (xq 2 [(11, .v (.bool (decide ((((k:Nat):Int) - 1) ≥ 0))))] [] ?_)))
 refine xe (Zaa ?_)
 refine ZaA ((decide ((((k:Nat):Int) - 1) ≥ 0))) (by kernel_rfl) (fun hb10=>?_) (fun hb10=>?_)
 ·have hb10':=of_decide_eq_true hb10
  obtain ⟨j,rfl⟩:∃ j,k=j + 1:=⟨k - 1,by omega⟩
  rw [show ((((j + 1):Nat):Int) - 1)=((j:Nat):Int) by omega]
  have hql:=HR.1.1
  refine Zap (Zaa (Zac (ZaO (Zab (xq 5 [eS1 15 (some ⟨b,0,none⟩) xs.length c,(16, .v (.int .i64 ((j:Nat):Int))),(17, .v (.int .u64 ((r:Nat):Int))),eS1 18 (some ⟨b,0,none⟩) xs.length c,(19, .v (.int .i64 ((j:Nat):Int)))] [] ?_)))))
  refine xqk 20 (.pointer (some ⟨b,j,none⟩)) (fun w R Q=>ZbP (t:=77) (e:=94) (x:=(Operand.tmp 18)) (ix:=(Operand.tmp 19)) (len:=xs.length) (cap:=c) (i:=j) (by omega)) ?_
  obtain ⟨x11,hx11⟩:∃ x,qs[j]?.getD 0=x:=⟨_,rfl⟩
  refine xqk 21 (.int .u64 ((x11:Nat):Int)) (fun w R Q=>by rw [← hx11]; exact ZcR (t:=94) (x:=(Operand.tmp 20)) (Q) (j:=j) (by omega)) ?_
  refine xq 1 [(22, .v (.int .u64 ((u:Nat):Int)))] [] ?_
  refine xqc 149 [.int .u64 ((r:Nat):Int), .int .u64 ((x11:Nat):Int), .int .u64 ((u:Nat):Int)] 23 (fun _:Unit=>.tuple #[.int .u64 ((divQ r x11 u:Nat):Int), .int .u64 ((divR r x11 u:Nat):Int)]) _ (fun w R Q=>(ZlR r x11 u _ HR.1.2.2.1 huW (by rw [← hx11]; exact HR.1.2.1.getD Zan _)).mono (fun _ _ h=>Zad h rfl)) (fun xx=>?_)
  refine xq 3 [(24, .v (.int .u64 ((divQ r x11 u:Nat):Int))),(25, .v (.int .u64 ((divR r x11 u:Nat):Int)))] [] ?_
  refine xqk 26 (.pointer (some ⟨b,j,none⟩)) (fun w R Q=>ZbP (t:=77) (e:=94) (x:=(Operand.tmp 15)) (ix:=(Operand.tmp 16)) (len:=xs.length) (cap:=c) (i:=j) (by omega)) ?_
  refine ZcL (t:=94) (x:=(Operand.tmp 26)) (y:=(Operand.tmp 24)) b (j) (divQ r x11 u) (fun w=>(Own .u64 94 w b ((qs).set (j) (divQ r x11 u))∧True)) (fun w Q=>Q.1) (by omega) (Or.inr rfl) (fun w w' Q hF hO=>⟨hO,trivial⟩) ?_
  refine xq 1 [(5, .v (.int .u64 ((divR r x11 u:Nat):Int)))] [] ?_
  refine xe (ZbK (Zaa (Zab (xq 2 [(13, .v (.int .i64 (IntKind.i64.wrap (((j:Nat):Int) - 1))))] [] ?_))))
  rw [show IntKind.i64.wrap (((j:Nat):Int) - 1)=((j:Nat):Int) - 1 from by rw [IntKind.wrap_i64]; omega]
  refine xq 1 [(6, .v (.int .i64 (((j:Nat):Int) - 1)))] [] ?_
  refine xe ?_
  refine SXq.weak [(0, .v (.slice (some ⟨b,0,none⟩) xs.length c)),(1, .v (.int .u64 ((u:Nat):Int))),(4, .v (.int .u64 0)),(5, .v (.int .u64 (((divR r x11 u):Nat):Int))),(6, .v (.int .i64 (((j:Nat):Int) - 1)))] [] (Ψ:=fun w=>Own .u64 94 w b (((qs).set (j) (divQ r x11 u)))) (ZaG.of (by kernel_rfl)) (by kernel_rfl) (fun w Q=>Q.1) ?_
  exact Zbc ((1 + j)) (by omega) ⟨j,(divR r x11 u),((qs).set (j) (divQ r x11 u)),rfl,rfl,(HR.step (by omega) hx11 (by rw [← hx11]; exact HR.1.2.1.getD Zan _)),by omega,rfl⟩
 ·have hb10':=of_decide_eq_false hb10
  obtain rfl:k=0:=by omega
  refine Zbp (Zax (Zax (ZbA (Zaa (Zac (Zab (xq 2 [(4, .v (.int .u64 ((r:Nat):Int)))] [] ?_)))))))
  refine xe (Zaa (Zaj ?_))
  refine Zaf (v:=.int .u64 ((r:Nat):Int)) (by kernel_rfl) (fun w' R Q=>?_)
  exact ⟨qs,by rw [HR.1.done.2],⟨HR.1.1,HR.1.2.1,HR.1.done.1⟩,R,Q⟩
def Zo7 (b:Nat) (w:World) (p:List Nat→Nat→Prop) (e:Ending) (w':World):Prop:=∃ x:List Nat × Nat,e=.returned (.bool (((x.2:Nat):Int) == 1))∧p x.1 x.2∧Fr (fun i=>i=b) w w'∧Own .u64 94 w' b x.1
theorem Znp (b c o:Nat) (zs0 ys:List Nat) (A:Option Addr) (c2:Nat) (w:World) (hO:Own .u64 94 w b zs0) (hY:Zae .u64 w A ys) (hA:∀ a,A=some a→a.block≠b) (ho:o + ys.length < zs0.length) (hl:zs0.length≤4294967296) (hd:Dig W64 zs0) (hy:Dig W64 ys) (q:Nat) (hq:q < W64) :
 Calls Tryz.prog 199 #[.slice (some ⟨b,o,none⟩) (ys.length + 1) c, .slice A ys.length c2, .int .u64 ((q:Nat):Int)] w (Zo7 b w (Zia zs0 ys q o)):=by
 refine ZdZ (fun i=>i=b) (Φ:=fun w=>(Own .u64 94 w b zs0∧Zae .u64 w A ys)) Tryz.func199 rfl (by kernel_rfl) (fun w' hf=>⟨hO.ext hf,hY.ext hf⟩) ?_
 refine Zac (Zab (xq 1 [(6, .v (.bool false))] [] ?_))
 refine xe (Zaa (Zac (Zab (xq 2 [(7, .v (.int .u64 0)),(8, .v (.int .u64 0))] [] ?_))))
 refine xe (Zaa (Zac (Zac (Zab (xq 3 [eS1 14 A ys.length c2,(15, .v (.int .i64 ((ys.length:Nat):Int))),(16, .v (.int .i64 0))] [] ?_)))))
 refine xe (Zaa (ZaO ?_))
 refine SXc.weak [(0, .v (.slice (some ⟨b,o,none⟩) (ys.length + 1) c)),(1, .v (.slice A ys.length c2)),(2, .v (.int .u64 ((q:Nat):Int))),(6, .v (.bool false)),(7, .v (.int .u64 ((0:Nat):Int))),(8, .v (.int .u64 ((0:Nat):Int))),(14, .v (.slice A ys.length c2)),(15, .v (.int .i64 ((ys.length:Nat):Int))),(16, .v (.int .i64 ((0:Nat):Int)))] [] (Ψ:=fun w=>(Own .u64 94 w b (zs0)∧Zae .u64 w A (ys))) (ZaG.of (by kernel_rfl)) (by kernel_rfl) (fun w Q=>⟨Q.1,Q.2⟩) ?_
 refine ZbR (fun nn ss ff=>∃ (cc bb k:Nat) (zs:List Nat),ss=ofL [(0, .v (.slice (some ⟨b,o,none⟩) (ys.length + 1) c)),(1, .v (.slice A ys.length c2)),(2, .v (.int .u64 ((q:Nat):Int))),(6, .v (.bool false)),(7, .v (.int .u64 ((cc:Nat):Int))),(8, .v (.int .u64 ((bb:Nat):Int))),(14, .v (.slice A ys.length c2)),(15, .v (.int .i64 ((ys.length:Nat):Int))),(16, .v (.int .i64 ((k:Nat):Int)))] []∧ff=(fun w=>(Own .u64 94 w b (zs)∧Zae .u64 w A (ys)))∧(SpR zs0 ys q o k zs cc bb)∧(k≤ys.length)∧nn=(ys.length - k)) ((ys.length - 0)) ⟨0,0,0,zs0,rfl,rfl,SpR.start ys q o hd,by omega,rfl⟩ ?_
 rintro nn ss ff ⟨cc,bb,k,zs,rfl,rfl,HR,hk,rfl⟩
 refine Zac (Zab (xq 1 [(17, .v (.bool (decide (((k:Nat):Int) < ((ys.length:Nat):Int)))))] [] ?_))
 refine xe (Zaa (Zac ?_))
 refine ZaA ((decide (((k:Nat):Int) < ((ys.length:Nat):Int)))) (by kernel_rfl) (fun hb10=>?_) (fun hb10=>?_)
 ·have hb10':=of_decide_eq_true hb10
  have hzl:=HR.1
  have hbb:=HR.2.2.2.1
  refine Zap (Zaa (Zac (ZaO (Zac (Zab (xq 1 [(18, .v (.int .i64 ((k:Nat):Int)))] [] ?_))))))
  refine xqk 19 (atA A k) (fun w R Q=>Za1 (t:=77) (e:=94) (x:=(Operand.tmp 14)) (ix:=(Operand.tmp 16)) (len:=ys.length) (cap:=c2) (i:=k) ((Q.2).ne (j:=k) (by omega)) (by omega)) ?_
  obtain ⟨x11,hx11⟩:∃ x,ys[k]?.getD 0=x:=⟨_,rfl⟩
  refine xqk 20 (.int .u64 ((x11:Nat):Int)) (fun w R Q=>by rw [← hx11]; exact Zbb (t:=94) (x:=(Operand.tmp 19)) (Q.2) (j:=k) (by omega)) ?_
  refine xq 2 [(9, .v (.int .i64 ((k:Nat):Int))),(10, .v (.int .u64 ((x11:Nat):Int)))] [] ?_
  refine xe (Zaa (Zac (Zab (xq 2 [(22, .v (.int .u64 ((x11:Nat):Int))),(23, .v (.int .u64 ((q:Nat):Int)))] [] ?_))))
  refine xqc 145 [.int .u64 ((x11:Nat):Int), .int .u64 ((q:Nat):Int)] 24 (fun _:Unit=>.tuple #[.int .u64 ((Zbm x11 q:Nat):Int), .int .u64 ((ZaJ x11 q:Nat):Int)]) _ (fun w R Q=>(ZlK x11 q _ (by rw [← hx11]; exact hy.getD Zan _) hq).mono (fun _ _ h=>Zad h rfl)) (fun xx=>?_)
  refine xq 5 [(11, .v (.int .u64 ((Zbm x11 q:Nat):Int))),(12, .v (.int .u64 ((ZaJ x11 q:Nat):Int)))] [] ?_
  refine xe (Zaa (Zac (Zab (xq 2 [(28, .v (.int .u64 ((ZaJ x11 q:Nat):Int))),(29, .v (.int .u64 ((cc:Nat):Int)))] [] ?_))))
  refine xqk 30 (.tuple #[.int .u64 ((ZaP (ZaJ x11 q) cc 0:Nat):Int), .int .u64 ((ZaV (ZaJ x11 q) cc 0:Nat):Int)]) (fun w R Q=>ZeW (args:=[Operand.tmp 28,Operand.tmp 29,Operand.const (Value.int IntKind.u64 0)]) (ts:=#[94,94,94]) (ZdJ (ZaJ x11 q) cc 0 (by omega) w)) ?_
  refine xq 5 [(12, .v (.int .u64 ((ZaP (ZaJ x11 q) cc 0:Nat):Int))),(13, .v (.int .u64 ((ZaV (ZaJ x11 q) cc 0:Nat):Int)))] [] ?_
  refine xe (Zaa (Zac (Zab (xq 3 [(35, .v (.int .u64 (IntKind.u64.wrap (((Zbm x11 q:Nat):Int) + ((ZaV (ZaJ x11 q) cc 0:Nat):Int)))))] [] ?_))))
  rw [Zp0 (a:=Zbm x11 q) (b:=ZaV (ZaJ x11 q) cc 0) (Znn (by rw [← hx11]; exact hy.getD Zan _) hq HR.2.2.1)]
  refine xq 1 [(7, .v (.int .u64 ((Zbm x11 q + ZaV (ZaJ x11 q) cc 0:Nat):Int)))] [] ?_
  refine xe (Zaa (Zab (xq 4 [eS1 37 (some ⟨b,o,none⟩) (ys.length + 1) c,(38, .v (.int .i64 ((k:Nat):Int))),eS1 39 (some ⟨b,o,none⟩) (ys.length + 1) c,(40, .v (.int .i64 ((k:Nat):Int)))] [] ?_)))
  refine xqk 41 (.pointer (some ⟨b,o + k,none⟩)) (fun w R Q=>Zb9 (t:=77) (e:=94) (x:=(Operand.tmp 39)) (ix:=(Operand.tmp 40)) (len:=(ys.length + 1)) (cap:=c) (i:=k) (by omega)) ?_
  obtain ⟨x12,hx12⟩:∃ x,zs[o + k]?.getD 0=x:=⟨_,rfl⟩
  refine xqk 42 (.int .u64 ((x12:Nat):Int)) (fun w R Q=>by rw [← hx12]; exact ZcR (t:=94) (x:=(Operand.tmp 41)) (Q.1.1) (j:=o + k) (by omega)) ?_
  refine xq 2 [(43, .v (.int .u64 ((ZaP (ZaJ x11 q) cc 0:Nat):Int))),(44, .v (.int .u64 ((bb:Nat):Int)))] [] ?_
  refine xqk 45 (.tuple #[.int .u64 ((Zca x12 (ZaP (ZaJ x11 q) cc 0) bb:Nat):Int), .int .u64 ((ZbW x12 (ZaP (ZaJ x11 q) cc 0) bb:Nat):Int)]) (fun w R Q=>ZeW (args:=[Operand.tmp 42,Operand.tmp 43,Operand.tmp 44]) (ts:=#[94,94,94]) (ZdK x12 (ZaP (ZaJ x11 q) cc 0) bb (by omega) w)) ?_
  refine xq 3 [(46, .v (.int .u64 ((Zca x12 (ZaP (ZaJ x11 q) cc 0) bb:Nat):Int))),(47, .v (.int .u64 ((ZbW x12 (ZaP (ZaJ x11 q) cc 0) bb:Nat):Int)))] [] ?_
  refine xqk 48 (.pointer (some ⟨b,o + k,none⟩)) (fun w R Q=>Zb9 (t:=77) (e:=94) (x:=(Operand.tmp 37)) (ix:=(Operand.tmp 38)) (len:=(ys.length + 1)) (cap:=c) (i:=k) (by omega)) ?_
  refine ZcL (t:=94) (x:=(Operand.tmp 48)) (y:=(Operand.tmp 46)) b (o + k) (Zca x12 (ZaP (ZaJ x11 q) cc 0) bb) (fun w=>((Own .u64 94 w b ((zs).set (o + k) (Zca x12 (ZaP (ZaJ x11 q) cc 0) bb))∧Zae .u64 w A (ys))∧True)) (fun w Q=>Q.1.1) (by omega) (Or.inr rfl) (fun w w' Q hF hO=>⟨⟨hO,((Q.1.2).fr hF (fun a ha _=>hA a ha))⟩,trivial⟩) ?_
  refine xr 1 [eS1 0 (some ⟨b,o,none⟩) (ys.length + 1) c,eS1 1 A ys.length c2,(2, .v (.int .u64 ((q:Nat):Int))),(6, .v (.bool false)),(7, .v (.int .u64 ((Zbm x11 q + ZaV (ZaJ x11 q) cc 0:Nat):Int))),(8, .v (.int .u64 ((ZbW x12 (ZaP (ZaJ x11 q) cc 0) bb:Nat):Int))),eS1 14 A ys.length c2,(15, .v (.int .i64 ((ys.length:Nat):Int))),(16, .v (.int .i64 ((k:Nat):Int)))] [] ?_
  refine xe (ZbK (Zaa (Zab (xq 1 [(49, .v (.int .i64 (IntKind.i64.wrap (((k:Nat):Int) + 1))))] [] ?_))))
  rw [show IntKind.i64.wrap ((((k:Nat):Int) + 1))=((k + 1:Nat):Int) from by rw [IntKind.wrap_i64]; omega]
  refine xq 1 [(16, .v (.int .i64 ((k + 1:Nat):Int)))] [] ?_
  refine xe ?_
  refine SXq.weak [(0, .v (.slice (some ⟨b,o,none⟩) (ys.length + 1) c)),(1, .v (.slice A ys.length c2)),(2, .v (.int .u64 ((q:Nat):Int))),(6, .v (.bool false)),(7, .v (.int .u64 (((Zbm x11 q + ZaV (ZaJ x11 q) cc 0):Nat):Int))),(8, .v (.int .u64 (((ZbW x12 (ZaP (ZaJ x11 q) cc 0) bb):Nat):Int))),(14, .v (.slice A ys.length c2)),(15, .v (.int .i64 ((ys.length:Nat):Int))),(16, .v (.int .i64 (((k + 1):Nat):Int)))] [] (Ψ:=fun w=>(Own .u64 94 w b (((zs).set (o + k) (Zca x12 (ZaP (ZaJ x11 q) cc 0) bb)))∧Zae .u64 w A (ys))) (ZaG.of (by kernel_rfl)) (by kernel_rfl) (fun w Q=>⟨Q.1.1,Q.1.2⟩) ?_
  exact Zbc ((ys.length - (k + 1))) (by omega) ⟨(Zbm x11 q + ZaV (ZaJ x11 q) cc 0),(ZbW x12 (ZaP (ZaJ x11 q) cc 0) bb),(k + 1),((zs).set (o + k) (Zca x12 (ZaP (ZaJ x11 q) cc 0) bb)),rfl,rfl,(HR.step (by omega) hx11 hx12 hy hq),by omega,rfl⟩
 ·have hb10':=of_decide_eq_false hb10
  have hzl:=HR.1
  have hbb:=HR.2.2.2.1
  obtain rfl:k=ys.length:=by omega
  refine Zbp (Zax (Zax (ZbA (Zaa (Zac (Zab (xq 6 [eS1 51 (some ⟨b,o,none⟩) (ys.length + 1) c,(53, .v (.int .i64 ((ys.length:Nat):Int))),eS1 54 (some ⟨b,o,none⟩) (ys.length + 1) c,(56, .v (.int .i64 ((ys.length:Nat):Int)))] [] ?_)))))))
  refine xqk 57 (.pointer (some ⟨b,o + ys.length,none⟩)) (fun w R Q=>Zb9 (t:=77) (e:=94) (x:=(Operand.tmp 54)) (ix:=(Operand.tmp 56)) (len:=(ys.length + 1)) (cap:=c) (i:=ys.length) (by omega)) ?_
  obtain ⟨x13,hx13⟩:∃ x,zs[o + ys.length]?.getD 0=x:=⟨_,rfl⟩
  refine xqk 58 (.int .u64 ((x13:Nat):Int)) (fun w R Q=>by rw [← hx13]; exact ZcR (t:=94) (x:=(Operand.tmp 57)) (Q.1) (j:=o + ys.length) (by omega)) ?_
  refine xq 2 [(59, .v (.int .u64 ((cc:Nat):Int))),(60, .v (.int .u64 ((bb:Nat):Int)))] [] ?_
  refine xqk 61 (.tuple #[.int .u64 ((Zca x13 cc bb:Nat):Int), .int .u64 ((ZbW x13 cc bb:Nat):Int)]) (fun w R Q=>ZeW (args:=[Operand.tmp 58,Operand.tmp 59,Operand.tmp 60]) (ts:=#[94,94,94]) (ZdK x13 cc bb (by omega) w)) ?_
  refine xq 3 [(62, .v (.int .u64 ((Zca x13 cc bb:Nat):Int))),(63, .v (.int .u64 ((ZbW x13 cc bb:Nat):Int)))] [] ?_
  refine xqk 64 (.pointer (some ⟨b,o + ys.length,none⟩)) (fun w R Q=>Zb9 (t:=77) (e:=94) (x:=(Operand.tmp 51)) (ix:=(Operand.tmp 53)) (len:=(ys.length + 1)) (cap:=c) (i:=ys.length) (by omega)) ?_
  refine ZcL (t:=94) (x:=(Operand.tmp 64)) (y:=(Operand.tmp 62)) b (o + ys.length) (Zca x13 cc bb) (fun w=>(Own .u64 94 w b ((zs).set (o + ys.length) (Zca x13 cc bb))∧Zae .u64 w A (ys))) (fun w Q=>Q.1) (by omega) (Or.inr rfl) (fun w w' Q hF hO=>⟨hO,((Q.2).fr hF (fun a ha _=>hA a ha))⟩) ?_
  refine xq 1 [(8, .v (.int .u64 ((ZbW x13 cc bb:Nat):Int)))] [] ?_
  refine xe (Zaa (Zac (Zab (xq 3 [(6, .v (.bool ((((ZbW x13 cc bb:Nat):Int):Int) == 1)))] [] ?_))))
  refine xe (Zaa (Zaj ?_))
  refine Zaf (v:=.bool ((((ZbW x13 cc bb:Nat):Int):Int) == 1)) (by kernel_rfl) (fun w' R Q=>?_)
  exact ⟨(_,_),rfl,HR.done (by omega) hx13,R,Q.1⟩
theorem Znq (b c o:Nat) (zs0 ys:List Nat) (A:Option Addr) (c2:Nat) (w:World) (hO:Own .u64 94 w b zs0) (hY:Zae .u64 w A ys) (hA:∀ a,A=some a→a.block≠b) (ho:o + ys.length < zs0.length) (hl:zs0.length≤4294967296) (hd:Dig W64 zs0) (hy:Dig W64 ys) :
 Calls Tryz.prog 200 #[.slice (some ⟨b,o,none⟩) (ys.length + 1) c, .slice A ys.length c2] w (Zo7 b w (Zib zs0 ys o)):=by
 refine ZdZ (fun i=>i=b) (Φ:=fun w=>(Own .u64 94 w b zs0∧Zae .u64 w A ys)) Tryz.func200 rfl (by kernel_rfl) (fun w' hf=>⟨hO.ext hf,hY.ext hf⟩) ?_
 refine Zac (Zab (xq 1 [(4, .v (.bool false))] [] ?_))
 refine xe (Zaa (Zac (Zab (xq 1 [(5, .v (.int .u64 0))] [] ?_))))
 refine xe (Zaa (Zac (Zac (Zab (xq 3 [eS1 8 A ys.length c2,(9, .v (.int .i64 ((ys.length:Nat):Int))),(10, .v (.int .i64 0))] [] ?_)))))
 refine xe (Zaa (ZaO ?_))
 refine SXc.weak [(0, .v (.slice (some ⟨b,o,none⟩) (ys.length + 1) c)),(1, .v (.slice A ys.length c2)),(4, .v (.bool false)),(5, .v (.int .u64 ((0:Nat):Int))),(8, .v (.slice A ys.length c2)),(9, .v (.int .i64 ((ys.length:Nat):Int))),(10, .v (.int .i64 ((0:Nat):Int)))] [] (Ψ:=fun w=>(Own .u64 94 w b (zs0)∧Zae .u64 w A (ys))) (ZaG.of (by kernel_rfl)) (by kernel_rfl) (fun w Q=>⟨Q.1,Q.2⟩) ?_
 refine ZbR (fun nn ss ff=>∃ (cc k:Nat) (zs:List Nat),ss=ofL [(0, .v (.slice (some ⟨b,o,none⟩) (ys.length + 1) c)),(1, .v (.slice A ys.length c2)),(4, .v (.bool false)),(5, .v (.int .u64 ((cc:Nat):Int))),(8, .v (.slice A ys.length c2)),(9, .v (.int .i64 ((ys.length:Nat):Int))),(10, .v (.int .i64 ((k:Nat):Int)))] []∧ff=(fun w=>(Own .u64 94 w b (zs)∧Zae .u64 w A (ys)))∧(AbR zs0 ys o k zs cc)∧(k≤ys.length)∧nn=(ys.length - k)) ((ys.length - 0)) ⟨0,0,zs0,rfl,rfl,AbR.start ys o hd,by omega,rfl⟩ ?_
 rintro nn ss ff ⟨cc,k,zs,rfl,rfl,HR,hk,rfl⟩
 refine Zac (Zab (xq 1 [(11, .v (.bool (decide (((k:Nat):Int) < ((ys.length:Nat):Int)))))] [] ?_))
 refine xe (Zaa (Zac ?_))
 refine ZaA ((decide (((k:Nat):Int) < ((ys.length:Nat):Int)))) (by kernel_rfl) (fun hb10=>?_) (fun hb10=>?_)
 ·have hb10':=of_decide_eq_true hb10
  have hzl:=HR.1
  have hcc:=HR.2.2.1
  refine Zap (Zaa (Zac (ZaO (Zac (Zab (xq 1 [(12, .v (.int .i64 ((k:Nat):Int)))] [] ?_))))))
  refine xqk 13 (atA A k) (fun w R Q=>Za1 (t:=77) (e:=94) (x:=(Operand.tmp 8)) (ix:=(Operand.tmp 10)) (len:=ys.length) (cap:=c2) (i:=k) ((Q.2).ne (j:=k) (by omega)) (by omega)) ?_
  obtain ⟨x11,hx11⟩:∃ x,ys[k]?.getD 0=x:=⟨_,rfl⟩
  refine xqk 14 (.int .u64 ((x11:Nat):Int)) (fun w R Q=>by rw [← hx11]; exact Zbb (t:=94) (x:=(Operand.tmp 13)) (Q.2) (j:=k) (by omega)) ?_
  refine xq 2 [(6, .v (.int .i64 ((k:Nat):Int))),(7, .v (.int .u64 ((x11:Nat):Int)))] [] ?_
  refine xe (Zaa (Zab (xq 4 [eS1 16 (some ⟨b,o,none⟩) (ys.length + 1) c,(17, .v (.int .i64 ((k:Nat):Int))),eS1 18 (some ⟨b,o,none⟩) (ys.length + 1) c,(19, .v (.int .i64 ((k:Nat):Int)))] [] ?_)))
  refine xqk 20 (.pointer (some ⟨b,o + k,none⟩)) (fun w R Q=>Zb9 (t:=77) (e:=94) (x:=(Operand.tmp 18)) (ix:=(Operand.tmp 19)) (len:=(ys.length + 1)) (cap:=c) (i:=k) (by omega)) ?_
  obtain ⟨x12,hx12⟩:∃ x,zs[o + k]?.getD 0=x:=⟨_,rfl⟩
  refine xqk 21 (.int .u64 ((x12:Nat):Int)) (fun w R Q=>by rw [← hx12]; exact ZcR (t:=94) (x:=(Operand.tmp 20)) (Q.1) (j:=o + k) (by omega)) ?_
  refine xq 2 [(22, .v (.int .u64 ((x11:Nat):Int))),(23, .v (.int .u64 ((cc:Nat):Int)))] [] ?_
  refine xqk 24 (.tuple #[.int .u64 ((ZaP x12 x11 cc:Nat):Int), .int .u64 ((ZaV x12 x11 cc:Nat):Int)]) (fun w R Q=>ZeW (args:=[Operand.tmp 21,Operand.tmp 22,Operand.tmp 23]) (ts:=#[94,94,94]) (ZdJ x12 x11 cc (by omega) w)) ?_
  refine xq 3 [(25, .v (.int .u64 ((ZaP x12 x11 cc:Nat):Int))),(26, .v (.int .u64 ((ZaV x12 x11 cc:Nat):Int)))] [] ?_
  refine xqk 27 (.pointer (some ⟨b,o + k,none⟩)) (fun w R Q=>Zb9 (t:=77) (e:=94) (x:=(Operand.tmp 16)) (ix:=(Operand.tmp 17)) (len:=(ys.length + 1)) (cap:=c) (i:=k) (by omega)) ?_
  refine ZcL (t:=94) (x:=(Operand.tmp 27)) (y:=(Operand.tmp 25)) b (o + k) (ZaP x12 x11 cc) (fun w=>(Own .u64 94 w b ((zs).set (o + k) (ZaP x12 x11 cc))∧Zae .u64 w A (ys))) (fun w Q=>Q.1) (by omega) (Or.inr rfl) (fun w w' Q hF hO=>⟨hO,((Q.2).fr hF (fun a ha _=>hA a ha))⟩) ?_
  refine xq 1 [(5, .v (.int .u64 ((ZaV x12 x11 cc:Nat):Int)))] [] ?_
  refine xe (ZbK (Zaa (Zab (xq 1 [(28, .v (.int .i64 (IntKind.i64.wrap (((k:Nat):Int) + 1))))] [] ?_))))
  rw [show IntKind.i64.wrap ((((k:Nat):Int) + 1))=((k + 1:Nat):Int) from by rw [IntKind.wrap_i64]; omega]
  refine xq 1 [(10, .v (.int .i64 ((k + 1:Nat):Int)))] [] ?_
  refine xe ?_
  refine SXq.weak [(0, .v (.slice (some ⟨b,o,none⟩) (ys.length + 1) c)),(1, .v (.slice A ys.length c2)),(4, .v (.bool false)),(5, .v (.int .u64 (((ZaV x12 x11 cc):Nat):Int))),(8, .v (.slice A ys.length c2)),(9, .v (.int .i64 ((ys.length:Nat):Int))),(10, .v (.int .i64 (((k + 1):Nat):Int)))] [] (Ψ:=fun w=>(Own .u64 94 w b (((zs).set (o + k) (ZaP x12 x11 cc)))∧Zae .u64 w A (ys))) (ZaG.of (by kernel_rfl)) (by kernel_rfl) (fun w Q=>⟨Q.1,Q.2⟩) ?_
  exact Zbc ((ys.length - (k + 1))) (by omega) ⟨(ZaV x12 x11 cc),(k + 1),((zs).set (o + k) (ZaP x12 x11 cc)),rfl,rfl,(HR.step (by omega) hx11 hx12 hy),by omega,rfl⟩
 ·have hb10':=of_decide_eq_false hb10
  have hzl:=HR.1
  have hcc:=HR.2.2.1
  obtain rfl:k=ys.length:=by omega
  refine Zbp (Zax (Zax (ZbA (Zaa (Zac (Zab (xq 6 [eS1 30 (some ⟨b,o,none⟩) (ys.length + 1) c,(32, .v (.int .i64 ((ys.length:Nat):Int))),eS1 33 (some ⟨b,o,none⟩) (ys.length + 1) c,(35, .v (.int .i64 ((ys.length:Nat):Int)))] [] ?_)))))))
  refine xqk 36 (.pointer (some ⟨b,o + ys.length,none⟩)) (fun w R Q=>Zb9 (t:=77) (e:=94) (x:=(Operand.tmp 33)) (ix:=(Operand.tmp 35)) (len:=(ys.length + 1)) (cap:=c) (i:=ys.length) (by omega)) ?_
  obtain ⟨x13,hx13⟩:∃ x,zs[o + ys.length]?.getD 0=x:=⟨_,rfl⟩
  refine xqk 37 (.int .u64 ((x13:Nat):Int)) (fun w R Q=>by rw [← hx13]; exact ZcR (t:=94) (x:=(Operand.tmp 36)) (Q.1) (j:=o + ys.length) (by omega)) ?_
  refine xq 1 [(38, .v (.int .u64 ((cc:Nat):Int)))] [] ?_
  refine xqk 39 (.tuple #[.int .u64 ((ZaP x13 0 cc:Nat):Int), .int .u64 ((ZaV x13 0 cc:Nat):Int)]) (fun w R Q=>ZeW (args:=[Operand.tmp 37,Operand.const (Value.int IntKind.u64 0),Operand.tmp 38]) (ts:=#[94,94,94]) (ZdJ x13 0 cc (by omega) w)) ?_
  refine xq 3 [(40, .v (.int .u64 ((ZaP x13 0 cc:Nat):Int))),(41, .v (.int .u64 ((ZaV x13 0 cc:Nat):Int)))] [] ?_
  refine xqk 42 (.pointer (some ⟨b,o + ys.length,none⟩)) (fun w R Q=>Zb9 (t:=77) (e:=94) (x:=(Operand.tmp 30)) (ix:=(Operand.tmp 32)) (len:=(ys.length + 1)) (cap:=c) (i:=ys.length) (by omega)) ?_
  refine ZcL (t:=94) (x:=(Operand.tmp 42)) (y:=(Operand.tmp 40)) b (o + ys.length) (ZaP x13 0 cc) (fun w=>(Own .u64 94 w b ((zs).set (o + ys.length) (ZaP x13 0 cc))∧Zae .u64 w A (ys))) (fun w Q=>Q.1) (by omega) (Or.inr rfl) (fun w w' Q hF hO=>⟨hO,((Q.2).fr hF (fun a ha _=>hA a ha))⟩) ?_
  refine xq 1 [(5, .v (.int .u64 ((ZaV x13 0 cc:Nat):Int)))] [] ?_
  refine xe (Zaa (Zac (Zab (xq 3 [(4, .v (.bool ((((ZaV x13 0 cc:Nat):Int):Int) == 1)))] [] ?_))))
  refine xe (Zaa (Zaj ?_))
  refine Zaf (v:=.bool ((((ZaV x13 0 cc:Nat):Int):Int) == 1)) (by kernel_rfl) (fun w' R Q=>?_)
  exact ⟨(_,_),rfl,HR.done (by omega) hx13,R,Q.1⟩
end Go.Proofs.YtklpdkpcocnglaaGreatDoor

namespace Go.Proofs.YtklpdkpcocnglaaGreatDoor
open Go.RowKit
noncomputable def win (o n:Nat) (zs:List Nat):Nat:=val W64 ((zs.drop o).take (n + 1))
theorem ZeX {o n:Nat} {zs:List Nat} (h:o≤zs.length):val W64 (zs.take (o + n + 1))=val W64 (zs.take o) + W64 ^ o * win o n zs:=by
 unfold win
 rw [show o + n + 1=o + (n + 1) by omega,List.take_add,Zbw,List.length_take,Nat.min_eq_left h]
theorem Zrk {o n:Nat} {zs:List Nat} (hd:Dig W64 zs):win o n zs < W64 ^ (n + 1):=by
 have:=ZaQ ((hd.drop o).take (n + 1))
 refine Nat.lt_of_lt_of_le this (Nat.pow_le_pow_right Zan (by rw [List.length_take]; exact Nat.min_le_left _ _))
def WinR (o n:Nat) (zs0 zs:List Nat):Prop:=zs.length=zs0.length∧Dig W64 zs∧zs.take o=zs0.take o∧zs.drop (o + n + 1)=zs0.drop (o + n + 1)
theorem WinR.start {o n:Nat} {zs0:List Nat} (h:Dig W64 zs0):WinR o n zs0 zs0:=⟨rfl,h,rfl,rfl⟩
theorem Zkv {o a b c d x:Nat} (h:x + W64 ^ o * a + W64 ^ o * b=x + W64 ^ o * c + W64 ^ o * d):a + b=c + d:=by
 have h2:W64 ^ o * (a + b)=W64 ^ o * (c + d):=by rw [Nat.mul_add,Nat.mul_add]; omega
 exact Nat.eq_of_mul_eq_mul_left (Nat.pow_pos Zan) h2
theorem Zia.win {zs0 zs1 ys zs:List Nat} {q o b:Nat} (h:Zia zs1 ys q o zs b) (ho:o≤zs0.length) (k:WinR o ys.length zs0 zs1):WinR o ys.length zs0 zs∧b≤1∧win o ys.length zs + q * val W64 ys=win o ys.length zs1 + W64 ^ (ys.length + 1) * b:=by
 obtain ⟨h1,h2,h3,h4,h5,h6⟩:=h
 obtain ⟨k1,k2,k3,k4⟩:=k
 refine ⟨⟨h1.trans k1,h2,h4.trans k3,h5.trans k4⟩,h3,?_⟩
 rw [ZeX (by omega),ZeX (by omega),h4,show o + ys.length + 1=o + (ys.length + 1) by omega,Nat.pow_add,Nat.mul_assoc (W64 ^ o)] at h6
 exact Zkv h6
theorem Zib.win {zs0 zs1 ys zs:List Nat} {o c:Nat} (h:Zib zs1 ys o zs c) (ho:o≤zs0.length) (k:WinR o ys.length zs0 zs1):WinR o ys.length zs0 zs∧c≤1∧win o ys.length zs + W64 ^ (ys.length + 1) * c=win o ys.length zs1 + val W64 ys:=by
 obtain ⟨h1,h2,h3,h4,h5,h6⟩:=h
 obtain ⟨k1,k2,k3,k4⟩:=k
 refine ⟨⟨h1.trans k1,h2,h4.trans k3,h5.trans k4⟩,h3,?_⟩
 rw [ZeX (by omega),ZeX (by omega),h4,show o + ys.length + 1=o + (ys.length + 1) by omega,Nat.pow_add,Nat.mul_assoc (W64 ^ o)] at h6
 exact Zkv h6
theorem ZtB {o n:Nat} {zs:List Nat} {u0 u1 u2:Nat} (hn:2≤n) (hl:o + n < zs.length) (h0:zs[o + n]?.getD 0=u0) (h1:zs[o + (n - 1)]?.getD 0=u1) (h2:zs[o + (n - 2)]?.getD 0=u2) (hd:Dig W64 zs) :
 ∃ l,l < W64 ^ (n - 2)∧win o n zs=l + W64 ^ (n - 2) * (u2 + W64 * (u1 + W64 * u0)):=by
 obtain ⟨m,rfl⟩:∃ m,n=m + 2:=⟨n - 2,by omega⟩
 refine ⟨val W64 ((zs.drop o).take m),?_,?_⟩
 ·have:=ZaQ ((hd.drop o).take m)
  rw [List.length_take,List.length_drop,Nat.min_eq_left (by omega)] at this
  exact this
 ·unfold win
  simp only [show m + 2 - 1=m + 1 by omega,show m + 2 - 2=m by omega] at h1 h2 ⊢
  have g:∀ j,(zs.drop o)[j]?.getD 0=zs[o + j]?.getD 0:=fun j=>by rw [List.getElem?_drop]
  rw [ZbG (m + 2),ZbG (m + 1),ZbG m,g,g,g,h0,h1,h2]
  simp only [Nat.pow_succ,Nat.mul_add,Nat.mul_assoc,Nat.add_assoc]
theorem ZtC {n:Nat} {ys:List Nat} {t v2:Nat} (hn:2≤n) (hl:ys.length=n) (h0:ys[n - 1]?.getD 0=t) (h1:ys[n - 2]?.getD 0=v2):∃ l,val W64 ys=l + W64 ^ (n - 2) * (v2 + W64 * t):=by
 obtain ⟨m,rfl⟩:∃ m,n=m + 2:=⟨n - 2,by omega⟩
 refine ⟨val W64 (ys.take m),?_⟩
 simp only [show m + 2 - 1=m + 1 by omega,show m + 2 - 2=m by omega] at h0 h1 ⊢
 have:=ZbG (B:=W64) (xs:=ys) (m + 1)
 rw [List.take_of_length_le (by omega),ZbG m,h0,h1,Nat.pow_succ] at this
 rw [this]
 simp only [Nat.mul_add,Nat.mul_assoc,Nat.add_assoc]
theorem Zsw {B l U V vl u0 u1 u2 v2 t:Nat} (hl:l < B) (hU:U=l + B * (u2 + W64 * (u1 + W64 * u0))) (hV:V=vl + B * (v2 + W64 * t)) (h2:u2 < W64) (h0:0 < t):U / V≤divQ u0 u1 t:=by
 unfold divQ
 rw [Nat.le_div_iff_mul_le h0]
 have h3:=Nat.div_mul_le_self U V
 generalize U / V=q at *
 have h4:q * (B * (W64 * t))≤q * V:=Nat.mul_le_mul_left _ (by rw [hV,Nat.mul_add]; omega)
 have h5:B * (q * (W64 * t)) < B * (u2 + W64 * (u1 + W64 * u0) + 1):=by
  rw [Nat.mul_left_comm,Nat.mul_add B (_ + _) 1]; omega
 have h6:=Nat.lt_of_mul_lt_mul_left h5
 have h7:W64 * (q * t) < W64 * (u1 + W64 * u0 + 1):=by
  rw [Nat.mul_left_comm,Nat.mul_add W64 (_ + _) 1]; omega
 have h8:=Nat.lt_of_mul_lt_mul_left h7
 rw [Nat.mul_comm u0]; omega
theorem Zkw {B l U V vl u0 u1 u2 v2 t g r:Nat} (hl:l < B) (hU:U=l + B * (u2 + W64 * (u1 + W64 * u0))) (hV:V=vl + B * (v2 + W64 * t)) (hr:r + g * t=u0 * W64 + u1) (h:r * W64 + u2 < g * v2) (hVp:0 < V):U / V + 1≤g:=by
 rw [Nat.add_one_le_iff,Nat.div_lt_iff_lt_mul hVp]
 have h1:u2 + W64 * (u1 + W64 * u0) + 1≤g * (v2 + W64 * t):=by
  have e:W64 * (r + g * t)=W64 * (u1 + W64 * u0):=by rw [hr,Nat.add_comm,Nat.mul_comm u0]
  rw [Nat.mul_add g,Nat.mul_left_comm g]
  rw [Nat.mul_add W64 r] at e
  rw [Nat.mul_comm r] at h
  omega
 have h2:B * (u2 + W64 * (u1 + W64 * u0) + 1)≤g * V:=by
  refine Nat.le_trans (Nat.mul_le_mul_left B h1) ?_
  rw [Nat.mul_left_comm,hV]
  exact Nat.mul_le_mul_left _ (by omega)
 rw [Nat.mul_add B (_ + _) 1] at h2
 omega
theorem Zrl {U V:Nat} (h:U < W64 * V):U / V≤W64 - 1:=by
 have hV:0 < V:=Nat.pos_of_ne_zero (fun e=>by subst e; omega)
 have:=(Nat.div_lt_iff_lt_mul hV).2 h
 omega
theorem Zo8 {hi lo r u g v:Nat} (h:lo + W64 * hi=g * v) (h1:¬ hi < r) (h2:hi=r→¬ lo≤u) (hu:u < W64):r * W64 + u < g * v:=by
 rw [← h,Nat.mul_comm r]
 rcases Nat.lt_trichotomy hi r with h3 | h3 | h3
 ·exact absurd h3 h1
 ·have:=h2 h3; subst h3; omega
 ·have:=Nat.mul_le_mul_left W64 h3
  rw [Nat.mul_succ] at this
  omega
def CorR (U V P:Nat) (g b wn:Nat):Prop:=b≤1∧wn < P∧U / V≤g∧wn + g * V=U + P * b
theorem CorR.pos {U V P g b wn:Nat} (h:CorR U V P g b wn) (hb:b=1) (hV:0 < V):U / V + 1≤g:=by
 obtain ⟨_,h2,_,h4⟩:=h
 subst hb
 rw [Nat.add_one_le_iff,Nat.div_lt_iff_lt_mul hV]
 omega
theorem CorR.step {U V P g b wn wn' c:Nat} (h:CorR U V P g b wn) (hb:b=1) (hV:0 < V) (hc:c≤1) (hw:wn' < P) (he:wn' + P * c=wn + V):CorR U V P (g - 1) (1 - c) wn':=by
 have h0:=h.pos hb hV
 obtain ⟨h1,h2,h3,h4⟩:=h
 subst hb
 unfold CorR
 generalize U / V=q at *
 refine ⟨by omega,hw,by omega,?_⟩
 obtain ⟨k,rfl⟩:∃ k,g=k + 1:=⟨g - 1,by omega⟩
 rw [Nat.add_sub_cancel]
 rw [Nat.add_mul] at h4
 rcases (by omega:c=0∨c=1) with rfl | rfl
 ·simp at he h4 ⊢; omega
 ·simp at he h4 ⊢; omega
theorem CorR.done {U V P g wn:Nat} (h:CorR U V P g 0 wn) (hV:0 < V):g=U / V∧wn=U % V:=by
 obtain ⟨h1,h2,h3,h4⟩:=h
 rw [Nat.mul_zero,Nat.add_zero] at h4
 have h5:g≤U / V:=by rw [Nat.le_div_iff_mul_le hV]; omega
 have e:g=U / V:=by omega
 refine ⟨e,?_⟩
 have:=Nat.div_add_mod U V
 rw [← e,Nat.mul_comm] at this
 omega
theorem ZuR:(18446744073709551615:Int)=((W64 - 1:Nat):Int):=by rw [Zam]; rfl
theorem ZsZ {a b:Nat} (h:¬ a + b < W64) (ha:a < W64) (hb:b < W64):IntKind.u64.wrap ((a:Int) + (b:Int))=((a + b - W64:Nat):Int):=by
 rw [IntKind.wrap_u64]
 rw [Zam] at *
 omega
theorem ZtD {c:Nat} (h:c≤1):(!(((c:Nat):Int) == 1))=(((1 - c:Nat):Int) == 1):=by
 rcases (by omega:c=0∨c=1) with rfl | rfl<;>rfl
def Zum (b o:Nat) (zs0 ys:List Nat) (w:World) (e:Ending) (w':World):Prop:=∃ zs,e=.returned (.int .u64 ((win o ys.length zs0 / val W64 ys:Nat):Int))∧(WinR o ys.length zs0 zs∧win o ys.length zs=win o ys.length zs0 % val W64 ys)∧Fr (fun i=>i=b) w w'∧Own .u64 94 w' b zs
theorem Zkx (b c o:Nat) (zs0 ys:List Nat) (A:Option Addr) (c2:Nat) (w:World) (hO:Own .u64 94 w b zs0) (hY:Zae .u64 w A ys) (hA:∀ a,A=some a→a.block≠b) (ho:o + ys.length < zs0.length) (hl:zs0.length≤4294967296) (hd:Dig W64 zs0) (hy:Dig W64 ys) (h2n:2≤ys.length) (hVp:0 < val W64 ys) (hUV:win o ys.length zs0 < W64 * val W64 ys) :
 Calls Tryz.prog 175 #[.slice (some ⟨b,o,none⟩) (ys.length + 1) c, .slice A ys.length c2] w (Zum b o zs0 ys w):=by
 obtain ⟨u2,hu2⟩:∃ x,zs0[o + (ys.length - 2)]?.getD 0=x:=⟨_,rfl⟩
 refine ZdZ (fun i=>i=b) (Φ:=fun w=>(Own .u64 94 w b zs0∧Zae .u64 w A ys)) Tryz.func175 rfl (by kernel_rfl) (fun w' hf=>⟨hO.ext hf,hY.ext hf⟩) ?_
 refine Zac (Zab (xq 1 [(4, .v (.int .u64 0))] [] ?_))
 refine xe (Zaa (Zac (Zab (xq 3 [(5, .v (.int .i64 ((ys.length:Nat):Int)))] [] ?_))))
 refine xe (Zaa (Zac (Zab (xq 3 [eS1 14 A ys.length c2,(16, .v (.int .i64 (IntKind.i64.wrap (((ys.length:Nat):Int) - 1))))] [] ?_))))
 rw [show IntKind.i64.wrap ((((ys.length:Nat):Int) - 1))=((ys.length - 1:Nat):Int) from by rw [IntKind.wrap_i64]; omega]
 refine xqk 17 (atA A (ys.length - 1)) (fun w R Q=>Za1 (t:=77) (e:=94) (x:=(Operand.tmp 14)) (ix:=(Operand.tmp 16)) (len:=ys.length) (cap:=c2) (i:=ys.length - 1) ((Q.2).ne (j:=ys.length - 1) (by omega)) (by omega)) ?_
 obtain ⟨x10,hx10⟩:∃ x,ys[ys.length - 1]?.getD 0=x:=⟨_,rfl⟩
 refine xqk 18 (.int .u64 ((x10:Nat):Int)) (fun w R Q=>by rw [← hx10]; exact Zbb (t:=94) (x:=(Operand.tmp 17)) (Q.2) (j:=ys.length - 1) (by omega)) ?_
 refine xq 1 [(6, .v (.int .u64 ((x10:Nat):Int)))] [] ?_
 refine xe (Zaa (Zac (Zab (xq 1 [(7, .v (.int .u64 18446744073709551615))] [] ?_))))
 rw [ZuR]
 refine xe (Zaa ?_)
 refine Zh2 (fun ss ff=>∃ (gg:Nat),ss=ofL [(0, .v (.slice (some ⟨b,o,none⟩) (ys.length + 1) c)),(1, .v (.slice A ys.length c2)),(7, .v (.int .u64 ((gg:Nat):Int)))] []∧ff=(fun w=>(Own .u64 94 w b (zs0)∧Zae .u64 w A (ys)))∧(win o ys.length zs0 / val W64 ys≤gg)∧(gg < W64)) ?_ ?_
 ·refine Zac (Zab (xq 2 [eS1 19 (some ⟨b,o,none⟩) (ys.length + 1) c,(20, .v (.int .i64 ((ys.length:Nat):Int)))] [] ?_))
  refine xqk 21 (.pointer (some ⟨b,o + ys.length,none⟩)) (fun w R Q=>Zb9 (t:=77) (e:=94) (x:=(Operand.tmp 19)) (ix:=(Operand.tmp 20)) (len:=(ys.length + 1)) (cap:=c) (i:=ys.length) (by omega)) ?_
  obtain ⟨x11,hx11⟩:∃ x,zs0[o + ys.length]?.getD 0=x:=⟨_,rfl⟩
  refine xqk 22 (.int .u64 ((x11:Nat):Int)) (fun w R Q=>by rw [← hx11]; exact ZcR (t:=94) (x:=(Operand.tmp 21)) (Q.1) (j:=o + ys.length) (by omega)) ?_
  refine xq 2 [(24, .v (.bool (decide (((x11:Nat):Int) < ((x10:Nat):Int)))))] [] ?_
  refine xe (Zaa ?_)
  refine ZaA ((decide (((x11:Nat):Int) < ((x10:Nat):Int)))) (by kernel_rfl) (fun hb12=>?_) (fun hb12=>?_)
  ·have hb12':=of_decide_eq_true hb12
   refine Zac (Zab (xq 1 [(8, .v (.int .u64 0))] [] ?_))
   refine xe (Zaa (Zac ?_))
   refine ZcI 16 [0,0,3,7,0,0,32,112,240,0,1023,2047,4095,4095,8191,32767] (by kernel_rfl) (by kernel_rfl) Zah ?_
   refine xqf 2 [eS1 26 (some ⟨b,o,none⟩) (ys.length + 1) c,(27, .v (.int .i64 ((ys.length:Nat):Int)))] [] ?_
   refine xqj 28 (.pointer (some ⟨b,o + ys.length,none⟩)) (fun w Q=>Zb9 (t:=77) (e:=94) (x:=(Operand.tmp 26)) (ix:=(Operand.tmp 27)) (len:=(ys.length + 1)) (cap:=c) (i:=ys.length) (by omega)) ?_
   obtain ⟨x13,hx13⟩:∃ x,zs0[o + ys.length]?.getD 0=x:=⟨_,rfl⟩
   refine xqj 29 (.int .u64 ((x13:Nat):Int)) (fun w Q=>by rw [← hx13]; exact ZcR (t:=94) (x:=(Operand.tmp 28)) (Q.1) (j:=o + ys.length) (by omega)) ?_
   obtain rfl:x11=x13:=by rw [← hx11,hx13]
   refine xqf 3 [eS1 30 (some ⟨b,o,none⟩) (ys.length + 1) c,(32, .v (.int .i64 (IntKind.i64.wrap (((ys.length:Nat):Int) - 1))))] [] ?_
   rw [show IntKind.i64.wrap ((((ys.length:Nat):Int) - 1))=((ys.length - 1:Nat):Int) from by rw [IntKind.wrap_i64]; omega]
   refine xqj 33 (.pointer (some ⟨b,o + (ys.length - 1),none⟩)) (fun w Q=>Zb9 (t:=77) (e:=94) (x:=(Operand.tmp 30)) (ix:=(Operand.tmp 32)) (len:=(ys.length + 1)) (cap:=c) (i:=ys.length - 1) (by omega)) ?_
   obtain ⟨x14,hx14⟩:∃ x,zs0[o + (ys.length - 1)]?.getD 0=x:=⟨_,rfl⟩
   refine xqj 34 (.int .u64 ((x14:Nat):Int)) (fun w Q=>by rw [← hx14]; exact ZcR (t:=94) (x:=(Operand.tmp 33)) (Q.1) (j:=o + (ys.length - 1)) (by omega)) ?_
   refine xqf 1 [(35, .v (.int .u64 ((x10:Nat):Int)))] [] ?_
   refine xqd 149 [.int .u64 ((x11:Nat):Int), .int .u64 ((x14:Nat):Int), .int .u64 ((x10:Nat):Int)] 36 (fun _:Unit=>.tuple #[.int .u64 ((divQ x11 x14 x10:Nat):Int), .int .u64 ((divR x11 x14 x10:Nat):Int)]) _ (fun w R Q=>(ZlR x11 x14 x10 _ (by omega) (by rw [← hx10]; exact hy.getD Zan _) (by rw [← hx14]; exact hd.getD Zan _)).mono (fun _ _ h=>Zad h rfl)) (fun xx=>?_)
   refine xqf 5 [(7, .v (.int .u64 ((divQ x11 x14 x10:Nat):Int))),(8, .v (.int .u64 ((divR x11 x14 x10:Nat):Int)))] [] ?_
   refine xz (xe (Zaa (ZaO ?_)))
   obtain ⟨lw,hlw,hU⟩:=ZtB (o:=o) (n:=ys.length) (by omega) (by omega) hx11 hx14 hu2 hd
   obtain ⟨y2,hy2⟩:∃ x,ys[ys.length - 2]?.getD 0=x:=⟨_,rfl⟩
   obtain ⟨vl,hV⟩:=ZtC (ys:=ys) h2n rfl hx10 hy2
   refine SXc.weak [(0, .v (.slice (some ⟨b,o,none⟩) (ys.length + 1) c)),(1, .v (.slice A ys.length c2)),(4, .v (.int .u64 0)),(5, .v (.int .i64 ((ys.length:Nat):Int))),(6, .v (.int .u64 ((x10:Nat):Int))),(7, .v (.int .u64 (((divQ x11 x14 x10):Nat):Int))),(8, .v (.int .u64 (((divR x11 x14 x10):Nat):Int)))] [] (Ψ:=fun w=>(Own .u64 94 w b (zs0)∧Zae .u64 w A (ys))) (ZaG.of (by kernel_rfl)) (by kernel_rfl) (fun w Q=>⟨Q.1.1,Q.1.2⟩) ?_
   have ht0:0 < x10:=by omega
   refine ZbR (fun nn ss ff=>∃ (gg rr:Nat),ss=ofL [(0, .v (.slice (some ⟨b,o,none⟩) (ys.length + 1) c)),(1, .v (.slice A ys.length c2)),(4, .v (.int .u64 0)),(5, .v (.int .i64 ((ys.length:Nat):Int))),(6, .v (.int .u64 ((x10:Nat):Int))),(7, .v (.int .u64 ((gg:Nat):Int))),(8, .v (.int .u64 ((rr:Nat):Int)))] []∧ff=(fun w=>(Own .u64 94 w b (zs0)∧Zae .u64 w A (ys)))∧(win o ys.length zs0 / val W64 ys≤gg)∧(gg < W64)∧(rr + gg * x10=x11 * W64 + x14)∧(rr < W64)∧nn=(1 + gg)) ((1 + (divQ x11 x14 x10))) ⟨(divQ x11 x14 x10),(divR x11 x14 x10),rfl,rfl,(Zsw hlw hU hV (by rw [← hu2]; exact hd.getD Zan _) ht0),(ZkS (by omega) (by rw [← hx14]; exact hd.getD Zan _)),(by rw [Nat.add_comm]; exact ZgZ _ _ _),(Nat.lt_trans (ZgE _ _ ht0) (by rw [← hx10]; exact hy.getD Zan _)),rfl⟩ ?_
   rintro nn ss ff ⟨gg,rr,rfl,rfl,hq,hgW,hr,hrW,rfl⟩
   refine ZaO (Zac (Zab (xq 4 [(40, .v (.int .u64 ((gg:Nat):Int))),eS1 41 A ys.length c2,(43, .v (.int .i64 (IntKind.i64.wrap (((ys.length:Nat):Int) - 2))))] [] ?_)))
   rw [show IntKind.i64.wrap ((((ys.length:Nat):Int) - 2))=((ys.length - 2:Nat):Int) from by rw [IntKind.wrap_i64]; omega]
   refine xqk 44 (atA A (ys.length - 2)) (fun w R Q=>Za1 (t:=77) (e:=94) (x:=(Operand.tmp 41)) (ix:=(Operand.tmp 43)) (len:=ys.length) (cap:=c2) (i:=ys.length - 2) ((Q.2).ne (j:=ys.length - 2) (by omega)) (by omega)) ?_
   obtain ⟨x15,hx15⟩:∃ x,ys[ys.length - 2]?.getD 0=x:=⟨_,rfl⟩
   refine xqk 45 (.int .u64 ((x15:Nat):Int)) (fun w R Q=>by rw [← hx15]; exact Zbb (t:=94) (x:=(Operand.tmp 44)) (Q.2) (j:=ys.length - 2) (by omega)) ?_
   obtain rfl:y2=x15:=by rw [← hy2,hx15]
   refine xqc 145 [.int .u64 ((gg:Nat):Int), .int .u64 ((y2:Nat):Int)] 46 (fun _:Unit=>.tuple #[.int .u64 ((Zbm gg y2:Nat):Int), .int .u64 ((ZaJ gg y2:Nat):Int)]) _ (fun w R Q=>(ZlK gg y2 _ hgW (by rw [← hy2]; exact hy.getD Zan _)).mono (fun _ _ h=>Zad h rfl)) (fun xx=>?_)
   refine xq 5 [(9, .v (.int .u64 ((Zbm gg y2:Nat):Int))),(10, .v (.int .u64 ((ZaJ gg y2:Nat):Int)))] [] ?_
   refine xe (Zaa (Zac (Zac (Zab (xq 4 [(52, .v (.bool (decide (((Zbm gg y2:Nat):Int) < ((rr:Nat):Int)))))] [] ?_)))))
   rcases bl2 ((decide (((Zbm gg y2:Nat):Int) < ((rr:Nat):Int)))) with hb16 | hb16
   ·rw [hb16]
    have hb16':=of_decide_eq_true hb16
    refine xq 13 [(65, .v (.bool true))] [] ?_
    refine xe (Zaa (xa (Zbp (Zax ?_))))
    refine ZgK (by kernel_rfl) ?_
    refine Zax (ZbA ?_)
    refine SXq.weak [(0, .v (.slice (some ⟨b,o,none⟩) (ys.length + 1) c)),(1, .v (.slice A ys.length c2)),(7, .v (.int .u64 ((gg:Nat):Int)))] [] (Ψ:=fun w=>(Own .u64 94 w b (zs0)∧Zae .u64 w A (ys))) (ZaG.of (by kernel_rfl)) (by kernel_rfl) (fun w Q=>⟨Q.1.1,Q.1.2⟩) ?_
    exact Zcp ⟨gg,rfl,rfl,hq,hgW⟩
   ·rw [hb16]
    have hb16':=of_decide_eq_false hb16
    refine xq 4 [(56, .v (.bool ((((Zbm gg y2:Nat):Int):Int) == ((rr:Nat):Int))))] [] ?_
    rcases bl2 (((((Zbm gg y2:Nat):Int):Int) == ((rr:Nat):Int))) with hb17 | hb17
    ·rw [hb17]
     have hb17':=beq_iff_eq.1 hb17
     refine xq 4 [(57, .v (.int .u64 ((ZaJ gg y2:Nat):Int))),eS1 58 (some ⟨b,o,none⟩) (ys.length + 1) c,(60, .v (.int .i64 (IntKind.i64.wrap (((ys.length:Nat):Int) - 2))))] [] ?_
     rw [show IntKind.i64.wrap ((((ys.length:Nat):Int) - 2))=((ys.length - 2:Nat):Int) from by rw [IntKind.wrap_i64]; omega]
     refine xqk 61 (.pointer (some ⟨b,o + (ys.length - 2),none⟩)) (fun w R Q=>Zb9 (t:=77) (e:=94) (x:=(Operand.tmp 58)) (ix:=(Operand.tmp 60)) (len:=(ys.length + 1)) (cap:=c) (i:=ys.length - 2) (by omega)) ?_
     obtain ⟨x18,hx18⟩:∃ x,zs0[o + (ys.length - 2)]?.getD 0=x:=⟨_,rfl⟩
     refine xqk 62 (.int .u64 ((x18:Nat):Int)) (fun w R Q=>by rw [← hx18]; exact ZcR (t:=94) (x:=(Operand.tmp 61)) (Q.1.1) (j:=o + (ys.length - 2)) (by omega)) ?_
     obtain rfl:u2=x18:=by rw [← hu2,hx18]
     refine xq 3 [(65, .v (.bool (decide (((ZaJ gg y2:Nat):Int)≤((u2:Nat):Int)))))] [] ?_
     refine xe (Zaa ?_)
     refine ZaA ((decide (((ZaJ gg y2:Nat):Int)≤((u2:Nat):Int)))) (by kernel_rfl) (fun hb19=>?_) (fun hb19=>?_)
     ·have hb19':=of_decide_eq_true hb19
      refine Zbp (Zax ?_)
      refine ZgK (by kernel_rfl) ?_
      refine Zax (ZbA ?_)
      refine SXq.weak [(0, .v (.slice (some ⟨b,o,none⟩) (ys.length + 1) c)),(1, .v (.slice A ys.length c2)),(7, .v (.int .u64 ((gg:Nat):Int)))] [] (Ψ:=fun w=>(Own .u64 94 w b (zs0)∧Zae .u64 w A (ys))) (ZaG.of (by kernel_rfl)) (by kernel_rfl) (fun w Q=>⟨Q.1.1,Q.1.2⟩) ?_
      exact Zcp ⟨gg,rfl,rfl,hq,hgW⟩
     ·have hb19':=of_decide_eq_false hb19
      refine Zap (Zaa (Zac ?_))
      have hbr:rr * W64 + u2 < gg * y2:=Zo8 (Zeo gg y2) (by omega) (fun _=>by omega) (by rw [← hu2]; exact hd.getD Zan _)
      have hg1:=Zkw hlw hU hV hr hbr hVp
      have hg0:1≤gg:=Nat.le_trans (Nat.le_add_left 1 _) hg1
      by_cases hov:rr + x10 < W64
      ·refine Zab (xq 2 [(67, .v (.int .u64 (IntKind.u64.wrap (((gg:Nat):Int) - 1))))] [] ?_)
       rw [show IntKind.u64.wrap ((((gg:Nat):Int) - 1))=((gg - 1:Nat):Int) from by rw [IntKind.wrap_u64]; have:=Zam; omega]
       refine xq 1 [(7, .v (.int .u64 ((gg - 1:Nat):Int)))] [] ?_
       refine xe (Zaa (Zac (Zab (xq 3 [(70, .v (.int .u64 (IntKind.u64.wrap (((rr:Nat):Int) + ((x10:Nat):Int)))))] [] ?_))))
       rw [Zp0 (a:=rr) (b:=x10) hov]
       refine xq 1 [(8, .v (.int .u64 ((rr + x10:Nat):Int)))] [] ?_
       refine xe (Zaa (Zac (Zab (xq 3 [(73, .v (.bool (decide (((rr + x10:Nat):Int) < ((x10:Nat):Int)))))] [] ?_))))
       refine xe (Zaa ?_)
       refine ZaA ((decide (((rr + x10:Nat):Int) < ((x10:Nat):Int)))) (by kernel_rfl) (fun hb20=>?_) (fun hb20=>?_)
       ·have hb20':=of_decide_eq_true hb20
        exfalso; omega
       ·have hb20':=of_decide_eq_false hb20
        refine Zap (ZbK ?_)
        refine SXq.weak [(0, .v (.slice (some ⟨b,o,none⟩) (ys.length + 1) c)),(1, .v (.slice A ys.length c2)),(4, .v (.int .u64 0)),(5, .v (.int .i64 ((ys.length:Nat):Int))),(6, .v (.int .u64 ((x10:Nat):Int))),(7, .v (.int .u64 (((gg - 1):Nat):Int))),(8, .v (.int .u64 (((rr + x10):Nat):Int)))] [] (Ψ:=fun w=>(Own .u64 94 w b (zs0)∧Zae .u64 w A (ys))) (ZaG.of (by kernel_rfl)) (by kernel_rfl) (fun w Q=>⟨Q.1.1,Q.1.2⟩) ?_
        exact Zbc ((1 + (gg - 1))) (by omega) ⟨(gg - 1),(rr + x10),rfl,rfl,(Nat.le_sub_of_add_le hg1),(by omega),(by obtain ⟨m,rfl⟩:∃ m,gg=m + 1:=⟨gg - 1,by omega⟩; rw [Nat.add_sub_cancel]; rw [Nat.add_mul] at hr; omega),hov,rfl⟩
      ·refine Zab (xq 2 [(67, .v (.int .u64 (IntKind.u64.wrap (((gg:Nat):Int) - 1))))] [] ?_)
       rw [show IntKind.u64.wrap ((((gg:Nat):Int) - 1))=((gg - 1:Nat):Int) from by rw [IntKind.wrap_u64]; have:=Zam; omega]
       refine xq 1 [(7, .v (.int .u64 ((gg - 1:Nat):Int)))] [] ?_
       refine xe (Zaa (Zac (Zab (xq 3 [(70, .v (.int .u64 (IntKind.u64.wrap (((rr:Nat):Int) + ((x10:Nat):Int)))))] [] ?_))))
       rw [ZsZ (a:=rr) (b:=x10) hov (by omega) (by rw [← hx10]; exact hy.getD Zan _)]
       refine xq 1 [(8, .v (.int .u64 ((rr + x10 - W64:Nat):Int)))] [] ?_
       refine xe (Zaa (Zac (Zab (xq 3 [(73, .v (.bool (decide (((rr + x10 - W64:Nat):Int) < ((x10:Nat):Int)))))] [] ?_))))
       refine xe (Zaa ?_)
       refine ZaA ((decide (((rr + x10 - W64:Nat):Int) < ((x10:Nat):Int)))) (by kernel_rfl) (fun hb21=>?_) (fun hb21=>?_)
       ·have hb21':=of_decide_eq_true hb21
        refine Zbp ?_
        refine ZgK (by kernel_rfl) ?_
        refine Zax (ZbA ?_)
        refine SXq.weak [(0, .v (.slice (some ⟨b,o,none⟩) (ys.length + 1) c)),(1, .v (.slice A ys.length c2)),(7, .v (.int .u64 (((gg - 1):Nat):Int)))] [] (Ψ:=fun w=>(Own .u64 94 w b (zs0)∧Zae .u64 w A (ys))) (ZaG.of (by kernel_rfl)) (by kernel_rfl) (fun w Q=>⟨Q.1.1,Q.1.2⟩) ?_
        exact Zcp ⟨(gg - 1),rfl,rfl,(Nat.le_sub_of_add_le hg1),(by omega)⟩
       ·have hb21':=of_decide_eq_false hb21
        exfalso; omega
    ·rw [hb17]
     have hb17':=ZbS hb17
     refine xq 9 [(65, .v (.bool false))] [] ?_
     refine xe (Zaa (xb (Zap (Zaa (Zac ?_)))))
     have hbr:rr * W64 + u2 < gg * y2:=Zo8 (Zeo gg y2) (by omega) (fun e=>absurd (show (Zbm gg y2:Int)=rr by rw [e]) hb17') (by rw [← hu2]; exact hd.getD Zan _)
     have hg1:=Zkw hlw hU hV hr hbr hVp
     have hg0:1≤gg:=Nat.le_trans (Nat.le_add_left 1 _) hg1
     by_cases hov:rr + x10 < W64
     ·refine Zab (xq 2 [(67, .v (.int .u64 (IntKind.u64.wrap (((gg:Nat):Int) - 1))))] [] ?_)
      rw [show IntKind.u64.wrap ((((gg:Nat):Int) - 1))=((gg - 1:Nat):Int) from by rw [IntKind.wrap_u64]; have:=Zam; omega]
      refine xq 1 [(7, .v (.int .u64 ((gg - 1:Nat):Int)))] [] ?_
      refine xe (Zaa (Zac (Zab (xq 3 [(70, .v (.int .u64 (IntKind.u64.wrap (((rr:Nat):Int) + ((x10:Nat):Int)))))] [] ?_))))
      rw [Zp0 (a:=rr) (b:=x10) hov]
      refine xq 1 [(8, .v (.int .u64 ((rr + x10:Nat):Int)))] [] ?_
      refine xe (Zaa (Zac (Zab (xq 3 [(73, .v (.bool (decide (((rr + x10:Nat):Int) < ((x10:Nat):Int)))))] [] ?_))))
      refine xe (Zaa ?_)
      refine ZaA ((decide (((rr + x10:Nat):Int) < ((x10:Nat):Int)))) (by kernel_rfl) (fun hb22=>?_) (fun hb22=>?_)
      ·have hb22':=of_decide_eq_true hb22
       exfalso; omega
      ·have hb22':=of_decide_eq_false hb22
       refine Zap (ZbK ?_)
       refine SXq.weak [(0, .v (.slice (some ⟨b,o,none⟩) (ys.length + 1) c)),(1, .v (.slice A ys.length c2)),(4, .v (.int .u64 0)),(5, .v (.int .i64 ((ys.length:Nat):Int))),(6, .v (.int .u64 ((x10:Nat):Int))),(7, .v (.int .u64 (((gg - 1):Nat):Int))),(8, .v (.int .u64 (((rr + x10):Nat):Int)))] [] (Ψ:=fun w=>(Own .u64 94 w b (zs0)∧Zae .u64 w A (ys))) (ZaG.of (by kernel_rfl)) (by kernel_rfl) (fun w Q=>⟨Q.1.1,Q.1.2⟩) ?_
       exact Zbc ((1 + (gg - 1))) (by omega) ⟨(gg - 1),(rr + x10),rfl,rfl,(Nat.le_sub_of_add_le hg1),(by omega),(by obtain ⟨m,rfl⟩:∃ m,gg=m + 1:=⟨gg - 1,by omega⟩; rw [Nat.add_sub_cancel]; rw [Nat.add_mul] at hr; omega),hov,rfl⟩
     ·refine Zab (xq 2 [(67, .v (.int .u64 (IntKind.u64.wrap (((gg:Nat):Int) - 1))))] [] ?_)
      rw [show IntKind.u64.wrap ((((gg:Nat):Int) - 1))=((gg - 1:Nat):Int) from by rw [IntKind.wrap_u64]; have:=Zam; omega]
      refine xq 1 [(7, .v (.int .u64 ((gg - 1:Nat):Int)))] [] ?_
      refine xe (Zaa (Zac (Zab (xq 3 [(70, .v (.int .u64 (IntKind.u64.wrap (((rr:Nat):Int) + ((x10:Nat):Int)))))] [] ?_))))
      rw [ZsZ (a:=rr) (b:=x10) hov (by omega) (by rw [← hx10]; exact hy.getD Zan _)]
      refine xq 1 [(8, .v (.int .u64 ((rr + x10 - W64:Nat):Int)))] [] ?_
      refine xe (Zaa (Zac (Zab (xq 3 [(73, .v (.bool (decide (((rr + x10 - W64:Nat):Int) < ((x10:Nat):Int)))))] [] ?_))))
      refine xe (Zaa ?_)
      refine ZaA ((decide (((rr + x10 - W64:Nat):Int) < ((x10:Nat):Int)))) (by kernel_rfl) (fun hb23=>?_) (fun hb23=>?_)
      ·have hb23':=of_decide_eq_true hb23
       refine Zbp ?_
       refine ZgK (by kernel_rfl) ?_
       refine Zax (ZbA ?_)
       refine SXq.weak [(0, .v (.slice (some ⟨b,o,none⟩) (ys.length + 1) c)),(1, .v (.slice A ys.length c2)),(7, .v (.int .u64 (((gg - 1):Nat):Int)))] [] (Ψ:=fun w=>(Own .u64 94 w b (zs0)∧Zae .u64 w A (ys))) (ZaG.of (by kernel_rfl)) (by kernel_rfl) (fun w Q=>⟨Q.1.1,Q.1.2⟩) ?_
       exact Zcp ⟨(gg - 1),rfl,rfl,(Nat.le_sub_of_add_le hg1),(by omega)⟩
      ·have hb23':=of_decide_eq_false hb23
       exfalso; omega
  ·have hb12':=of_decide_eq_false hb12
   refine Zap ?_
   refine SXq.weak [(0, .v (.slice (some ⟨b,o,none⟩) (ys.length + 1) c)),(1, .v (.slice A ys.length c2)),(7, .v (.int .u64 (((W64 - 1):Nat):Int)))] [] (Ψ:=fun w=>(Own .u64 94 w b (zs0)∧Zae .u64 w A (ys))) (ZaG.of (by kernel_rfl)) (by kernel_rfl) (fun w Q=>⟨Q.1,Q.2⟩) ?_
   exact Zcp ⟨(W64 - 1),rfl,rfl,Zrl hUV,(by have:=Zan; omega)⟩
 ·rintro ss ff ⟨gg,rfl,rfl,hq,hgW⟩
  refine Zac (Zac (Zab (xq 3 [eS1 74 (some ⟨b,o,none⟩) (ys.length + 1) c,eS1 75 A ys.length c2,(76, .v (.int .u64 ((gg:Nat):Int)))] [] ?_)))
  refine Zhd (xs:=zs0) (α:=List Nat × Nat) 199 [.slice (some ⟨b,o,none⟩) (ys.length + 1) c, .slice A ys.length c2, .int .u64 ((gg:Nat):Int)] (d:=77) (fun x=>.bool (((x.2:Nat):Int) == 1)) (fun x=>Zia zs0 ys gg o x.1 x.2) (fun x=>x.1) b (fun x w=>(Own .u64 94 w b (x.1)∧Zae .u64 w A (ys))) (fun w Q=>Q.1) (by omega) (Or.inr rfl) (fun w R Q=>Znp b _ o _ ys A _ _ Q.1 Q.2 hA (by omega) hl hd hy _ hgW) (fun x w w' hp Q hF hO=>⟨hO,((Q.2).fr hF (fun a ha _=>hA a ha))⟩) (fun x hx24=>?_)
  obtain ⟨zs24,bb24⟩:=x
  dsimp only at hx24
  have hwn:=hx24.win (by omega) (WinR.start hd)
  refine xr 1 [eS1 0 (some ⟨b,o,none⟩) (ys.length + 1) c,eS1 1 A ys.length c2,(7, .v (.int .u64 ((gg:Nat):Int))),(11, .v (.bool (((bb24:Nat):Int) == 1)))] [] ?_
  refine xe (Zaa (ZaO ?_))
  refine SXc.weak [(0, .v (.slice (some ⟨b,o,none⟩) (ys.length + 1) c)),(1, .v (.slice A ys.length c2)),(7, .v (.int .u64 ((gg:Nat):Int))),(11, .v (.bool (((bb24:Nat):Int) == 1)))] [] (Ψ:=fun w=>(Own .u64 94 w b (zs24)∧Zae .u64 w A (ys))) (ZaG.of (by kernel_rfl)) (by kernel_rfl) (fun w Q=>⟨Q.1,Q.2⟩) ?_
  refine ZbR (fun nn ss ff=>∃ (gg bb:Nat) (zs:List Nat),ss=ofL [(0, .v (.slice (some ⟨b,o,none⟩) (ys.length + 1) c)),(1, .v (.slice A ys.length c2)),(7, .v (.int .u64 ((gg:Nat):Int))),(11, .v (.bool (((bb:Nat):Int) == 1)))] []∧ff=(fun w=>(Own .u64 94 w b (zs)∧Zae .u64 w A (ys)))∧(WinR o ys.length zs0 zs)∧(CorR (win o ys.length zs0) (val W64 ys) (W64 ^ (ys.length + 1)) gg bb (win o ys.length zs))∧(gg < W64)∧nn=(1 + gg)) ((1 + gg)) ⟨gg,bb24,zs24,rfl,rfl,hwn.1,⟨hwn.2.1,Zrk hwn.1.2.1,hq,hwn.2.2⟩,hgW,rfl⟩ ?_
  rintro nn ss ff ⟨gg,bb,zs,rfl,rfl,HW,HC,hgW,rfl⟩
  refine Zac (Zac (Zab (xq 1 [(78, .v (.bool (((bb:Nat):Int) == 1)))] [] ?_)))
  refine xe (Zaa ?_)
  refine ZaA ((((bb:Nat):Int) == 1)) (by kernel_rfl) (fun hb25=>?_) (fun hb25=>?_)
  ·have hb25':=beq_iff_eq.1 hb25
   refine Zap (Zaa (Zac (ZaO ?_)))
   have hg1:=HC.pos (by omega) hVp
   have hg0:1≤gg:=Nat.le_trans (Nat.le_add_left 1 _) hg1
   refine Zab (xq 2 [eS1 81 (some ⟨b,o,none⟩) (ys.length + 1) c,eS1 82 A ys.length c2] [] ?_)
   refine Zhd (xs:=zs) (α:=List Nat × Nat) 200 [.slice (some ⟨b,o,none⟩) (ys.length + 1) c, .slice A ys.length c2] (d:=83) (fun x=>.bool (((x.2:Nat):Int) == 1)) (fun x=>Zib zs ys o x.1 x.2) (fun x=>x.1) b (fun x w=>(Own .u64 94 w b (x.1)∧Zae .u64 w A (ys))) (fun w Q=>Q.1) (by have:=HW.1; omega) (Or.inr rfl) (fun w R Q=>Znq b _ o _ ys A _ _ Q.1 Q.2 hA (by rw [HW.1]; omega) (by rw [HW.1]; exact hl) HW.2.1 hy) (fun x w w' hp Q hF hO=>⟨hO,((Q.2).fr hF (fun a ha _=>hA a ha))⟩) (fun x hx26=>?_)
   obtain ⟨zs26,bb26⟩:=x
   dsimp only at hx26
   have hwn:=hx26.win (by omega) HW
   refine xr 1 [eS1 0 (some ⟨b,o,none⟩) (ys.length + 1) c,eS1 1 A ys.length c2,(7, .v (.int .u64 ((gg:Nat):Int))),(11, .v (.bool (((bb:Nat):Int) == 1))),(84, .v (.bool (!(((bb26:Nat):Int) == 1))))] [] ?_
   rw [ZtD (c:=bb26) hwn.2.1]
   refine xq 1 [(11, .v (.bool (((1 - bb26:Nat):Int) == 1)))] [] ?_
   refine xe (ZbK (Zaa (Zab (xq 2 [(80, .v (.int .u64 (IntKind.u64.wrap (((gg:Nat):Int) - 1))))] [] ?_))))
   rw [show IntKind.u64.wrap ((((gg:Nat):Int) - 1))=((gg - 1:Nat):Int) from by rw [IntKind.wrap_u64]; have:=Zam; omega]
   refine xq 1 [(7, .v (.int .u64 ((gg - 1:Nat):Int)))] [] ?_
   refine xe ?_
   refine SXq.weak [(0, .v (.slice (some ⟨b,o,none⟩) (ys.length + 1) c)),(1, .v (.slice A ys.length c2)),(7, .v (.int .u64 (((gg - 1):Nat):Int))),(11, .v (.bool ((((1 - bb26):Nat):Int) == 1)))] [] (Ψ:=fun w=>(Own .u64 94 w b (zs26)∧Zae .u64 w A (ys))) (ZaG.of (by kernel_rfl)) (by kernel_rfl) (fun w Q=>⟨Q.1,Q.2⟩) ?_
   exact Zbc ((1 + (gg - 1))) (by omega) ⟨(gg - 1),(1 - bb26),zs26,rfl,rfl,hwn.1,(HC.step (by omega) hVp hwn.2.1 (Zrk hwn.1.2.1) hwn.2.2),(by omega),rfl⟩
  ·have hb25':=ZbS hb25
   obtain rfl:bb=0:=by have:=HC.1; omega
   refine Zbp (Zax (Zax (ZbA (Zaa (Zac (Zab (xq 2 [(4, .v (.int .u64 ((gg:Nat):Int)))] [] ?_)))))))
   refine xe (Zaa (Zaj ?_))
   refine Zaf (v:=.int .u64 ((gg:Nat):Int)) (by kernel_rfl) (fun w' R Q=>?_)
   obtain ⟨e1,e2⟩:=HC.done hVp
   exact ⟨zs,by rw [e1],⟨HW,e2⟩,R,Q.1⟩
end Go.Proofs.YtklpdkpcocnglaaGreatDoor
