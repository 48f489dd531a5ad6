/-
 My texts Gen, Small, Rat2, SxK, Sx8, Sx9, Pw, Reduce put together.
-/
import Derived.Test.YtibipjlohahekaaGreatDoorM12
import Derived.Test.YtibipjlohahekaaGreatDoorM10
import Derived.Test.YtibipjlohahekaaGreatDoorM15
import Derived.Outline
import Derived.Test.YtibipjlohahekaaGreatDoorM13
import Derived.Test.YtibipjlohahekaaGreatDoorM01
import Derived.Deep.LoopGhost
import Derived.Test.YtibipjlohahekaaGreatDoorM06
import Derived.Test.YtibipjlohahekaaGreatDoorM03
import Derived.Test.YtibipjlohahekaaGreatDoorM14
namespace Go.Proofs.YtibipjlohahekaaGreatDoor
open Go.RowKit
theorem follows_mixed':Tryz.prog.follows .mixedOrders=true:=by kernel_rfl
def NoRow (cs:Array Value):Prop:=∀ (i:Nat) (k:IntKind) (z:Int),cs[i]? = some (.int k z)→k=.i64
theorem noRow2 {s:Bool} {A:Option Addr} {l c:Nat}:NoRow #[.bool s, .slice A l c]:=by
 intro i k z; rcases i with _ | _ | i<;>simp
theorem Shows.other {k:IntKind} {t:TypeId} {w w':World} {r:Nat} {A:Option Addr} {xs:List Nat} {cs:Array Value} (h:Shows k w A xs) (hk:k≠.i64) (hB:Blk t w r cs) (hc:NoRow cs) (hF:Fr (fun i=>i=r) w w'):Shows k w' A xs:=by
 cases xs with
 | nil=>exact Shows.nil
 | cons x xs =>
   refine h.fr hF (fun ad hA hlt e=>?_)
   obtain ⟨g,off,e',_,hcl⟩:=h.at (i:=0) (by simp)
   rw [e'] at hA
   injection hA with hA
   subst hA
   simp at e
   subst e
   rw [hB.cell] at hcl
   exact hk (hc _ _ _ hcl)
theorem MagIs.oth {t:TypeId} {w w':World} {r n:Nat} {u:Value} {cs:Array Value} (h:MagIs w u n) (hB:Blk t w r cs) (hc:NoRow cs) (hF:Fr (fun i=>i=r) w w'):MagIs w' u n:=by
 obtain ⟨A',xs,c',h1,h2,h3,h4⟩:=h
 exact ⟨A',xs,c',h1,h2,h3.other (by decide) hB hc hF,h4⟩
theorem NumIs.oth {t:TypeId} {w w':World} {r:Nat} {v:Value} {z:Int} {cs:Array Value} (h:NumIs w v z) (hB:Blk t w r cs) (hc:NoRow cs) (hF:Fr (fun i=>i=r) w w'):NumIs w' v z:=by
 obtain ⟨s',u,n,h1,h2,h3⟩:=h
 exact ⟨s',u,n,h1,h2.oth hB hc hF,h3⟩
theorem NumIs.shp {w:World} {v:Value} {z:Int} (h:NumIs w v z):∃ (s:Bool) (A:Option Addr) (l c:Nat),v=.agg #[.bool s, .slice A l c]:=by
 obtain ⟨s,A,l,c,h,_⟩:=h.open
 exact ⟨s,A,l,c,h⟩
theorem IntIs.shp {w:World} {v:Value} {z:Int} (h:IntIs w v z):∃ (s:Bool) (A:Option Addr) (l c:Nat),v=.agg #[.bool s, .slice A l c]:=h.shape
theorem NumIs.nil (w:World):NumIs w (.agg #[.bool false, .slice none 0 0]) 0:=⟨false,_,0,rfl,MagIs.zero w,fun _=>rfl,rfl⟩
theorem IntIs.nil (w:World):IntIs w (.agg #[.bool false, .slice none 0 0]) 0:=IntIs.zero w
theorem RatIs.nil (w:World):RatIs w (.agg #[.bool false, .slice none 0 0, .bool false, .slice none 0 0]) 0:=RatIs.zero w
theorem RatIs.shp {w:World} {v:Value} {q:Rat} (h:RatIs w v q):∃ (s:Bool) (A:Option Addr) (l c:Nat) (t:Bool) (B:Option Addr) (l' c':Nat),v=.agg #[.bool s, .slice A l c, .bool t, .slice B l' c']:=by
 obtain ⟨s,t,A,B,l,c,l',c',h,_⟩:=h
 exact ⟨s,A,l,c,t,B,l',c',h⟩
theorem agg4_inj {a b c d a' b' c' d':Value} (h:Value.agg #[a,b,c,d]=.agg #[a',b',c',d']):a=a'∧b=b'∧c=c'∧d=d':=by
 injection h with h
 simpa using h
theorem RatIs.num {w:World} {a b c d:Value} {q:Rat} (h:RatIs w (.agg #[a,b,c,d]) q):IntIs w (.agg #[a,b]) q.num:=by
 obtain ⟨s,t,A,B,l,c,l',c',h,h1,h2⟩:=h
 obtain ⟨rfl,rfl,rfl,rfl⟩:=agg4_inj h
 exact h1
theorem RatIs.den {w:World} {a b c d:Value} {q:Rat} (h:RatIs w (.agg #[a,b,c,d]) q):IntIs w (.agg #[c,d]) (denF q):=by
 obtain ⟨s,t,A,B,l,c,l',c',h,h1,h2⟩:=h
 obtain ⟨rfl,rfl,rfl,rfl⟩:=agg4_inj h
 exact h2
theorem RatIs.of {w:World} {s t:Bool} {A B:Option Addr} {l c l' c':Nat} {q:Rat} (h1:IntIs w (.agg #[.bool s, .slice A l c]) q.num) (h2:IntIs w (.agg #[.bool t, .slice B l' c']) (denF q)):RatIs w (.agg #[.bool s, .slice A l c, .bool t, .slice B l' c']) q :=
 ⟨_,_,_,_,_,_,_,_,rfl,h1,h2⟩
def NRatIs (w:World) (v:Value) (q:Rat):Prop:=∃ (s t:Bool) (A B:Option Addr) (l c l' c':Nat),v=.agg #[.bool s, .slice A l c, .bool t, .slice B l' c']∧NumIs w (.agg #[.bool s, .slice A l c]) q.num∧NumIs w (.agg #[.bool t, .slice B l' c']) (denF q)
theorem NRatIs.ext {w w':World} {v:Value} {q:Rat} (h:NRatIs w v q) (hf:Ext w w'):NRatIs w' v q:=by
 obtain ⟨s,t,A,B,l,c,l',c',h1,h2,h3⟩:=h
 exact ⟨s,t,A,B,l,c,l',c',h1,h2.ext hf,h3.ext hf⟩
theorem NRatIs.oth {t:TypeId} {w w':World} {r:Nat} {v:Value} {q:Rat} {cs:Array Value} (h:NRatIs w v q) (hB:Blk t w r cs) (hc:NoRow cs) (hF:Fr (fun i=>i=r) w w'):NRatIs w' v q:=by
 obtain ⟨s,t,A,B,l,c,l',c',h1,h2,h3⟩:=h
 exact ⟨s,t,A,B,l,c,l',c',h1,h2.oth hB hc hF,h3.oth hB hc hF⟩
theorem NRatIs.shp {w:World} {v:Value} {q:Rat} (h:NRatIs w v q):∃ (s:Bool) (A:Option Addr) (l c:Nat) (t:Bool) (B:Option Addr) (l' c':Nat),v=.agg #[.bool s, .slice A l c, .bool t, .slice B l' c']:=by
 obtain ⟨s,t,A,B,l,c,l',c',h,_⟩:=h
 exact ⟨s,A,l,c,t,B,l',c',h⟩
theorem NRatIs.num {w:World} {a b c d:Value} {q:Rat} (h:NRatIs w (.agg #[a,b,c,d]) q):NumIs w (.agg #[a,b]) q.num:=by
 obtain ⟨s,t,A,B,l,c,l',c',h,h1,h2⟩:=h
 obtain ⟨rfl,rfl,rfl,rfl⟩:=agg4_inj h
 exact h1
theorem NRatIs.den {w:World} {a b c d:Value} {q:Rat} (h:NRatIs w (.agg #[a,b,c,d]) q):NumIs w (.agg #[c,d]) (denF q):=by
 obtain ⟨s,t,A,B,l,c,l',c',h,h1,h2⟩:=h
 obtain ⟨rfl,rfl,rfl,rfl⟩:=agg4_inj h
 exact h2
theorem NRatIs.of {w:World} {s t:Bool} {A B:Option Addr} {l c l' c':Nat} {q:Rat} (h1:NumIs w (.agg #[.bool s, .slice A l c]) q.num) (h2:NumIs w (.agg #[.bool t, .slice B l' c']) (denF q)):NRatIs w (.agg #[.bool s, .slice A l c, .bool t, .slice B l' c']) q :=
 ⟨_,_,_,_,_,_,_,_,rfl,h1,h2⟩
def RetNRat (w:World) (q:Rat) (e:Ending) (w':World):Prop:=∃ v,e=.returned v∧NRatIs w' v q∧Ext w w'
theorem NRatIs.nil (w:World):NRatIs w (.agg #[.bool false, .slice none 0 0, .bool false, .slice none 0 0]) 0:=⟨_,_,_,_,_,_,_,_,rfl,NumIs.nil w,NumIs.nil w⟩
theorem blocks1 {t0:TypeId} {w wb:World} {c0:Array Value} (h:w.alloc (.cells c0 t0)=wb):Blk t0 wb w.heap.size c0∧Ext w wb:=by
 subst h; exact ⟨Blk.new _ _ _,(Fr.refl _ _).alloc _⟩
theorem blocks2 {t0 t1:TypeId} {w wb:World} {c0 c1:Array Value} (h:(w.alloc (.cells c0 t0)).alloc (.cells c1 t1)=wb):Blk t0 wb w.heap.size c0∧Blk t1 wb (w.heap.size + 1) c1∧Ext w wb:=by
 obtain ⟨b0,e0⟩:=blocks1 (w:=w) (c0:=c0) (t0:=t0) rfl
 have e:(w.alloc (.cells c0 t0)).heap.size=w.heap.size + 1:=by simp
 obtain ⟨b1,e1⟩:=blocks1 h
 rw [e] at b1
 exact ⟨b0.ext e1,b1,e0.trans e1⟩
theorem blocks3 {t0 t1 t2:TypeId} {w wb:World} {c0 c1 c2:Array Value} (h:((w.alloc (.cells c0 t0)).alloc (.cells c1 t1)).alloc (.cells c2 t2)=wb):Blk t0 wb w.heap.size c0∧Blk t1 wb (w.heap.size + 1) c1∧Blk t2 wb (w.heap.size + 1 + 1) c2∧Ext w wb:=by
 obtain ⟨b0,b1,e0⟩:=blocks2 (w:=w) (c0:=c0) (t0:=t0) (c1:=c1) (t1:=t1) rfl
 have e:((w.alloc (.cells c0 t0)).alloc (.cells c1 t1)).heap.size=w.heap.size + 1 + 1:=by simp
 obtain ⟨b2,e2⟩:=blocks1 h
 rw [e] at b2
 exact ⟨b0.ext e2,b1.ext e2,b2,e0.trans e2⟩
theorem blocks4 {t0 t1 t2 t3:TypeId} {w wb:World} {c0 c1 c2 c3:Array Value} (h:(((w.alloc (.cells c0 t0)).alloc (.cells c1 t1)).alloc (.cells c2 t2)).alloc (.cells c3 t3)=wb):Blk t0 wb w.heap.size c0∧Blk t1 wb (w.heap.size + 1) c1∧Blk t2 wb (w.heap.size + 1 + 1) c2∧Blk t3 wb (w.heap.size + 1 + 1 + 1) c3∧Ext w wb:=by
 obtain ⟨b0,b1,b2,e0⟩:=blocks3 (w:=w) (c0:=c0) (t0:=t0) (c1:=c1) (t1:=t1) (c2:=c2) (t2:=t2) rfl
 have e:(((w.alloc (.cells c0 t0)).alloc (.cells c1 t1)).alloc (.cells c2 t2)).heap.size=w.heap.size + 1 + 1 + 1:=by simp
 obtain ⟨b3,e3⟩:=blocks1 h
 rw [e] at b3
 exact ⟨b0.ext e3,b1.ext e3,b2.ext e3,b3,e0.trans e3⟩
theorem Blk.two {t:TypeId} {w:World} {g:Nat} {cs:Array Value} {x y:Value} (h:Blk t w g cs) (o:Nat) (hx:cs[o]? = some x) (hy:cs[o + 1]? = some y):w.cell? ⟨g,o,none⟩=some x∧w.cell? ⟨g,o + 1,none⟩=some y :=
 ⟨(h.cell o).trans hx,(h.cell (o + 1)).trans hy⟩
theorem Blk.one' {t:TypeId} {w:World} {g:Nat} {cs:Array Value} {x:Value} (h:Blk t w g cs) (o:Nat) (hx:cs[o]? = some x):w.cell? ⟨g,o,none⟩=some x:=(h.cell o).trans hx
section
variable {ops:Array Oper} {S:World→Prop} {o:Oper} {a:Act} {p:Operand} {g off:Nat} {x y z u v:Value}
theorem ym (hw:Region.wanted o (yielded ops a.tmps)=true) (ho:o.op=Op.move p) (hp:a.eval p=v):YieldsIf Tryz.prog ops S o v a :=
 Or.inl ⟨hw,fun w _=>by simp only [execOp,ho,hp]; simp [go_sem]⟩
theorem yl_NumInt (hw:Region.wanted o (yielded ops a.tmps)=true) (ho:o.op=Op.load 33 p) (hp:a.eval p=.pointer (some ⟨g,off,none⟩)) (hc:∀ w,S w→w.cell? ⟨g,off,none⟩=some x∧w.cell? ⟨g,off + 1,none⟩=some y):YieldsIf Tryz.prog ops S o (.agg #[x,y]) a :=
 Or.inl ⟨hw,fun w hS=>by
  obtain ⟨h0,h1⟩:=hc w hS
  simp only [execOp,ho,hp]
  simp [go_sem,h0,h1]⟩
theorem yl_bool (hw:Region.wanted o (yielded ops a.tmps)=true) (ho:o.op=Op.load 4 p) (hp:a.eval p=.pointer (some ⟨g,off,none⟩)) (hc:∀ w,S w→w.cell? ⟨g,off,none⟩=some x):YieldsIf Tryz.prog ops S o x a :=
 Or.inl ⟨hw,fun w hS=>by
  have h0:=hc w hS
  simp only [execOp,ho,hp]
  simp [go_sem,h0]⟩
theorem ya_NumInt0 (hw:Region.wanted o (yielded ops a.tmps)=true) (ho:o.op=Op.fieldAddr 33 p 0) (hp:a.eval p=.pointer (some ⟨g,off,none⟩)):YieldsIf Tryz.prog ops S o (.pointer (some ⟨g,off,none⟩)) a :=
 Or.inl ⟨hw,fun w _=>by simp only [execOp,ho,hp]; simp [go_sem]⟩
theorem yne_bool {b c:Bool} {q:Operand} (hw:Region.wanted o (yielded ops a.tmps)=true) (ho:o.op=Op.binOp .neq 4 p q 4) (hp:a.eval p=.bool b) (hq:a.eval q=.bool c):YieldsIf Tryz.prog ops S o (.bool (b != c)) a :=
 Or.inl ⟨hw,fun w _=>by simp only [execOp,ho,hp,hq]; simp [go_sem]; cases b<;>cases c<;>rfl⟩
end
end Go.Proofs.YtibipjlohahekaaGreatDoor

namespace Go.Proofs.YtibipjlohahekaaGreatDoor
open Go.RowKit
end Go.Proofs.YtibipjlohahekaaGreatDoor

namespace Go.Proofs.YtibipjlohahekaaGreatDoor
open Go.RowKit
def RetRat (w:World) (q:Rat) (e:Ending) (w':World):Prop:=∃ v,e=.returned v∧RatIs w' v q∧Ext w w'
theorem fin_rat {fn:Func} {t:Tmp} {tmps:Array Value} {w w':World} {r:Nat} {s s':Bool} {A B:Option Addr} {l c l' c':Nat} {q:Rat} (hres:fn.results=#[.cell t 70]) (ht:tmps[t]? = some (.pointer (some ⟨r,0,none⟩)))
 (hB:Blk 70 w' r #[.bool s, .slice A l c, .bool s', .slice B l' c']) (hI:IntIs w' (.agg #[.bool s, .slice A l c]) q.num) (hI':IntIs w' (.agg #[.bool s', .slice B l' c']) (denF q)) (hE:Ext w w') :
 bodyPost Tryz.prog fn (RetRat w q) .ret ⟨tmps,[]⟩ w':=by
 obtain ⟨h0,h1,h2,h4,_⟩:=hB.cell4
 exact bodyPost_ret (v:=.agg #[.bool s, .slice A l c, .bool s', .slice B l' c']) (by simp [results,hres,ht,go_sem,h0,h1,h2,h4]) rfl ⟨_,rfl,⟨_,_,_,_,_,_,_,_,rfl,hI,hI'⟩,hE⟩
theorem denF_zero {q:Rat}:denF q=0 ↔ q.den=1:=by
 unfold denF
 have:=q.den_nz
 split<;>omega
set_option maxHeartbeats 1000000 in
set_option maxRecDepth 100000 in
theorem lowest_any (a b:Value) (x y:Int) (q:Rat) (w:World) (ha:IntIs w a x) (hb:IntIs w b y) (hq:q.num=x∧(q.den:Int)=y):Calls Tryz.prog 95 #[a,b] w (RetRat w q):=by
 obtain ⟨s,A,l,c,rfl⟩:=ha.shape
 obtain ⟨t,B,l',c',rfl⟩:=hb.shape
 have HA:=zh ha
 have HB:=zh hb
 have HQ:=zh hq
 clear ha hb hq
 go_enter Tryz.func95,Tryz.ntmps95
 go_wp2_with fail
 generalize hwb:World.alloc (World.alloc (World.alloc w _) _) _=wb
 have hE:Ext w wb:=hwb ▸ (((Fr.refl _ _).alloc _).alloc _).alloc _
 have hB0:Blk 63 wb w.heap.size #[.bool s, .slice A l c]:=hwb ▸ ((Blk.new _ _ _).alloc _).alloc _
 have hB1:Blk 63 wb (w.heap.size + 1) #[.bool t, .slice B l' c']:=by
  have h:=(Blk.new (w.alloc (.cells #[.bool s, .slice A l c] 63)) 63 #[.bool t, .slice B l' c']).alloc (.cells #[.bool false, .slice none 0 0, .bool false, .slice none 0 0] 70)
  have e:(w.alloc (.cells #[.bool s, .slice A l c] 63)).heap.size=w.heap.size + 1:=by simp
  rw [e] at h
  exact hwb ▸ h
 have hB2:Blk 70 wb (w.heap.size + 1 + 1) #[.bool false, .slice none 0 0, .bool false, .slice none 0 0]:=by
  have h:=Blk.new ((w.alloc (.cells #[.bool s, .slice A l c] 63)).alloc (.cells #[.bool t, .slice B l' c'] 63)) 70 #[.bool false, .slice none 0 0, .bool false, .slice none 0 0]
  have e:((w.alloc (.cells #[.bool s, .slice A l c] 63)).alloc (.cells #[.bool t, .slice B l' c'] 63)).heap.size=w.heap.size + 1 + 1:=by simp
  rw [e] at h
  exact hwb ▸ h
 clear hwb
 refine (IsOne_any _ y _ (HB.out.ext hE)).mono ?_
 by_cases h1:y=1
 ·rw [decide_eq_true h1]
  rintro e w1 ⟨rfl,hF⟩
  have HE:=zh (hE.trans hF)
  have HB0:=zh (hB0.ext hF)
  have HB2:=zh (hB2.ext hF)
  have HD:Hid (denF q=0):=denF_zero.2 (by have:=HQ.out.2; omega)
  obtain ⟨x0,x1,_,_⟩:=HB0.out.cell2
  obtain ⟨y0,y1,y2,y3,y4,y5,y6,y7⟩:=HB2.out.cell4
  clear hE hF hB0 hB1 hB2 h1
  go_wp2
  refine fin_rat rfl rfl (HB2.out.put4 _ _ _ _) ?_ ?_ (Fr.local_ HE.out (Fr.set4 _ _ _ _) (by omega))
  ·rw [HQ.out.1]; exact (HA.out.ext HE.out).other HB2.out noWords4 (Fr.set4 _ _ _ _)
  ·rw [HD.out]; exact IntIs.zero _
 ·rw [decide_eq_false h1]
  rintro e w1 ⟨rfl,hF⟩
  have HE:=zh (hE.trans hF)
  have HB0:=zh (hB0.ext hF)
  have HB1:=zh (hB1.ext hF)
  have HB2:=zh (hB2.ext hF)
  have HD:Hid (denF q=y):=by
   have:=HQ.out.2
   unfold Hid denF; rw [if_neg (by omega)]; exact this
  obtain ⟨x0,x1,_,_⟩:=HB0.out.cell2
  obtain ⟨z0,z1,_,_⟩:=HB1.out.cell2
  obtain ⟨y0,y1,y2,y3,y4,y5,y6,y7⟩:=HB2.out.cell4
  clear hE hF hB0 hB1 hB2 h1
  go_wp2
  refine fin_rat rfl rfl (HB2.out.put4 _ _ _ _) ?_ ?_ (Fr.local_ HE.out (Fr.set4 _ _ _ _) (by omega))
  ·rw [HQ.out.1]; exact (HA.out.ext HE.out).other HB2.out noWords4 (Fr.set4 _ _ _ _)
  ·rw [HD.out]; exact (HB.out.ext HE.out).other HB2.out noWords4 (Fr.set4 _ _ _ _)
end Go.Proofs.YtibipjlohahekaaGreatDoor

namespace Go.Proofs.YtibipjlohahekaaGreatDoor
open Go.RowKit
section
variable {S:Nat→Prop} {w w' w0:World} {k:IntKind} {A:Option Addr} {xs:List Nat}
theorem Shows.nrb (hk:k≠.i64) (h:Shows k w A xs) (hS:∀ i,S i→NRB w i) (hF:Fr S w w'):Shows k w' A xs:=by
 cases xs with
 | nil=>exact Shows.nil
 | cons x xs =>
   refine h.fr hF (fun ad hA hlt hs=>?_)
   obtain ⟨g,off,e',_,hcl⟩:=h.at (i:=0) (by simp)
   rw [e'] at hA
   injection hA with hA
   subst hA
   obtain ⟨t,cs,hB,hc⟩:=hS _ hs
   rw [hB.cell] at hcl
   exact hk (hc _ _ _ hcl)
theorem NatIs.nrb {u:Value} {n:Nat} (h:NatIs w u n) (hS:∀ i,S i→NRB w i) (hF:Fr S w w'):NatIs w' u n:=by
 obtain ⟨A',xs,c',h1,h2,h3,h4⟩:=h
 exact ⟨A',xs,c',h1,h2,h3.nrb (by decide) hS hF,h4⟩
theorem IntIs.nrb {v:Value} {z:Int} (h:IntIs w v z) (hS:∀ i,S i→NRB w i) (hF:Fr S w w'):IntIs w' v z:=by
 obtain ⟨s',u,n,h1,h2,h3⟩:=h
 exact ⟨s',u,n,h1,h2.nrb hS hF,h3⟩
theorem RatIs.nrb {v:Value} {q:Rat} (h:RatIs w v q) (hS:∀ i,S i→NRB w i) (hF:Fr S w w'):RatIs w' v q:=by
 obtain ⟨s,t,A,B,l,c,l',c',h1,h2,h3⟩:=h
 exact ⟨s,t,A,B,l,c,l',c',h1,h2.nrb hS hF,h3.nrb hS hF⟩
theorem MagIs.nrb {u:Value} {n:Nat} (h:MagIs w u n) (hS:∀ i,S i→NRB w i) (hF:Fr S w w'):MagIs w' u n:=by
 obtain ⟨A',xs,c',h1,h2,h3,h4⟩:=h
 exact ⟨A',xs,c',h1,h2,h3.nrb (by decide) hS hF,h4⟩
theorem NumIs.nrb {v:Value} {z:Int} (h:NumIs w v z) (hS:∀ i,S i→NRB w i) (hF:Fr S w w'):NumIs w' v z:=by
 obtain ⟨s',u,n,h1,h2,h3⟩:=h
 exact ⟨s',u,n,h1,h2.nrb hS hF,h3⟩
theorem NRatIs.nrb {v:Value} {q:Rat} (h:NRatIs w v q) (hS:∀ i,S i→NRB w i) (hF:Fr S w w'):NRatIs w' v q:=by
 obtain ⟨s,t,A,B,l,c,l',c',h1,h2,h3⟩:=h
 exact ⟨s,t,A,B,l,c,l',c',h1,h2.nrb hS hF,h3.nrb hS hF⟩
theorem NRB.ext {i:Nat} (h:NRB w i) (he:Ext w w'):NRB w' i:=by
 obtain ⟨t,cs,hB,hc⟩:=h
 exact ⟨t,cs,hB.ext he,hc⟩
theorem boxn {φ:World→Prop} (he:Ext w w') (h:∀ S w'',(∀ i,S i→NRB w' i)→Fr S w' w''→φ w''):BoxN w w' φ:=fun S hS w'' hf=>h S w'' (fun i hi=>(hS i hi).2.ext he) hf
end
abbrev ShI:=Bool × Option Addr × Nat × Nat
abbrev ShQ:=Bool × Option Addr × Nat × Nat × Bool × Option Addr × Nat × Nat
abbrev ShN:=Option Addr × Nat × Nat
def shInt (x:ShI):Value:=.agg #[.bool x.1, .slice x.2.1 x.2.2.1 x.2.2.2]
def shRat (x:ShQ):Value:=.agg #[.bool x.1, .slice x.2.1 x.2.2.1 x.2.2.2.1, .bool x.2.2.2.2.1, .slice x.2.2.2.2.2.1 x.2.2.2.2.2.2.1 x.2.2.2.2.2.2.2]
def shNat (x:ShN):Value:=.slice x.1 x.2.1 x.2.2
section
variable {w w':World} {e:Ending}
theorem post_Int {z:Int} (h:RetInt w z e w'):PostC shInt (fun x w=>IntIs w (shInt x) z) w e w':=by
 obtain ⟨v,rfl,hI,hE⟩:=h
 obtain ⟨s,A,l,c,rfl⟩:=hI.shp
 exact ⟨(s,A,l,c),rfl,hE,boxn hE (fun S w'' hS hF=>hI.nrb hS hF)⟩
theorem post_Num {z:Int} (h:RetNum w z e w'):PostC shInt (fun x w=>NumIs w (shInt x) z) w e w':=by
 obtain ⟨v,rfl,hI,hE⟩:=h
 obtain ⟨s,A,l,c,rfl⟩:=hI.shp
 exact ⟨(s,A,l,c),rfl,hE,boxn hE (fun S w'' hS hF=>hI.nrb hS hF)⟩
theorem post_Rat {q:Rat} (h:RetRat w q e w'):PostC shRat (fun x w=>RatIs w (shRat x) q) w e w':=by
 obtain ⟨v,rfl,hI,hE⟩:=h
 obtain ⟨s,A,l,c,t,B,m,d,rfl⟩:=hI.shp
 exact ⟨(s,A,l,c,t,B,m,d),rfl,hE,boxn hE (fun S w'' hS hF=>hI.nrb hS hF)⟩
theorem post_NRat {q:Rat} (h:RetNRat w q e w'):PostC shRat (fun x w=>NRatIs w (shRat x) q) w e w':=by
 obtain ⟨v,rfl,hI,hE⟩:=h
 obtain ⟨s,A,l,c,t,B,m,d,rfl⟩:=hI.shp
 exact ⟨(s,A,l,c,t,B,m,d),rfl,hE,boxn hE (fun S w'' hS hF=>hI.nrb hS hF)⟩
def RetInt2 (w:World) (x y:Int) (e:Ending) (w':World):Prop:=∃ u v,e=.returned (.tuple #[u,v])∧IntIs w' u x∧IntIs w' v y∧Ext w w'
def shInt2 (x:ShI × ShI):Value:=.tuple #[shInt x.1,shInt x.2]
theorem post_Int2 {a b:Int} (h:RetInt2 w a b e w'):PostC shInt2 (fun x w=>IntIs w (shInt x.1) a∧IntIs w (shInt x.2) b) w e w':=by
 obtain ⟨u,v,rfl,hI,hJ,hE⟩:=h
 obtain ⟨s,A,l,c,rfl⟩:=hI.shp
 obtain ⟨s',A',l',c',rfl⟩:=hJ.shp
 exact ⟨((s,A,l,c),(s',A',l',c')),rfl,hE,boxn hE (fun S w'' hS hF=>⟨hI.nrb hS hF,hJ.nrb hS hF⟩)⟩
theorem sign3 (x:Int):(x < 0∧x.sign = -1)∨(x=0∧x.sign=0)∨(0 < x∧x.sign=1):=by
 rcases Int.lt_trichotomy x 0 with h | h | h
 ·exact Or.inl ⟨h,Int.sign_eq_neg_one_of_neg h⟩
 ·exact Or.inr (Or.inl ⟨h,by rw [h]; rfl⟩)
 ·exact Or.inr (Or.inr ⟨h,Int.sign_eq_one_of_pos h⟩)
theorem post_val {v u:Value} (h:e=.returned v∧Ext w w') (hv:v=u):PostC (fun _:Unit=>u) (fun _ _=>True) w e w':=by
 obtain ⟨rfl,hE⟩:=h
 subst hv
 exact ⟨(),rfl,hE,BoxN.pure trivial⟩
end
end Go.Proofs.YtibipjlohahekaaGreatDoor

namespace Go.Proofs.YtibipjlohahekaaGreatDoor
open Go.RowKit
section
variable {N:Nat} {S0:Nat→Prop} {w0:World} {s s':St} {Φ Ψ Φ0:World→Prop} {L:Nat→Nat} {a:Act} {w:World} {P:Program} {ops:Array Oper} {Q:Exit→Act→World→Prop} {o:Oper}
theorem SameL.of {sl:SlL} {bl:BlL} (h:(sl.map (fun q=>s.sl q.1),bl.map (fun q=>s.bl q.1))=(sl.map (fun q=>some q.2),bl.map (fun q=>some q.2))):SameL s sl bl:=h
def Hands (N:Nat) (S0:Nat→Prop) (w0:World) (J:Nat→St→(World→Prop)→Prop) (n:Nat) (a:Act) (w:World):Prop:=∃ n' s' Φ' L',n' < n∧J n' s' Φ'∧Inv N S0 w0 s' Φ' L' a w
theorem sx_loop {c:Code} (J:Nat→St→(World→Prop)→Prop) (n0:Nat) (h0:J n0 s Φ)
 (round:∀ n s Φ,J n s Φ→SXc P N S0 w0 (Exit.then (Hands N S0 w0 J n) Q) c s Φ):SXc P N S0 w0 Q (.loop c) s Φ:=fun L a w hi=>by
 refine wp_loop_ghost (fun n a w=>∃ s Φ L,J n s Φ∧Inv N S0 w0 s Φ L a w) n0 ⟨s,Φ,L,h0,hi⟩ ?_
 rintro n a w ⟨s,Φ,L,hJ,hi⟩
 refine wp_mono (round n s Φ hJ L a w hi) ?_
 intro e a' w' hq
 cases e with
 | normal =>
   obtain ⟨n',s',Φ',L',h1,h2,h3⟩:=hq
   exact ⟨n',h1,s',Φ',L',h2,h3⟩
 | exit id=>exact hq
 | goto l=>exact hq
 | ret=>exact hq
 | panic ch=>exact hq
 | outgrown=>exact hq
theorem sx_round {J:Nat→St→(World→Prop)→Prop} {n:Nat} (n':Nat) (hlt:n' < n) (h:J n' s Φ):SXq N S0 w0 (Exit.then (Hands N S0 w0 J n) Q .normal) s Φ:=fun _ _ _ hi=>⟨n',s,Φ,_,hlt,h,hi⟩
theorem sx_cut {x y:Code} (J:St→(World→Prop)→Prop) (h1:SXc P N S0 w0 (Exit.then (fun a w=>∃ s' Φ' L',J s' Φ'∧Inv N S0 w0 s' Φ' L' a w) Q) x s Φ) (h2:∀ s Φ,J s Φ→SXc P N S0 w0 Q y s Φ):SXc P N S0 w0 Q (.seq x y) s Φ:=fun L a w hi=>by
 refine wp_seq (wp_mono (h1 L a w hi) ?_)
 intro e a' w' hq
 cases e with
 | normal =>
   obtain ⟨s',Φ',L',h2',h3⟩:=hq
   exact h2 s' Φ' h2' L' a' w' h3
 | exit id=>exact hq
 | goto l=>exact hq
 | ret=>exact hq
 | panic ch=>exact hq
 | outgrown=>exact hq
theorem sx_meet {J:St→(World→Prop)→Prop} (h:J s Φ):SXq N S0 w0 (Exit.then (fun a w=>∃ s' Φ' L',J s' Φ'∧Inv N S0 w0 s' Φ' L' a w) Q .normal) s Φ:=fun _ _ _ hi=>⟨s,Φ,_,h,hi⟩
end
end Go.Proofs.YtibipjlohahekaaGreatDoor

namespace Go.Proofs.YtibipjlohahekaaGreatDoor
open Go.RowKit
theorem str_self (x:ByteArray):(x.toList == x.toList)=true:=by simp
theorem int_self (x:Int):(x == x)=true:=by simp
theorem run_bslice {P:Program} {ρ:Operand→Value} {w:World} {t e:TypeId} {n sz:Nat} {z:Value} {parts:Array (Nat × Operand)} {cells:Array Value} (ht:P.underlying t=some (.slice e))
 (hinfo:(P.info? e).map (fun i=>(i.zero,i.size))=some (some z,sz)) (hn:Nat.ble (n * sz) 1000=true) (hn0:Nat.beq (n * sz) 0=false)
 (hf:Instr.fill (fun i=>some (i * sz,sz)) ((List.range (n * sz)).map (fun i=>z.cells[i % z.cells.size]!)).toArray (parts.toList.map fun q=>(q.1,ρ q.2))=some cells) :
 (Instr.buildSlice t n (parts.map fun q:Nat × Operand=>(q.1,ρ q.2))).run P w=.ok (.slice (some ⟨w.heap.size,0,none⟩) n n) (w.alloc (.cells cells e)):=by
 obtain ⟨i,hi,h1⟩:=Option.map_eq_some_iff.1 hinfo
 injection h1 with h1 h2
 have hn':=Nat.le_of_ble_eq_true hn
 have hn1:¬ n * sz=0:=fun h=>by rw [h] at hn0; cases hn0
 have hn2:¬ 2 ^ 24 < n * sz:=by omega
 have e1:(Array.range (n * sz)).map (fun i=>z.cells[i % z.cells.size]!)=((List.range (n * sz)).map (fun i=>z.cells[i % z.cells.size]!)).toArray:=by
  apply Array.ext'; simp
 have e2:(parts.map fun q:Nat × Operand=>(q.1,ρ q.2)).toList=parts.toList.map fun q=>(q.1,ρ q.2):=by simp
 unfold Instr.buildSlice
 simp [underlying,ht,sizeOf,typeInfo,hi,h2,zeroValue,h1,hn1,hn2,e1,hf,newRow,newObj,Result.andThen]
 rfl
theorem does_bslice {P:Program} {o:Oper} {ρ:Operand→Value} {w:World} {t e:TypeId} {n sz:Nat} {z:Value} {parts:Array (Nat × Operand)} {cells:Array Value} (ho:o.op=Op.buildSlice t n parts) (ht:P.underlying t=some (.slice e))
 (hinfo:(P.info? e).map (fun i=>(i.zero,i.size))=some (some z,sz)) (hn:Nat.ble (n * sz) 1000=true) (hn0:Nat.beq (n * sz) 0=false)
 (hf:Instr.fill (fun i=>some (i * sz,sz)) ((List.range (n * sz)).map (fun i=>z.cells[i % z.cells.size]!)).toArray (parts.toList.map fun q=>(q.1,ρ q.2))=some cells) :
 Does P o ρ w (DoR (fun b:Nat=>.slice (some ⟨b,0,none⟩) n n) (fun b w=>Blk e w b cells) w):=by
 have hrun:=run_bslice (w:=w) ht hinfo hn hn0 hf
 exact Or.inl ⟨_,_,by simp [execOp,ho,hrun,Result.andThen],w.heap.size,rfl,(Fr.refl _ w).alloc _,fun S hS w'' hF=>(Blk.new w e cells).fr hF (fun h=>by have:=(hS _ h).1; omega)⟩
theorem run_strslice {P:Program} {o:Oper} {ρ:Operand→Value} {w:World} {t:TypeId} {x:Operand} {lo hi:Option Operand} {b r:ByteArray} (l h:Nat) (ho:o.op=Op.slice t x lo hi none) (ht:P.underlying t=some .string) (hx:ρ x=.string b)
 (hl:lo.map ρ=none∧l=0∨lo.map ρ=some (.int .i64 l)) (hh:hi.map ρ=none∧h=b.size∨hi.map ρ=some (.int .i64 h)) (h1:l≤h) (h2:h≤b.size) (hr:b.extract l h=r):(execOp ρ o).run P w=.ok (.value (.string r)) w:=by
 subst hr
 rcases hl with ⟨hl,rfl⟩ | hl<;>rcases hh with ⟨hh,rfl⟩ | hh <;>
  simp [execOp,ho,Instr.sliceAt,Instr.slice,Instr.sliceBounds,Instr.sliceBound,asIntOf,underlying,ht,hx,hl,hh,h1,h2,Result.andThen]
theorem run_stradd {P:Program} {o:Oper} {ρ:Operand→Value} {w:World} {t k:TypeId} {x y:Operand} {a b r:ByteArray} (ho:o.op=Op.binOp .add t x y k) (hx:ρ x=.string a) (hy:ρ y=.string b) (hs:a.size + b.size≤1099511627776) (hr:a ++ b=r):(execOp ρ o).run P w=.ok (.value (.string r)) w:=by
 have h:¬ ((a.size + b.size:Nat):Int) > IntKind.i64.max:=by
  have:IntKind.i64.max=9223372036854775807:=by decide
  rw [this]; omega
 simp only [execOp,ho,hx,hy,eqGuard,binOp,Op.stringOp,if_neg h,hr]
 rfl
end Go.Proofs.YtibipjlohahekaaGreatDoor

namespace Go.Proofs.YtibipjlohahekaaGreatDoor
open Go.RowKit
theorem shift_bit (n k:Nat):n >>> k=2 * (n >>> (k + 1)) + (n >>> k) % 2:=by
 have:n >>> (k + 1)=(n >>> k) / 2:=by rw [Nat.shiftRight_succ]
 omega
theorem pow_shift {x n k:Nat}:x ^ (n >>> k)=(x ^ (n >>> (k + 1)) * x ^ (n >>> (k + 1))) * x ^ ((n >>> k) % 2):=by
 conv=>lhs; rw [shift_bit n k,Nat.pow_add,Nat.two_mul,Nat.pow_add]
theorem pow_step1 {x n m:Nat} (h:(n >>> m) % 2=1):x ^ (n >>> m)=(x ^ (n >>> (m + 1)) * x ^ (n >>> (m + 1))) * x:=by
 rw [pow_shift (k:=m),h,Nat.pow_one]
theorem pow_step0 {x n m:Nat} (h:¬ (n >>> m) % 2=1):x ^ (n >>> m)=(x ^ (n >>> (m + 1)) * x ^ (n >>> (m + 1))):=by
 rw [pow_shift (k:=m),show (n >>> m) % 2=0 by omega,Nat.pow_zero,Nat.mul_one]
theorem wl_pow {x n m:Nat} (h:m≤n) (hw:wl (x ^ n) < 40):wl (x ^ m) < 40:=by
 rcases Nat.eq_zero_or_pos x with rfl | hx
 ·rcases Nat.eq_zero_or_pos m with rfl | hm
  ·exact Nat.lt_of_le_of_lt (wl_one.2 (by rw [W64_eq]; decide)) (by decide)
  ·rw [Nat.zero_pow hm,wl_zero]; decide
 ·exact Nat.lt_of_le_of_lt (wl_mono (Nat.pow_le_pow_right hx h)) hw
theorem shr_le (n m:Nat):n >>> m≤n:=by rw [Nat.shiftRight_eq_div_pow]; exact Nat.div_le_self _ _
theorem pw_lt {x n m:Nat} (h40:wl (x ^ n) < 40):wl (x ^ (n >>> m)) < 40:=wl_pow (shr_le n m) h40
theorem pw_one {x n m:Nat} (h40:wl (x ^ n) < 40):wl (x ^ (n >>> m))≤4294967296:=Nat.le_trans (Nat.le_of_lt (pw_lt h40)) (by decide)
theorem pw_le {x n m:Nat} (h40:wl (x ^ n) < 40):wl (x ^ (n >>> m) * x ^ (n >>> m))≤4294967296:=by
 have h1:=wl_mul (x ^ (n >>> m)) (x ^ (n >>> m))
 have h2:=pw_lt (m:=m) h40
 omega
theorem pw_wrap {k:Nat} (hk:k≤64):IntKind.i64.wrap ((k:Int) - 1)=(k:Int) - 1:=by rw [IntKind.wrap_i64]; omega
theorem pw_conv {m:Nat} (h:m + 1≤64):IntKind.u64.wrap (((m + 1:Nat):Int) - 1)=(m:Int):=by rw [IntKind.wrap_u64]; omega
theorem pw_dec {m:Nat} (h:m + 1≤64):IntKind.i64.wrap (((m + 1:Nat):Int) - 1 - 1)=(m:Int) - 1:=by rw [IntKind.wrap_i64]; omega
theorem pw_bit1 {b:Nat} (h:b=1):(((b:Nat):Int) == 1)=true:=by subst h; rfl
theorem pw_bit0 {b:Nat} (h:¬ b=1):(((b:Nat):Int) == 1)=false:=by simp; omega
theorem pow_sg {x:Int} {n:Nat} (h0:0≤x):sg false (x.natAbs ^ n)=x ^ n:=by
 obtain ⟨k,rfl⟩:=Int.eq_ofNat_of_zero_le h0
 show ((k ^ n:Nat):Int)=_
 rw [Int.natCast_pow]
theorem int_pos {w:World} {a:Value} {x:Int} (ha:IntIs w a x) (h0:0≤x):∃ A l c,a=.agg #[.bool false, .slice A l c]:=by
 obtain ⟨s,A,l,c,rfl,hN,hz,h⟩:=ha.open
 cases s with
 | false=>exact ⟨A,l,c,rfl⟩
 | true =>
   exfalso
   unfold sg at hz
   simp at hz h
   omega
theorem bitLenAux_spec:∀ (f x:Nat),x < 2 ^ f→x >>> Lib.bitLenAux f x=0∧Lib.bitLenAux f x≤f
 | 0,x,h=>by
   have:x=0:=by simp at h; omega
   subst this; simp [Lib.bitLenAux]
 | f + 1,x,h=>by
   unfold Lib.bitLenAux
   by_cases h0:x=0
   ·subst h0; simp
   ·rw [if_neg h0]
    obtain ⟨h1,h2⟩:=bitLenAux_spec f (x / 2) (by rw [Nat.pow_succ] at h; omega)
    refine ⟨?_,by omega⟩
    rw [Nat.shiftRight_add,Nat.shiftRight_succ,Nat.shiftRight_zero]
    exact h1
theorem bitlen_nat {n:Nat} (hn:n < 18446744073709551616):∃ k:Nat,Lib.bitLen n=k∧k≤64∧n >>> k=0:=by
 obtain ⟨h1,h2⟩:=bitLenAux_spec 64 n (by omega)
 exact ⟨_,rfl,h2,h1⟩
theorem len_ret {n k:Nat} {w:World} (hk:Lib.bitLen n=k) (hn:n < 18446744073709551616):Calls Tryz.prog 153 #[.int .u64 (n:Int)] w (RetV w (.int .i64 (k:Int))):=by
 refine (Tryz.bits_Len (n:Int) w (by omega) (by omega)).mono ?_
 rintro e w' ⟨rfl,rfl⟩
 exact ⟨by rw [Int.toNat_natCast,hk],Fr.refl _ _⟩
theorem does_one64 {P:Program} {o:Oper} {ρ:Operand→Value} {w:World} {t:TypeId} (ho:o.op=Op.buildSlice t 1 #[(0, .const (.int .u64 1))]) (ht:P.underlying t=some (.slice 113))
 (hinfo:(P.info? 113).map (fun i=>(i.zero,i.size))=some (some (.int .u64 0),1)) (hc:ρ (.const (.int .u64 1))=.int .u64 1):Does P o ρ w (DoR shNat (fun x w=>NatIs w (shNat x) 1) w):=by
 have hrun:=run_bslice (n:=1) (P:=P) (ρ:=ρ) (w:=w) (z:=.int .u64 0) (cells:=#[.int .u64 ((1:Nat):Int)]) (parts:=#[(0, .const (.int .u64 1))]) ht hinfo (by decide) (by decide) (by
  show Instr.fill _ _ [(0,ρ (.const (.int .u64 1)))]=_
  rw [hc]; rfl)
 have hE:Ext w (w.alloc (.cells #[.int .u64 ((1:Nat):Int)] 113)):=(Fr.refl _ w).alloc _
 have H:(execOp ρ o).run P w=.ok (.value (.slice (some ⟨w.heap.size,0,none⟩) 1 1)) (w.alloc (.cells #[.int .u64 ((1:Nat):Int)] 113)):=by
  revert hrun
  generalize (#[(0,Operand.const (Value.int .u64 1))]:Array (Nat × Operand))=parts at ho ⊢
  intro hrun
  simp only [execOp,ho,Sem.run_bind,hrun,Result.andThen_ok,Sem.run_pure]
 refine Or.inl ⟨_,_,H,(some ⟨w.heap.size,0,none⟩,1,1),rfl,hE,boxn hE (fun S w'' hS hF=>?_)⟩
 exact (NatIs.one w (x:=1) (by omega) (by rw [W64_eq]; decide)).nrb hS hF
theorem shr_fdiv (a b:Nat) (hb:b < 64):(a:Int).fdiv (2 ^ (min (b:Int).toNat 64))=((a >>> b:Nat):Int):=by
 rw [Int.toNat_natCast,Nat.min_eq_left (by omega),Int.fdiv_eq_ediv_of_nonneg _ (by exact Int.le_of_lt (Int.pow_pos (by omega))),Nat.shiftRight_eq_div_pow,Int.natCast_ediv,Int.natCast_pow]; rfl
theorem and_one64 (a:Nat):IntKind.u64.wrap (((BitVec.ofInt 64 (a:Int) &&& BitVec.ofInt 64 1).toNat:Nat):Int)=((a % 2:Nat):Int):=by
 rw [IntKind.wrap_u64]
 have e:(BitVec.ofInt 64 (a:Int) &&& BitVec.ofInt 64 1).toNat=a % 2:=by
  rw [BitVec.toNat_and,BitVec.ofInt_natCast,BitVec.toNat_ofNat,show (BitVec.ofInt 64 1).toNat=2 ^ 1 - 1 from rfl,Nat.and_two_pow_sub_one_eq_mod]
  omega
 rw [e]; omega
theorem run_shr64 {P:Program} {o:Oper} {ρ:Operand→Value} {w:World} {t k:TypeId} {x y:Operand} {a b:Nat} (hb:b < 64) (ho:o.op=Op.binOp .shr t x y k) (hx:ρ x=.int .u64 (a:Int)) (hy:ρ y=.int .u64 (b:Int)):(execOp ρ o).run P w=.ok (.value (.int .u64 ((a >>> b:Nat):Int))) w:=by
 have h:=shr_fdiv a b hb
 have hn:¬ (b:Int) < 0:=by omega
 simp only [execOp,ho,hx,hy,eqGuard,binOp,Op.shift,IntKind.bits,if_neg hn,h]
 rfl
theorem run_and64 {P:Program} {o:Oper} {ρ:Operand→Value} {w:World} {t k:TypeId} {x:Operand} {a:Nat} (ho:o.op=Op.binOp .and t x (.const (.int .u64 1)) k) (hx:ρ x=.int .u64 (a:Int)) (hc:ρ (.const (.int .u64 1))=.int .u64 1):(execOp ρ o).run P w=.ok (.value (.int .u64 ((a % 2:Nat):Int))) w:=by
 have h:=and_one64 a
 simp only [execOp,ho,hx,hc,eqGuard,binOp,Op.intBits,IntKind.bits,ne_eq,not_true,if_false]
 refine Eq.trans (b:=Result.ok (Next.value (.int .u64 (IntKind.u64.wrap (((BitVec.ofInt 64 (a:Int) &&& BitVec.ofInt 64 1).toNat:Nat):Int)))) w) rfl ?_
 rw [h]
theorem post_Nat {w w':World} {e:Ending} {n:Nat} (h:RetNat w n e w'):PostC shNat (fun x w=>NatIs w (shNat x) n) w e w':=by
 obtain ⟨v,rfl,h2,hE⟩:=h
 obtain ⟨A,l,c,rfl⟩:=h2.slice
 exact ⟨(A,l,c),rfl,hE,boxn hE (fun S w'' hS hF=>h2.nrb hS hF)⟩
theorem IntIs.mag {w:World} {s:Bool} {A:Option Addr} {l c:Nat} {z:Int} (h:IntIs w (.agg #[.bool s, .slice A l c]) z):NatIs w (.slice A l c) z.natAbs:=by
 obtain ⟨s',u,n,e,hN,_,hz⟩:=h
 injection e with e
 have e1:=congrArg Array.toList e
 injection e1 with e2 e3
 injection e3 with e3 _
 subst e3
 have:z.natAbs=n:=by rw [hz]; split<;>omega
 rw [this]; exact hN
theorem signed_ret (neg:Bool) (u:Value) (n:Nat) (w:World) (hu:NatIs w u n):Calls Tryz.prog 113 #[.bool neg,u] w (RetInt w (sg neg n)):=by
 refine (signed_any neg u n w hu).mono ?_
 rintro e w' ⟨s,rfl,hs,hE⟩
 exact ⟨_,rfl,IntIs.signed (hu.ext hE) hs,hE⟩
theorem neg_pow_nat (k n:Nat):(-(k:Int)) ^ n=if n % 2=1 then -((k ^ n:Nat):Int) else ((k ^ n:Nat):Int):=by
 induction n with
 | zero=>simp
 | succ n ih =>
   rw [Int.pow_succ,ih]
   rcases Nat.mod_two_eq_zero_or_one n with h | h
   ·rw [if_neg (by omega),if_pos (by omega),Nat.pow_succ,Int.natCast_mul,Int.mul_neg]
   ·rw [if_pos h,if_neg (by omega),Nat.pow_succ,Int.natCast_mul,Int.neg_mul_neg]
theorem neg_abs {x:Int} (h0:x < 0):x = -(x.natAbs:Int):=by omega
theorem pow_odd_sg {x:Int} {n:Nat} (h0:x < 0) (h:n % 2=1):sg true (x.natAbs ^ n)=x ^ n:=by
 conv=>rhs; rw [neg_abs h0,neg_pow_nat,if_pos h]
 rfl
theorem pow_even_sg {x:Int} {n:Nat} (h0:x < 0) (h:¬ n % 2=1):sg false (x.natAbs ^ n)=x ^ n:=by
 conv=>rhs; rw [neg_abs h0,neg_pow_nat,if_neg h]
 rfl
theorem int_neg {w:World} {a:Value} {x:Int} (ha:IntIs w a x) (h0:x < 0):∃ A l c,a=.agg #[.bool true, .slice A l c]:=by
 obtain ⟨s,A,l,c,rfl,hN,hz,h⟩:=ha.open
 cases s with
 | true=>exact ⟨A,l,c,rfl⟩
 | false =>
   exfalso
   unfold sg at hz
   simp at hz
   omega
set_option maxRecDepth 100000 in
theorem powerWords_any (a:Value) (x n:Nat) (w:World) (ha:NatIs w a x) (hn:n < 18446744073709551616) (h40:wl (x ^ n) < 40) (hx:wl x < 40) :
 Calls Tryz.prog 114 #[a, .int .u64 (n:Int)] w (RetNat w (x ^ n)):=by
 obtain ⟨A0,l0,c0,rfl⟩:=ha.slice
 obtain ⟨k,hk,hk64,hk1⟩:=bitlen_nat hn
 have hk0:x ^ (n >>> k)=1:=by rw [hk1,Nat.pow_zero]
 refine sx_enter (Φ:=fun w=>NatIs w (.slice A0 l0 c0) (x)) Tryz.func114 rfl (by kernel_rfl) (fun w' hf=>ha.ext hf) ?_
 refine sx_seq (sx_region (xr 1 [eS1 0 A0 l0 c0,(1, .v (.int .u64 (n:Int))),eS1 4 none 0 0] [] ?_))
 refine xe (sx_next (sx_seq (sx_region ?_)))
 refine sx_does (d:=7) shNat (fun x w=>NatIs w (shNat x) 1) (by kernel_rfl) (by kernel_rfl) (by kernel_rfl) (by kernel_rfl) (by kernel_rfl) (by kernel_rfl) (fun w hE hΦ=>does_one64 (t:=61) (by kernel_rfl) (by kernel_rfl) (by kernel_rfl) (by kernel_rfl)) (fun xx=>?_)
 obtain ⟨A10,l10,c10⟩:=xx
 refine xr 1 [eS1 0 A0 l0 c0,(1, .v (.int .u64 (n:Int))),eS1 4 none 0 0,eS1 5 A10 l10 c10] [] ?_
 refine xe (sx_next (sx_seq (sx_seq (sx_region (xr 1 [eS1 0 A0 l0 c0,(1, .v (.int .u64 (n:Int))),eS1 4 none 0 0,eS1 5 A10 l10 c10,(8, .v (.int .u64 (n:Int)))] [] ?_)))))
 refine xc 153 [.int .u64 (n:Int)] 9 (fun _:Unit=>.int .i64 (k:Int)) _ (fun w hE hΦ=>(len_ret hk hn).mono (fun _ _ h=>post_val h rfl)) (fun xx=>?_)
 refine xr 1 [eS1 0 A0 l0 c0,(1, .v (.int .u64 (n:Int))),eS1 4 none 0 0,eS1 5 A10 l10 c10,(10, .v (.int .i64 (IntKind.i64.wrap ((k:Int) - 1))))] [] ?_
 rw [pw_wrap hk64]
 refine xr 1 [eS1 0 A0 l0 c0,(1, .v (.int .u64 (n:Int))),eS1 4 none 0 0,eS1 5 A10 l10 c10,(6, .v (.int .i64 ((k:Int) - 1)))] [] ?_
 refine xe (sx_next (sx_block ?_))
 refine SXc.weak [(0, .v (.slice A0 l0 c0)),(1, .v (.int .u64 (n:Int))),(5, .v (.slice A10 l10 c10)),(6, .v (.int .i64 (((k:Nat):Int) - 1)))] [] (Ψ:=fun w=>(NatIs w (.slice A0 l0 c0) (x)∧NatIs w (.slice A10 l10 c10) (x ^ (n >>> k)))) (SameL.of (by kernel_rfl)) (by kernel_rfl) (fun w hΦ=>⟨hΦ.1.1,(by have h:=hΦ.1.2; rw [← hk0] at h; exact h)⟩) ?_
 refine sx_loop (fun nn ss ff=>∃ (gA:Option Addr) (gl gc j:Nat),ss=ofL [(0, .v (.slice A0 l0 c0)),(1, .v (.int .u64 (n:Int))),(5, .v (.slice gA gl gc)),(6, .v (.int .i64 (((j:Nat):Int) - 1)))] []∧ff=(fun w=>(NatIs w (.slice A0 l0 c0) (x)∧NatIs w (.slice gA gl gc) (x ^ (n >>> j))))∧(j≤64)∧nn=(1 + j)) ((1 + k)) ⟨A10,l10,c10,k,rfl,rfl,hk64,rfl⟩ ?_
 rintro nn ss ff ⟨gA,gl,gc,j,rfl,rfl,hj,rfl⟩
 refine sx_seq (sx_seq (sx_region (xr 2 [eS1 0 A0 l0 c0,(1, .v (.int .u64 (n:Int))),eS1 5 gA gl gc,(6, .v (.int .i64 (((j:Nat):Int) - 1))),(12, .v (.bool (decide ((((j:Nat):Int) - 1) ≥ 0))))] [] ?_)))
 refine xe (sx_next ?_)
 refine sx_cond ((decide ((((j:Nat):Int) - 1) ≥ 0))) (by kernel_rfl) (fun hb11=>?_) (fun hb11=>?_)
 ·obtain ⟨m,rfl⟩:∃ m,j=m + 1:=⟨j - 1,by have:=of_decide_eq_true hb11; omega⟩
  refine sx_skip (sx_next (sx_seq (sx_block (sx_seq (sx_region (xr 2 [eS1 0 A0 l0 c0,(1, .v (.int .u64 (n:Int))),eS1 5 gA gl gc,(6, .v (.int .i64 ((((m + 1):Nat):Int) - 1))),eS1 15 gA gl gc,eS1 16 gA gl gc] [] ?_))))))
  refine xc 136 [.slice gA gl gc, .slice gA gl gc] 17 shNat _ (fun w hE hΦ=>(multiplyWords_any _ _ (x ^ (n >>> (m + 1))) (x ^ (n >>> (m + 1))) _ hΦ.2 hΦ.2 (pw_one h40) (pw_one h40) (Or.inl (pw_lt h40))).mono (fun _ _ h=>post_Nat h)) (fun xx=>?_)
  obtain ⟨A12,l12,c12⟩:=xx
  refine xr 1 [eS1 0 A0 l0 c0,(1, .v (.int .u64 (n:Int))),eS1 5 A12 l12 c12,(6, .v (.int .i64 ((((m + 1):Nat):Int) - 1)))] [] ?_
  refine xe (sx_next (sx_seq ?_))
  by_cases hb:(n >>> m) % 2=1
  ·refine sx_region (xr 3 [eS1 0 A0 l0 c0,(1, .v (.int .u64 (n:Int))),eS1 5 A12 l12 c12,(6, .v (.int .i64 ((((m + 1):Nat):Int) - 1))),(18, .v (.int .u64 (n:Int))),(20, .v (.int .u64 (IntKind.u64.wrap (((((m + 1):Nat):Int) - 1)))))] [] ?_)
   rw [pw_conv hj]
   refine sx_look 21 (.int .u64 ((n >>> m:Nat):Int)) (by kernel_rfl) (by kernel_rfl) (by kernel_rfl) (by kernel_rfl) (by kernel_rfl) (by kernel_rfl) (fun w hE hΦ=>run_shr64 (a:=n) (b:=m) (t:=67) (k:=67) (x:=.tmp 18) (y:=.tmp 20) (by omega) (by kernel_rfl) (by kernel_rfl) (by kernel_rfl)) ?_
   refine xr 0 [eS1 0 A0 l0 c0,(1, .v (.int .u64 (n:Int))),eS1 5 A12 l12 c12,(6, .v (.int .i64 ((((m + 1):Nat):Int) - 1))),(21, .v (.int .u64 ((n >>> m:Nat):Int)))] [] ?_
   refine sx_look 22 (.int .u64 (((n >>> m) % 2:Nat):Int)) (by kernel_rfl) (by kernel_rfl) (by kernel_rfl) (by kernel_rfl) (by kernel_rfl) (by kernel_rfl) (fun w hE hΦ=>run_and64 (a:=n >>> m) (t:=67) (k:=67) (x:=.tmp 21) (by kernel_rfl) (by kernel_rfl) (by kernel_rfl)) ?_
   refine xr 1 [eS1 0 A0 l0 c0,(1, .v (.int .u64 (n:Int))),eS1 5 A12 l12 c12,(6, .v (.int .i64 ((((m + 1):Nat):Int) - 1))),(23, .v (.bool (((((n >>> m) % 2:Nat):Int):Int) == 1)))] [] ?_
   rw [pw_bit1 hb]
   refine xr 0 [eS1 0 A0 l0 c0,(1, .v (.int .u64 (n:Int))),eS1 5 A12 l12 c12,(6, .v (.int .i64 ((((m + 1):Nat):Int) - 1))),(23, .v (.bool true))] [] ?_
   refine xe (sx_next (xa (sx_region (xr 2 [eS1 0 A0 l0 c0,(1, .v (.int .u64 (n:Int))),eS1 5 A12 l12 c12,(6, .v (.int .i64 ((((m + 1):Nat):Int) - 1))),eS1 24 A12 l12 c12,eS1 25 A0 l0 c0] [] ?_))))
   refine xc 136 [.slice A12 l12 c12, .slice A0 l0 c0] 26 shNat _ (fun w hE hΦ=>(multiplyWords_any _ _ ((x ^ (n >>> (m + 1)) * x ^ (n >>> (m + 1)))) (x) _ hΦ.2 hΦ.1.1 (pw_le h40) (Nat.le_trans (Nat.le_of_lt hx) (by decide)) (Or.inr hx)).mono (fun _ _ h=>post_Nat h)) (fun xx=>?_)
   obtain ⟨A13,l13,c13⟩:=xx
   refine xr 1 [eS1 0 A0 l0 c0,(1, .v (.int .u64 (n:Int))),eS1 5 A13 l13 c13,(6, .v (.int .i64 ((((m + 1):Nat):Int) - 1)))] [] ?_
   refine xe (sx_out (sx_next (sx_region (xr 2 [eS1 0 A0 l0 c0,(1, .v (.int .u64 (n:Int))),eS1 5 A13 l13 c13,(6, .v (.int .i64 ((((m + 1):Nat):Int) - 1))),(14, .v (.int .i64 (IntKind.i64.wrap (((((m + 1):Nat):Int) - 1) - 1))))] [] ?_))))
   rw [pw_dec hj]
   refine xr 1 [eS1 0 A0 l0 c0,(1, .v (.int .u64 (n:Int))),eS1 5 A13 l13 c13,(6, .v (.int .i64 ((m:Int) - 1)))] [] ?_
   refine xe ?_
   refine SXq.weak [(0, .v (.slice A0 l0 c0)),(1, .v (.int .u64 (n:Int))),(5, .v (.slice A13 l13 c13)),(6, .v (.int .i64 (((m:Nat):Int) - 1)))] [] (Ψ:=fun w=>(NatIs w (.slice A0 l0 c0) (x)∧NatIs w (.slice A13 l13 c13) (x ^ (n >>> m)))) (SameL.of (by kernel_rfl)) (by kernel_rfl) (fun w hΦ=>⟨hΦ.1.1.1,(by have h:=hΦ.2; rw [← pow_step1 hb] at h; exact h)⟩) ?_
   exact sx_round ((1 + m)) (by omega) ⟨A13,l13,c13,m,rfl,rfl,(by omega),rfl⟩
  ·refine sx_region (xr 3 [eS1 0 A0 l0 c0,(1, .v (.int .u64 (n:Int))),eS1 5 A12 l12 c12,(6, .v (.int .i64 ((((m + 1):Nat):Int) - 1))),(18, .v (.int .u64 (n:Int))),(20, .v (.int .u64 (IntKind.u64.wrap (((((m + 1):Nat):Int) - 1)))))] [] ?_)
   rw [pw_conv hj]
   refine sx_look 21 (.int .u64 ((n >>> m:Nat):Int)) (by kernel_rfl) (by kernel_rfl) (by kernel_rfl) (by kernel_rfl) (by kernel_rfl) (by kernel_rfl) (fun w hE hΦ=>run_shr64 (a:=n) (b:=m) (t:=67) (k:=67) (x:=.tmp 18) (y:=.tmp 20) (by omega) (by kernel_rfl) (by kernel_rfl) (by kernel_rfl)) ?_
   refine xr 0 [eS1 0 A0 l0 c0,(1, .v (.int .u64 (n:Int))),eS1 5 A12 l12 c12,(6, .v (.int .i64 ((((m + 1):Nat):Int) - 1))),(21, .v (.int .u64 ((n >>> m:Nat):Int)))] [] ?_
   refine sx_look 22 (.int .u64 (((n >>> m) % 2:Nat):Int)) (by kernel_rfl) (by kernel_rfl) (by kernel_rfl) (by kernel_rfl) (by kernel_rfl) (by kernel_rfl) (fun w hE hΦ=>run_and64 (a:=n >>> m) (t:=67) (k:=67) (x:=.tmp 21) (by kernel_rfl) (by kernel_rfl) (by kernel_rfl)) ?_
   refine xr 1 [eS1 0 A0 l0 c0,(1, .v (.int .u64 (n:Int))),eS1 5 A12 l12 c12,(6, .v (.int .i64 ((((m + 1):Nat):Int) - 1))),(23, .v (.bool (((((n >>> m) % 2:Nat):Int):Int) == 1)))] [] ?_
   rw [pw_bit0 hb]
   refine xr 0 [eS1 0 A0 l0 c0,(1, .v (.int .u64 (n:Int))),eS1 5 A12 l12 c12,(6, .v (.int .i64 ((((m + 1):Nat):Int) - 1))),(23, .v (.bool false))] [] ?_
   refine xe (sx_next (xb (sx_skip (sx_out (sx_next (sx_region (xr 2 [eS1 0 A0 l0 c0,(1, .v (.int .u64 (n:Int))),eS1 5 A12 l12 c12,(6, .v (.int .i64 ((((m + 1):Nat):Int) - 1))),(14, .v (.int .i64 (IntKind.i64.wrap (((((m + 1):Nat):Int) - 1) - 1))))] [] ?_)))))))
   rw [pw_dec hj]
   refine xr 1 [eS1 0 A0 l0 c0,(1, .v (.int .u64 (n:Int))),eS1 5 A12 l12 c12,(6, .v (.int .i64 ((m:Int) - 1)))] [] ?_
   refine xe ?_
   refine SXq.weak [(0, .v (.slice A0 l0 c0)),(1, .v (.int .u64 (n:Int))),(5, .v (.slice A12 l12 c12)),(6, .v (.int .i64 (((m:Nat):Int) - 1)))] [] (Ψ:=fun w=>(NatIs w (.slice A0 l0 c0) (x)∧NatIs w (.slice A12 l12 c12) (x ^ (n >>> m)))) (SameL.of (by kernel_rfl)) (by kernel_rfl) (fun w hΦ=>⟨hΦ.1.1,(by have h:=hΦ.2; rw [← pow_step0 hb] at h; exact h)⟩) ?_
   exact sx_round ((1 + m)) (by omega) ⟨A12,l12,c12,m,rfl,rfl,(by omega),rfl⟩
 ·obtain rfl:j=0:=by have:=of_decide_eq_false hb11; omega
  refine sx_exit (sx_then_exit (sx_then_exit (sx_hit (sx_next (sx_seq (sx_region (xr 2 [eS1 4 gA gl gc] [] ?_)))))))
  refine xe (sx_next (sx_ret ?_))
  refine sx_done (v:=.slice gA gl gc) (by kernel_rfl) (fun w' hE hΦ=>?_)
  exact ⟨_,rfl,hΦ.2,hE⟩
set_option maxRecDepth 100000 in
theorem Pow_pos0 (a:Value) (x:Int) (n:Nat) (w:World) (ha:IntIs w a x) (h0:0≤x) (hn:n < 18446744073709551616) (h40:wl (x.natAbs ^ n) < 40) (hx:wl x.natAbs < 40) :
 Calls Tryz.prog 59 #[a, .int .u64 (n:Int)] w (RetInt w (x ^ n)):=by
 obtain ⟨A0,l0,c0,rfl⟩:=int_pos ha h0
 refine sx_enter (Φ:=fun w=>IntIs w (.agg #[.bool false, .slice A0 l0 c0]) (x)) Tryz.func59 rfl (by kernel_rfl) (fun w' hf=>ha.ext hf) ?_
 refine sx_seq (sx_region (xr 2 [(1, .v (.int .u64 (n:Int))),(2, .p 2 0),(4, .p 4 0)] [bI2 4 63 false none 0 0,bI2 2 63 false A0 l0 c0] ?_))
 refine xe (sx_next (sx_seq (sx_region (xr 10 [(4, .p 4 0),(11, .v (.bool false)),eS1 13 A0 l0 c0,(14, .v (.int .u64 (n:Int)))] [bI2 4 63 false none 0 0] ?_))))
 refine xc 114 [.slice A0 l0 c0, .int .u64 (n:Int)] 15 shNat _ (fun w hE hΦ=>(powerWords_any _ x.natAbs n _ hΦ.mag hn h40 hx).mono (fun _ _ h=>post_Nat h)) (fun xx=>?_)
 obtain ⟨A10,l10,c10⟩:=xx
 refine xr 0 [(4, .p 4 0),(11, .v (.bool false)),eS1 15 A10 l10 c10] [bI2 4 63 false none 0 0] ?_
 refine xc 113 [.bool false, .slice A10 l10 c10] 16 shInt _ (fun w hE hΦ=>(signed_ret false _ (x.natAbs ^ n) _ hΦ.2).mono (fun _ _ h=>post_Int (by rw [show sg false (x.natAbs ^ n)=x ^ n from pow_sg h0] at h; exact h))) (fun xx=>?_)
 obtain ⟨s11,A11,l11,c11⟩:=xx
 refine xr 1 [(4, .p 4 0)] [bI2 4 63 s11 A11 l11 c11] ?_
 refine xe (sx_next (sx_ret ?_))
 refine sx_done (v:=.agg #[.bool s11, .slice A11 l11 c11]) (by kernel_rfl) (fun w' hE hΦ=>?_)
 exact ⟨_,rfl,hΦ.2,hE⟩
set_option maxRecDepth 100000 in
theorem Pow_neg0 (a:Value) (x:Int) (n:Nat) (w:World) (ha:IntIs w a x) (h0:x < 0) (hn:n < 18446744073709551616) (h40:wl (x.natAbs ^ n) < 40) (hx:wl x.natAbs < 40) :
 Calls Tryz.prog 59 #[a, .int .u64 (n:Int)] w (RetInt w (x ^ n)):=by
 obtain ⟨A0,l0,c0,rfl⟩:=int_neg ha h0
 refine sx_enter (Φ:=fun w=>IntIs w (.agg #[.bool true, .slice A0 l0 c0]) (x)) Tryz.func59 rfl (by kernel_rfl) (fun w' hf=>ha.ext hf) ?_
 refine sx_seq (sx_region (xr 2 [(1, .v (.int .u64 (n:Int))),(2, .p 2 0),(4, .p 4 0)] [bI2 4 63 false none 0 0,bI2 2 63 true A0 l0 c0] ?_))
 refine xe (sx_next (sx_seq ?_))
 by_cases hb:n % 2=1
 ·refine sx_region (xr 4 [(1, .v (.int .u64 (n:Int))),(2, .p 2 0),(4, .p 4 0),(7, .v (.bool true)),(8, .v (.int .u64 (n:Int)))] [bI2 4 63 false none 0 0,bI2 2 63 true A0 l0 c0] ?_)
  refine sx_look 9 (.int .u64 ((n % 2:Nat):Int)) (by kernel_rfl) (by kernel_rfl) (by kernel_rfl) (by kernel_rfl) (by kernel_rfl) (by kernel_rfl) (fun w hE hΦ=>run_and64 (a:=n) (t:=67) (k:=67) (x:=.tmp 8) (by kernel_rfl) (by kernel_rfl) (by kernel_rfl)) ?_
  refine xr 1 [(1, .v (.int .u64 (n:Int))),(2, .p 2 0),(4, .p 4 0),(7, .v (.bool true)),(10, .v (.bool ((((n % 2:Nat):Int):Int) == 1)))] [bI2 4 63 false none 0 0,bI2 2 63 true A0 l0 c0] ?_
  rw [pw_bit1 hb]
  refine xr 4 [(4, .p 4 0),(11, .v (.bool true)),eS1 13 A0 l0 c0,(14, .v (.int .u64 (n:Int)))] [bI2 4 63 false none 0 0] ?_
  refine xc 114 [.slice A0 l0 c0, .int .u64 (n:Int)] 15 shNat _ (fun w hE hΦ=>(powerWords_any _ x.natAbs n _ hΦ.mag hn h40 hx).mono (fun _ _ h=>post_Nat h)) (fun xx=>?_)
  obtain ⟨A10,l10,c10⟩:=xx
  refine xr 0 [(4, .p 4 0),(11, .v (.bool true)),eS1 15 A10 l10 c10] [bI2 4 63 false none 0 0] ?_
  refine xc 113 [.bool true, .slice A10 l10 c10] 16 shInt _ (fun w hE hΦ=>(signed_ret true _ (x.natAbs ^ n) _ hΦ.2).mono (fun _ _ h=>post_Int (by rw [show sg true (x.natAbs ^ n)=x ^ n from pow_odd_sg h0 hb] at h; exact h))) (fun xx=>?_)
  obtain ⟨s11,A11,l11,c11⟩:=xx
  refine xr 1 [(4, .p 4 0)] [bI2 4 63 s11 A11 l11 c11] ?_
  refine xe (sx_next (sx_ret ?_))
  refine sx_done (v:=.agg #[.bool s11, .slice A11 l11 c11]) (by kernel_rfl) (fun w' hE hΦ=>?_)
  exact ⟨_,rfl,hΦ.2,hE⟩
 ·refine sx_region (xr 4 [(1, .v (.int .u64 (n:Int))),(2, .p 2 0),(4, .p 4 0),(7, .v (.bool true)),(8, .v (.int .u64 (n:Int)))] [bI2 4 63 false none 0 0,bI2 2 63 true A0 l0 c0] ?_)
  refine sx_look 9 (.int .u64 ((n % 2:Nat):Int)) (by kernel_rfl) (by kernel_rfl) (by kernel_rfl) (by kernel_rfl) (by kernel_rfl) (by kernel_rfl) (fun w hE hΦ=>run_and64 (a:=n) (t:=67) (k:=67) (x:=.tmp 8) (by kernel_rfl) (by kernel_rfl) (by kernel_rfl)) ?_
  refine xr 1 [(1, .v (.int .u64 (n:Int))),(2, .p 2 0),(4, .p 4 0),(7, .v (.bool true)),(10, .v (.bool ((((n % 2:Nat):Int):Int) == 1)))] [bI2 4 63 false none 0 0,bI2 2 63 true A0 l0 c0] ?_
  rw [pw_bit0 hb]
  refine xr 4 [(4, .p 4 0),(11, .v (.bool false)),eS1 13 A0 l0 c0,(14, .v (.int .u64 (n:Int)))] [bI2 4 63 false none 0 0] ?_
  refine xc 114 [.slice A0 l0 c0, .int .u64 (n:Int)] 15 shNat _ (fun w hE hΦ=>(powerWords_any _ x.natAbs n _ hΦ.mag hn h40 hx).mono (fun _ _ h=>post_Nat h)) (fun xx=>?_)
  obtain ⟨A12,l12,c12⟩:=xx
  refine xr 0 [(4, .p 4 0),(11, .v (.bool false)),eS1 15 A12 l12 c12] [bI2 4 63 false none 0 0] ?_
  refine xc 113 [.bool false, .slice A12 l12 c12] 16 shInt _ (fun w hE hΦ=>(signed_ret false _ (x.natAbs ^ n) _ hΦ.2).mono (fun _ _ h=>post_Int (by rw [show sg false (x.natAbs ^ n)=x ^ n from pow_even_sg h0 hb] at h; exact h))) (fun xx=>?_)
  obtain ⟨s13,A13,l13,c13⟩:=xx
  refine xr 1 [(4, .p 4 0)] [bI2 4 63 s13 A13 l13 c13] ?_
  refine xe (sx_next (sx_ret ?_))
  refine sx_done (v:=.agg #[.bool s13, .slice A13 l13 c13]) (by kernel_rfl) (fun w' hE hΦ=>?_)
  exact ⟨_,rfl,hΦ.2,hE⟩
theorem Pow_any (a:Value) (x:Int) (n:Nat) (w:World) (ha:IntIs w a x) (hn:n < 18446744073709551616) (h40:wl (x.natAbs ^ n) < 40) (hx:wl x.natAbs < 40):Calls Tryz.prog 59 #[a, .int .u64 (n:Int)] w (RetInt w (x ^ n)):=by
 rcases Int.lt_or_le x 0 with h | h
 ·exact Pow_neg0 a x n w ha h hn h40 hx
 ·exact Pow_pos0 a x n w ha h hn h40 hx
end Go.Proofs.YtibipjlohahekaaGreatDoor

namespace Go.Proofs.YtibipjlohahekaaGreatDoor
open Go.RowKit
theorem denF_den {q:Rat} (h:q.den≠1):denF q=(q.den:Int):=by unfold denF; rw [if_neg h]
set_option maxHeartbeats 1000000 in
set_option maxRecDepth 100000 in
theorem Den_any (a:Value) (q:Rat) (w:World) (ha:RatIs w a q):Calls Tryz.prog 89 #[a] w (RetInt w (q.den:Int)):=by
 obtain ⟨s,t,A,B,l,c,l',c',rfl,hn,hd⟩:=ha
 have HD:=zh hd
 clear hn hd
 go_enter Tryz.func89,Tryz.ntmps89
 go_wp2_with fail
 generalize hwb:World.alloc (World.alloc w _) _=wb
 have hB0:Blk 70 wb w.heap.size #[.bool s, .slice A l c, .bool t, .slice B l' c']:=hwb ▸ (Blk.new _ _ _).alloc _
 have hB1:Blk 63 wb (w.heap.size + 1) #[.bool false, .slice none 0 0]:=by
  have h:=Blk.new (w.alloc (.cells #[.bool s, .slice A l c, .bool t, .slice B l' c'] 70)) 63 #[.bool false, .slice none 0 0]
  have e:(w.alloc (.cells #[.bool s, .slice A l c, .bool t, .slice B l' c'] 70)).heap.size=w.heap.size + 1:=by simp
  rw [e,hwb] at h
  exact h
 have hE:Ext w wb:=hwb ▸ ((Fr.refl _ _).alloc _).alloc _
 clear hwb
 by_cases h1:q.den=1
 ·have hz:=denF_zero.2 h1
  rw [hz] at HD
  refine (IsZero_any _ _ _ (HD.out.ext hE)).mono ?_
  rw [decide_eq_true rfl]
  rintro e w1 ⟨rfl,hF⟩
  have HB1:=zh (hB1.ext hF)
  have HE:=zh (hE.trans hF)
  have HQ:Hid ((q.den:Int)=1):=by unfold Hid; omega
  clear hB0 hB1 hE hF hz h1
  go_wp2_with fail
  refine (New_pos 1 _ W64_one rfl rfl).mono ?_
  rintro e w2 ⟨u2,rfl,hI2,hF2⟩
  obtain ⟨s2,B2,l2,c3,rfl⟩:=hI2.shape
  have hB2:=HB1.out.ext hF2
  obtain ⟨x0,x1,x2,x3⟩:=hB2.cell2
  have HB2:=zh hB2
  have HI2:=zh hI2
  have HE2:=zh (HE.out.trans hF2)
  clear hB2 hI2 hF2
  go_wp2
  refine fin_int0 rfl rfl ((HB2.out.set_ 0 _).set_ 1 _) (by rw [HQ.out]; exact HI2.out.store2 HB2.out) ((HE2.out.setCell (Or.inr (by show _≤w.heap.size + 1; omega)) _).setCell (Or.inr (by show _≤w.heap.size + 1; omega)) _)
 ·have hz:=denF_den h1
  have hne:denF q≠0:=by rw [hz]; have:=q.den_nz; omega
  refine (IsZero_any _ _ _ (HD.out.ext hE)).mono ?_
  rw [decide_eq_false hne]
  rintro e w1 ⟨rfl,hF⟩
  rw [hz] at HD
  have HI2:=zh (HD.out.ext (hE.trans hF))
  have HB1:=zh (hB1.ext hF)
  have HE:=zh (hE.trans hF)
  obtain ⟨y0,y1,y2,y3,y4⟩:=(hB0.ext hF).cell4
  obtain ⟨x0,x1,x2,x3⟩:=HB1.out.cell2
  clear hB0 hB1 hE hF hz h1 hne HD
  go_wp2
  exact fin_int0 rfl rfl ((HB1.out.set_ 0 _).set_ 1 _) (HI2.out.store2 HB1.out) ((HE.out.setCell (Or.inr (by show _≤w.heap.size + 1; omega)) _).setCell (Or.inr (by show _≤w.heap.size + 1; omega)) _)
noncomputable def valF (l:List UInt8):Rat:=(readF l).getD 0
set_option maxHeartbeats 1000000 in
set_option maxRecDepth 100000 in
theorem value_any (s:ByteArray) (w:World) (hg:Glob w) (hok:ReadOk (bytes s)):Calls Tryz.prog 75 #[.string s] w (RetRat w (valF (bytes s))):=by
 have HG:=zh hg
 have HO:=zh hok
 clear hg hok
 go_enter Tryz.func75,Tryz.ntmps75
 go_wp2_with fail
 generalize hwb:World.alloc w _=wb
 obtain ⟨hB0,hE0⟩:=Blk.one hwb
 clear hwb
 refine (Read_any s _ (HG.out.ext hE0) HO.out).mono ?_
 rintro e w1 ⟨v,ok,rfl,hF1,hR⟩
 have hq:RatIs w1 v (valF (bytes s)):=by
  unfold valF
  rcases hR with ⟨_,q,h1,h2⟩ | ⟨_,h1,h2⟩
  ·rw [h1]; exact h2
  ·rw [h1]; exact h2
 obtain ⟨a,b,A,B,l,c,l',c',rfl,hn,hd⟩:=hq
 have HB:=zh (hB0.ext hF1)
 have HE:=zh (hE0.trans hF1)
 have HN:=zh hn
 have HD:=zh hd
 have hlt:=(hB0.ext hF1).lt
 obtain ⟨y0,y1,y2,y3,y4,y5,y6,y7⟩:=(hB0.ext hF1).cell4
 clear hB0 hE0 hF1 hR hn hd
 generalize hr:w.heap.size=r at *
 have HR:=zh hr
 clear hr
 go_wp2
 have hB2:=HB.out.put4 (.bool a) (.slice A l c) (.bool b) (.slice B l' c')
 have hF2:Fr (fun i=>i=r) w1 ((((w1.setCell ⟨r,0,none⟩ (.bool a)).setCell ⟨r,1,none⟩ (.slice A l c)).setCell ⟨r,2,none⟩ (.bool b)).setCell ⟨r,3,none⟩ (.slice B l' c')):=Fr.set4 _ _ _ _
 refine fin_rat rfl rfl (hB2.alloc _) ((HN.out.other HB.out noWords4 hF2).ext ((Fr.refl _ _).alloc _)) ((HD.out.other HB.out noWords4 hF2).ext ((Fr.refl _ _).alloc _)) ((Fr.local_ HE.out hF2 (by rw [HR.out]; exact Nat.le_refl _)).alloc _)
end Go.Proofs.YtibipjlohahekaaGreatDoor
