/-
 My texts Gen, Small, Rat2, SxK, Sx8, Frac, RStr put together.
-/
import Derived.Test.YtndafmjcelgnbaaGreatDoorM11
import Derived.Test.YtndafmjcelgnbaaGreatDoorM13
import Derived.Test.YtndafmjcelgnbaaGreatDoorM15
import Derived.Outline
import Derived.Test.YtndafmjcelgnbaaGreatDoorM12
import Derived.Test.YtndafmjcelgnbaaGreatDoorM01
import Derived.Deep.LoopGhost
import Derived.Test.YtndafmjcelgnbaaGreatDoorM14
namespace Go.Proofs.YtndafmjcelgnbaaGreatDoor
open Go.RowKit
theorem follows_mixed' : Tryz.prog.follows .mixedOrders = true := by kernel_rfl
def NoRow (cs : Array Value) : Prop := ∀ (i : Nat) (k : IntKind) (z : Int),cs[i]? = some (.int k z) → k = .i64
theorem noRow2 {s : Bool} {A : Option Addr} {l c : Nat} : NoRow #[.bool s, .slice A l c] := by
 intro i k z; rcases i with _ | _ | i <;> simp
theorem noRow4 {s t : Bool} {A B : Option Addr} {l c l' c' : Nat} : NoRow #[.bool s, .slice A l c, .bool t, .slice B l' c'] := by
 intro i k z; rcases i with _ | _ | _ | _ | i <;> simp
theorem Shows.other {k : IntKind} {t : TypeId} {w w' : World} {r : Nat} {A : Option Addr} {xs : List Nat} {cs : Array Value} (h : Shows k w A xs) (hk : k ≠ .i64) (hB : Blk t w r cs) (hc : NoRow cs) (hF : Fr (fun i => i = r) w w') : Shows k w' A xs := by
 cases xs with
 | nil => exact Shows.nil
 | cons x xs =>
   refine h.fr hF (fun ad hA hlt e => ?_)
   obtain ⟨g,off,e',_,hcl⟩ := h.at (i := 0) (by simp)
   rw [e'] at hA
   injection hA with hA
   subst hA
   simp at e
   subst e
   rw [hB.cell] at hcl
   exact hk (hc _ _ _ hcl)
theorem MagIs.oth {t : TypeId} {w w' : World} {r n : Nat} {u : Value} {cs : Array Value} (h : MagIs w u n) (hB : Blk t w r cs) (hc : NoRow cs) (hF : Fr (fun i => i = r) w w') : MagIs w' u n := by
 obtain ⟨A',xs,c',h1,h2,h3,h4⟩ := h
 exact ⟨A',xs,c',h1,h2,h3.other (by decide) hB hc hF,h4⟩
theorem NumIs.oth {t : TypeId} {w w' : World} {r : Nat} {v : Value} {z : Int} {cs : Array Value} (h : NumIs w v z) (hB : Blk t w r cs) (hc : NoRow cs) (hF : Fr (fun i => i = r) w w') : NumIs w' v z := by
 obtain ⟨s',u,n,h1,h2,h3⟩ := h
 exact ⟨s',u,n,h1,h2.oth hB hc hF,h3⟩
theorem NumIs.shp {w : World} {v : Value} {z : Int} (h : NumIs w v z) : ∃ (s : Bool) (A : Option Addr) (l c : Nat),v = .agg #[.bool s, .slice A l c] := by
 obtain ⟨s,A,l,c,h,_⟩ := h.open
 exact ⟨s,A,l,c,h⟩
theorem IntIs.shp {w : World} {v : Value} {z : Int} (h : IntIs w v z) : ∃ (s : Bool) (A : Option Addr) (l c : Nat),v = .agg #[.bool s, .slice A l c] := h.shape
theorem NumIs.nil (w : World) : NumIs w (.agg #[.bool false, .slice none 0 0]) 0 := ⟨false,_,0,rfl,MagIs.zero w,fun _ => rfl,rfl⟩
theorem RatIs.shp {w : World} {v : Value} {q : Rat} (h : RatIs w v q) : ∃ (s : Bool) (A : Option Addr) (l c : Nat) (t : Bool) (B : Option Addr) (l' c' : Nat),v = .agg #[.bool s, .slice A l c, .bool t, .slice B l' c'] := by
 obtain ⟨s,t,A,B,l,c,l',c',h,_⟩ := h
 exact ⟨s,A,l,c,t,B,l',c',h⟩
theorem agg4_inj {a b c d a' b' c' d' : Value} (h : Value.agg #[a,b,c,d] = .agg #[a',b',c',d']) : a = a' ∧ b = b' ∧ c = c' ∧ d = d' := by
 injection h with h
 simpa using h
theorem RatIs.den {w : World} {a b c d : Value} {q : Rat} (h : RatIs w (.agg #[a,b,c,d]) q) : IntIs w (.agg #[c,d]) (denF q) := by
 obtain ⟨s,t,A,B,l,c,l',c',h,h1,h2⟩ := h
 obtain ⟨rfl,rfl,rfl,rfl⟩ := agg4_inj h
 exact h2
theorem RatIs.of {w : World} {s t : Bool} {A B : Option Addr} {l c l' c' : Nat} {q : Rat} (h1 : IntIs w (.agg #[.bool s, .slice A l c]) q.num) (h2 : IntIs w (.agg #[.bool t, .slice B l' c']) (denF q)) : RatIs w (.agg #[.bool s, .slice A l c, .bool t, .slice B l' c']) q :=
 ⟨_,_,_,_,_,_,_,_,rfl,h1,h2⟩
def NRatIs (w : World) (v : Value) (q : Rat) : Prop := ∃ (s t : Bool) (A B : Option Addr) (l c l' c' : Nat),v = .agg #[.bool s, .slice A l c, .bool t, .slice B l' c'] ∧ NumIs w (.agg #[.bool s, .slice A l c]) q.num ∧ NumIs w (.agg #[.bool t, .slice B l' c']) (denF q)
theorem NRatIs.ext {w w' : World} {v : Value} {q : Rat} (h : NRatIs w v q) (hf : Ext w w') : NRatIs w' v q := by
 obtain ⟨s,t,A,B,l,c,l',c',h1,h2,h3⟩ := h
 exact ⟨s,t,A,B,l,c,l',c',h1,h2.ext hf,h3.ext hf⟩
theorem NRatIs.oth {t : TypeId} {w w' : World} {r : Nat} {v : Value} {q : Rat} {cs : Array Value} (h : NRatIs w v q) (hB : Blk t w r cs) (hc : NoRow cs) (hF : Fr (fun i => i = r) w w') : NRatIs w' v q := by
 obtain ⟨s,t,A,B,l,c,l',c',h1,h2,h3⟩ := h
 exact ⟨s,t,A,B,l,c,l',c',h1,h2.oth hB hc hF,h3.oth hB hc hF⟩
theorem NRatIs.shp {w : World} {v : Value} {q : Rat} (h : NRatIs w v q) : ∃ (s : Bool) (A : Option Addr) (l c : Nat) (t : Bool) (B : Option Addr) (l' c' : Nat),v = .agg #[.bool s, .slice A l c, .bool t, .slice B l' c'] := by
 obtain ⟨s,t,A,B,l,c,l',c',h,_⟩ := h
 exact ⟨s,A,l,c,t,B,l',c',h⟩
theorem NRatIs.num {w : World} {a b c d : Value} {q : Rat} (h : NRatIs w (.agg #[a,b,c,d]) q) : NumIs w (.agg #[a,b]) q.num := by
 obtain ⟨s,t,A,B,l,c,l',c',h,h1,h2⟩ := h
 obtain ⟨rfl,rfl,rfl,rfl⟩ := agg4_inj h
 exact h1
theorem NRatIs.den {w : World} {a b c d : Value} {q : Rat} (h : NRatIs w (.agg #[a,b,c,d]) q) : NumIs w (.agg #[c,d]) (denF q) := by
 obtain ⟨s,t,A,B,l,c,l',c',h,h1,h2⟩ := h
 obtain ⟨rfl,rfl,rfl,rfl⟩ := agg4_inj h
 exact h2
theorem NRatIs.of {w : World} {s t : Bool} {A B : Option Addr} {l c l' c' : Nat} {q : Rat} (h1 : NumIs w (.agg #[.bool s, .slice A l c]) q.num) (h2 : NumIs w (.agg #[.bool t, .slice B l' c']) (denF q)) : NRatIs w (.agg #[.bool s, .slice A l c, .bool t, .slice B l' c']) q :=
 ⟨_,_,_,_,_,_,_,_,rfl,h1,h2⟩
def RetNRat (w : World) (q : Rat) (e : Ending) (w' : World) : Prop := ∃ v,e = .returned v ∧ NRatIs w' v q ∧ Ext w w'
theorem NRatIs.nil (w : World) : NRatIs w (.agg #[.bool false, .slice none 0 0, .bool false, .slice none 0 0]) 0 := ⟨_,_,_,_,_,_,_,_,rfl,NumIs.nil w,NumIs.nil w⟩
theorem blocks1 {t0 : TypeId} {w wb : World} {c0 : Array Value} (h : w.alloc (.cells c0 t0) = wb) : Blk t0 wb w.heap.size c0 ∧ Ext w wb := by
 subst h; exact ⟨Blk.new _ _ _,(Fr.refl _ _).alloc _⟩
theorem blocks2 {t0 t1 : TypeId} {w wb : World} {c0 c1 : Array Value} (h : (w.alloc (.cells c0 t0)).alloc (.cells c1 t1) = wb) : Blk t0 wb w.heap.size c0 ∧ Blk t1 wb (w.heap.size + 1) c1 ∧ Ext w wb := by
 obtain ⟨b0,e0⟩ := blocks1 (w := w) (c0 := c0) (t0 := t0) rfl
 have e : (w.alloc (.cells c0 t0)).heap.size = w.heap.size + 1 := by simp
 obtain ⟨b1,e1⟩ := blocks1 h
 rw [e] at b1
 exact ⟨b0.ext e1,b1,e0.trans e1⟩
theorem blocks3 {t0 t1 t2 : TypeId} {w wb : World} {c0 c1 c2 : Array Value} (h : ((w.alloc (.cells c0 t0)).alloc (.cells c1 t1)).alloc (.cells c2 t2) = wb) : Blk t0 wb w.heap.size c0 ∧ Blk t1 wb (w.heap.size + 1) c1 ∧ Blk t2 wb (w.heap.size + 1 + 1) c2 ∧ Ext w wb := by
 obtain ⟨b0,b1,e0⟩ := blocks2 (w := w) (c0 := c0) (t0 := t0) (c1 := c1) (t1 := t1) rfl
 have e : ((w.alloc (.cells c0 t0)).alloc (.cells c1 t1)).heap.size = w.heap.size + 1 + 1 := by simp
 obtain ⟨b2,e2⟩ := blocks1 h
 rw [e] at b2
 exact ⟨b0.ext e2,b1.ext e2,b2,e0.trans e2⟩
theorem blocks4 {t0 t1 t2 t3 : TypeId} {w wb : World} {c0 c1 c2 c3 : Array Value} (h : (((w.alloc (.cells c0 t0)).alloc (.cells c1 t1)).alloc (.cells c2 t2)).alloc (.cells c3 t3) = wb) : Blk t0 wb w.heap.size c0 ∧ Blk t1 wb (w.heap.size + 1) c1 ∧ Blk t2 wb (w.heap.size + 1 + 1) c2 ∧ Blk t3 wb (w.heap.size + 1 + 1 + 1) c3 ∧ Ext w wb := by
 obtain ⟨b0,b1,b2,e0⟩ := blocks3 (w := w) (c0 := c0) (t0 := t0) (c1 := c1) (t1 := t1) (c2 := c2) (t2 := t2) rfl
 have e : (((w.alloc (.cells c0 t0)).alloc (.cells c1 t1)).alloc (.cells c2 t2)).heap.size = w.heap.size + 1 + 1 + 1 := by simp
 obtain ⟨b3,e3⟩ := blocks1 h
 rw [e] at b3
 exact ⟨b0.ext e3,b1.ext e3,b2.ext e3,b3,e0.trans e3⟩
theorem Blk.two {t : TypeId} {w : World} {g : Nat} {cs : Array Value} {x y : Value} (h : Blk t w g cs) (o : Nat) (hx : cs[o]? = some x) (hy : cs[o + 1]? = some y) : w.cell? ⟨g,o,none⟩ = some x ∧ w.cell? ⟨g,o + 1,none⟩ = some y :=
 ⟨(h.cell o).trans hx,(h.cell (o + 1)).trans hy⟩
theorem Blk.four {t : TypeId} {w : World} {g : Nat} {cs : Array Value} {x y z u : Value} (h : Blk t w g cs) (o : Nat) (hx : cs[o]? = some x) (hy : cs[o + 1]? = some y) (hz : cs[o + 2]? = some z) (hu : cs[o + 3]? = some u) : w.cell? ⟨g,o,none⟩ = some x ∧ w.cell? ⟨g,o + 1,none⟩ = some y ∧ w.cell? ⟨g,o + 2,none⟩ = some z ∧ w.cell? ⟨g,o + 3,none⟩ = some u :=
 ⟨(h.cell o).trans hx,(h.cell (o + 1)).trans hy,(h.cell (o + 2)).trans hz,(h.cell (o + 3)).trans hu⟩
theorem Blk.one' {t : TypeId} {w : World} {g : Nat} {cs : Array Value} {x : Value} (h : Blk t w g cs) (o : Nat) (hx : cs[o]? = some x) : w.cell? ⟨g,o,none⟩ = some x := (h.cell o).trans hx
section
variable {ops : Array Oper} {S : World → Prop} {o : Oper} {a : Act} {p : Operand} {g off : Nat} {x y z u v : Value}
theorem ym (hw : Region.wanted o (yielded ops a.tmps) = true) (ho : o.op = Op.move p) (hp : a.eval p = v) : YieldsIf Tryz.prog ops S o v a :=
 Or.inl ⟨hw,fun w _ => by simp only [execOp,ho,hp]; simp [go_sem]⟩
theorem yl_NumInt (hw : Region.wanted o (yielded ops a.tmps) = true) (ho : o.op = Op.load 53 p) (hp : a.eval p = .pointer (some ⟨g,off,none⟩)) (hc : ∀ w,S w → w.cell? ⟨g,off,none⟩ = some x ∧ w.cell? ⟨g,off + 1,none⟩ = some y) : YieldsIf Tryz.prog ops S o (.agg #[x,y]) a :=
 Or.inl ⟨hw,fun w hS => by
  obtain ⟨h0,h1⟩ := hc w hS
  simp only [execOp,ho,hp]
  simp [go_sem,h0,h1]⟩
theorem yl_NumRat (hw : Region.wanted o (yielded ops a.tmps) = true) (ho : o.op = Op.load 55 p) (hp : a.eval p = .pointer (some ⟨g,off,none⟩)) (hc : ∀ w,S w → w.cell? ⟨g,off,none⟩ = some x ∧ w.cell? ⟨g,off + 1,none⟩ = some y ∧ w.cell? ⟨g,off + 2,none⟩ = some z ∧ w.cell? ⟨g,off + 3,none⟩ = some u) : YieldsIf Tryz.prog ops S o (.agg #[x,y,z,u]) a :=
 Or.inl ⟨hw,fun w hS => by
  obtain ⟨h0,h1,h2,h3⟩ := hc w hS
  simp only [execOp,ho,hp]
  simp [go_sem,h0,h1,h2,h3]⟩
theorem yl_bool (hw : Region.wanted o (yielded ops a.tmps) = true) (ho : o.op = Op.load 4 p) (hp : a.eval p = .pointer (some ⟨g,off,none⟩)) (hc : ∀ w,S w → w.cell? ⟨g,off,none⟩ = some x) : YieldsIf Tryz.prog ops S o x a :=
 Or.inl ⟨hw,fun w hS => by
  have h0 := hc w hS
  simp only [execOp,ho,hp]
  simp [go_sem,h0]⟩
theorem ya_NumInt0 (hw : Region.wanted o (yielded ops a.tmps) = true) (ho : o.op = Op.fieldAddr 53 p 0) (hp : a.eval p = .pointer (some ⟨g,off,none⟩)) : YieldsIf Tryz.prog ops S o (.pointer (some ⟨g,off,none⟩)) a :=
 Or.inl ⟨hw,fun w _ => by simp only [execOp,ho,hp]; simp [go_sem]⟩
theorem yne_bool {b c : Bool} {q : Operand} (hw : Region.wanted o (yielded ops a.tmps) = true) (ho : o.op = Op.binOp .neq 4 p q 4) (hp : a.eval p = .bool b) (hq : a.eval q = .bool c) : YieldsIf Tryz.prog ops S o (.bool (b != c)) a :=
 Or.inl ⟨hw,fun w _ => by simp only [execOp,ho,hp,hq]; simp [go_sem]; cases b <;> cases c <;> rfl⟩
end
end Go.Proofs.YtndafmjcelgnbaaGreatDoor

namespace Go.Proofs.YtndafmjcelgnbaaGreatDoor
open Go.RowKit
theorem follows_mixed : Tryz.prog.follows .mixedOrders = true := by kernel_rfl
theorem yields_int {ops : Array Oper} {S : World → Prop} {o : Oper} {a : Act} {p : Operand} {g : Nat} {x y : Value} (hg : o.guard = none) (ho : o.op = Op.load 67 p) (hp : a.eval p = .pointer (some ⟨g,0,none⟩))
 (hc : ∀ w,S w → w.cell? ⟨g,0,none⟩ = some x ∧ w.cell? ⟨g,1,none⟩ = some y) : YieldsIf Tryz.prog ops S o (.agg #[x,y]) a :=
 Or.inl ⟨by unfold Region.wanted; rw [hg],fun w hS => by
  obtain ⟨h0,h1⟩ := hc w hS
  simp only [execOp,ho,hp]
  simp [go_sem,h0,h1]⟩
theorem cmpI_negI (a b : Int) : cmpI a b < 0 ↔ a < b := by
 unfold cmpI
 split
 ·simp; omega
 ·split
  ·simp; omega
  ·simp; omega
theorem keepI2 {t t' : TypeId} {w w' : World} {g g' : Nat} {x y x' y' : Value} (h : Blk t w g #[x,y]) (h' : Blk t' w g' #[x',y']) (hF : Ext w w') :
 (w'.cell? ⟨g,0,none⟩ = some x ∧ w'.cell? ⟨g,1,none⟩ = some y) ∧ (w'.cell? ⟨g',0,none⟩ = some x' ∧ w'.cell? ⟨g',1,none⟩ = some y') :=
 ⟨⟨(h.ext hF).cell 0,(h.ext hF).cell 1⟩,⟨(h'.ext hF).cell 0,(h'.ext hF).cell 1⟩⟩
set_option maxHeartbeats 1000000 in
theorem isSmall_any (a b : Value) (x m : Int) (w : World) (ha : IntIs w a x) (hb : IntIs w b m) (hx : wl x.natAbs < 40) (hm : Fits m) : Calls Tryz.prog 121 #[a,b] w (RetV w (.bool (decide (x * x * 2 < m)))) := by
 obtain ⟨s,A,l,c,rfl⟩ := ha.shape
 obtain ⟨t,B,l',c',rfl⟩ := hb.shape
 have HA := zh ha
 have HB := zh hb
 have HX := zh hx
 have HM := zh hm
 have HXX : Hid (Fits (x * x)) := by
  have h1 := wl_mul x.natAbs x.natAbs
  unfold Hid Fits; rw [Int.natAbs_mul]; exact Nat.le_trans h1 (by omega)
 have HXY : Hid (Fits (x * x * ((2 ^ 1 : Nat) : Int))) := by
  have h1 := wl_mul (x * x).natAbs 2
  have h2 := wl_mul x.natAbs x.natAbs
  have h3 : wl 2 ≤ 1 := wl_one.2 (by rw [W64_eq]; omega)
  rw [← Int.natAbs_mul] at h2
  unfold Hid Fits; rw [Int.natAbs_mul,Int.natAbs_natCast]; exact Nat.le_trans h1 (by omega)
 clear ha hb hx hm
 go_enter Tryz.func121,Tryz.ntmps121
 go_wp2_with fail
 generalize hwb : World.alloc (World.alloc w _) _ = wb
 obtain ⟨hBx,hBy,hE⟩ := two_blocks hwb
 clear hwb
 refine wp_region_T 8 (fun w' => (w'.cell? ⟨w.heap.size,0,none⟩ = some (.bool s) ∧ w'.cell? ⟨w.heap.size,1,none⟩ = some (.slice A l c)) ∧ (w'.cell? ⟨w.heap.size + 1,0,none⟩ = some (.bool t) ∧ w'.cell? ⟨w.heap.size + 1,1,none⟩ = some (.slice B l' c'))) follows_mixed ?_
 refine wpT_take 0 rfl (by kernel_rfl) (fun _ _ _ h => h) ⟨⟨hBx.cell 0,hBx.cell 1⟩,⟨hBy.cell 0,hBy.cell 1⟩⟩ (fun _ => yields_int rfl rfl rfl (fun _ h => h.1)) (fun hS => ?_)
 refine wpT_take 1 rfl (by kernel_rfl) (fun _ _ _ h => h) hS (fun _ => yields_int rfl rfl rfl (fun _ h => h.1)) (fun hS => ?_)
 refine wpT_take 4 rfl (by kernel_rfl) (fun _ _ _ h => h) hS (fun _ => yields_int rfl rfl rfl (fun _ h => h.2)) (fun hS => ?_)
 refine wpT_only 2 rfl (by kernel_rfl) rfl (fun K hK => ?_)
 go_simp
 refine (Mul_any _ _ x x _ (HA.out.ext hE.drew) (HA.out.ext hE.drew) (by have := HX.out; unfold Fits; omega) (by have := HX.out; unfold Fits; omega) (Or.inl HX.out)).mono ?_
 rintro e w1 ⟨u1,rfl,hI1,hF1⟩
 obtain ⟨s1,A1,l1,c1,rfl⟩ := hI1.shape
 replace hF1 := Fr.undrew hF1
 refine hK _ _ (keepI2 hBx hBy hF1) ?_
 refine wpT_only 3 rfl (by kernel_rfl) rfl (fun K hK => ?_)
 go_simp
 refine (Shift_any _ _ 1 _ hI1 HXX.out (by omega)).mono ?_
 rintro e w2 ⟨u2,rfl,hI2,hF2⟩
 obtain ⟨s2,A2,l2,c2,rfl⟩ := hI2.shape
 refine hK _ _ (keepI2 hBx hBy (hF1.trans hF2)) ?_
 refine wpT_only 5 rfl (by kernel_rfl) rfl (fun K hK => ?_)
 go_simp
 refine (Compare_any _ _ _ m _ hI2 (HB.out.ext ((hE.trans hF1).trans hF2)) HXY.out HM.out).mono ?_
 rintro e w3 ⟨rfl,hF3⟩
 refine hK _ _ (keepI2 hBx hBy ((hF1.trans hF2).trans hF3)) ?_
 have HE3 := zh (((hE.trans hF1).trans hF2).trans hF3)
 refine wpT_only 6 rfl (by kernel_rfl) rfl (fun K hK => ?_)
 go_simp
 refine hK _ _ (keepI2 hBx hBy ((hF1.trans hF2).trans hF3)) ?_
 refine wpT_only 7 rfl (by kernel_rfl) rfl (fun K hK => ?_)
 go_simp
 refine hK _ _ (keepI2 hBx hBy ((hF1.trans hF2).trans hF3)) ?_
 refine wpT_tail (l := []) 8 rfl (by kernel_rfl) ?_
 have HC : Hid (decide (cmpI (x * x * ((2 ^ 1 : Nat) : Int)) m < 0) = decide (x * x * 2 < m)) := by
  unfold Hid
  have := cmpI_negI (x * x * ((2 ^ 1 : Nat) : Int)) m
  have e : ((2 ^ 1 : Nat) : Int) = 2 := rfl
  rw [e] at this ⊢
  by_cases h : x * x * 2 < m
  ·rw [decide_eq_true h,decide_eq_true (this.2 h)]
  ·rw [decide_eq_false h,decide_eq_false (fun k => h (this.1 k))]
 go_wp2
 go_ret
 exact ⟨by rw [← HC.out]; rfl,HE3.out⟩
end Go.Proofs.YtndafmjcelgnbaaGreatDoor

namespace Go.Proofs.YtndafmjcelgnbaaGreatDoor
open Go.RowKit
def IntAt (w : World) (g : Nat) (z : Int) : Prop := ∃ s A l c,Blk 67 w g #[.bool s, .slice A l c] ∧ IntIs w (.agg #[.bool s, .slice A l c]) z
theorem IntAt.ext {w w' : World} {g : Nat} {z : Int} (h : IntAt w g z) (hF : Ext w w') : IntAt w' g z := by
 obtain ⟨s,A,l,c,h1,h2⟩ := h
 exact ⟨s,A,l,c,h1.ext hF,h2.ext hF⟩
theorem IntAt.lt {w : World} {g : Nat} {z : Int} (h : IntAt w g z) : g < w.heap.size := by
 obtain ⟨_,_,_,_,h1,_⟩ := h
 exact h1.lt
theorem IntAt.put {w : World} {g : Nat} {z z' : Int} {s : Bool} {A : Option Addr} {l c : Nat} (h : IntAt w g z) (hI : IntIs w (.agg #[.bool s, .slice A l c]) z') : IntAt ((w.setCell ⟨g,0,none⟩ (.bool s)).setCell ⟨g,1,none⟩ (.slice A l c)) g z' := by
 obtain ⟨s0,A0,l0,c0,h1,_⟩ := h
 exact ⟨s,A,l,c,(h1.set_ 0 _).set_ 1 _,hI.other h1 noWords2 (Fr.set2 _ _)⟩
theorem IntAt.away {w : World} {g r : Nat} {z z0 : Int} {a b : Value} (h : IntAt w g z) (hr : IntAt w r z0) (hne : g ≠ r) : IntAt ((w.setCell ⟨r,0,none⟩ a).setCell ⟨r,1,none⟩ b) g z := by
 obtain ⟨s,A,l,c,h1,h2⟩ := h
 obtain ⟨s0,A0,l0,c0,k1,_⟩ := hr
 exact ⟨s,A,l,c,h1.fr (Fr.set2 _ _) hne,h2.other k1 noWords2 (Fr.set2 _ _)⟩
theorem IntIs.away {w : World} {r : Nat} {v : Value} {z z0 : Int} {a b : Value} (h : IntIs w v z) (hr : IntAt w r z0) : IntIs ((w.setCell ⟨r,0,none⟩ a).setCell ⟨r,1,none⟩ b) v z := by
 obtain ⟨s0,A0,l0,c0,k1,_⟩ := hr
 exact h.other k1 noWords2 (Fr.set2 _ _)
def RetRat (w : World) (q : Rat) (e : Ending) (w' : World) : Prop := ∃ v,e = .returned v ∧ RatIs w' v q ∧ Ext w w'
theorem fin_rat {fn : Func} {t : Tmp} {tmps : Array Value} {w w' : World} {r : Nat} {s s' : Bool} {A B : Option Addr} {l c l' c' : Nat} {q : Rat} (hres : fn.results = #[.cell t 80]) (ht : tmps[t]? = some (.pointer (some ⟨r,0,none⟩)))
 (hB : Blk 80 w' r #[.bool s, .slice A l c, .bool s', .slice B l' c']) (hI : IntIs w' (.agg #[.bool s, .slice A l c]) q.num) (hI' : IntIs w' (.agg #[.bool s', .slice B l' c']) (denF q)) (hE : Ext w w') :
 bodyPost Tryz.prog fn (RetRat w q) .ret ⟨tmps,[]⟩ w' := by
 obtain ⟨h0,h1,h2,h4,_⟩ := hB.cell4
 exact bodyPost_ret (v := .agg #[.bool s, .slice A l c, .bool s', .slice B l' c']) (by simp [results,hres,ht,go_sem,h0,h1,h2,h4]) rfl ⟨_,rfl,⟨_,_,_,_,_,_,_,_,rfl,hI,hI'⟩,hE⟩
theorem denF_zero {q : Rat} : denF q = 0 ↔ q.den = 1 := by
 unfold denF
 have := q.den_nz
 split <;> omega
set_option maxHeartbeats 1000000 in
theorem IsWhole_any (a : Value) (q : Rat) (w : World) (ha : RatIs w a q) : Calls Tryz.prog 61 #[a] w (RetV w (.bool (decide (q.den = 1)))) := by
 obtain ⟨s,t,A,B,l,c,l',c',rfl,hn,hd⟩ := ha
 have HD := zh hd
 have hdc : Hid (decide (denF q = 0) = decide (q.den = 1)) := by
  unfold Hid
  by_cases h : q.den = 1
  ·rw [decide_eq_true h,decide_eq_true (denF_zero.2 h)]
  ·rw [decide_eq_false h,decide_eq_false (fun k => h (denF_zero.1 k))]
 clear hn hd
 go_enter Tryz.func61,Tryz.ntmps61
 go_wp2_with fail
 refine (IsZero_any _ _ _ (HD.out.ext ((Fr.refl _ _).alloc _))).mono ?_
 rw [hdc.out]
 rintro e w1 ⟨rfl,hF⟩
 have HF := zh (((Fr.refl _ _).alloc _).trans hF : Ext w w1)
 clear hF
 go_wp2
 go_ret
 exact ⟨rfl,HF.out⟩
set_option maxHeartbeats 1000000 in
theorem Num_any (a : Value) (q : Rat) (w : World) (ha : RatIs w a q) : Calls Tryz.prog 62 #[a] w (RetInt w q.num) := by
 obtain ⟨s,t,A,B,l,c,l',c',rfl,hn,hd⟩ := ha
 have HN := zh hn
 clear hn hd
 go_enter Tryz.func62,Tryz.ntmps62
 go_wp2
 have h1 := Blk.new (w.alloc (.cells #[.bool s, .slice A l c, .bool t, .slice B l' c'] 80)) 67 #[.bool s, .slice A l c]
 have e : (w.alloc (.cells #[.bool s, .slice A l c, .bool t, .slice B l' c'] 80)).heap.size = w.heap.size + 1 := by simp
 rw [e] at h1
 exact fin_int0 rfl rfl h1 (HN.out.ext (((Fr.refl _ _).alloc _).alloc _)) (((Fr.refl _ _).alloc _).alloc _)
set_option maxHeartbeats 1000000 in
set_option maxRecDepth 100000 in
theorem lowest_any (a b : Value) (x y : Int) (q : Rat) (w : World) (ha : IntIs w a x) (hb : IntIs w b y) (hq : q.num = x ∧ (q.den : Int) = y) : Calls Tryz.prog 136 #[a,b] w (RetRat w q) := by
 obtain ⟨s,A,l,c,rfl⟩ := ha.shape
 obtain ⟨t,B,l',c',rfl⟩ := hb.shape
 have HA := zh ha
 have HB := zh hb
 have HQ := zh hq
 clear ha hb hq
 go_enter Tryz.func136,Tryz.ntmps136
 go_wp2_with fail
 generalize hwb : World.alloc (World.alloc (World.alloc w _) _) _ = wb
 have hE : Ext w wb := hwb ▸ (((Fr.refl _ _).alloc _).alloc _).alloc _
 have hB0 : Blk 67 wb w.heap.size #[.bool s, .slice A l c] := hwb ▸ ((Blk.new _ _ _).alloc _).alloc _
 have hB1 : Blk 67 wb (w.heap.size + 1) #[.bool t, .slice B l' c'] := by
  have h := (Blk.new (w.alloc (.cells #[.bool s, .slice A l c] 67)) 67 #[.bool t, .slice B l' c']).alloc (.cells #[.bool false, .slice none 0 0, .bool false, .slice none 0 0] 80)
  have e : (w.alloc (.cells #[.bool s, .slice A l c] 67)).heap.size = w.heap.size + 1 := by simp
  rw [e] at h
  exact hwb ▸ h
 have hB2 : Blk 80 wb (w.heap.size + 1 + 1) #[.bool false, .slice none 0 0, .bool false, .slice none 0 0] := by
  have h := Blk.new ((w.alloc (.cells #[.bool s, .slice A l c] 67)).alloc (.cells #[.bool t, .slice B l' c'] 67)) 80 #[.bool false, .slice none 0 0, .bool false, .slice none 0 0]
  have e : ((w.alloc (.cells #[.bool s, .slice A l c] 67)).alloc (.cells #[.bool t, .slice B l' c'] 67)).heap.size = w.heap.size + 1 + 1 := by simp
  rw [e] at h
  exact hwb ▸ h
 clear hwb
 refine (IsOne_any _ y _ (HB.out.ext hE)).mono ?_
 by_cases h1 : y = 1
 ·rw [decide_eq_true h1]
  rintro e w1 ⟨rfl,hF⟩
  have HE := zh (hE.trans hF)
  have HB0 := zh (hB0.ext hF)
  have HB2 := zh (hB2.ext hF)
  have HD : Hid (denF q = 0) := denF_zero.2 (by have := HQ.out.2; omega)
  obtain ⟨x0,x1,_,_⟩ := HB0.out.cell2
  obtain ⟨y0,y1,y2,y3,y4,y5,y6,y7⟩ := HB2.out.cell4
  clear hE hF hB0 hB1 hB2 h1
  go_wp2
  refine fin_rat rfl rfl (HB2.out.put4 _ _ _ _) ?_ ?_ (Fr.local_ HE.out (Fr.set4 _ _ _ _) (by omega))
  ·rw [HQ.out.1]; exact (HA.out.ext HE.out).other HB2.out noWords4 (Fr.set4 _ _ _ _)
  ·rw [HD.out]; exact IntIs.zero _
 ·rw [decide_eq_false h1]
  rintro e w1 ⟨rfl,hF⟩
  have HE := zh (hE.trans hF)
  have HB0 := zh (hB0.ext hF)
  have HB1 := zh (hB1.ext hF)
  have HB2 := zh (hB2.ext hF)
  have HD : Hid (denF q = y) := by
   have := HQ.out.2
   unfold Hid denF; rw [if_neg (by omega)]; exact this
  obtain ⟨x0,x1,_,_⟩ := HB0.out.cell2
  obtain ⟨z0,z1,_,_⟩ := HB1.out.cell2
  obtain ⟨y0,y1,y2,y3,y4,y5,y6,y7⟩ := HB2.out.cell4
  clear hE hF hB0 hB1 hB2 h1
  go_wp2
  refine fin_rat rfl rfl (HB2.out.put4 _ _ _ _) ?_ ?_ (Fr.local_ HE.out (Fr.set4 _ _ _ _) (by omega))
  ·rw [HQ.out.1]; exact (HA.out.ext HE.out).other HB2.out noWords4 (Fr.set4 _ _ _ _)
  ·rw [HD.out]; exact (HB.out.ext HE.out).other HB2.out noWords4 (Fr.set4 _ _ _ _)
end Go.Proofs.YtndafmjcelgnbaaGreatDoor

namespace Go.Proofs.YtndafmjcelgnbaaGreatDoor
open Go.RowKit
section
variable {S : Nat → Prop} {w w' w0 : World} {k : IntKind} {A : Option Addr} {xs : List Nat}
theorem Shows.nrb (hk : k ≠ .i64) (h : Shows k w A xs) (hS : ∀ i,S i → NRB w i) (hF : Fr S w w') : Shows k w' A xs := by
 cases xs with
 | nil => exact Shows.nil
 | cons x xs =>
   refine h.fr hF (fun ad hA hlt hs => ?_)
   obtain ⟨g,off,e',_,hcl⟩ := h.at (i := 0) (by simp)
   rw [e'] at hA
   injection hA with hA
   subst hA
   obtain ⟨t,cs,hB,hc⟩ := hS _ hs
   rw [hB.cell] at hcl
   exact hk (hc _ _ _ hcl)
theorem NatIs.nrb {u : Value} {n : Nat} (h : NatIs w u n) (hS : ∀ i,S i → NRB w i) (hF : Fr S w w') : NatIs w' u n := by
 obtain ⟨A',xs,c',h1,h2,h3,h4⟩ := h
 exact ⟨A',xs,c',h1,h2,h3.nrb (by decide) hS hF,h4⟩
theorem IntIs.nrb {v : Value} {z : Int} (h : IntIs w v z) (hS : ∀ i,S i → NRB w i) (hF : Fr S w w') : IntIs w' v z := by
 obtain ⟨s',u,n,h1,h2,h3⟩ := h
 exact ⟨s',u,n,h1,h2.nrb hS hF,h3⟩
theorem RatIs.nrb {v : Value} {q : Rat} (h : RatIs w v q) (hS : ∀ i,S i → NRB w i) (hF : Fr S w w') : RatIs w' v q := by
 obtain ⟨s,t,A,B,l,c,l',c',h1,h2,h3⟩ := h
 exact ⟨s,t,A,B,l,c,l',c',h1,h2.nrb hS hF,h3.nrb hS hF⟩
theorem MagIs.nrb {u : Value} {n : Nat} (h : MagIs w u n) (hS : ∀ i,S i → NRB w i) (hF : Fr S w w') : MagIs w' u n := by
 obtain ⟨A',xs,c',h1,h2,h3,h4⟩ := h
 exact ⟨A',xs,c',h1,h2,h3.nrb (by decide) hS hF,h4⟩
theorem NumIs.nrb {v : Value} {z : Int} (h : NumIs w v z) (hS : ∀ i,S i → NRB w i) (hF : Fr S w w') : NumIs w' v z := by
 obtain ⟨s',u,n,h1,h2,h3⟩ := h
 exact ⟨s',u,n,h1,h2.nrb hS hF,h3⟩
theorem NRatIs.nrb {v : Value} {q : Rat} (h : NRatIs w v q) (hS : ∀ i,S i → NRB w i) (hF : Fr S w w') : NRatIs w' v q := by
 obtain ⟨s,t,A,B,l,c,l',c',h1,h2,h3⟩ := h
 exact ⟨s,t,A,B,l,c,l',c',h1,h2.nrb hS hF,h3.nrb hS hF⟩
theorem NRB.ext {i : Nat} (h : NRB w i) (he : Ext w w') : NRB w' i := by
 obtain ⟨t,cs,hB,hc⟩ := h
 exact ⟨t,cs,hB.ext he,hc⟩
theorem boxn {φ : World → Prop} (he : Ext w w') (h : ∀ S w'',(∀ i,S i → NRB w' i) → Fr S w' w'' → φ w'') : BoxN w w' φ := fun S hS w'' hf => h S w'' (fun i hi => (hS i hi).2.ext he) hf
end
abbrev ShI := Bool × Option Addr × Nat × Nat
abbrev ShQ := Bool × Option Addr × Nat × Nat × Bool × Option Addr × Nat × Nat
abbrev ShN := Option Addr × Nat × Nat
def shInt (x : ShI) : Value := .agg #[.bool x.1, .slice x.2.1 x.2.2.1 x.2.2.2]
def shRat (x : ShQ) : Value := .agg #[.bool x.1, .slice x.2.1 x.2.2.1 x.2.2.2.1, .bool x.2.2.2.2.1, .slice x.2.2.2.2.2.1 x.2.2.2.2.2.2.1 x.2.2.2.2.2.2.2]
def shNat (x : ShN) : Value := .slice x.1 x.2.1 x.2.2
section
variable {w w' : World} {e : Ending}
theorem post_Int {z : Int} (h : RetInt w z e w') : PostC shInt (fun x w => IntIs w (shInt x) z) w e w' := by
 obtain ⟨v,rfl,hI,hE⟩ := h
 obtain ⟨s,A,l,c,rfl⟩ := hI.shp
 exact ⟨(s,A,l,c),rfl,hE,boxn hE (fun S w'' hS hF => hI.nrb hS hF)⟩
theorem post_Num {z : Int} (h : RetNum w z e w') : PostC shInt (fun x w => NumIs w (shInt x) z) w e w' := by
 obtain ⟨v,rfl,hI,hE⟩ := h
 obtain ⟨s,A,l,c,rfl⟩ := hI.shp
 exact ⟨(s,A,l,c),rfl,hE,boxn hE (fun S w'' hS hF => hI.nrb hS hF)⟩
theorem post_NRat {q : Rat} (h : RetNRat w q e w') : PostC shRat (fun x w => NRatIs w (shRat x) q) w e w' := by
 obtain ⟨v,rfl,hI,hE⟩ := h
 obtain ⟨s,A,l,c,t,B,m,d,rfl⟩ := hI.shp
 exact ⟨(s,A,l,c,t,B,m,d),rfl,hE,boxn hE (fun S w'' hS hF => hI.nrb hS hF)⟩
def shInt2 (x : ShI × ShI) : Value := .tuple #[shInt x.1,shInt x.2]
theorem sign3 (x : Int) : (x < 0 ∧ x.sign = -1) ∨ (x = 0 ∧ x.sign = 0) ∨ (0 < x ∧ x.sign = 1) := by
 rcases Int.lt_trichotomy x 0 with h | h | h
 ·exact Or.inl ⟨h,Int.sign_eq_neg_one_of_neg h⟩
 ·exact Or.inr (Or.inl ⟨h,by rw [h]; rfl⟩)
 ·exact Or.inr (Or.inr ⟨h,Int.sign_eq_one_of_pos h⟩)
theorem post_val {v u : Value} (h : e = .returned v ∧ Ext w w') (hv : v = u) : PostC (fun _ : Unit => u) (fun _ _ => True) w e w' := by
 obtain ⟨rfl,hE⟩ := h
 subst hv
 exact ⟨(),rfl,hE,BoxN.pure trivial⟩
end
end Go.Proofs.YtndafmjcelgnbaaGreatDoor

namespace Go.Proofs.YtndafmjcelgnbaaGreatDoor
open Go.RowKit
section
variable {N : Nat} {S0 : Nat → Prop} {w0 : World} {s s' : St} {Φ Ψ Φ0 : World → Prop} {L : Nat → Nat} {a : Act} {w : World} {P : Program} {ops : Array Oper} {Q : Exit → Act → World → Prop} {o : Oper}
theorem SameL.of {sl : SlL} {bl : BlL} (h : (sl.map (fun q => s.sl q.1),bl.map (fun q => s.bl q.1)) = (sl.map (fun q => some q.2),bl.map (fun q => some q.2))) : SameL s sl bl := h
def Hands (N : Nat) (S0 : Nat → Prop) (w0 : World) (J : Nat → St → (World → Prop) → Prop) (n : Nat) (a : Act) (w : World) : Prop := ∃ n' s' Φ' L',n' < n ∧ J n' s' Φ' ∧ Inv N S0 w0 s' Φ' L' a w
theorem sx_loop {c : Code} (J : Nat → St → (World → Prop) → Prop) (n0 : Nat) (h0 : J n0 s Φ)
 (round : ∀ n s Φ,J n s Φ → SXc P N S0 w0 (Exit.then (Hands N S0 w0 J n) Q) c s Φ) : SXc P N S0 w0 Q (.loop c) s Φ := fun L a w hi => by
 refine wp_loop_ghost (fun n a w => ∃ s Φ L,J n s Φ ∧ Inv N S0 w0 s Φ L a w) n0 ⟨s,Φ,L,h0,hi⟩ ?_
 rintro n a w ⟨s,Φ,L,hJ,hi⟩
 refine wp_mono (round n s Φ hJ L a w hi) ?_
 intro e a' w' hq
 cases e with
 | normal =>
   obtain ⟨n',s',Φ',L',h1,h2,h3⟩ := hq
   exact ⟨n',h1,s',Φ',L',h2,h3⟩
 | exit id => exact hq
 | goto l => exact hq
 | ret => exact hq
 | panic ch => exact hq
 | outgrown => exact hq
theorem sx_round {J : Nat → St → (World → Prop) → Prop} {n : Nat} (n' : Nat) (hlt : n' < n) (h : J n' s Φ) : SXq N S0 w0 (Exit.then (Hands N S0 w0 J n) Q .normal) s Φ := fun _ _ _ hi => ⟨n',s,Φ,_,hlt,h,hi⟩
theorem sx_cut {x y : Code} (J : St → (World → Prop) → Prop) (h1 : SXc P N S0 w0 (Exit.then (fun a w => ∃ s' Φ' L',J s' Φ' ∧ Inv N S0 w0 s' Φ' L' a w) Q) x s Φ) (h2 : ∀ s Φ,J s Φ → SXc P N S0 w0 Q y s Φ) : SXc P N S0 w0 Q (.seq x y) s Φ := fun L a w hi => by
 refine wp_seq (wp_mono (h1 L a w hi) ?_)
 intro e a' w' hq
 cases e with
 | normal =>
   obtain ⟨s',Φ',L',h2',h3⟩ := hq
   exact h2 s' Φ' h2' L' a' w' h3
 | exit id => exact hq
 | goto l => exact hq
 | ret => exact hq
 | panic ch => exact hq
 | outgrown => exact hq
theorem sx_meet {J : St → (World → Prop) → Prop} (h : J s Φ) : SXq N S0 w0 (Exit.then (fun a w => ∃ s' Φ' L',J s' Φ' ∧ Inv N S0 w0 s' Φ' L' a w) Q .normal) s Φ := fun _ _ _ hi => ⟨s,Φ,_,h,hi⟩
theorem st_does {n i : Nat} (d : Nat) {α : Type} [hα : Nonempty α] (sh : α → Value) (φ : α → World → Prop) (hi : Nat.blt i n = true) (hm : cls (opAt ops i).op = 2)
 (hw : s.wantB ops (opAt ops i) = some true) (hn : noSel (opAt ops i).op = true) (hv : (opAt ops i).op.operands.toList.all s.vB = true) (hd : (opAt ops i).dst = some d) (hN : Nat.blt d N = true)
 (hdo : ∀ w,Fr S0 w0 w → Φ w → Does P (opAt ops i) s.rho w (DoR sh φ w)) (K : ∀ x,StI P N S0 w0 ops Φ0 Q n (i + 1) (s.put d (.v (sh x))) (fun w => Φ w ∧ φ x w)) : StI P N S0 w0 ops Φ0 Q n i s Φ := by
 have hi' : i < n := Nat.le_of_ble_eq_true hi
 unfold StI
 rw [show n - i = (n - (i + 1)) + 1 by omega,List.range'_succ]
 exact .does hα sh φ hm hw hn hv hd (Nat.le_of_ble_eq_true hN) hdo K
end
def RowOf (w : World) (v : Value) (xs : List Nat) : Prop := ∃ A c,v = .slice A xs.length c ∧ xs.length ≤ c ∧ Shows .u32 w A xs
theorem RowOf.ext {w w' : World} {v : Value} {xs : List Nat} (h : RowOf w v xs) (he : Ext w w') : RowOf w' v xs := by
 obtain ⟨A,c,h1,h2,h3⟩ := h
 exact ⟨A,c,h1,h2,h3.ext he⟩
theorem RowOf.nrb {S : Nat → Prop} {w w' : World} {v : Value} {xs : List Nat} (h : RowOf w v xs) (hS : ∀ i,S i → NRB w i) (hF : Fr S w w') : RowOf w' v xs := by
 obtain ⟨A,c,h1,h2,h3⟩ := h
 exact ⟨A,c,h1,h2,h3.nrb (by decide) hS hF⟩
theorem RowOf.shows {w : World} {A : Option Addr} {l c : Nat} {xs : List Nat} (h : RowOf w (.slice A l c) xs) : xs.length = l ∧ xs.length ≤ c ∧ Shows .u32 w A xs := by
 obtain ⟨A',c',h1,h2,h3⟩ := h
 injection h1 with e1 e2 e3
 subst e1; subst e3
 exact ⟨e2.symm,h2,h3⟩
theorem MagIs.row {w : World} {v : Value} {n : Nat} (h : MagIs w v n) : ∃ xs,RowOf w v xs ∧ Dig W32 xs ∧ Trim xs ∧ val W32 xs = n := by
 obtain ⟨A,xs,c,h1,h2,h3,h4⟩ := h
 exact ⟨xs,⟨A,c,h1,h2,h3⟩,h4⟩
theorem run_append_new {P : Program} (w : World) (t ty e : TypeId) (k : IntKind) (bytes : Nat) (ht : P.underlying t = some (.slice e))
 (hinfo : (P.info? e).map (fun i => (i.zero,i.size,i.bytes)) = some (some (.int k 0),1,bytes)) (b a : Addr) (n m cap c : Nat) (xs news : List Nat) (hn : xs.length = n) (hm : news.length = m)
 (hB : Shows k w (some b) xs) (hX : Shows k w (some a) news) (hg : cap < n + m) (h63 : n + m ≤ maxLen) (hbytes : (n + m) * bytes ≤ 140737488355328) :
 ∃ g cap' w',(Builtin.append_ #[t,t] ty #[.slice (some b) n cap, .slice (some a) m c]).run P w = .ok (.slice (some ⟨g,0,none⟩) (n + m) cap') w' ∧ n + m ≤ cap' ∧ Own k e w' g (xs ++ news) ∧ Ext w w' := by
 obtain ⟨i,hi,hz,hs,hby⟩ := info_parts hinfo
 have cells : ∀ (zs : List Nat) (d : Addr),Shows k w (some d) zs → ∀ j u,(zs.map fun x : Nat => Value.int k (x : Int))[j]? = some u → w.cell? (d.add j) = some u := by
  intro zs d hZ j u hu
  rw [List.getElem?_map] at hu
  obtain ⟨x,hx,rfl⟩ := Option.map_eq_some_iff.1 hu
  have hj : j < zs.length := (List.getElem?_eq_some_iff.1 hx).1
  obtain ⟨b',off,h,_,hc⟩ := hZ.at hj
  injection h with h
  subst h
  rw [hx] at hc
  by_cases e0 : j = 0
  ·subst e0; simpa [Addr.add] using hc
  ·simpa [Addr.add,e0] using hc
 have hr := run_append_grow (P := P) (w := w) t ty e i (.int k 0) ht hi hz b n cap (xs.map fun x : Nat => Value.int k (x : Int)) (by rw [hs]; simp [hn]) (cells _ _ hB) a m c (news.map fun x : Nat => Value.int k (x : Int)) (by rw [hs]; simp [hm]) (cells _ _ hX) hg (by simp only [maxLen] at h63; omega) (growslice_fits (by omega) (by rw [hby]; exact hbytes))
 refine ⟨_,_,_,hr,?_,?_,((Fr.refl _ _).drew).alloc _⟩
 ·exact grownCap_ge _ _ _ _
 ·refine ⟨(Builtin.zeroCells (Value.int k 0).cells (grownCap w (n + m) cap e - (n + m))).toList,fun v hv => ?_,?_⟩
  ·rw [Array.mem_toList_iff] at hv
   simp only [Builtin.zeroCells] at hv
   obtain ⟨j,_,rfl⟩ := Array.mem_map.1 hv
   exact ⟨0,by simp [Value.cells,Nat.mod_one]⟩
  ·rw [show w.heap.size = w.drew.heap.size from rfl,heap_alloc_new]
   simp [cellsOf]
theorem Own.row {e : TypeId} {w : World} {g c : Nat} {xs : List Nat} (h : Own .u32 e w g xs) (hc : xs.length ≤ c) : RowOf w (.slice (some ⟨g,0,none⟩) xs.length c) xs := ⟨_,c,rfl,hc,h.shows0⟩
theorem does_append32 {P : Program} {o : Oper} {ρ : Operand → Value} {w : World} {x y : Operand} {t e : TypeId} (ho : o.op = .call { callee := .builtin .append,args := #[x,y],argTypes := #[t,t] }) (ht : P.underlying t = some (.slice e))
 (hinfo : (P.info? e).map (fun i => (i.zero,i.size,i.bytes)) = some (some (.int .u32 0),1,4)) {b : Addr} {A : Option Addr} {n m cap c : Nat} (hx : ρ x = .slice (some b) n cap) (hy : ρ y = .slice A m c) {xs news : List Nat}
 (hB : RowOf w (.slice (some b) n cap) xs) (hX : RowOf w (.slice A m c) news) (hg : cap < n + m) (h : n + m ≤ 35184372088832) : Does P o ρ w (DoR shNat (fun z w => RowOf w (shNat z) (xs ++ news)) w) := by
 obtain ⟨b1,b2,b3⟩ := hB.shows
 obtain ⟨x1,x2,x3⟩ := hX.shows
 obtain ⟨a,rfl⟩ : ∃ a,A = some a := by
  cases news with
  | nil => simp at x1; omega
  | cons z zs => obtain ⟨g,off,e,_⟩ := x3.at (i := 0) (by simp); exact ⟨_,e⟩
 obtain ⟨g,cap',w',hr,h1,h2,h3⟩ := run_append_new (P := P) w t o.type e .u32 4 ht hinfo b a n m cap c xs news b1 x1 b3 x3 hg (by simp only [maxLen]; omega) (by omega)
 refine Or.inl ⟨.slice (some ⟨g,0,none⟩) (n + m) cap',w',?_,(some ⟨g,0,none⟩,n + m,cap'),rfl,h3,boxn h3 (fun S w'' hS hF => ?_)⟩
 ·simp only [execOp,ho,resolve,invoke,builtin,Sem.run_bind,Sem.run_pure,Result.andThen_ok,List.map_toArray,List.map_cons,List.map_nil,hx,hy,hr]
 ·have := (h2.row (c := cap') (by simp; omega)).nrb hS hF
  simpa [shNat,b1,x1] using this
theorem does_make32 {P : Program} {o : Oper} {ρ : Operand → Value} {w : World} {l c : Operand} {t e : TypeId} (ho : o.op = Op.makeSlice t l c) (ht : P.underlying t = some (.slice e))
 (hinfo : (P.info? e).map (fun i => (i.zero,i.size,i.bytes)) = some (some (.int .u32 0),1,4)) {kl kc : IntKind} {n : Nat} (hl : ρ l = .int kl n) (hc : ρ c = .int kc n) (h : n ≤ 35184372088832) :
 Does P o ρ w (DoR (fun b : Nat => .slice (some ⟨b,0,none⟩) n n) (fun b w => RowOf w (.slice (some ⟨b,0,none⟩) n n) (List.replicate n 0)) w) := by
 have hrun := run_make_row' (P := P) t e (.int .u32 0) 4 ht hinfo rfl kl kc n (by omega) (by omega) w
 rw [madeCells_zero] at hrun
 have hE : Ext w (w.alloc (.cells (cellsOf .u32 (List.replicate n 0) []) e)) := (Fr.refl _ w).alloc _
 refine Or.inl ⟨.slice (some ⟨w.heap.size,0,none⟩) n n,_,by simp [execOp,ho,hl,hc,hrun,Result.andThen],w.heap.size,rfl,hE,boxn hE (fun S w'' hS hF => ?_)⟩
 have := ((Own.new w e .u32 (List.replicate n 0) []).row (c := n) (by simp)).nrb hS hF
 simpa using this
end Go.Proofs.YtndafmjcelgnbaaGreatDoor

namespace Go.Proofs.YtndafmjcelgnbaaGreatDoor
open Go.RowKit
set_option maxHeartbeats 2000000 in
set_option maxRecDepth 100000 in
theorem Quo_any (a b : Value) (x y : Int) (w : World) (ha : IntIs w a x) (hb : IntIs w b y) (hx : Fits x) (hy : wl y.natAbs < 80) (h0 : y ≠ 0) : Calls Tryz.prog 135 #[a,b] w (RetInt w (x.tdiv y)) := by
 obtain ⟨s,A,l,c,rfl⟩ := ha.shape
 obtain ⟨t,B,l',c',rfl⟩ := hb.shape
 have HA := zh ha
 have HB := zh hb
 have HX := zh hx
 have HY := zh hy
 have H0 := zh h0
 clear ha hb hx hy h0
 go_enter Tryz.func135,Tryz.ntmps135
 go_wp2_with fail
 generalize hwb : World.alloc (World.alloc (World.alloc w _) _) _ = wb
 obtain ⟨hB0,hB1,hB2,hE⟩ := three_blocks hwb
 clear hwb
 refine (IsOne_any _ y _ (HB.out.ext hE)).mono ?_
 by_cases h1 : y = 1
 ·rw [decide_eq_true h1]
  rintro e w1 ⟨rfl,hF⟩
  have HE := zh (hE.trans hF)
  have HB0 := zh (hB0.ext hF)
  have HB2 := zh (hB2.ext hF)
  have HQ : Hid (x.tdiv y = x) := by unfold Hid; rw [h1]; exact Int.tdiv_one x
  obtain ⟨x0,x1,_,_⟩ := HB0.out.cell2
  obtain ⟨y0,y1,y2,y3⟩ := HB2.out.cell2
  clear hE hF hB0 hB1 hB2 h1
  go_wp2
  refine fin_int2 rfl rfl (by omega) HE.out HB2.out (Fr.refl _ _) ?_
  rw [HQ.out]; exact HA.out.ext HE.out
 ·rw [decide_eq_false h1]
  rintro e w1 ⟨rfl,hF⟩
  have HE := zh (hE.trans hF)
  have HB0 := zh (hB0.ext hF)
  have HB1 := zh (hB1.ext hF)
  have HB2 := zh (hB2.ext hF)
  obtain ⟨x0,x1,_,_⟩ := HB0.out.cell2
  obtain ⟨z0,z1,_,_⟩ := HB1.out.cell2
  clear hE hF hB0 hB1 hB2 h1
  go_wp2_with fail
  refine (QuoRem_any _ _ x y _ (HA.out.ext HE.out) (HB.out.ext HE.out) HX.out HY.out H0.out).mono ?_
  rintro e w2 ⟨u1,u2,rfl,hN1,hN2,hF1⟩
  obtain ⟨s1,A1,l1,c1,rfl⟩ := hN1.shape
  obtain ⟨s2,A2,l2,c2,rfl⟩ := hN2.shape
  have HN1 := zh hN1
  have HE2 := zh (HE.out.trans hF1)
  have HB2' := zh (HB2.out.ext hF1)
  obtain ⟨y0,y1,y2,y3⟩ := HB2'.out.cell2
  have hlt1 := HB2'.out.lt
  have hlt2 := Nat.lt_succ_of_lt hlt1
  clear hN1 hN2 hF1 x0 x1 z0 z1
  go_wp2
  have hB := (HB2'.out.set_ 0 (.bool s1)).set_ 1 (.slice A1 l1 c1)
  refine bodyPost_ret (results_int rfl _ _ (w.heap.size + 1 + 1) _ _ rfl ((hB.alloc _).alloc _)) rfl ⟨_,rfl,?_,(((HE2.out.setCell (Or.inr (by simp; omega)) _).setCell (Or.inr (by simp; omega)) _).alloc _).alloc _⟩
  exact (HN1.out.store2 HB2'.out).ext (((Fr.refl _ _).alloc _).alloc _)
theorem frac_blocks {t u : TypeId} {w wb : World} {x y z : Array Value} (h : ((w.alloc (.cells x t)).alloc (.cells y t)).alloc (.cells z u) = wb) :
 Blk t wb w.heap.size x ∧ Blk t wb (w.heap.size + 1) y ∧ Blk u wb (w.heap.size + 1 + 1) z ∧ Ext w wb := by
 obtain ⟨h0,h1,h2⟩ := two_blocks (t := t) (w := w) (x := x) (y := y) rfl
 subst h
 have e2 : ((w.alloc (.cells x t)).alloc (.cells y t)).heap.size = w.heap.size + 1 + 1 := by simp
 have h3 := Blk.new ((w.alloc (.cells x t)).alloc (.cells y t)) u z
 rw [e2] at h3
 exact ⟨h0.alloc _,h1.alloc _,h3,h2.alloc _⟩
theorem keepI3 {t t' t'' : TypeId} {w w' : World} {g g' g'' : Nat} {x y x' y' x'' y'' : Value} (h : Blk t w g #[x,y]) (h' : Blk t' w g' #[x',y']) (h'' : Blk t'' w g'' #[x'',y'']) (hF : Ext w w') :
 (w'.cell? ⟨g,0,none⟩ = some x ∧ w'.cell? ⟨g,1,none⟩ = some y) ∧ (w'.cell? ⟨g',0,none⟩ = some x' ∧ w'.cell? ⟨g',1,none⟩ = some y') ∧ (w'.cell? ⟨g'',0,none⟩ = some x'' ∧ w'.cell? ⟨g'',1,none⟩ = some y'') :=
 ⟨⟨(h.ext hF).cell 0,(h.ext hF).cell 1⟩,⟨(h'.ext hF).cell 0,(h'.ext hF).cell 1⟩,⟨(h''.ext hF).cell 0,(h''.ext hF).cell 1⟩⟩
theorem gcd_ne {x y : Int} (hy : 0 < y) : ((Int.gcd x y : Nat) : Int) ≠ 0 := by
 have : Int.gcd x y ≠ 0 := fun h => by rw [Int.gcd_eq_zero_iff] at h; omega
 omega
theorem gcd_wl {x y : Int} (hy : 0 < y) (h : wl y.natAbs < 80) : wl (((Int.gcd x y : Nat) : Int)).natAbs < 80 := by
 have h1 : Int.gcd x y ≤ y.natAbs := Nat.gcd_le_right _ (by omega)
 have := wl_mono h1
 rw [Int.natAbs_natCast]
 omega
theorem frac_gcd {x y : Int} (hy : 0 < y) : (Rat.divInt x y).num = x.tdiv (Int.gcd x y : Int) ∧ ((Rat.divInt x y).den : Int) = y.tdiv (Int.gcd x y : Int) := by
 have hd1 : (Int.gcd x y : Int) ∣ x := Int.gcd_dvd_left _ _
 have hd2 : (Int.gcd x y : Int) ∣ y := Int.gcd_dvd_right _ _
 rw [Rat.num_divInt,Rat.den_divInt,if_neg (by omega),Int.sign_eq_one_of_pos hy,Int.one_mul,Int.gcd_comm y x,Int.tdiv_eq_ediv_of_dvd hd1,Int.tdiv_eq_ediv_of_dvd hd2]
 refine ⟨rfl,?_⟩
 rw [Int.natCast_ediv]
 congr 1
 omega
theorem frac_coprime {x y : Int} (hy : 0 < y) (h : ((Int.gcd x y : Nat) : Int) = 1) : (Rat.divInt x y).num = x ∧ ((Rat.divInt x y).den : Int) = y := by
 have := frac_gcd (x := x) hy
 rwa [h,Int.tdiv_one,Int.tdiv_one] at this
theorem frac_one {x y : Int} (h : y = 1) : (Rat.divInt x y).num = x ∧ denF (Rat.divInt x y) = 0 := by
 have h1 := frac_coprime (x := x) (y := y) (by omega) (by rw [h,Int.gcd_one]; rfl)
 refine ⟨h1.1,denF_zero.2 ?_⟩
 have := h1.2
 omega
set_option maxHeartbeats 4000000 in
set_option maxRecDepth 100000 in
theorem Fraction_pos (a b : Value) (x y : Int) (w : World) (hgl : Glob w) (ha : IntIs w a x) (hb : IntIs w b y) (hfx : Fits x) (hfy : Fits y) (hgk : GcdOk x y) (h80 : wl y.natAbs < 80) (hx0 : x ≠ 0) (hy : 0 < y) : Calls Tryz.prog 124 #[a,b] w (RetRat w (Rat.divInt x y)) := by
 obtain ⟨s,A,l,c,rfl⟩ := ha.shape
 obtain ⟨t,B,l',c',rfl⟩ := hb.shape
 have HA := zh ha
 have HB := zh hb
 have HGl := zh hgl
 have HFx := zh hfx
 have HFy := zh hfy
 have HGk := zh hgk
 have Hy80 := zh h80
 clear ha hb hfx hfy hgk h80 hgl
 go_enter Tryz.func124,Tryz.ntmps124
 go_wp2_with fail
 generalize hwb : World.alloc (World.alloc (World.alloc w _) _) _ = wb
 obtain ⟨hB0,hB1,hB2,hE⟩ := frac_blocks hwb
 have HX : Hid (IntAt wb w.heap.size x) := ⟨_,_,_,_,hB0,HA.out.ext hE⟩
 have HY : Hid (IntAt wb (w.heap.size + 1) y) := ⟨_,_,_,_,hB1,HB.out.ext hE⟩
 have HR := zh hB2
 have HE := zh hE
 have hrR : w.heap.size ≤ w.heap.size + 1 + 1 := by omega
 have hXY : w.heap.size ≠ w.heap.size + 1 := by omega
 have hXR : w.heap.size ≠ w.heap.size + 1 + 1 := by omega
 have hYR : w.heap.size + 1 ≠ w.heap.size + 1 + 1 := by omega
 have HB1 := zh (HB.out.ext hE)
 clear hwb hB0 hB1 hB2 hE HA HB
 generalize hRr : w.heap.size + 1 + 1 = Rr at *
 generalize hYy : w.heap.size + 1 = Y at *
 obtain ⟨X,hXx⟩ : ∃ X,w.heap.size = X := ⟨_,rfl⟩
 rw [hXx] at HX hXY hXR
 rw [hXx]
 refine (IsZero_any _ y _ HB1.out).mono ?_
 rw [decide_eq_false (show ¬ y = 0 by omega)]
 rintro e w1 ⟨rfl,hF⟩
 clear HB1
 replace HX := zh (HX.out.ext hF)
 replace HY := zh (HY.out.ext hF)
 replace HR := zh (HR.out.ext hF)
 replace HE := zh (HE.out.trans hF)
 clear hF
 obtain ⟨sx,Ax,lx,cx,hBx,hIx⟩ := HX.out
 obtain ⟨sy,Ay,ly,cy,hBy,hIy⟩ := HY.out
 obtain ⟨bx0,bx1,bx2,bx3⟩ := hBx.cell2
 obtain ⟨by0,by1,by2,by3⟩ := hBy.cell2
 have HIx := zh hIx
 have HIy := zh hIy
 have HBx := zh hBx
 have HBy := zh hBy
 clear hBx hBy hIx hIy
 go_wp2_with fail
 refine (IsZero_any _ x _ HIx.out).mono ?_
 rw [decide_eq_false hx0]
 rintro e w2 ⟨rfl,hF⟩
 clear bx0 bx1 bx2 bx3 by0 by1 by2 by3 HIx HIy HBx HBy
 replace HX := zh (HX.out.ext hF)
 replace HY := zh (HY.out.ext hF)
 replace HR := zh (HR.out.ext hF)
 replace HE := zh (HE.out.trans hF)
 clear hF
 obtain ⟨sx,Ax,lx,cx,hBx,hIx⟩ := HX.out
 obtain ⟨sy,Ay,ly,cy,hBy,hIy⟩ := HY.out
 obtain ⟨bx0,bx1,bx2,bx3⟩ := hBx.cell2
 obtain ⟨by0,by1,by2,by3⟩ := hBy.cell2
 have HIx := zh hIx
 have HIy := zh hIy
 have HBx := zh hBx
 have HBy := zh hBy
 clear hBx hBy hIx hIy
 go_wp2_with fail
 refine (Sign_any _ y _ HIy.out).mono ?_
 rw [Int.sign_eq_one_of_pos hy]
 rintro e w3 ⟨rfl,hF⟩
 clear bx0 bx1 bx2 bx3 by0 by1 by2 by3 HIx HIy HBx HBy
 replace HX := zh (HX.out.ext hF)
 replace HY := zh (HY.out.ext hF)
 replace HR := zh (HR.out.ext hF)
 replace HE := zh (HE.out.trans hF)
 clear hF
 have HG : Hid (Glob _) := HGl.out.ext HE.out
 obtain ⟨sx,Ax,lx,cx,hBx,hIx⟩ := HX.out
 obtain ⟨sy,Ay,ly,cy,hBy,hIy⟩ := HY.out
 obtain ⟨bx0,bx1,bx2,bx3⟩ := hBx.cell2
 obtain ⟨by0,by1,by2,by3⟩ := hBy.cell2
 have HIx := zh hIx
 have HIy := zh hIy
 have HBx := zh hBx
 have HBy := zh hBy
 clear hBx hBy hIx hIy
 go_wp2_with fail
 refine (IsOne_any _ y _ HIy.out).mono ?_
 by_cases h1 : y = 1
 ·rw [decide_eq_true h1]
  rintro e wa ⟨rfl,hF⟩
  have HQ : Hid ((Rat.divInt x y).num = x ∧ denF (Rat.divInt x y) = 0) := frac_one h1
  clear bx0 bx1 bx2 bx3 by0 by1 by2 by3 HIx HIy HBx HBy
  replace HX := zh (HX.out.ext hF)
  replace HY := zh (HY.out.ext hF)
  replace HR := zh (HR.out.ext hF)
  replace HE := zh (HE.out.trans hF)
  clear hF
  obtain ⟨sx,Ax,lx,cx,hBx,hIx⟩ := HX.out
  obtain ⟨sy,Ay,ly,cy,hBy,hIy⟩ := HY.out
  obtain ⟨bx0,bx1,bx2,bx3⟩ := hBx.cell2
  obtain ⟨by0,by1,by2,by3⟩ := hBy.cell2
  have HIx := zh hIx
  have HIy := zh hIy
  have HBx := zh hBx
  have HBy := zh hBy
  clear hBx hBy hIx hIy
  obtain ⟨y0,y1,y2,y3,y4,y5,y6,y7⟩ := HR.out.cell4
  clear h1
  go_wp2
  refine fin_rat rfl rfl (HR.out.put4 _ _ _ _) ?_ ?_ (Fr.local_ HE.out (Fr.set4 _ _ _ _) hrR)
  ·rw [HQ.out.1]; exact HIx.out.other HR.out noWords4 (Fr.set4 _ _ _ _)
  ·rw [HQ.out.2]; exact IntIs.zero _
 ·rw [decide_eq_false h1]
  rintro e wa ⟨rfl,hF⟩
  clear bx0 bx1 bx2 bx3 by0 by1 by2 by3 HIx HIy HBx HBy
  replace HX := zh (HX.out.ext hF)
  replace HY := zh (HY.out.ext hF)
  replace HR := zh (HR.out.ext hF)
  replace HE := zh (HE.out.trans hF)
  clear hF
  obtain ⟨sx,Ax,lx,cx,hBx,hIx⟩ := HX.out
  obtain ⟨sy,Ay,ly,cy,hBy,hIy⟩ := HY.out
  obtain ⟨bx0,bx1,bx2,bx3⟩ := hBx.cell2
  obtain ⟨by0,by1,by2,by3⟩ := hBy.cell2
  have HIx := zh hIx
  have HIy := zh hIy
  have HBx := zh hBx
  have HBy := zh hBy
  clear hBx hBy hIx hIy
  clear h1
  go_wp2_with fail
  refine (GCD_any _ _ x y _ (HGl.out.ext HE.out) HIx.out HIy.out HFx.out HFy.out HGk.out).mono ?_
  rintro e wg ⟨ug,rfl,hIg,hF⟩
  obtain ⟨sg_,Ag,lg,cg,rfl⟩ := hIg.shape
  have HIg := zh hIg
  clear hIg
  clear bx0 bx1 bx2 bx3 by0 by1 by2 by3 HIx HIy HBx HBy
  replace HX := zh (HX.out.ext hF)
  replace HY := zh (HY.out.ext hF)
  replace HR := zh (HR.out.ext hF)
  replace HE := zh (HE.out.trans hF)
  clear hF
  obtain ⟨sx,Ax,lx,cx,hBx,hIx⟩ := HX.out
  obtain ⟨sy,Ay,ly,cy,hBy,hIy⟩ := HY.out
  obtain ⟨bx0,bx1,bx2,bx3⟩ := hBx.cell2
  obtain ⟨by0,by1,by2,by3⟩ := hBy.cell2
  have HIx := zh hIx
  have HIy := zh hIy
  have HBx := zh hBx
  have HBy := zh hBy
  clear hBx hBy hIx hIy
  go_wp2_with fail
  generalize hwb : World.alloc wg _ = wh
  obtain ⟨hBg,hF⟩ := Blk.one hwb
  have HAg : Hid (IntAt wh wg.heap.size (Int.gcd x y : Int)) := ⟨_,_,_,_,hBg,HIg.out.ext hF⟩
  have hXg : X < wg.heap.size := HBx.out.lt
  have hYg : Y < wg.heap.size := HBy.out.lt
  have hRg : Rr < wg.heap.size := HR.out.lt
  generalize wg.heap.size = G at *
  replace HIg := zh (HIg.out.ext hF)
  clear hwb
  clear bx0 bx1 bx2 bx3 by0 by1 by2 by3 HIx HIy HBx HBy
  replace HX := zh (HX.out.ext hF)
  replace HY := zh (HY.out.ext hF)
  replace HR := zh (HR.out.ext hF)
  replace HE := zh (HE.out.trans hF)
  clear hF
  obtain ⟨sx,Ax,lx,cx,hBx,hIx⟩ := HX.out
  obtain ⟨sy,Ay,ly,cy,hBy,hIy⟩ := HY.out
  obtain ⟨bx0,bx1,bx2,bx3⟩ := hBx.cell2
  obtain ⟨by0,by1,by2,by3⟩ := hBy.cell2
  have HIx := zh hIx
  have HIy := zh hIy
  have HBx := zh hBx
  have HBy := zh hBy
  clear hBx hBy hIx hIy
  refine (IsOne_any _ _ _ HIg.out).mono ?_
  by_cases h2 : ((Int.gcd x y : Nat) : Int) = 1
  ·rw [decide_eq_true h2]
   rintro e wi ⟨rfl,hF⟩
   have HQ : Hid ((Rat.divInt x y).num = x ∧ ((Rat.divInt x y).den : Int) = y) := frac_coprime hy h2
   clear h2 HAg HIg
   clear bx0 bx1 bx2 bx3 by0 by1 by2 by3 HIx HIy HBx HBy
   replace HX := zh (HX.out.ext hF)
   replace HY := zh (HY.out.ext hF)
   replace HR := zh (HR.out.ext hF)
   replace HE := zh (HE.out.trans hF)
   clear hF
   obtain ⟨sx,Ax,lx,cx,hBx,hIx⟩ := HX.out
   obtain ⟨sy,Ay,ly,cy,hBy,hIy⟩ := HY.out
   obtain ⟨bx0,bx1,bx2,bx3⟩ := hBx.cell2
   obtain ⟨by0,by1,by2,by3⟩ := hBy.cell2
   have HIx := zh hIx
   have HIy := zh hIy
   have HBx := zh hBx
   have HBy := zh hBy
   clear hBx hBy hIx hIy
   go_wp2_with fail
   refine (lowest_any _ _ x y (Rat.divInt x y) _ HIx.out HIy.out HQ.out).mono ?_
   rintro e wl_ ⟨ul,rfl,hRl,hF⟩
   obtain ⟨s,t,A,B,l,c,l',c',rfl,hIn,hId⟩ := hRl
   have HIn := zh hIn
   have HId := zh hId
   clear hIn hId
   clear bx0 bx1 bx2 bx3 by0 by1 by2 by3 HIx HIy HBx HBy
   replace HX := zh (HX.out.ext hF)
   replace HY := zh (HY.out.ext hF)
   replace HR := zh (HR.out.ext hF)
   replace HE := zh (HE.out.trans hF)
   clear hF
   obtain ⟨y0,y1,y2,y3,y4,y5,y6,y7⟩ := HR.out.cell4
   go_wp2
   exact fin_rat rfl rfl (HR.out.put4 _ _ _ _) (HIn.out.other HR.out noWords4 (Fr.set4 _ _ _ _)) (HId.out.other HR.out noWords4 (Fr.set4 _ _ _ _)) (Fr.local_ HE.out (Fr.set4 _ _ _ _) hrR)
  ·rw [decide_eq_false h2]
   rintro e wi ⟨rfl,hF⟩
   have HQ : Hid ((Rat.divInt x y).num = x.tdiv (Int.gcd x y : Int) ∧ ((Rat.divInt x y).den : Int) = y.tdiv (Int.gcd x y : Int)) := frac_gcd hy
   have Hg0 : Hid (((Int.gcd x y : Nat) : Int) ≠ 0) := gcd_ne hy
   have Hg80 : Hid (wl (((Int.gcd x y : Nat) : Int)).natAbs < 80) := gcd_wl hy Hy80.out
   clear h2 HIg
   clear bx0 bx1 bx2 bx3 by0 by1 by2 by3 HIx HIy HBx HBy
   replace HX := zh (HX.out.ext hF)
   replace HY := zh (HY.out.ext hF)
   replace HR := zh (HR.out.ext hF)
   replace HAg := zh (HAg.out.ext hF)
   replace HE := zh (HE.out.trans hF)
   clear hF
   obtain ⟨sx,Ax,lx,cx,hBx,hIx⟩ := HX.out
   obtain ⟨sy,Ay,ly,cy,hBy,hIy⟩ := HY.out
   obtain ⟨bx0,bx1,bx2,bx3⟩ := hBx.cell2
   obtain ⟨by0,by1,by2,by3⟩ := hBy.cell2
   have HIx := zh hIx
   have HIy := zh hIy
   have HBx := zh hBx
   have HBy := zh hBy
   clear hBx hBy hIx hIy
   obtain ⟨sg_,Ag,lg,cg,hBg,hIg⟩ := HAg.out
   have HBg := zh hBg
   have HIg := zh hIg
   clear hBg hIg
   generalize ((Int.gcd x y : Nat) : Int) = g at *
   obtain ⟨x',hx'⟩ : ∃ x',x.tdiv g = x' := ⟨_,rfl⟩
   obtain ⟨y',hy'⟩ : ∃ y',y.tdiv g = y' := ⟨_,rfl⟩
   go_wp2_with fail
   refine wp_region_T 6 (fun w' => (w'.cell? ⟨X,0,none⟩ = some (.bool sx) ∧ w'.cell? ⟨X,1,none⟩ = some (.slice Ax lx cx)) ∧ (w'.cell? ⟨Y,0,none⟩ = some (.bool sy) ∧ w'.cell? ⟨Y,1,none⟩ = some (.slice Ay ly cy)) ∧ (w'.cell? ⟨G,0,none⟩ = some (.bool sg_) ∧ w'.cell? ⟨G,1,none⟩ = some (.slice Ag lg cg))) follows_mixed ?_
   refine wpT_take 0 rfl (by kernel_rfl) (fun _ _ _ h => h) (keepI3 HBx.out HBy.out HBg.out (Fr.refl _ _).drew) (fun _ => yields_int rfl rfl rfl (fun _ h => h.1)) (fun hS => ?_)
   refine wpT_take 1 rfl (by kernel_rfl) (fun _ _ _ h => h) hS (fun _ => yields_int rfl rfl rfl (fun _ h => h.2.2)) (fun hS => ?_)
   refine wpT_take 3 rfl (by kernel_rfl) (fun _ _ _ h => h) hS (fun _ => yields_int rfl rfl rfl (fun _ h => h.2.1)) (fun hS => ?_)
   refine wpT_take 4 rfl (by kernel_rfl) (fun _ _ _ h => h) hS (fun _ => yields_int rfl rfl rfl (fun _ h => h.2.2)) (fun hS => ?_)
   refine wpT_only 2 rfl (by kernel_rfl) rfl (fun K hK => ?_)
   go_simp
   refine (Quo_any _ _ x g _ (HIx.out.ext (Fr.refl _ _).drew) (HIg.out.ext (Fr.refl _ _).drew) HFx.out Hg80.out Hg0.out).mono ?_
   rw [hx']
   rintro e wq ⟨uq,rfl,hIq,hFq⟩
   obtain ⟨sq,Aq,lq,cq,rfl⟩ := hIq.shape
   replace hFq := Fr.undrew hFq
   refine hK _ _ (keepI3 HBx.out HBy.out HBg.out hFq) ?_
   refine wpT_only 5 rfl (by kernel_rfl) rfl (fun K hK => ?_)
   go_simp
   refine (Quo_any _ _ y g _ (HIy.out.ext hFq) (HIg.out.ext hFq) HFy.out Hg80.out Hg0.out).mono ?_
   rw [hy']
   rintro e wr ⟨ur,rfl,hIr,hFr⟩
   obtain ⟨sr,Ar,lr,cr,rfl⟩ := hIr.shape
   refine hK _ _ (keepI3 HBx.out HBy.out HBg.out (hFq.trans hFr)) ?_
   clear hK
   have hIq := hIq.ext hFr
   have hF := hFq.trans hFr
   have HIq := zh hIq
   have HIr := zh hIr
   have HQ' : Hid ((Rat.divInt x y).num = x' ∧ ((Rat.divInt x y).den : Int) = y') := by rw [Hid,← hx',← hy']; exact HQ.out
   clear hFq hFr hIr hIq hx' hy' HAg HIg HBg hS
   clear bx0 bx1 bx2 bx3 by0 by1 by2 by3 HIx HIy HBx HBy
   replace HX := zh (HX.out.ext hF)
   replace HY := zh (HY.out.ext hF)
   replace HR := zh (HR.out.ext hF)
   replace HE := zh (HE.out.trans hF)
   clear hF
   obtain ⟨sx,Ax,lx,cx,hBx,hIx⟩ := HX.out
   obtain ⟨sy,Ay,ly,cy,hBy,hIy⟩ := HY.out
   obtain ⟨bx0,bx1,bx2,bx3⟩ := hBx.cell2
   obtain ⟨by0,by1,by2,by3⟩ := hBy.cell2
   have HIx := zh hIx
   have HIy := zh hIy
   have HBx := zh hBx
   have HBy := zh hBy
   clear hBx hBy hIx hIy
   refine wpT_tail (l := [_,_]) 6 rfl (by kernel_rfl) ?_
   go_wp2_with fail
   have k1 := IntIs.away (a := .bool sq) (b := .slice Aq lq cq) HIq.out HX.out
   have k2 := IntIs.away (a := .bool sq) (b := .slice Aq lq cq) HIr.out HX.out
   have k3 := HX.out.put HIq.out
   have k4 := IntAt.away (a := .bool sq) (b := .slice Aq lq cq) HY.out HX.out (Ne.symm hXY)
   have k5 := HR.out.fr (Fr.set2 (r := X) (i := 0) (j := 1) (.bool sq) (.slice Aq lq cq)) (Ne.symm hXR)
   have k6 := Fr.local_ HE.out (Fr.set2 (r := X) (i := 0) (j := 1) (.bool sq) (.slice Aq lq cq)) (Nat.le_of_eq hXx)
   generalize World.setCell (World.setCell _ ⟨X,0,none⟩ _) ⟨X,1,none⟩ _ = wx at *
   have m1 := IntIs.away (a := .bool sr) (b := .slice Ar lr cr) k1 k4
   have m2 := IntIs.away (a := .bool sr) (b := .slice Ar lr cr) k2 k4
   have m5 := k5.fr (Fr.set2 (r := Y) (i := 0) (j := 1) (.bool sr) (.slice Ar lr cr)) (Ne.symm hYR)
   have m6 := Fr.local_ k6 (Fr.set2 (r := Y) (i := 0) (j := 1) (.bool sr) (.slice Ar lr cr)) (by omega)
   generalize World.setCell (World.setCell wx ⟨Y,0,none⟩ _) ⟨Y,1,none⟩ _ = wy at *
   have HR2 := zh m5
   have HE2 := zh m6
   refine (lowest_any _ _ x' y' (Rat.divInt x y) _ m1 m2 HQ'.out).mono ?_
   rintro e wl_ ⟨ul,rfl,hRl,hF⟩
   obtain ⟨s,t,A,B,l,c,l',c',rfl,hIn,hId⟩ := hRl
   have HIn := zh hIn
   have HId := zh hId
   have HR3 := zh (HR2.out.ext hF)
   have HE3 := zh (HE2.out.trans hF)
   clear hIn hId hF k1 k2 k3 k4 k5 k6 m1 m2 m5 m6
   obtain ⟨y0,y1,y2,y3,y4,y5,y6,y7⟩ := HR3.out.cell4
   go_wp2
   exact fin_rat rfl rfl (HR3.out.put4 _ _ _ _) (HIn.out.other HR3.out noWords4 (Fr.set4 _ _ _ _)) (HId.out.other HR3.out noWords4 (Fr.set4 _ _ _ _)) (Fr.local_ HE3.out (Fr.set4 _ _ _ _) hrR)
set_option maxHeartbeats 4000000 in
set_option maxRecDepth 100000 in
theorem Fraction_zero (a b : Value) (x y : Int) (w : World) (ha : IntIs w a x) (hb : IntIs w b y) (hx0 : x = 0) (hy : y ≠ 0) : Calls Tryz.prog 124 #[a,b] w (RetRat w 0) := by
 obtain ⟨s,A,l,c,rfl⟩ := ha.shape
 obtain ⟨t,B,l',c',rfl⟩ := hb.shape
 have HA := zh ha
 have HB := zh hb
 clear ha hb
 go_enter Tryz.func124,Tryz.ntmps124
 go_wp2_with fail
 generalize hwb : World.alloc (World.alloc (World.alloc w _) _) _ = wb
 obtain ⟨hB0,hB1,hB2,hE⟩ := frac_blocks hwb
 have HX : Hid (IntAt wb w.heap.size x) := ⟨_,_,_,_,hB0,HA.out.ext hE⟩
 have HY : Hid (IntAt wb (w.heap.size + 1) y) := ⟨_,_,_,_,hB1,HB.out.ext hE⟩
 have HR := zh hB2
 have HE := zh hE
 have HB1 := zh (HB.out.ext hE)
 clear hwb hB0 hB1 hB2 hE HA HB
 refine (IsZero_any _ y _ HB1.out).mono ?_
 rw [decide_eq_false hy]
 rintro e w1 ⟨rfl,hF⟩
 clear HB1
 replace HX := zh (HX.out.ext hF)
 replace HY := zh (HY.out.ext hF)
 replace HR := zh (HR.out.ext hF)
 replace HE := zh (HE.out.trans hF)
 clear hF
 obtain ⟨sx,Ax,lx,cx,hBx,hIx⟩ := HX.out
 obtain ⟨sy,Ay,ly,cy,hBy,hIy⟩ := HY.out
 obtain ⟨bx0,bx1,bx2,bx3⟩ := hBx.cell2
 obtain ⟨by0,by1,by2,by3⟩ := hBy.cell2
 have HIx := zh hIx
 have HIy := zh hIy
 have HBx := zh hBx
 have HBy := zh hBy
 clear hBx hBy hIx hIy
 go_wp2_with fail
 refine (IsZero_any _ x _ HIx.out).mono ?_
 rw [decide_eq_true hx0]
 rintro e w2 ⟨rfl,hF⟩
 clear bx0 bx1 bx2 bx3 by0 by1 by2 by3 HIx HIy HBx HBy
 replace HX := zh (HX.out.ext hF)
 replace HY := zh (HY.out.ext hF)
 replace HR := zh (HR.out.ext hF)
 replace HE := zh (HE.out.trans hF)
 clear hF
 obtain ⟨y0,y1,y2,y3,y4,y5,y6,y7⟩ := HR.out.cell4
 clear hx0 hy
 go_wp2
 exact fin_rat rfl rfl (HR.out.put4 _ _ _ _) (IntIs.zero _) (IntIs.zero _) (Fr.local_ HE.out (Fr.set4 _ _ _ _) (by omega))
set_option maxHeartbeats 4000000 in
set_option maxRecDepth 100000 in
theorem Fraction_neg (a b : Value) (xo yo x y : Int) (w : World) (hgl : Glob w) (ha : IntIs w a xo) (hb : IntIs w b yo) (hxo : -xo = x) (hyo : -yo = y) (hfx : Fits x) (hfy : Fits y) (hgk : GcdOk x y) (h80 : wl y.natAbs < 80) (hx0 : x ≠ 0) (hy : 0 < y) : Calls Tryz.prog 124 #[a,b] w (RetRat w (Rat.divInt x y)) := by
 obtain ⟨s,A,l,c,rfl⟩ := ha.shape
 obtain ⟨t,B,l',c',rfl⟩ := hb.shape
 have HA := zh ha
 have HB := zh hb
 have HGl := zh hgl
 have HFx := zh hfx
 have HFy := zh hfy
 have HGk := zh hgk
 have Hy80 := zh h80
 have Hxo := zh hxo
 have Hyo := zh hyo
 have hyn : yo < 0 := by omega
 have hxn : ¬ xo = 0 := by omega
 clear ha hb hfx hfy hgk h80 hgl hxo hyo
 go_enter Tryz.func124,Tryz.ntmps124
 go_wp2_with fail
 generalize hwb : World.alloc (World.alloc (World.alloc w _) _) _ = wb
 obtain ⟨hB0,hB1,hB2,hE⟩ := frac_blocks hwb
 have HX : Hid (IntAt wb w.heap.size xo) := ⟨_,_,_,_,hB0,HA.out.ext hE⟩
 have HY : Hid (IntAt wb (w.heap.size + 1) yo) := ⟨_,_,_,_,hB1,HB.out.ext hE⟩
 have HR := zh hB2
 have HE := zh hE
 have hrR : w.heap.size ≤ w.heap.size + 1 + 1 := by omega
 have hXY : w.heap.size ≠ w.heap.size + 1 := by omega
 have hXR : w.heap.size ≠ w.heap.size + 1 + 1 := by omega
 have hYR : w.heap.size + 1 ≠ w.heap.size + 1 + 1 := by omega
 have HB1 := zh (HB.out.ext hE)
 clear hwb hB0 hB1 hB2 hE HA HB
 generalize hRr : w.heap.size + 1 + 1 = Rr at *
 generalize hYy : w.heap.size + 1 = Y at *
 obtain ⟨X,hXx⟩ : ∃ X,w.heap.size = X := ⟨_,rfl⟩
 rw [hXx] at HX hXY hXR
 rw [hXx]
 refine (IsZero_any _ yo _ HB1.out).mono ?_
 rw [decide_eq_false (show ¬ yo = 0 by omega)]
 rintro e w1 ⟨rfl,hF⟩
 clear HB1
 replace HX := zh (HX.out.ext hF)
 replace HY := zh (HY.out.ext hF)
 replace HR := zh (HR.out.ext hF)
 replace HE := zh (HE.out.trans hF)
 clear hF
 obtain ⟨sx,Ax,lx,cx,hBx,hIx⟩ := HX.out
 obtain ⟨sy,Ay,ly,cy,hBy,hIy⟩ := HY.out
 obtain ⟨bx0,bx1,bx2,bx3⟩ := hBx.cell2
 obtain ⟨by0,by1,by2,by3⟩ := hBy.cell2
 have HIx := zh hIx
 have HIy := zh hIy
 have HBx := zh hBx
 have HBy := zh hBy
 clear hBx hBy hIx hIy
 go_wp2_with fail
 refine (IsZero_any _ xo _ HIx.out).mono ?_
 rw [decide_eq_false hxn]
 rintro e w2 ⟨rfl,hF⟩
 clear bx0 bx1 bx2 bx3 by0 by1 by2 by3 HIx HIy HBx HBy
 replace HX := zh (HX.out.ext hF)
 replace HY := zh (HY.out.ext hF)
 replace HR := zh (HR.out.ext hF)
 replace HE := zh (HE.out.trans hF)
 clear hF
 obtain ⟨sx,Ax,lx,cx,hBx,hIx⟩ := HX.out
 obtain ⟨sy,Ay,ly,cy,hBy,hIy⟩ := HY.out
 obtain ⟨bx0,bx1,bx2,bx3⟩ := hBx.cell2
 obtain ⟨by0,by1,by2,by3⟩ := hBy.cell2
 have HIx := zh hIx
 have HIy := zh hIy
 have HBx := zh hBx
 have HBy := zh hBy
 clear hBx hBy hIx hIy
 go_wp2_with fail
 refine (Sign_any _ yo _ HIy.out).mono ?_
 rw [Int.sign_eq_neg_one_of_neg hyn]
 rintro e w3 ⟨rfl,hF⟩
 clear bx0 bx1 bx2 bx3 by0 by1 by2 by3 HIx HIy HBx HBy
 replace HX := zh (HX.out.ext hF)
 replace HY := zh (HY.out.ext hF)
 replace HR := zh (HR.out.ext hF)
 replace HE := zh (HE.out.trans hF)
 clear hF
 obtain ⟨sx,Ax,lx,cx,hBx,hIx⟩ := HX.out
 obtain ⟨sy,Ay,ly,cy,hBy,hIy⟩ := HY.out
 obtain ⟨bx0,bx1,bx2,bx3⟩ := hBx.cell2
 obtain ⟨by0,by1,by2,by3⟩ := hBy.cell2
 have HIx := zh hIx
 have HIy := zh hIy
 have HBx := zh hBx
 have HBy := zh hBy
 clear hBx hBy hIx hIy
 go_wp2_with fail
 refine wp_region_T 4 (fun w' => (w'.cell? ⟨X,0,none⟩ = some (.bool sx) ∧ w'.cell? ⟨X,1,none⟩ = some (.slice Ax lx cx)) ∧ (w'.cell? ⟨Y,0,none⟩ = some (.bool sy) ∧ w'.cell? ⟨Y,1,none⟩ = some (.slice Ay ly cy))) follows_mixed ?_
 refine wpT_take 0 rfl (by kernel_rfl) (fun _ _ _ h => h) (keepI2 HBx.out HBy.out (Fr.refl _ _).drew) (fun _ => yields_int rfl rfl rfl (fun _ h => h.1)) (fun hS => ?_)
 refine wpT_take 2 rfl (by kernel_rfl) (fun _ _ _ h => h) hS (fun _ => yields_int rfl rfl rfl (fun _ h => h.2)) (fun hS => ?_)
 refine wpT_only 1 rfl (by kernel_rfl) rfl (fun K hK => ?_)
 go_simp
 refine (Neg_any _ xo _ (HIx.out.ext (Fr.refl _ _).drew)).mono ?_
 rw [Hxo.out]
 rintro e wq ⟨uq,rfl,hIq,hFq⟩
 obtain ⟨sq,Aq,lq,cq,rfl⟩ := hIq.shape
 replace hFq := Fr.undrew hFq
 refine hK _ _ (keepI2 HBx.out HBy.out hFq) ?_
 refine wpT_only 3 rfl (by kernel_rfl) rfl (fun K hK => ?_)
 go_simp
 refine (Neg_any _ yo _ (HIy.out.ext hFq)).mono ?_
 rw [Hyo.out]
 rintro e wr ⟨ur,rfl,hIr,hFr⟩
 obtain ⟨sr,Ar,lr,cr,rfl⟩ := hIr.shape
 refine hK _ _ (keepI2 HBx.out HBy.out (hFq.trans hFr)) ?_
 clear hK
 have hIq := hIq.ext hFr
 have hF := hFq.trans hFr
 have HIq := zh hIq
 have HIr := zh hIr
 clear hFq hFr hIr hIq hS
 clear bx0 bx1 bx2 bx3 by0 by1 by2 by3 HIx HIy HBx HBy
 replace HX := zh (HX.out.ext hF)
 replace HY := zh (HY.out.ext hF)
 replace HR := zh (HR.out.ext hF)
 replace HE := zh (HE.out.trans hF)
 clear hF
 obtain ⟨sx,Ax,lx,cx,hBx,hIx⟩ := HX.out
 obtain ⟨sy,Ay,ly,cy,hBy,hIy⟩ := HY.out
 obtain ⟨bx0,bx1,bx2,bx3⟩ := hBx.cell2
 obtain ⟨by0,by1,by2,by3⟩ := hBy.cell2
 have HIx := zh hIx
 have HIy := zh hIy
 have HBx := zh hBx
 have HBy := zh hBy
 clear hBx hBy hIx hIy
 refine wpT_tail (l := [_,_]) 4 rfl (by kernel_rfl) ?_
 go_wp2_with fail
 have k1 := IntIs.away (a := .bool sq) (b := .slice Aq lq cq) HIq.out HX.out
 have k2 := IntIs.away (a := .bool sq) (b := .slice Aq lq cq) HIr.out HX.out
 have k3 := HX.out.put HIq.out
 have k4 := IntAt.away (a := .bool sq) (b := .slice Aq lq cq) HY.out HX.out (Ne.symm hXY)
 have k5 := HR.out.fr (Fr.set2 (r := X) (i := 0) (j := 1) (.bool sq) (.slice Aq lq cq)) (Ne.symm hXR)
 have k6 := Fr.local_ HE.out (Fr.set2 (r := X) (i := 0) (j := 1) (.bool sq) (.slice Aq lq cq)) (Nat.le_of_eq hXx)
 generalize World.setCell (World.setCell _ ⟨X,0,none⟩ _) ⟨X,1,none⟩ _ = wx at *
 have m1 := IntIs.away (a := .bool sr) (b := .slice Ar lr cr) k1 k4
 have m3 := IntAt.away (a := .bool sr) (b := .slice Ar lr cr) k3 k4 hXY
 have m4 := k4.put k2
 have m2 := IntIs.away (a := .bool sr) (b := .slice Ar lr cr) k2 k4
 have m5 := k5.fr (Fr.set2 (r := Y) (i := 0) (j := 1) (.bool sr) (.slice Ar lr cr)) (Ne.symm hYR)
 have m6 := Fr.local_ k6 (Fr.set2 (r := Y) (i := 0) (j := 1) (.bool sr) (.slice Ar lr cr)) (by omega)
 generalize World.setCell (World.setCell wx ⟨Y,0,none⟩ _) ⟨Y,1,none⟩ _ = wy at *
 replace HX : Hid (IntAt wy X x) := m3
 replace HY : Hid (IntAt wy Y y) := m4
 replace HR := zh m5
 replace HE := zh m6
 refine (IsOne_any _ y _ m2).mono ?_
 clear k1 k2 k3 k4 k5 k6 m1 m2 m3 m4 m5 m6 HIq HIr
 clear bx0 bx1 bx2 bx3 by0 by1 by2 by3 HIx HIy HBx HBy
 obtain ⟨sx,Ax,lx,cx,hBx,hIx⟩ := HX.out
 obtain ⟨sy,Ay,ly,cy,hBy,hIy⟩ := HY.out
 obtain ⟨bx0,bx1,bx2,bx3⟩ := hBx.cell2
 obtain ⟨by0,by1,by2,by3⟩ := hBy.cell2
 have HIx := zh hIx
 have HIy := zh hIy
 have HBx := zh hBx
 have HBy := zh hBy
 clear hBx hBy hIx hIy
 have HG : Hid (Glob _) := HGl.out.ext HE.out
 by_cases h1 : y = 1
 ·rw [decide_eq_true h1]
  rintro e wa ⟨rfl,hF⟩
  have HQ : Hid ((Rat.divInt x y).num = x ∧ denF (Rat.divInt x y) = 0) := frac_one h1
  clear bx0 bx1 bx2 bx3 by0 by1 by2 by3 HIx HIy HBx HBy
  replace HX := zh (HX.out.ext hF)
  replace HY := zh (HY.out.ext hF)
  replace HR := zh (HR.out.ext hF)
  replace HE := zh (HE.out.trans hF)
  clear hF
  obtain ⟨sx,Ax,lx,cx,hBx,hIx⟩ := HX.out
  obtain ⟨sy,Ay,ly,cy,hBy,hIy⟩ := HY.out
  obtain ⟨bx0,bx1,bx2,bx3⟩ := hBx.cell2
  obtain ⟨by0,by1,by2,by3⟩ := hBy.cell2
  have HIx := zh hIx
  have HIy := zh hIy
  have HBx := zh hBx
  have HBy := zh hBy
  clear hBx hBy hIx hIy
  obtain ⟨y0,y1,y2,y3,y4,y5,y6,y7⟩ := HR.out.cell4
  clear h1
  go_wp2
  refine fin_rat rfl rfl (HR.out.put4 _ _ _ _) ?_ ?_ (Fr.local_ HE.out (Fr.set4 _ _ _ _) hrR)
  ·rw [HQ.out.1]; exact HIx.out.other HR.out noWords4 (Fr.set4 _ _ _ _)
  ·rw [HQ.out.2]; exact IntIs.zero _
 ·rw [decide_eq_false h1]
  rintro e wa ⟨rfl,hF⟩
  clear bx0 bx1 bx2 bx3 by0 by1 by2 by3 HIx HIy HBx HBy
  replace HX := zh (HX.out.ext hF)
  replace HY := zh (HY.out.ext hF)
  replace HR := zh (HR.out.ext hF)
  replace HE := zh (HE.out.trans hF)
  clear hF
  obtain ⟨sx,Ax,lx,cx,hBx,hIx⟩ := HX.out
  obtain ⟨sy,Ay,ly,cy,hBy,hIy⟩ := HY.out
  obtain ⟨bx0,bx1,bx2,bx3⟩ := hBx.cell2
  obtain ⟨by0,by1,by2,by3⟩ := hBy.cell2
  have HIx := zh hIx
  have HIy := zh hIy
  have HBx := zh hBx
  have HBy := zh hBy
  clear hBx hBy hIx hIy
  clear h1
  go_wp2_with fail
  refine (GCD_any _ _ x y _ (HGl.out.ext HE.out) HIx.out HIy.out HFx.out HFy.out HGk.out).mono ?_
  rintro e wg ⟨ug,rfl,hIg,hF⟩
  obtain ⟨sg_,Ag,lg,cg,rfl⟩ := hIg.shape
  have HIg := zh hIg
  clear hIg
  clear bx0 bx1 bx2 bx3 by0 by1 by2 by3 HIx HIy HBx HBy
  replace HX := zh (HX.out.ext hF)
  replace HY := zh (HY.out.ext hF)
  replace HR := zh (HR.out.ext hF)
  replace HE := zh (HE.out.trans hF)
  clear hF
  obtain ⟨sx,Ax,lx,cx,hBx,hIx⟩ := HX.out
  obtain ⟨sy,Ay,ly,cy,hBy,hIy⟩ := HY.out
  obtain ⟨bx0,bx1,bx2,bx3⟩ := hBx.cell2
  obtain ⟨by0,by1,by2,by3⟩ := hBy.cell2
  have HIx := zh hIx
  have HIy := zh hIy
  have HBx := zh hBx
  have HBy := zh hBy
  clear hBx hBy hIx hIy
  go_wp2_with fail
  generalize hwb : World.alloc wg _ = wh
  obtain ⟨hBg,hF⟩ := Blk.one hwb
  have HAg : Hid (IntAt wh wg.heap.size (Int.gcd x y : Int)) := ⟨_,_,_,_,hBg,HIg.out.ext hF⟩
  have hXg : X < wg.heap.size := HBx.out.lt
  have hYg : Y < wg.heap.size := HBy.out.lt
  have hRg : Rr < wg.heap.size := HR.out.lt
  generalize wg.heap.size = G at *
  replace HIg := zh (HIg.out.ext hF)
  clear hwb
  clear bx0 bx1 bx2 bx3 by0 by1 by2 by3 HIx HIy HBx HBy
  replace HX := zh (HX.out.ext hF)
  replace HY := zh (HY.out.ext hF)
  replace HR := zh (HR.out.ext hF)
  replace HE := zh (HE.out.trans hF)
  clear hF
  obtain ⟨sx,Ax,lx,cx,hBx,hIx⟩ := HX.out
  obtain ⟨sy,Ay,ly,cy,hBy,hIy⟩ := HY.out
  obtain ⟨bx0,bx1,bx2,bx3⟩ := hBx.cell2
  obtain ⟨by0,by1,by2,by3⟩ := hBy.cell2
  have HIx := zh hIx
  have HIy := zh hIy
  have HBx := zh hBx
  have HBy := zh hBy
  clear hBx hBy hIx hIy
  refine (IsOne_any _ _ _ HIg.out).mono ?_
  by_cases h2 : ((Int.gcd x y : Nat) : Int) = 1
  ·rw [decide_eq_true h2]
   rintro e wi ⟨rfl,hF⟩
   have HQ : Hid ((Rat.divInt x y).num = x ∧ ((Rat.divInt x y).den : Int) = y) := frac_coprime hy h2
   clear h2 HAg HIg
   clear bx0 bx1 bx2 bx3 by0 by1 by2 by3 HIx HIy HBx HBy
   replace HX := zh (HX.out.ext hF)
   replace HY := zh (HY.out.ext hF)
   replace HR := zh (HR.out.ext hF)
   replace HE := zh (HE.out.trans hF)
   clear hF
   obtain ⟨sx,Ax,lx,cx,hBx,hIx⟩ := HX.out
   obtain ⟨sy,Ay,ly,cy,hBy,hIy⟩ := HY.out
   obtain ⟨bx0,bx1,bx2,bx3⟩ := hBx.cell2
   obtain ⟨by0,by1,by2,by3⟩ := hBy.cell2
   have HIx := zh hIx
   have HIy := zh hIy
   have HBx := zh hBx
   have HBy := zh hBy
   clear hBx hBy hIx hIy
   go_wp2_with fail
   refine (lowest_any _ _ x y (Rat.divInt x y) _ HIx.out HIy.out HQ.out).mono ?_
   rintro e wl_ ⟨ul,rfl,hRl,hF⟩
   obtain ⟨s,t,A,B,l,c,l',c',rfl,hIn,hId⟩ := hRl
   have HIn := zh hIn
   have HId := zh hId
   clear hIn hId
   clear bx0 bx1 bx2 bx3 by0 by1 by2 by3 HIx HIy HBx HBy
   replace HX := zh (HX.out.ext hF)
   replace HY := zh (HY.out.ext hF)
   replace HR := zh (HR.out.ext hF)
   replace HE := zh (HE.out.trans hF)
   clear hF
   obtain ⟨y0,y1,y2,y3,y4,y5,y6,y7⟩ := HR.out.cell4
   go_wp2
   exact fin_rat rfl rfl (HR.out.put4 _ _ _ _) (HIn.out.other HR.out noWords4 (Fr.set4 _ _ _ _)) (HId.out.other HR.out noWords4 (Fr.set4 _ _ _ _)) (Fr.local_ HE.out (Fr.set4 _ _ _ _) hrR)
  ·rw [decide_eq_false h2]
   rintro e wi ⟨rfl,hF⟩
   have HQ : Hid ((Rat.divInt x y).num = x.tdiv (Int.gcd x y : Int) ∧ ((Rat.divInt x y).den : Int) = y.tdiv (Int.gcd x y : Int)) := frac_gcd hy
   have Hg0 : Hid (((Int.gcd x y : Nat) : Int) ≠ 0) := gcd_ne hy
   have Hg80 : Hid (wl (((Int.gcd x y : Nat) : Int)).natAbs < 80) := gcd_wl hy Hy80.out
   clear h2 HIg
   clear bx0 bx1 bx2 bx3 by0 by1 by2 by3 HIx HIy HBx HBy
   replace HX := zh (HX.out.ext hF)
   replace HY := zh (HY.out.ext hF)
   replace HR := zh (HR.out.ext hF)
   replace HAg := zh (HAg.out.ext hF)
   replace HE := zh (HE.out.trans hF)
   clear hF
   obtain ⟨sx,Ax,lx,cx,hBx,hIx⟩ := HX.out
   obtain ⟨sy,Ay,ly,cy,hBy,hIy⟩ := HY.out
   obtain ⟨bx0,bx1,bx2,bx3⟩ := hBx.cell2
   obtain ⟨by0,by1,by2,by3⟩ := hBy.cell2
   have HIx := zh hIx
   have HIy := zh hIy
   have HBx := zh hBx
   have HBy := zh hBy
   clear hBx hBy hIx hIy
   obtain ⟨sg_,Ag,lg,cg,hBg,hIg⟩ := HAg.out
   have HBg := zh hBg
   have HIg := zh hIg
   clear hBg hIg
   generalize ((Int.gcd x y : Nat) : Int) = g at *
   obtain ⟨x',hx'⟩ : ∃ x',x.tdiv g = x' := ⟨_,rfl⟩
   obtain ⟨y',hy'⟩ : ∃ y',y.tdiv g = y' := ⟨_,rfl⟩
   go_wp2_with fail
   refine wp_region_T 6 (fun w' => (w'.cell? ⟨X,0,none⟩ = some (.bool sx) ∧ w'.cell? ⟨X,1,none⟩ = some (.slice Ax lx cx)) ∧ (w'.cell? ⟨Y,0,none⟩ = some (.bool sy) ∧ w'.cell? ⟨Y,1,none⟩ = some (.slice Ay ly cy)) ∧ (w'.cell? ⟨G,0,none⟩ = some (.bool sg_) ∧ w'.cell? ⟨G,1,none⟩ = some (.slice Ag lg cg))) follows_mixed ?_
   refine wpT_take 0 rfl (by kernel_rfl) (fun _ _ _ h => h) (keepI3 HBx.out HBy.out HBg.out (Fr.refl _ _).drew) (fun _ => yields_int rfl rfl rfl (fun _ h => h.1)) (fun hS => ?_)
   refine wpT_take 1 rfl (by kernel_rfl) (fun _ _ _ h => h) hS (fun _ => yields_int rfl rfl rfl (fun _ h => h.2.2)) (fun hS => ?_)
   refine wpT_take 3 rfl (by kernel_rfl) (fun _ _ _ h => h) hS (fun _ => yields_int rfl rfl rfl (fun _ h => h.2.1)) (fun hS => ?_)
   refine wpT_take 4 rfl (by kernel_rfl) (fun _ _ _ h => h) hS (fun _ => yields_int rfl rfl rfl (fun _ h => h.2.2)) (fun hS => ?_)
   refine wpT_only 2 rfl (by kernel_rfl) rfl (fun K hK => ?_)
   go_simp
   refine (Quo_any _ _ x g _ (HIx.out.ext (Fr.refl _ _).drew) (HIg.out.ext (Fr.refl _ _).drew) HFx.out Hg80.out Hg0.out).mono ?_
   rw [hx']
   rintro e wq ⟨uq,rfl,hIq,hFq⟩
   obtain ⟨sq,Aq,lq,cq,rfl⟩ := hIq.shape
   replace hFq := Fr.undrew hFq
   refine hK _ _ (keepI3 HBx.out HBy.out HBg.out hFq) ?_
   refine wpT_only 5 rfl (by kernel_rfl) rfl (fun K hK => ?_)
   go_simp
   refine (Quo_any _ _ y g _ (HIy.out.ext hFq) (HIg.out.ext hFq) HFy.out Hg80.out Hg0.out).mono ?_
   rw [hy']
   rintro e wr ⟨ur,rfl,hIr,hFr⟩
   obtain ⟨sr,Ar,lr,cr,rfl⟩ := hIr.shape
   refine hK _ _ (keepI3 HBx.out HBy.out HBg.out (hFq.trans hFr)) ?_
   clear hK
   have hIq := hIq.ext hFr
   have hF := hFq.trans hFr
   have HIq := zh hIq
   have HIr := zh hIr
   have HQ' : Hid ((Rat.divInt x y).num = x' ∧ ((Rat.divInt x y).den : Int) = y') := by rw [Hid,← hx',← hy']; exact HQ.out
   clear hFq hFr hIr hIq hx' hy' HAg HIg HBg hS
   clear bx0 bx1 bx2 bx3 by0 by1 by2 by3 HIx HIy HBx HBy
   replace HX := zh (HX.out.ext hF)
   replace HY := zh (HY.out.ext hF)
   replace HR := zh (HR.out.ext hF)
   replace HE := zh (HE.out.trans hF)
   clear hF
   obtain ⟨sx,Ax,lx,cx,hBx,hIx⟩ := HX.out
   obtain ⟨sy,Ay,ly,cy,hBy,hIy⟩ := HY.out
   obtain ⟨bx0,bx1,bx2,bx3⟩ := hBx.cell2
   obtain ⟨by0,by1,by2,by3⟩ := hBy.cell2
   have HIx := zh hIx
   have HIy := zh hIy
   have HBx := zh hBx
   have HBy := zh hBy
   clear hBx hBy hIx hIy
   refine wpT_tail (l := [_,_]) 6 rfl (by kernel_rfl) ?_
   go_wp2_with fail
   have k1 := IntIs.away (a := .bool sq) (b := .slice Aq lq cq) HIq.out HX.out
   have k2 := IntIs.away (a := .bool sq) (b := .slice Aq lq cq) HIr.out HX.out
   have k3 := HX.out.put HIq.out
   have k4 := IntAt.away (a := .bool sq) (b := .slice Aq lq cq) HY.out HX.out (Ne.symm hXY)
   have k5 := HR.out.fr (Fr.set2 (r := X) (i := 0) (j := 1) (.bool sq) (.slice Aq lq cq)) (Ne.symm hXR)
   have k6 := Fr.local_ HE.out (Fr.set2 (r := X) (i := 0) (j := 1) (.bool sq) (.slice Aq lq cq)) (Nat.le_of_eq hXx)
   generalize World.setCell (World.setCell _ ⟨X,0,none⟩ _) ⟨X,1,none⟩ _ = wx at *
   have m1 := IntIs.away (a := .bool sr) (b := .slice Ar lr cr) k1 k4
   have m2 := IntIs.away (a := .bool sr) (b := .slice Ar lr cr) k2 k4
   have m5 := k5.fr (Fr.set2 (r := Y) (i := 0) (j := 1) (.bool sr) (.slice Ar lr cr)) (Ne.symm hYR)
   have m6 := Fr.local_ k6 (Fr.set2 (r := Y) (i := 0) (j := 1) (.bool sr) (.slice Ar lr cr)) (by omega)
   generalize World.setCell (World.setCell wx ⟨Y,0,none⟩ _) ⟨Y,1,none⟩ _ = wy at *
   have HR2 := zh m5
   have HE2 := zh m6
   refine (lowest_any _ _ x' y' (Rat.divInt x y) _ m1 m2 HQ'.out).mono ?_
   rintro e wl_ ⟨ul,rfl,hRl,hF⟩
   obtain ⟨s,t,A,B,l,c,l',c',rfl,hIn,hId⟩ := hRl
   have HIn := zh hIn
   have HId := zh hId
   have HR3 := zh (HR2.out.ext hF)
   have HE3 := zh (HE2.out.trans hF)
   clear hIn hId hF k1 k2 k3 k4 k5 k6 m1 m2 m5 m6
   obtain ⟨y0,y1,y2,y3,y4,y5,y6,y7⟩ := HR3.out.cell4
   go_wp2
   exact fin_rat rfl rfl (HR3.out.put4 _ _ _ _) (HIn.out.other HR3.out noWords4 (Fr.set4 _ _ _ _)) (HId.out.other HR3.out noWords4 (Fr.set4 _ _ _ _)) (Fr.local_ HE3.out (Fr.set4 _ _ _ _) hrR)
theorem Fraction_any (a b : Value) (x y : Int) (w : World) (hgl : Glob w) (ha : IntIs w a x) (hb : IntIs w b y) (hfx : Fits x) (hfy : Fits y) (hgk : GcdOk x y) (h80 : wl y.natAbs < 80) (hy : y ≠ 0) : Calls Tryz.prog 124 #[a,b] w (RetRat w (Rat.divInt x y)) := by
 by_cases hx : x = 0
 ·have h := Fraction_zero a b x y w ha hb hx hy
  rwa [hx,Rat.zero_divInt]
 rcases Int.lt_or_le 0 y with h | h
 ·exact Fraction_pos a b x y w hgl ha hb hfx hfy hgk h80 hx h
 ·rw [← Rat.neg_divInt_neg]
  refine Fraction_neg a b x y (-x) (-y) w hgl ha hb rfl rfl ?_ ?_ ?_ ?_ (by omega) (by omega)
  ·unfold Fits; rw [Int.natAbs_neg]; exact hfx
  ·unfold Fits; rw [Int.natAbs_neg]; exact hfy
  ·unfold GcdOk; rw [Int.natAbs_neg,Int.natAbs_neg]; exact hgk
  ·rw [Int.natAbs_neg]; exact h80
end Go.Proofs.YtndafmjcelgnbaaGreatDoor

namespace Go.Proofs.YtndafmjcelgnbaaGreatDoor
open Go.RowKit
def ratText (q : Rat) : List UInt8 := if q.den = 1 then Lib.itoa q.num else Lib.itoa q.num ++ [47] ++ Lib.itoa (q.den : Int)
set_option maxHeartbeats 2000000 in
set_option maxRecDepth 100000 in
theorem RString_frac (a : Value) (q : Rat) (w : World) (hg : Glob w) (ha : RatIs w a q) (hn : PrtOk q.num.natAbs) (hd : PrtOk q.den) (h1 : q.den ≠ 1) (hl : (Lib.itoa q.num).length ≤ 68719476736) : Calls Tryz.prog 65 #[a] w (RetV w (.string ⟨(ratText q).toArray⟩)) := by
 obtain ⟨s,t,A,B,l,c,l',c',rfl,hIn,hId⟩ := ha
 have hdf : denF q = (q.den : Int) := by unfold denF; rw [if_neg h1]
 have hd0 : ¬ denF q = 0 := fun h => h1 (denF_zero.1 h)
 have HM : Hid (ratText q = Lib.itoa q.num ++ [47] ++ Lib.itoa (q.den : Int)) := by unfold Hid ratText; rw [if_neg h1]
 rw [hdf] at hId
 have HIn := zh hIn
 have HId := zh hId
 have HG := zh hg
 have HPn := zh hn
 have HPd : Hid (PrtOk ((q.den : Int)).natAbs) := by unfold Hid; rw [Int.natAbs_natCast]; exact hd
 have hne := itoa_ne (q.den : Int)
 rw [hdf] at hd0
 generalize hm : ratText q = m at *
 have hmne : m ≠ [] := by rw [HM.out]; simp
 generalize q.num = x at *
 generalize (q.den : Int) = y at *
 clear hg hn hd h1 hIn hId hdf hm hne
 go_enter Tryz.func65,Tryz.ntmps65
 go_wp2_with fail
 generalize hwb : World.alloc w _ = wb
 obtain ⟨hB0,hE0⟩ := Blk.one hwb
 clear hwb
 refine (IsZero_any _ y _ (HId.out.ext hE0)).mono ?_
 rw [decide_eq_false hd0]
 rintro e w1 ⟨rfl,hF1⟩
 have HB1 := zh (hB0.ext hF1)
 have HE1 := zh (hE0.trans hF1)
 obtain ⟨x0,x1,x2,x3,_,_,_,_⟩ := HB1.out.cell4
 clear hB0 hE0 hF1 hd0
 go_wp2_with fail
 refine (Append_any _ x none 0 0 [] w1 _ (Fr.refl _ _) (HG.out.ext HE1.out) (HIn.out.ext HE1.out) HPn.out rfl Buf.nil Newer.nil (by omega)).mono ?_
 rw [List.nil_append]
 rintro e w2 ⟨A2,cap2,rfl,hT2,hF2,hA2⟩
 have hN2 : Newer w1 A2 := (Newer.nil (w0 := w1)).next (Fr.refl _ _) hA2
 have hE2 : Ext w1 w2 := (Newer.nil (w0 := w1)).ext (Fr.refl _ _) hF2
 have HT2 := zh hT2
 have HN2 := zh hN2
 have HE2 := zh hE2
 clear hT2 hF2 hA2 hN2 hE2 x0 x1 x2 x3
 obtain ⟨n,hnl⟩ : ∃ n,(Lib.itoa x).length = n := ⟨_,rfl⟩
 rw [hnl] at hl ⊢
 have HNL := zh hnl
 clear hnl
 have HS : Hid (Shows .u8 (w2.alloc (.cells #[.int .u8 47] 5)) (some ⟨w2.heap.size,0,none⟩) (nats [47])) := (Own.new w2 5 .u8 [47] []).shows0
 go_wp2_with (at_builtin; refine Hid.out ?_)
 refine zh ?_
 refine wpList_append_words rfl _ _ _ rfl _ .u8 1 Tryz.underlying133 info8 A2 (some ⟨w2.heap.size,0,none⟩) n 1 cap2 1 rfl rfl (nats (Lib.itoa x)) (nats [47]) (by rw [nats_length]; exact HNL.out) rfl (HT2.out.ext ((Fr.refl _ _).alloc _)) HS.out (by simp only [maxLen]; omega) (by omega) ?_
 intro A3 cap3 w3 hB3 hF3 hA3
 have hE3 : Ext w1 w3 := HN2.out.ext (HE2.out.alloc _) hF3
 have hN3 : Newer w1 A3 := HN2.out.next (w := w2) HE2.out (fun b hb => (hA3 b hb).imp id (fun h => by simp at h; omega))
 have hT3 : TBuf w3 A3 cap3 (Lib.itoa x ++ [47]) := by show Buf _ _ _ _ _ (nats (Lib.itoa x ++ [47])); rw [nats_append]; exact hB3
 have HT3 := zh hT3
 have HN3 := zh hN3
 have HE3 := zh hE3
 have HB3 := zh (HB1.out.ext hE3)
 obtain ⟨x0,x1,x2,x3,_,_,_,_⟩ := HB3.out.cell4
 clear hB3 hF3 hA3 hE3 hN3 hT3
 go_wp2_with fail
 refine (Append_any _ y A3 cap3 (n + 1) (Lib.itoa x ++ [47]) w1 _ HE3.out (HG.out.ext HE1.out) (HId.out.ext HE1.out) HPd.out (by rw [List.length_append,HNL.out]; rfl) HT3.out HN3.out (by omega)).mono ?_
 rw [← HM.out]
 rintro e w4 ⟨A4,cap4,rfl,hT4,hF4,hA4⟩
 have HE4 : Hid (Ext w w4) := HE1.out.trans (HN3.out.ext HE3.out hF4)
 obtain ⟨b,rfl,hc⟩ := TBuf.bytes hT4 hmne
 have hcv := run_convert_bytes_back (P := Tryz.prog) w4 133 9 5 ⟨b,0,none⟩ cap4 m Tryz.underlying133 Tryz.underlying5 Tryz.underlying9 hc
 clear hT4 hF4 hA4 hc hmne x0 x1 x2 x3
 go_wp2
 go_ret
 exact ⟨rfl,HE4.out⟩
end Go.Proofs.YtndafmjcelgnbaaGreatDoor
