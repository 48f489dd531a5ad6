/-
  modular.isSmall.
  Package integer: Quo. Package rational: IsWhole, Num, Den, lowest.
  Package rational: Den, value; package modular: Reduce, Inverse.
  Package modular: Inverse, Reduce.
-/
import Derived.Test.YtndafmjcelgnbaaGreatDoorOrd
import Derived.Test.YtndafmjcelgnbaaGreatDoorM13
import Derived.Outline
import Derived.Test.YtndafmjcelgnbaaGreatDoorM12
namespace Go.Proofs.YtndafmjcelgnbaaGreatDoor
open Go.RowKit

theorem follows_mixed : Tryz.prog.follows .mixedOrders = true := by kernel_rfl
/-- a load of an Int -/
theorem yields_int {ops : Array Oper} {S : World → Prop} {o : Oper} {a : Act} {p : Operand} {g : Nat} {x y : Value} (hg : o.guard = none) (ho : o.op = Op.load 67 p) (hp : a.eval p = .pointer (some ⟨g, 0, none⟩))
    (hc : ∀ w, S w → w.cell? ⟨g, 0, none⟩ = some x ∧ w.cell? ⟨g, 1, none⟩ = some y) : YieldsIf Tryz.prog ops S o (.agg #[x, y]) a :=
  Or.inl ⟨by unfold Region.wanted; rw [hg], fun w hS => by
    obtain ⟨h0, h1⟩ := hc w hS
    simp only [execOp, ho, hp]
    simp [go_sem, h0, h1]⟩

theorem cmpI_negI (a b : Int) : cmpI a b < 0 ↔ a < b := by
  unfold cmpI
  split
  · simp; omega
  · split
    · simp; omega
    · simp; omega
theorem keepI2 {t t' : TypeId} {w w' : World} {g g' : Nat} {x y x' y' : Value} (h : Blk t w g #[x, y]) (h' : Blk t' w g' #[x', y']) (hF : Ext w w') :
    (w'.cell? ⟨g, 0, none⟩ = some x ∧ w'.cell? ⟨g, 1, none⟩ = some y) ∧ (w'.cell? ⟨g', 0, none⟩ = some x' ∧ w'.cell? ⟨g', 1, none⟩ = some y') :=
  ⟨⟨(h.ext hF).cell 0, (h.ext hF).cell 1⟩, ⟨(h'.ext hF).cell 0, (h'.ext hF).cell 1⟩⟩

set_option maxHeartbeats 1000000 in
theorem isSmall_any (a b : Value) (x m : Int) (w : World) (ha : IntIs w a x) (hb : IntIs w b m) (hx : wl x.natAbs < 40) (hm : Fits m) : Calls Tryz.prog 121 #[a, b] w (RetV w (.bool (decide (x * x * 2 < m)))) := by
  obtain ⟨s, A, l, c, rfl⟩ := ha.shape
  obtain ⟨t, B, l', c', rfl⟩ := hb.shape
  have HA := Lib.hid ha
  have HB := Lib.hid hb
  have HX := Lib.hid hx
  have HM := Lib.hid hm
  have HXX : Hid (Fits (x * x)) := by
    have h1 := wl_mul x.natAbs x.natAbs
    unfold Hid Fits; rw [Int.natAbs_mul]; exact Nat.le_trans h1 (by omega)
  have HXY : Hid (Fits (x * x * ((2 ^ 1 : Nat) : Int))) := by
    have h1 := wl_mul (x * x).natAbs 2
    have h2 := wl_mul x.natAbs x.natAbs
    have h3 : wl 2 ≤ 1 := wl_one.2 (by rw [W64_eq]; omega)
    rw [← Int.natAbs_mul] at h2
    unfold Hid Fits; rw [Int.natAbs_mul, Int.natAbs_natCast]; exact Nat.le_trans h1 (by omega)
  clear ha hb hx hm
  go_enter Tryz.func121, Tryz.ntmps121
  go_wp2_with fail
  generalize hwb : World.alloc (World.alloc w _) _ = wb
  obtain ⟨hBx, hBy, hE⟩ := two_blocks hwb
  clear hwb
  refine wp_region_T 8 (fun w' => (w'.cell? ⟨w.heap.size, 0, none⟩ = some (.bool s) ∧ w'.cell? ⟨w.heap.size, 1, none⟩ = some (.slice A l c)) ∧ (w'.cell? ⟨w.heap.size + 1, 0, none⟩ = some (.bool t) ∧ w'.cell? ⟨w.heap.size + 1, 1, none⟩ = some (.slice B l' c'))) follows_mixed ?_
  refine wpT_take 0 rfl (by kernel_rfl) (fun _ _ _ h => h) ⟨⟨hBx.cell 0, hBx.cell 1⟩, ⟨hBy.cell 0, hBy.cell 1⟩⟩ (fun _ => yields_int rfl rfl rfl (fun _ h => h.1)) (fun hS => ?_)
  refine wpT_take 1 rfl (by kernel_rfl) (fun _ _ _ h => h) hS (fun _ => yields_int rfl rfl rfl (fun _ h => h.1)) (fun hS => ?_)
  refine wpT_take 4 rfl (by kernel_rfl) (fun _ _ _ h => h) hS (fun _ => yields_int rfl rfl rfl (fun _ h => h.2)) (fun hS => ?_)
  refine wpT_only 2 rfl (by kernel_rfl) rfl (fun K hK => ?_)
  go_simp
  refine (Mul_any _ _ x x _ (HA.out.ext hE.drew) (HA.out.ext hE.drew) (by have := HX.out; unfold Fits; omega) (by have := HX.out; unfold Fits; omega) (Or.inl HX.out)).mono ?_
  rintro e w1 ⟨u1, rfl, hI1, hF1⟩
  obtain ⟨s1, A1, l1, c1, rfl⟩ := hI1.shape
  replace hF1 := Fr.undrew hF1
  refine hK _ _ (keepI2 hBx hBy hF1) ?_
  refine wpT_only 3 rfl (by kernel_rfl) rfl (fun K hK => ?_)
  go_simp
  refine (Shift_any _ _ 1 _ hI1 HXX.out (by omega)).mono ?_
  rintro e w2 ⟨u2, rfl, hI2, hF2⟩
  obtain ⟨s2, A2, l2, c2, rfl⟩ := hI2.shape
  refine hK _ _ (keepI2 hBx hBy (hF1.trans hF2)) ?_
  refine wpT_only 5 rfl (by kernel_rfl) rfl (fun K hK => ?_)
  go_simp
  refine (Compare_any _ _ _ m _ hI2 (HB.out.ext ((hE.trans hF1).trans hF2)) HXY.out HM.out).mono ?_
  rintro e w3 ⟨rfl, hF3⟩
  refine hK _ _ (keepI2 hBx hBy ((hF1.trans hF2).trans hF3)) ?_
  have HE3 := Lib.hid (((hE.trans hF1).trans hF2).trans hF3)
  refine wpT_only 6 rfl (by kernel_rfl) rfl (fun K hK => ?_)
  go_simp
  refine hK _ _ (keepI2 hBx hBy ((hF1.trans hF2).trans hF3)) ?_
  refine wpT_only 7 rfl (by kernel_rfl) rfl (fun K hK => ?_)
  go_simp
  refine hK _ _ (keepI2 hBx hBy ((hF1.trans hF2).trans hF3)) ?_
  refine wpT_tail (l := []) 8 rfl (by kernel_rfl) ?_
  have HC : Hid (decide (cmpI (x * x * ((2 ^ 1 : Nat) : Int)) m < 0) = decide (x * x * 2 < m)) := by
    unfold Hid
    have := cmpI_negI (x * x * ((2 ^ 1 : Nat) : Int)) m
    have e : ((2 ^ 1 : Nat) : Int) = 2 := rfl
    rw [e] at this ⊢
    by_cases h : x * x * 2 < m
    · rw [decide_eq_true h, decide_eq_true (this.2 h)]
    · rw [decide_eq_false h, decide_eq_false (fun k => h (this.1 k))]
  go_wp2
  go_ret
  exact ⟨by rw [← HC.out]; rfl, HE3.out⟩
end Go.Proofs.YtndafmjcelgnbaaGreatDoor

namespace Go.Proofs.YtndafmjcelgnbaaGreatDoor
open Go.RowKit

/-- block g holds the integer z -/
def IntAt (w : World) (g : Nat) (z : Int) : Prop := ∃ s A l c, Blk 67 w g #[.bool s, .slice A l c] ∧ IntIs w (.agg #[.bool s, .slice A l c]) z
theorem IntAt.ext {w w' : World} {g : Nat} {z : Int} (h : IntAt w g z) (hF : Ext w w') : IntAt w' g z := by
  obtain ⟨s, A, l, c, h1, h2⟩ := h
  exact ⟨s, A, l, c, h1.ext hF, h2.ext hF⟩
theorem IntAt.lt {w : World} {g : Nat} {z : Int} (h : IntAt w g z) : g < w.heap.size := by
  obtain ⟨_, _, _, _, h1, _⟩ := h
  exact h1.lt
theorem IntAt.put {w : World} {g : Nat} {z z' : Int} {s : Bool} {A : Option Addr} {l c : Nat} (h : IntAt w g z) (hI : IntIs w (.agg #[.bool s, .slice A l c]) z') : IntAt ((w.setCell ⟨g, 0, none⟩ (.bool s)).setCell ⟨g, 1, none⟩ (.slice A l c)) g z' := by
  obtain ⟨s0, A0, l0, c0, h1, _⟩ := h
  exact ⟨s, A, l, c, (h1.set_ 0 _).set_ 1 _, hI.other h1 noWords2 (Fr.set2 _ _)⟩
theorem IntAt.away {w : World} {g r : Nat} {z z0 : Int} {a b : Value} (h : IntAt w g z) (hr : IntAt w r z0) (hne : g ≠ r) : IntAt ((w.setCell ⟨r, 0, none⟩ a).setCell ⟨r, 1, none⟩ b) g z := by
  obtain ⟨s, A, l, c, h1, h2⟩ := h
  obtain ⟨s0, A0, l0, c0, k1, _⟩ := hr
  exact ⟨s, A, l, c, h1.fr (Fr.set2 _ _) hne, h2.other k1 noWords2 (Fr.set2 _ _)⟩
theorem IntIs.away {w : World} {r : Nat} {v : Value} {z z0 : Int} {a b : Value} (h : IntIs w v z) (hr : IntAt w r z0) : IntIs ((w.setCell ⟨r, 0, none⟩ a).setCell ⟨r, 1, none⟩ b) v z := by
  obtain ⟨s0, A0, l0, c0, k1, _⟩ := hr
  exact h.other k1 noWords2 (Fr.set2 _ _)

def RetRat (w : World) (q : Rat) (e : Ending) (w' : World) : Prop := ∃ v, e = .returned v ∧ RatIs w' v q ∧ Ext w w'
theorem fin_rat {fn : Func} {t : Tmp} {tmps : Array Value} {w w' : World} {r : Nat} {s s' : Bool} {A B : Option Addr} {l c l' c' : Nat} {q : Rat} (hres : fn.results = #[.cell t 80]) (ht : tmps[t]? = some (.pointer (some ⟨r, 0, none⟩)))
    (hB : Blk 80 w' r #[.bool s, .slice A l c, .bool s', .slice B l' c']) (hI : IntIs w' (.agg #[.bool s, .slice A l c]) q.num) (hI' : IntIs w' (.agg #[.bool s', .slice B l' c']) (denF q)) (hE : Ext w w') :
    bodyPost Tryz.prog fn (RetRat w q) .ret ⟨tmps, []⟩ w' := by
  obtain ⟨h0, h1, h2, h4, _⟩ := hB.cell4
  exact bodyPost_ret (v := .agg #[.bool s, .slice A l c, .bool s', .slice B l' c']) (by simp [results, hres, ht, go_sem, h0, h1, h2, h4]) rfl ⟨_, rfl, ⟨_, _, _, _, _, _, _, _, rfl, hI, hI'⟩, hE⟩

theorem denF_zero {q : Rat} : denF q = 0 ↔ q.den = 1 := by
  unfold denF
  have := q.den_nz
  split <;> omega

set_option maxHeartbeats 1000000 in
theorem IsWhole_any (a : Value) (q : Rat) (w : World) (ha : RatIs w a q) : Calls Tryz.prog 61 #[a] w (RetV w (.bool (decide (q.den = 1)))) := by
  obtain ⟨s, t, A, B, l, c, l', c', rfl, hn, hd⟩ := ha
  have HD := Lib.hid hd
  have hdc : Hid (decide (denF q = 0) = decide (q.den = 1)) := by
    unfold Hid
    by_cases h : q.den = 1
    · rw [decide_eq_true h, decide_eq_true (denF_zero.2 h)]
    · rw [decide_eq_false h, decide_eq_false (fun k => h (denF_zero.1 k))]
  clear hn hd
  go_enter Tryz.func61, Tryz.ntmps61
  go_wp2_with fail
  refine (IsZero_any _ _ _ (HD.out.ext ((Fr.refl _ _).alloc _))).mono ?_
  rw [hdc.out]
  rintro e w1 ⟨rfl, hF⟩
  have HF := Lib.hid (((Fr.refl _ _).alloc _).trans hF : Ext w w1)
  clear hF
  go_wp2
  go_ret
  exact ⟨rfl, HF.out⟩

set_option maxHeartbeats 1000000 in
theorem Num_any (a : Value) (q : Rat) (w : World) (ha : RatIs w a q) : Calls Tryz.prog 62 #[a] w (RetInt w q.num) := by
  obtain ⟨s, t, A, B, l, c, l', c', rfl, hn, hd⟩ := ha
  have HN := Lib.hid hn
  clear hn hd
  go_enter Tryz.func62, Tryz.ntmps62
  go_wp2
  have h1 := Blk.new (w.alloc (.cells #[.bool s, .slice A l c, .bool t, .slice B l' c'] 80)) 67 #[.bool s, .slice A l c]
  have e : (w.alloc (.cells #[.bool s, .slice A l c, .bool t, .slice B l' c'] 80)).heap.size = w.heap.size + 1 := by simp
  rw [e] at h1
  exact fin_int0 rfl rfl h1 (HN.out.ext (((Fr.refl _ _).alloc _).alloc _)) (((Fr.refl _ _).alloc _).alloc _)

set_option maxHeartbeats 1000000 in
set_option maxRecDepth 100000 in
/-- lowest, for coprime numbers -/
theorem lowest_any (a b : Value) (x y : Int) (q : Rat) (w : World) (ha : IntIs w a x) (hb : IntIs w b y) (hq : q.num = x ∧ (q.den : Int) = y) : Calls Tryz.prog 136 #[a, b] w (RetRat w q) := by
  obtain ⟨s, A, l, c, rfl⟩ := ha.shape
  obtain ⟨t, B, l', c', rfl⟩ := hb.shape
  have HA := Lib.hid ha
  have HB := Lib.hid hb
  have HQ := Lib.hid hq
  clear ha hb hq
  go_enter Tryz.func136, Tryz.ntmps136
  go_wp2_with fail
  generalize hwb : World.alloc (World.alloc (World.alloc w _) _) _ = wb
  have hE : Ext w wb := hwb ▸ (((Fr.refl _ _).alloc _).alloc _).alloc _
  have hB0 : Blk 67 wb w.heap.size #[.bool s, .slice A l c] := hwb ▸ ((Blk.new _ _ _).alloc _).alloc _
  have hB1 : Blk 67 wb (w.heap.size + 1) #[.bool t, .slice B l' c'] := by
    have h := (Blk.new (w.alloc (.cells #[.bool s, .slice A l c] 67)) 67 #[.bool t, .slice B l' c']).alloc (.cells #[.bool false, .slice none 0 0, .bool false, .slice none 0 0] 80)
    have e : (w.alloc (.cells #[.bool s, .slice A l c] 67)).heap.size = w.heap.size + 1 := by simp
    rw [e] at h
    exact hwb ▸ h
  have hB2 : Blk 80 wb (w.heap.size + 1 + 1) #[.bool false, .slice none 0 0, .bool false, .slice none 0 0] := by
    have h := Blk.new ((w.alloc (.cells #[.bool s, .slice A l c] 67)).alloc (.cells #[.bool t, .slice B l' c'] 67)) 80 #[.bool false, .slice none 0 0, .bool false, .slice none 0 0]
    have e : ((w.alloc (.cells #[.bool s, .slice A l c] 67)).alloc (.cells #[.bool t, .slice B l' c'] 67)).heap.size = w.heap.size + 1 + 1 := by simp
    rw [e] at h
    exact hwb ▸ h
  clear hwb
  refine (IsOne_any _ y _ (HB.out.ext hE)).mono ?_
  by_cases h1 : y = 1
  · rw [decide_eq_true h1]
    rintro e w1 ⟨rfl, hF⟩
    have HE := Lib.hid (hE.trans hF)
    have HB0 := Lib.hid (hB0.ext hF)
    have HB2 := Lib.hid (hB2.ext hF)
    have HD : Hid (denF q = 0) := denF_zero.2 (by have := HQ.out.2; omega)
    obtain ⟨x0, x1, _, _⟩ := HB0.out.cell2
    obtain ⟨y0, y1, y2, y3, y4, y5, y6, y7⟩ := HB2.out.cell4
    clear hE hF hB0 hB1 hB2 h1
    go_wp2
    refine fin_rat rfl rfl (HB2.out.put4 _ _ _ _) ?_ ?_ (Fr.local_ HE.out (Fr.set4 _ _ _ _) (by omega))
    · rw [HQ.out.1]; exact (HA.out.ext HE.out).other HB2.out noWords4 (Fr.set4 _ _ _ _)
    · rw [HD.out]; exact IntIs.zero _
  · rw [decide_eq_false h1]
    rintro e w1 ⟨rfl, hF⟩
    have HE := Lib.hid (hE.trans hF)
    have HB0 := Lib.hid (hB0.ext hF)
    have HB1 := Lib.hid (hB1.ext hF)
    have HB2 := Lib.hid (hB2.ext hF)
    have HD : Hid (denF q = y) := by
      have := HQ.out.2
      unfold Hid denF; rw [if_neg (by omega)]; exact this
    obtain ⟨x0, x1, _, _⟩ := HB0.out.cell2
    obtain ⟨z0, z1, _, _⟩ := HB1.out.cell2
    obtain ⟨y0, y1, y2, y3, y4, y5, y6, y7⟩ := HB2.out.cell4
    clear hE hF hB0 hB1 hB2 h1
    go_wp2
    refine fin_rat rfl rfl (HB2.out.put4 _ _ _ _) ?_ ?_ (Fr.local_ HE.out (Fr.set4 _ _ _ _) (by omega))
    · rw [HQ.out.1]; exact (HA.out.ext HE.out).other HB2.out noWords4 (Fr.set4 _ _ _ _)
    · rw [HD.out]; exact (HB.out.ext HE.out).other HB2.out noWords4 (Fr.set4 _ _ _ _)
end Go.Proofs.YtndafmjcelgnbaaGreatDoor

namespace Go.Proofs.YtndafmjcelgnbaaGreatDoor
open Go.RowKit

theorem denF_den {q : Rat} (h : q.den ≠ 1) : denF q = (q.den : Int) := by unfold denF; rw [if_neg h]

set_option maxHeartbeats 1000000 in
set_option maxRecDepth 100000 in
theorem Den_any (a : Value) (q : Rat) (w : World) (ha : RatIs w a q) : Calls Tryz.prog 77 #[a] w (RetInt w (q.den : Int)) := by
  obtain ⟨s, t, A, B, l, c, l', c', rfl, hn, hd⟩ := ha
  have HD := Lib.hid hd
  clear hn hd
  go_enter Tryz.func77, Tryz.ntmps77
  go_wp2_with fail
  generalize hwb : World.alloc (World.alloc w _) _ = wb
  have hB0 : Blk 80 wb w.heap.size #[.bool s, .slice A l c, .bool t, .slice B l' c'] := hwb ▸ (Blk.new _ _ _).alloc _
  have hB1 : Blk 67 wb (w.heap.size + 1) #[.bool false, .slice none 0 0] := by
    have h := Blk.new (w.alloc (.cells #[.bool s, .slice A l c, .bool t, .slice B l' c'] 80)) 67 #[.bool false, .slice none 0 0]
    have e : (w.alloc (.cells #[.bool s, .slice A l c, .bool t, .slice B l' c'] 80)).heap.size = w.heap.size + 1 := by simp
    rw [e, hwb] at h
    exact h
  have hE : Ext w wb := hwb ▸ ((Fr.refl _ _).alloc _).alloc _
  clear hwb
  by_cases h1 : q.den = 1
  · have hz := denF_zero.2 h1
    rw [hz] at HD
    refine (IsZero_any _ _ _ (HD.out.ext hE)).mono ?_
    rw [decide_eq_true rfl]
    rintro e w1 ⟨rfl, hF⟩
    have HB1 := Lib.hid (hB1.ext hF)
    have HE := Lib.hid (hE.trans hF)
    have HQ : Hid ((q.den : Int) = 1) := by unfold Hid; omega
    clear hB0 hB1 hE hF hz h1
    go_wp2_with fail
    refine (New_pos 1 _ W64_one rfl rfl).mono ?_
    rintro e w2 ⟨u2, rfl, hI2, hF2⟩
    obtain ⟨s2, B2, l2, c3, rfl⟩ := hI2.shape
    have hB2 := HB1.out.ext hF2
    obtain ⟨x0, x1, x2, x3⟩ := hB2.cell2
    have HB2 := Lib.hid hB2
    have HI2 := Lib.hid hI2
    have HE2 := Lib.hid (HE.out.trans hF2)
    clear hB2 hI2 hF2
    go_wp2
    refine fin_int0 rfl rfl ((HB2.out.set_ 0 _).set_ 1 _) (by rw [HQ.out]; exact HI2.out.store2 HB2.out) ((HE2.out.setCell (Or.inr (by show _ ≤ w.heap.size + 1; omega)) _).setCell (Or.inr (by show _ ≤ w.heap.size + 1; omega)) _)
  · have hz := denF_den h1
    have hne : denF q ≠ 0 := by rw [hz]; have := q.den_nz; omega
    refine (IsZero_any _ _ _ (HD.out.ext hE)).mono ?_
    rw [decide_eq_false hne]
    rintro e w1 ⟨rfl, hF⟩
    rw [hz] at HD
    have HI2 := Lib.hid (HD.out.ext (hE.trans hF))
    have HB1 := Lib.hid (hB1.ext hF)
    have HE := Lib.hid (hE.trans hF)
    obtain ⟨y0, y1, y2, y3, y4⟩ := (hB0.ext hF).cell4
    obtain ⟨x0, x1, x2, x3⟩ := HB1.out.cell2
    clear hB0 hB1 hE hF hz h1 hne HD
    go_wp2
    exact fin_int0 rfl rfl ((HB1.out.set_ 0 _).set_ 1 _) (HI2.out.store2 HB1.out) ((HE.out.setCell (Or.inr (by show _ ≤ w.heap.size + 1; omega)) _).setCell (Or.inr (by show _ ≤ w.heap.size + 1; omega)) _)

/-- the value of a text, 0 where it is no number -/
noncomputable def valF (l : List UInt8) : Rat := (readF l).getD 0

set_option maxHeartbeats 1000000 in
set_option maxRecDepth 100000 in
theorem value_any (s : ByteArray) (w : World) (hg : Glob w) (hok : ReadOk (bytes s)) : Calls Tryz.prog 87 #[.string s] w (RetRat w (valF (bytes s))) := by
  have HG := Lib.hid hg
  have HO := Lib.hid hok
  clear hg hok
  go_enter Tryz.func87, Tryz.ntmps87
  go_wp2_with fail
  generalize hwb : World.alloc w _ = wb
  obtain ⟨hB0, hE0⟩ := Blk.one hwb
  clear hwb
  refine (Read_any s _ (HG.out.ext hE0) HO.out).mono ?_
  rintro e w1 ⟨v, ok, rfl, hF1, hR⟩
  have hq : RatIs w1 v (valF (bytes s)) := by
    unfold valF
    rcases hR with ⟨_, q, h1, h2⟩ | ⟨_, h1, h2⟩
    · rw [h1]; exact h2
    · rw [h1]; exact h2
  obtain ⟨a, b, A, B, l, c, l', c', rfl, hn, hd⟩ := hq
  have HB := Lib.hid (hB0.ext hF1)
  have HE := Lib.hid (hE0.trans hF1)
  have HN := Lib.hid hn
  have HD := Lib.hid hd
  have hlt := (hB0.ext hF1).lt
  obtain ⟨y0, y1, y2, y3, y4, y5, y6, y7⟩ := (hB0.ext hF1).cell4
  clear hB0 hE0 hF1 hR hn hd
  generalize hr : w.heap.size = r at *
  have HR := Lib.hid hr
  clear hr
  go_wp2
  have hB2 := HB.out.put4 (.bool a) (.slice A l c) (.bool b) (.slice B l' c')
  have hF2 : Fr (fun i => i = r) w1 ((((w1.setCell ⟨r, 0, none⟩ (.bool a)).setCell ⟨r, 1, none⟩ (.slice A l c)).setCell ⟨r, 2, none⟩ (.bool b)).setCell ⟨r, 3, none⟩ (.slice B l' c')) := Fr.set4 _ _ _ _
  refine fin_rat rfl rfl (hB2.alloc _) ((HN.out.other HB.out noWords4 hF2).ext ((Fr.refl _ _).alloc _)) ((HD.out.other HB.out noWords4 hF2).ext ((Fr.refl _ _).alloc _)) ((Fr.local_ HE.out hF2 (by rw [HR.out]; exact Nat.le_refl _)).alloc _)
end Go.Proofs.YtndafmjcelgnbaaGreatDoor

namespace Go.Proofs.YtndafmjcelgnbaaGreatDoor
open Go.RowKit

theorem dec_wl {l : List UInt8} (hd : l.all isDig = true) (hl : l.length ≤ 570) : wl (decVal l) ≤ 30 := by
  rw [wl_le_iff]
  have h1 := decVal_lt l hd
  obtain ⟨k, hk⟩ : ∃ k, k = 30 := ⟨_, rfl⟩
  have h2 : 10 ^ l.length ≤ 10 ^ (19 * k) := Nat.pow_le_pow_right (by omega) (by omega)
  rw [← hk]
  rw [Nat.pow_mul] at h2
  have h3 : (10 ^ 19) ^ k ≤ W64 ^ k := Nat.pow_le_pow_left (by rw [W64_eq]; decide) k
  exact Nat.lt_of_lt_of_le h1 (Nat.le_trans h2 h3)
/-- every text that is not too long can be read -/
theorem ReadOk.of_len {l : List UInt8} (h : l.length ≤ 570) : ReadOk l := by
  refine ⟨h, fun neg num den hs _ => ?_⟩
  obtain ⟨d1, d2, d3⟩ := splitF_digits hs
  have w1 := dec_wl d1 (by omega)
  have w2 := dec_wl d2 (by omega)
  have hn : (sg neg (decVal num)).natAbs = decVal num := by unfold sg; split <;> omega
  exact GcdOk.words (by rw [hn]; omega) (by rw [Int.natAbs_natCast]; omega)
theorem readF_small {l : List UInt8} {q : Rat} (h : readF l = some q) (hl : l.length ≤ 570) : wl q.num.natAbs ≤ 30 ∧ wl q.den ≤ 30 := by
  unfold readF at h
  obtain ⟨⟨neg, num, den, ok⟩, hS⟩ : ∃ x, splitF l = x := ⟨_, rfl⟩
  rw [hS] at h
  cases ok with
  | false => cases h
  | true =>
    obtain ⟨d1, d2, d3⟩ := splitF_digits hS
    have hn : ∀ z, (sg neg z).natAbs = z := fun z => by unfold sg; split <;> omega
    have w1 := dec_wl d1 (by omega)
    have w2 := dec_wl d2 (by omega)
    simp only [] at h
    split at h
    · injection h with h
      subst h
      refine ⟨?_, ?_⟩
      · show wl (sg neg (decVal num)).natAbs ≤ 30
        rw [hn]; exact w1
      · show wl 1 ≤ 30
        have : wl 1 ≤ 1 := wl_one.2 W64_one
        omega
    · split at h
      · rename_i hne hg
        injection h with h
        subst h
        have h2 := (splitF_den hS).1 hne
        obtain ⟨e1, e2⟩ := mkRat_parts (z := sg neg (decVal num)) h2 (by rw [hn]; exact hg)
        refine ⟨by rw [e1, hn]; exact w1, ?_⟩
        have e3 : (mkRat (sg neg (decVal num)) (decVal den)).den = decVal den := by
          unfold denF at e2
          split at e2 <;> omega
        rw [e3]; exact w2
      · cases h

/-- what Inverse returns -/
def InvIs (a p x : Int) (ok : Bool) : Prop :=
  (ok = true ∧ Pr p ∧ a % p ≠ 0 ∧ x = (invN (a % p).toNat p.toNat : Int)) ∨ (ok = false ∧ x = 0 ∧ (¬ Pr p ∨ a % p = 0))
theorem InvIs.unique {a p x x' : Int} {ok ok' : Bool} (h : InvIs a p x ok) (h' : InvIs a p x' ok') : x = x' ∧ ok = ok' := by
  rcases h with ⟨rfl, h1, h2, rfl⟩ | ⟨rfl, rfl, h1⟩ <;> rcases h' with ⟨rfl, k1, k2, rfl⟩ | ⟨rfl, rfl, k1⟩
  · exact ⟨rfl, rfl⟩
  · rcases k1 with k1 | k1
    · exact absurd h1 k1
    · exact absurd k1 h2
  · rcases h1 with h1 | h1
    · exact absurd k1 h1
    · exact absurd h1 k2
  · exact ⟨rfl, rfl⟩
def RetInv (w : World) (a p : Int) (e : Ending) (w' : World) : Prop := ∃ x ok, e = .returned (.tuple #[.int .i64 x, .bool ok]) ∧ InvIs a p x ok ∧ Ext w w'

set_option maxHeartbeats 1000000 in
theorem Inverse_any (a p : Int) (w : World) (h1 : -9223372036854775808 ≤ a) (h2 : a ≤ 9223372036854775807) : Calls Tryz.prog 23 #[.int .i64 a, .int .i64 p] w (RetInv w a p) := by
  cases hp : prB p with
  | false =>
    have HP := Lib.hid (prB_false.1 hp)
    have H1 := fun w => isPrime_any p w
    rw [hp] at H1
    clear hp
    go_enter Tryz.func23, Tryz.ntmps23
    go_wp2_with (go_at_call 21; refine (H1 _).mono ?_; rintro e w' ⟨rfl, rfl⟩)
    go_ret2
    exact ⟨0, false, rfl, Or.inr ⟨rfl, rfl, Or.inl HP.out⟩, Fr.refl _ _⟩
  | true =>
    have hP := prB_true.1 hp
    have HP := Lib.hid hP
    have H1 := fun w => isPrime_any p w
    rw [hp] at H1
    obtain ⟨P, rfl⟩ := Int.eq_ofNat_of_zero_le (show 0 ≤ p by have := hP.1; omega)
    have hP2 : 2 ≤ P := by have := hP.1; omega
    have hPm : P ≤ 2147483647 := by have := hP.2.1; omega
    obtain ⟨x, hx⟩ : ∃ x : Nat, a % (P : Int) = (x : Int) := Int.eq_ofNat_of_zero_le (Int.emod_nonneg _ (by omega))
    have lx : x < P := by have := Int.emod_lt_of_pos a (b := (P : Int)) (by omega); omega
    have cres := fun w => residue_any a (P : Int) w h1 h2 (by omega) (by omega)
    rw [hx] at cres
    have Hx := Lib.hid hx
    have q0 := wrapW P (by rw [W64_eq]; omega)
    clear hp hP hx
    by_cases h0 : x = 0
    · subst h0
      go_enter Tryz.func23, Tryz.ntmps23
      go_wp2_with (first
        | (go_at_call 21; refine (H1 _).mono ?_; rintro e w' ⟨rfl, rfl⟩)
        | (go_at_call 49; refine (cres _).mono ?_; rintro e w' ⟨rfl, rfl⟩))
      go_ret2
      exact ⟨0, false, rfl, Or.inr ⟨rfl, rfl, Or.inr (by rw [Hx.out]; rfl)⟩, Fr.refl _ _⟩
    · have hx0 : ((x : Int) == 0) = false := by simp; omega
      have cinv := fun w => Invert_any x P w lx hP2 hPm
      obtain ⟨iv, hiv⟩ : ∃ iv, invN x P = iv := ⟨_, rfl⟩
      have liv : iv < P := by rw [← hiv]; exact Nat.mod_lt _ (by omega)
      rw [hiv] at cinv
      have f2 : IntKind.i64.wrap (iv : Int) = (iv : Int) := IntWalk.i64_in _ (by omega)
      have HF : Hid (InvIs a (P : Int) (iv : Int) true) := Or.inl ⟨rfl, HP.out, by rw [Hx.out]; omega, by rw [Hx.out, ← hiv]; simp⟩
      clear hiv
      go_enter Tryz.func23, Tryz.ntmps23
      go_wp2_with (first
        | (go_at_call 21; refine (H1 _).mono ?_; rintro e w' ⟨rfl, rfl⟩)
        | (go_at_call 49; refine (cres _).mono ?_; rintro e w' ⟨rfl, rfl⟩)
        | (go_at_call 51; refine (cinv _).mono ?_; rintro e w' ⟨rfl, rfl⟩))
      go_ret2
      exact ⟨iv, true, rfl, HF.out, Fr.refl _ _⟩

/-- what Reduce returns -/
def RedIs (l : List UInt8) (p x : Int) (ok : Bool) : Prop :=
  (ok = true ∧ Pr p ∧ ∃ q : Rat, readF l = some q ∧ (q.den : Int) % p ≠ 0 ∧ x = (q.num % p) * (invN ((q.den : Int) % p).toNat p.toNat : Int) % p) ∨ (ok = false ∧ x = 0 ∧ (¬ Pr p ∨ readF l = none ∨ ∃ q : Rat, readF l = some q ∧ (q.den : Int) % p = 0))
def RetRed (w : World) (l : List UInt8) (p : Int) (e : Ending) (w' : World) : Prop := ∃ x ok, e = .returned (.tuple #[.int .i64 x, .bool ok]) ∧ RedIs l p x ok ∧ Ext w w'

set_option maxHeartbeats 2000000 in
set_option maxRecDepth 100000 in
theorem Reduce_any (s : ByteArray) (p : Int) (w : World) (hg : Glob w) (hok : ReadOk (bytes s)) : Calls Tryz.prog 25 #[.string s, .int .i64 p] w (RetRed w (bytes s) p) := by
  cases hp : prB p with
  | false =>
    have HP := Lib.hid (prB_false.1 hp)
    have H1 := fun w => isPrime_any p w
    rw [hp] at H1
    clear hp hg hok
    go_enter Tryz.func25, Tryz.ntmps25
    go_wp2_with (go_at_call 21; refine (H1 _).mono ?_; rintro e w' ⟨rfl, rfl⟩)
    go_ret2
    exact ⟨0, false, rfl, Or.inr ⟨rfl, rfl, Or.inl HP.out⟩, Fr.refl _ _⟩
  | true =>
    have hP := prB_true.1 hp
    have HP := Lib.hid hP
    have H1 := fun w => isPrime_any p w
    rw [hp] at H1
    obtain ⟨P, rfl⟩ := Int.eq_ofNat_of_zero_le (show 0 ≤ p by have := hP.1; omega)
    have hP2 : 2 ≤ P := by have := hP.1; omega
    have hPm : P ≤ 2147483647 := by have := hP.2.1; omega
    have HG := Lib.hid hg
    have HO := Lib.hid hok
    have q0 := wrapW P (by rw [W64_eq]; omega)
    clear hp hP hg hok
    go_enter Tryz.func25, Tryz.ntmps25
    go_wp2_with (go_at_call 21; refine (H1 _).mono ?_; rintro e w' ⟨rfl, rfl⟩)
    refine (Read_any s _ HG.out HO.out).mono ?_
    rintro e w1 ⟨v, ok, rfl, hF1, hR⟩
    have HF1 := Lib.hid hF1
    clear hF1
    rcases hR with ⟨rfl, q, hq, hI⟩ | ⟨rfl, hq, hI⟩
    · have hsm := readF_small hq HO.out.1
      obtain ⟨a, b, A, B, l, c, l', c', rfl, hn, hd⟩ := hI
      have HI : Hid (RatIs w1 (.agg #[.bool a, .slice A l c, .bool b, .slice B l' c']) q) := ⟨_, _, _, _, _, _, _, _, rfl, hn, hd⟩
      have HQ := Lib.hid hq
      have HSm := Lib.hid hsm
      clear hq hsm hn hd
      go_wp2_with fail
      generalize hwb : World.alloc w1 _ = wb
      obtain ⟨hB0, hE0⟩ := Blk.one hwb
      clear hwb
      obtain ⟨D, hD⟩ : ∃ D : Nat, ((q.den : Nat) : Int) % (P : Int) = (D : Int) := Int.eq_ofNat_of_zero_le (Int.emod_nonneg _ (by omega))
      have lD : D < P := by have := Int.emod_lt_of_pos (q.den : Int) (b := (P : Int)) (by omega); omega
      obtain ⟨M, hM⟩ : ∃ M : Nat, q.num % (P : Int) = (M : Int) := Int.eq_ofNat_of_zero_le (Int.emod_nonneg _ (by omega))
      have lM : M < P := by have := Int.emod_lt_of_pos q.num (b := (P : Int)) (by omega); omega
      refine (Den_any _ q _ (HI.out.ext hE0)).mono ?_
      rintro e w2 ⟨u2, rfl, hI2, hF2⟩
      obtain ⟨s2, B2, l2, c2, rfl⟩ := hI2.shape
      have HB := Lib.hid (hB0.ext hF2)
      have HE := Lib.hid (hE0.trans hF2)
      have HI2 := Lib.hid hI2
      clear hB0 hE0 hI2 hF2
      go_wp2_with fail
      refine (ModWord_any _ _ P _ HI2.out (by have := HSm.out.2; unfold Fits; rw [Int.natAbs_natCast]; omega) (by omega) (by rw [W64_eq]; omega)).mono ?_
      rw [hD]
      rintro e w3 ⟨rfl, hF3⟩
      have HB3 := Lib.hid (HB.out.ext hF3)
      have HE3 := Lib.hid (HE.out.trans hF3)
      have HDm := Lib.hid hD
      have HMm := Lib.hid hM
      clear hF3 HB HE hD hM
      by_cases h0 : D = 0
      · subst h0
        go_wp2
        go_ret2
        exact ⟨0, false, rfl, Or.inr ⟨rfl, rfl, Or.inr (Or.inr ⟨q, HQ.out, HDm.out⟩)⟩, HF1.out.trans HE3.out⟩
      · have hD0 : ((D : Int) == 0) = false := by simp; omega
        obtain ⟨y0, y1, y2, y3, y4⟩ := HB3.out.cell4
        go_wp2_with fail
        refine (Num_any _ q _ (HI.out.ext HE3.out)).mono ?_
        rintro e w4 ⟨u4, rfl, hI4, hF4⟩
        obtain ⟨s4, B4, l4, c4, rfl⟩ := hI4.shape
        have HI4 := Lib.hid hI4
        have HE4 := Lib.hid (HE3.out.trans hF4)
        clear hI4 hF4 HB3 HE3 y0 y1 y2 y3 y4
        go_wp2_with fail
        refine (ModWord_any _ _ P _ HI4.out (by have := HSm.out.1; unfold Fits; omega) (by omega) (by rw [W64_eq]; omega)).mono ?_
        rw [HMm.out]
        rintro e w5 ⟨rfl, hF5⟩
        have HE5 := Lib.hid (HE4.out.trans hF5)
        have cinv := fun w => Invert_any D P w lD hP2 hPm
        obtain ⟨iv, hiv⟩ : ∃ iv, invN D P = iv := ⟨_, rfl⟩
        have liv : iv < P := by rw [← hiv]; exact Nat.mod_lt _ (by omega)
        rw [hiv] at cinv
        obtain ⟨f, hf⟩ : ∃ f, M * iv % P = f := ⟨_, rfl⟩
        have lf : f < P := by rw [← hf]; exact Nat.mod_lt _ (by omega)
        have e5 : (IntKind.u64.wrap ((M : Int) * (iv : Int))).tmod (P : Int) = (f : Int) := by rw [mulmod_u64 lM liv hPm, hf]
        have f2 : IntKind.i64.wrap (f : Int) = (f : Int) := IntWalk.i64_in _ (by omega)
        have hp0 : ((P : Int) == 0) = false := by simp; omega
        have hp1 : P ≠ 0 := by omega
        have HFin : Hid (RedIs (bytes s) (P : Int) (f : Int) true) := Or.inl ⟨rfl, HP.out, q, HQ.out, by rw [HDm.out]; omega, by
          rw [HDm.out, HMm.out, show ((D : Int)).toNat = D by omega, show ((P : Int)).toNat = P by omega, hiv, ← Int.natCast_mul, ← Int.natCast_emod, hf]⟩
        clear hF5 hiv hf HE4
        go_wp2_with (go_at_call 51; refine (cinv _).mono ?_; rintro e w' ⟨rfl, rfl⟩)
        go_ret2
        exact ⟨f, true, rfl, HFin.out, HF1.out.trans HE5.out⟩
    · obtain ⟨a, b, A, B, l, c, l', c', rfl, hn, hd⟩ := hI
      have HQ := Lib.hid hq
      clear hq hn hd
      go_wp2
      go_ret2
      exact ⟨0, false, rfl, Or.inr ⟨rfl, rfl, Or.inr (Or.inl HQ.out)⟩, HF1.out.alloc _⟩
end Go.Proofs.YtndafmjcelgnbaaGreatDoor
