/-
  Package integer: Quo. Package rational: IsWhole, Num, Den, lowest.
-/
import Derived.Test.YtndafmjcelgnbaaGreatDoorSmall
import Derived.Test.YtndafmjcelgnbaaGreatDoorRead
namespace Go.Proofs.YtndafmjcelgnbaaGreatDoor
open Go.RowKit

/-- block g holds the integer z -/
def IntAt (w : World) (g : Nat) (z : Int) : Prop := ∃ s A l c, Blk 67 w g #[.bool s, .slice A l c] ∧ IntIs w (.agg #[.bool s, .slice A l c]) z
theorem IntAt.ext {w w' : World} {g : Nat} {z : Int} (h : IntAt w g z) (hF : Ext w w') : IntAt w' g z := by
  obtain ⟨s, A, l, c, h1, h2⟩ := h
  exact ⟨s, A, l, c, h1.ext hF, h2.ext hF⟩
theorem IntAt.lt {w : World} {g : Nat} {z : Int} (h : IntAt w g z) : g < w.heap.size := by
  obtain ⟨_, _, _, _, h1, _⟩ := h
  exact h1.lt
theorem IntAt.put {w : World} {g : Nat} {z z' : Int} {s : Bool} {A : Option Addr} {l c : Nat} (h : IntAt w g z) (hI : IntIs w (.agg #[.bool s, .slice A l c]) z') : IntAt ((w.setCell ⟨g, 0, none⟩ (.bool s)).setCell ⟨g, 1, none⟩ (.slice A l c)) g z' := by
  obtain ⟨s0, A0, l0, c0, h1, _⟩ := h
  exact ⟨s, A, l, c, (h1.set_ 0 _).set_ 1 _, hI.other h1 noWords2 (Fr.set2 _ _)⟩
theorem IntAt.away {w : World} {g r : Nat} {z z0 : Int} {a b : Value} (h : IntAt w g z) (hr : IntAt w r z0) (hne : g ≠ r) : IntAt ((w.setCell ⟨r, 0, none⟩ a).setCell ⟨r, 1, none⟩ b) g z := by
  obtain ⟨s, A, l, c, h1, h2⟩ := h
  obtain ⟨s0, A0, l0, c0, k1, _⟩ := hr
  exact ⟨s, A, l, c, h1.fr (Fr.set2 _ _) hne, h2.other k1 noWords2 (Fr.set2 _ _)⟩
theorem IntIs.away {w : World} {r : Nat} {v : Value} {z z0 : Int} {a b : Value} (h : IntIs w v z) (hr : IntAt w r z0) : IntIs ((w.setCell ⟨r, 0, none⟩ a).setCell ⟨r, 1, none⟩ b) v z := by
  obtain ⟨s0, A0, l0, c0, k1, _⟩ := hr
  exact h.other k1 noWords2 (Fr.set2 _ _)

/-- the end of a function whose result is an Int in block r -/
theorem fin_intAt {fn : Func} {t : Tmp} {tmps : Array Value} {w w' : World} {r : Nat} {z : Int} (hres : fn.results = #[.cell t 67]) (ht : tmps[t]? = some (.pointer (some ⟨r, 0, none⟩))) (h : IntAt w' r z) (hE : Ext w w') : bodyPost Tryz.prog fn (RetInt w z) .ret ⟨tmps, []⟩ w' := by
  obtain ⟨s, A, l, c, h1, h2⟩ := h
  exact fin_int0 hres ht h1 h2 hE

def RetRat (w : World) (q : Rat) (e : Ending) (w' : World) : Prop := ∃ v, e = .returned v ∧ RatIs w' v q ∧ Ext w w'
theorem fin_rat {fn : Func} {t : Tmp} {tmps : Array Value} {w w' : World} {r : Nat} {s s' : Bool} {A B : Option Addr} {l c l' c' : Nat} {q : Rat} (hres : fn.results = #[.cell t 80]) (ht : tmps[t]? = some (.pointer (some ⟨r, 0, none⟩)))
    (hB : Blk 80 w' r #[.bool s, .slice A l c, .bool s', .slice B l' c']) (hI : IntIs w' (.agg #[.bool s, .slice A l c]) q.num) (hI' : IntIs w' (.agg #[.bool s', .slice B l' c']) (denF q)) (hE : Ext w w') :
    bodyPost Tryz.prog fn (RetRat w q) .ret ⟨tmps, []⟩ w' := by
  obtain ⟨h0, h1, h2, h4, _⟩ := hB.cell4
  exact bodyPost_ret (v := .agg #[.bool s, .slice A l c, .bool s', .slice B l' c']) (by simp [results, hres, ht, go_sem, h0, h1, h2, h4]) rfl ⟨_, rfl, ⟨_, _, _, _, _, _, _, _, rfl, hI, hI'⟩, hE⟩

theorem denF_zero {q : Rat} : denF q = 0 ↔ q.den = 1 := by
  unfold denF
  have := q.den_nz
  split <;> omega

set_option maxHeartbeats 1000000 in
theorem IsWhole_any (a : Value) (q : Rat) (w : World) (ha : RatIs w a q) : Calls Tryz.prog 61 #[a] w (RetV w (.bool (decide (q.den = 1)))) := by
  obtain ⟨s, t, A, B, l, c, l', c', rfl, hn, hd⟩ := ha
  have HD := Lib.hid hd
  have hdc : Hid (decide (denF q = 0) = decide (q.den = 1)) := by
    unfold Hid
    by_cases h : q.den = 1
    · rw [decide_eq_true h, decide_eq_true (denF_zero.2 h)]
    · rw [decide_eq_false h, decide_eq_false (fun k => h (denF_zero.1 k))]
  clear hn hd
  go_enter Tryz.func61, Tryz.ntmps61
  go_wp2_with fail
  refine (IsZero_any _ _ _ (HD.out.ext ((Fr.refl _ _).alloc _))).mono ?_
  rw [hdc.out]
  rintro e w1 ⟨rfl, hF⟩
  have HF := Lib.hid (((Fr.refl _ _).alloc _).trans hF : Ext w w1)
  clear hF
  go_wp2
  go_ret
  exact ⟨rfl, HF.out⟩

set_option maxHeartbeats 1000000 in
theorem Num_any (a : Value) (q : Rat) (w : World) (ha : RatIs w a q) : Calls Tryz.prog 62 #[a] w (RetInt w q.num) := by
  obtain ⟨s, t, A, B, l, c, l', c', rfl, hn, hd⟩ := ha
  have HN := Lib.hid hn
  clear hn hd
  go_enter Tryz.func62, Tryz.ntmps62
  go_wp2
  have h1 := Blk.new (w.alloc (.cells #[.bool s, .slice A l c, .bool t, .slice B l' c'] 80)) 67 #[.bool s, .slice A l c]
  have e : (w.alloc (.cells #[.bool s, .slice A l c, .bool t, .slice B l' c'] 80)).heap.size = w.heap.size + 1 := by simp
  rw [e] at h1
  exact fin_int0 rfl rfl h1 (HN.out.ext (((Fr.refl _ _).alloc _).alloc _)) (((Fr.refl _ _).alloc _).alloc _)

set_option maxHeartbeats 1000000 in
set_option maxRecDepth 100000 in
/-- lowest, for coprime numbers -/
theorem lowest_any (a b : Value) (x y : Int) (q : Rat) (w : World) (ha : IntIs w a x) (hb : IntIs w b y) (hq : q.num = x ∧ (q.den : Int) = y) : Calls Tryz.prog 136 #[a, b] w (RetRat w q) := by
  obtain ⟨s, A, l, c, rfl⟩ := ha.shape
  obtain ⟨t, B, l', c', rfl⟩ := hb.shape
  have HA := Lib.hid ha
  have HB := Lib.hid hb
  have HQ := Lib.hid hq
  clear ha hb hq
  go_enter Tryz.func136, Tryz.ntmps136
  go_wp2_with fail
  generalize hwb : World.alloc (World.alloc (World.alloc w _) _) _ = wb
  have hE : Ext w wb := hwb ▸ (((Fr.refl _ _).alloc _).alloc _).alloc _
  have hB0 : Blk 67 wb w.heap.size #[.bool s, .slice A l c] := hwb ▸ ((Blk.new _ _ _).alloc _).alloc _
  have hB1 : Blk 67 wb (w.heap.size + 1) #[.bool t, .slice B l' c'] := by
    have h := (Blk.new (w.alloc (.cells #[.bool s, .slice A l c] 67)) 67 #[.bool t, .slice B l' c']).alloc (.cells #[.bool false, .slice none 0 0, .bool false, .slice none 0 0] 80)
    have e : (w.alloc (.cells #[.bool s, .slice A l c] 67)).heap.size = w.heap.size + 1 := by simp
    rw [e] at h
    exact hwb ▸ h
  have hB2 : Blk 80 wb (w.heap.size + 1 + 1) #[.bool false, .slice none 0 0, .bool false, .slice none 0 0] := by
    have h := Blk.new ((w.alloc (.cells #[.bool s, .slice A l c] 67)).alloc (.cells #[.bool t, .slice B l' c'] 67)) 80 #[.bool false, .slice none 0 0, .bool false, .slice none 0 0]
    have e : ((w.alloc (.cells #[.bool s, .slice A l c] 67)).alloc (.cells #[.bool t, .slice B l' c'] 67)).heap.size = w.heap.size + 1 + 1 := by simp
    rw [e] at h
    exact hwb ▸ h
  clear hwb
  refine (IsOne_any _ y _ (HB.out.ext hE)).mono ?_
  by_cases h1 : y = 1
  · rw [decide_eq_true h1]
    rintro e w1 ⟨rfl, hF⟩
    have HE := Lib.hid (hE.trans hF)
    have HB0 := Lib.hid (hB0.ext hF)
    have HB2 := Lib.hid (hB2.ext hF)
    have HD : Hid (denF q = 0) := denF_zero.2 (by have := HQ.out.2; omega)
    obtain ⟨x0, x1, _, _⟩ := HB0.out.cell2
    obtain ⟨y0, y1, y2, y3, y4, y5, y6, y7⟩ := HB2.out.cell4
    clear hE hF hB0 hB1 hB2 h1
    go_wp2
    refine fin_rat rfl rfl (HB2.out.put4 _ _ _ _) ?_ ?_ (Fr.local_ HE.out (Fr.set4 _ _ _ _) (by omega))
    · rw [HQ.out.1]; exact (HA.out.ext HE.out).other HB2.out noWords4 (Fr.set4 _ _ _ _)
    · rw [HD.out]; exact IntIs.zero _
  · rw [decide_eq_false h1]
    rintro e w1 ⟨rfl, hF⟩
    have HE := Lib.hid (hE.trans hF)
    have HB0 := Lib.hid (hB0.ext hF)
    have HB1 := Lib.hid (hB1.ext hF)
    have HB2 := Lib.hid (hB2.ext hF)
    have HD : Hid (denF q = y) := by
      have := HQ.out.2
      unfold Hid denF; rw [if_neg (by omega)]; exact this
    obtain ⟨x0, x1, _, _⟩ := HB0.out.cell2
    obtain ⟨z0, z1, _, _⟩ := HB1.out.cell2
    obtain ⟨y0, y1, y2, y3, y4, y5, y6, y7⟩ := HB2.out.cell4
    clear hE hF hB0 hB1 hB2 h1
    go_wp2
    refine fin_rat rfl rfl (HB2.out.put4 _ _ _ _) ?_ ?_ (Fr.local_ HE.out (Fr.set4 _ _ _ _) (by omega))
    · rw [HQ.out.1]; exact (HA.out.ext HE.out).other HB2.out noWords4 (Fr.set4 _ _ _ _)
    · rw [HD.out]; exact (HB.out.ext HE.out).other HB2.out noWords4 (Fr.set4 _ _ _ _)
end Go.Proofs.YtndafmjcelgnbaaGreatDoor
