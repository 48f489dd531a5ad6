/-
  Package integer: Sub, Shift, QuoRem, Quo, Mod, New.
-/
import Derived.Test.YtndafmjcelgnbaaGreatDoorInt2
namespace Go.Proofs.YtndafmjcelgnbaaGreatDoor
open Go.RowKit

theorem IntIs.shape {w : World} {v : Value} {z : Int} (h : IntIs w v z) : ∃ (s : Bool) (A : Option Addr) (l c : Nat), v = .agg #[.bool s, .slice A l c] := by
  obtain ⟨s, A, l, c, h, _⟩ := h.open
  exact ⟨s, A, l, c, h⟩
/-- a store of a struct into a block that holds a struct of the same kind does not touch integers -/
theorem IntIs.store2 {t : TypeId} {w : World} {r : Nat} {v a b : Value} {z : Int} {s : Bool} {A : Option Addr} {l c : Nat} (h : IntIs w v z) (hB : Blk t w r #[.bool s, .slice A l c]) : IntIs ((w.setCell ⟨r, 0, none⟩ a).setCell ⟨r, 1, none⟩ b) v z := by
  obtain ⟨s', u, n, h1, h2, h3⟩ := h
  exact ⟨s', u, n, h1, h2.store2 hB, h3⟩

/-- the end of a function whose result, an Int that a call returned, is stored in block r -/
theorem fin_int2 {fn : Func} {t : Tmp} {tmps : Array Value} {w wb w2 : World} {r : Nat} {s s0 : Bool} {A A0 : Option Addr} {l c l0 c0 : Nat} {z : Int}
    (hres : fn.results = #[.cell t 67]) (ht : tmps[t]? = some (.pointer (some ⟨r, 0, none⟩))) (hr : w.heap.size ≤ r)
    (HE : Ext w wb) (HB : Blk 67 wb r #[.bool s0, .slice A0 l0 c0]) (hF : Ext wb w2) (hI : IntIs w2 (.agg #[.bool s, .slice A l c]) z) :
    bodyPost Tryz.prog fn (RetInt w z) .ret ⟨tmps, []⟩ ((w2.setCell ⟨r, 0, none⟩ (.bool s)).setCell ⟨r, 1, none⟩ (.slice A l c)) := by
  have hB2 : Blk 67 ((w2.setCell ⟨r, 0, none⟩ (.bool s)).setCell ⟨r, 1, none⟩ (.slice A l c)) r #[.bool s, .slice A l c] := ((HB.ext hF).set_ 0 _).set_ 1 _
  exact bodyPost_ret (results_int hres _ _ r _ _ ht hB2) rfl ⟨_, rfl, hI.store2 (HB.ext hF), ((HE.trans hF).setCell (Or.inr hr) _).setCell (Or.inr hr) _⟩

set_option maxHeartbeats 4000000 in
set_option maxRecDepth 100000 in
theorem Sub_any (a b : Value) (x y : Int) (w : World) (ha : IntIs w a x) (hb : IntIs w b y) (hx : Fits x) (hy : Fits y) : Calls Tryz.prog 123 #[a, b] w (RetInt w (x - y)) := by
  obtain ⟨s, A, l, c, rfl⟩ := ha.shape
  obtain ⟨t, A', l', c', rfl⟩ := hb.shape
  have Ha := Lib.hid ha
  have Hb := Lib.hid hb
  have Hx := Lib.hid hx
  have Hy : Hid (Fits (-y)) := by unfold Hid Fits; rw [Int.natAbs_neg]; exact hy
  obtain ⟨z, hz⟩ : ∃ z, z = x - y := ⟨_, rfl⟩
  rw [← hz]
  have Hz := Lib.hid hz
  clear ha hb hx hy hz
  go_enter Tryz.func123, Tryz.ntmps123
  go_wp2
  generalize hwb : World.alloc (World.alloc (World.alloc w _) _) _ = wb
  obtain ⟨hBx, hBy, hBr, hE⟩ := three_blocks hwb
  have HBx := Lib.hid hBx
  have HBy := Lib.hid hBy
  have HBr := Lib.hid hBr
  have HE := Lib.hid hE
  clear hwb hBx hBy hBr hE
  go_region_held3 (fun w' => w'.cell? ⟨w.heap.size, 0, none⟩ = some (.bool s) ∧ w'.cell? ⟨w.heap.size, 1, none⟩ = some (.slice A l c) ∧ w'.cell? ⟨w.heap.size + 1, 0, none⟩ = some (.bool t) ∧ w'.cell? ⟨w.heap.size + 1, 1, none⟩ = some (.slice A' l' c'))
    (first | exact keep4 HBx.out HBy.out (Fr.refl _ _).drew | exact keep4 HBx.out HBy.out (Fr.undrew (by assumption)) | exact keep4s HBx.out HBy.out (Fr.undrew (by assumption)) (by omega) (by omega))
    (first
      | (go_at_call 118
         refine (Neg_any _ _ _ (Hb.out.ext HE.out.drew)).mono ?_
         rintro e w1 ⟨u1, rfl, hN1, hF1⟩
         obtain ⟨s1, A1, l1, c1, rfl⟩ := hN1.shape)
      | (go_at_call 52
         refine (Add_any _ _ _ _ _ (Ha.out.ext (HE.out.drew.trans (by assumption))) (by assumption) Hx.out Hy.out).mono ?_
         rintro e w2 ⟨u2, rfl, hN2, hF2⟩
         obtain ⟨s2, A2, l2, c2, rfl⟩ := hN2.shape
         have hF3 : Ext wb.drew w2 := Fr.ext (by assumption) hF2
         obtain ⟨z0, z1, z2, z3⟩ := (HBr.out.ext (Fr.undrew hF3)).cell2))
  go_wp2
  refine fin_int2 rfl rfl (by omega) HE.out HBr.out (Fr.undrew hF3) ?_
  rw [Hz.out, Int.sub_eq_add_neg]; exact hN2

set_option maxHeartbeats 4000000 in
set_option maxRecDepth 100000 in
theorem Shift_any (a : Value) (x : Int) (k : Nat) (w : World) (ha : IntIs w a x) (hx : Fits x) (hk : k ≤ 274877906944) : Calls Tryz.prog 157 #[a, .int .u64 (k : Int)] w (RetInt w (x * (2 ^ k : Nat))) := by
  obtain ⟨s, A, l, c, rfl, hN, hz, h0⟩ := ha.open
  clear h0
  have HN := Lib.hid hN
  have Hz := Lib.hid hz
  have Hx : Hid (wl x.natAbs ≤ 4294967296) := by unfold Fits at hx; unfold Hid; omega
  have Hk := Lib.hid hk
  obtain ⟨z, ez⟩ : ∃ z, z = x * (2 ^ k : Nat) := ⟨_, rfl⟩
  rw [← ez]
  have Ez := Lib.hid ez
  clear ha hx hk hN hz ez
  go_enter Tryz.func157, Tryz.ntmps157
  go_wp2
  generalize hwb : World.alloc (World.alloc w _) _ = wb
  obtain ⟨hBx, hBr, hE⟩ := two_blocks hwb
  have HBx := Lib.hid hBx
  have HBr := Lib.hid hBr
  have HE := Lib.hid hE
  clear hwb hBx hBr hE
  go_region_held3 (fun w' => w'.cell? ⟨w.heap.size, 0, none⟩ = some (.bool s) ∧ w'.cell? ⟨w.heap.size, 1, none⟩ = some (.slice A l c) ∧ w'.cell? ⟨w.heap.size, 1, none⟩ = some (.slice A l c))
    (first | exact keep3 HBx.out HBx.out (Fr.refl _ _).drew | exact keep3 HBx.out HBx.out (Fr.undrew (by assumption)) | exact keep3s HBx.out HBx.out (Fr.undrew (by assumption)) (by omega) (by omega))
    (first
      | (go_at_call 181
         refine (shiftLeft_any _ _ _ _ (HN.out.ext HE.out.drew) Hx.out Hk.out).mono ?_
         rintro e w1 ⟨u1, rfl, hN1, hF1⟩
         obtain ⟨A1, l1, c1, rfl⟩ := hN1.slice)
      | (go_at_call 106
         refine (signed_any _ _ _ _ (by assumption)).mono ?_
         rintro e w2 ⟨s2, rfl, hs2, hF2⟩
         have hF3 : Ext wb.drew w2 := Fr.ext (by assumption) hF2
         obtain ⟨z0, z1, z2, z3⟩ := (HBr.out.ext (Fr.undrew hF3)).cell2))
  go_wp2
  refine fin_int rfl rfl (by omega) HE.out HBr.out (Fr.undrew hF3) (hN1.ext hF2) hs2.out ?_
  rw [Ez.out]
  have := Hz.out
  generalize x.natAbs = m at this
  subst this
  cases s <;> simp [sg, Int.neg_mul]

/-- two integers -/
def RetInts (w : World) (p q : Int) (e : Ending) (w' : World) : Prop := ∃ u v, e = .returned (.tuple #[u, v]) ∧ IntIs w' u p ∧ IntIs w' v q ∧ Ext w w'

theorem results_ints {fn : Func} {t t' : Tmp} (h : fn.results = #[.cell t 67, .cell t' 67]) (tmps : Array Value) (w : World) (b b' : Nat) (x y x' y' : Value) (ht : tmps[t]? = some (.pointer (some ⟨b, 0, none⟩))) (ht' : tmps[t']? = some (.pointer (some ⟨b', 0, none⟩)))
    (hB : Blk 67 w b #[x, y]) (hB' : Blk 67 w b' #[x', y']) : (results fn tmps).run Tryz.prog w = .ok (.tuple #[.agg #[x, y], .agg #[x', y']]) w := by
  have h0 : w.cell? ⟨b, 0, none⟩ = some x := hB.cell 0
  have h1 : w.cell? ⟨b, 1, none⟩ = some y := hB.cell 1
  have h0' : w.cell? ⟨b', 0, none⟩ = some x' := hB'.cell 0
  have h1' : w.cell? ⟨b', 1, none⟩ = some y' := hB'.cell 1
  simp [results, h, ht, ht', go_sem, h0, h1, h0', h1']

theorem four_blocks {t : TypeId} {w wb : World} {x y z u : Array Value} (h : (((w.alloc (.cells x t)).alloc (.cells y t)).alloc (.cells z t)).alloc (.cells u t) = wb) :
    Blk t wb w.heap.size x ∧ Blk t wb (w.heap.size + 1) y ∧ Blk t wb (w.heap.size + 1 + 1) z ∧ Blk t wb (w.heap.size + 1 + 1 + 1) u ∧ Ext w wb := by
  obtain ⟨h1, h2, h3, h4⟩ := three_blocks (t := t) (w := w) (x := x) (y := y) (z := z) rfl
  subst h
  have e2 : (((w.alloc (.cells x t)).alloc (.cells y t)).alloc (.cells z t)).heap.size = w.heap.size + 1 + 1 + 1 := by simp
  have h5 := Blk.new (((w.alloc (.cells x t)).alloc (.cells y t)).alloc (.cells z t)) t u
  rw [e2] at h5
  exact ⟨h1.alloc _, h2.alloc _, h3.alloc _, h5, h4.alloc _⟩

theorem sg_tdiv (s t : Bool) (m n : Nat) : (sg s m).tdiv (sg t n) = sg (s != t) (m / n) := by
  cases s <;> cases t <;> simp [sg, Int.neg_tdiv, Int.tdiv_neg]
theorem sg_tmod (s t : Bool) (m n : Nat) : (sg s m).tmod (sg t n) = sg s (m % n) := by
  cases s <;> cases t <;> simp [sg, Int.neg_tmod, Int.tmod_neg, Int.tmod_eq_emod_of_nonneg]

theorem keep4ss {t : TypeId} {w w' : World} {g g' r q : Nat} {x y x' y' a b a' b' : Value} (h : Blk t w g #[x, y]) (h' : Blk t w g' #[x', y']) (hF : Ext w w') (hg : g ≠ r) (hg' : g' ≠ r) (kg : g ≠ q) (kg' : g' ≠ q) :
    ((((w'.setCell ⟨r, 0, none⟩ a).setCell ⟨r, 1, none⟩ b).setCell ⟨q, 0, none⟩ a').setCell ⟨q, 1, none⟩ b').cell? ⟨g, 0, none⟩ = some x ∧ ((((w'.setCell ⟨r, 0, none⟩ a).setCell ⟨r, 1, none⟩ b).setCell ⟨q, 0, none⟩ a').setCell ⟨q, 1, none⟩ b').cell? ⟨g, 1, none⟩ = some y ∧ ((((w'.setCell ⟨r, 0, none⟩ a).setCell ⟨r, 1, none⟩ b).setCell ⟨q, 0, none⟩ a').setCell ⟨q, 1, none⟩ b').cell? ⟨g', 0, none⟩ = some x' ∧ ((((w'.setCell ⟨r, 0, none⟩ a).setCell ⟨r, 1, none⟩ b).setCell ⟨q, 0, none⟩ a').setCell ⟨q, 1, none⟩ b').cell? ⟨g', 1, none⟩ = some y' := by
  have h1 := ((((h.ext hF).far (p := ⟨r, 0, none⟩) hg a).far (p := ⟨r, 1, none⟩) hg b).far (p := ⟨q, 0, none⟩) kg a').far (p := ⟨q, 1, none⟩) kg b'
  have h2 := ((((h'.ext hF).far (p := ⟨r, 0, none⟩) hg' a).far (p := ⟨r, 1, none⟩) hg' b).far (p := ⟨q, 0, none⟩) kg' a').far (p := ⟨q, 1, none⟩) kg' b'
  exact ⟨h1.cell 0, h1.cell 1, h2.cell 0, h2.cell 1⟩

theorem fin_ints {fn : Func} {t t' : Tmp} {tmps : Array Value} {w wb w2 : World} {r q m n : Nat} {s s' neg neg' : Bool} {A A' : Option Addr} {l c l' c' : Nat} {z z' : Int}
    (hres : fn.results = #[.cell t 67, .cell t' 67]) (ht : tmps[t]? = some (.pointer (some ⟨r, 0, none⟩))) (ht' : tmps[t']? = some (.pointer (some ⟨q, 0, none⟩))) (hr : w.heap.size ≤ r) (hq : w.heap.size ≤ q) (hne : r ≠ q)
    (HE : Ext w wb) (HB : Blk 67 wb r #[.bool false, .slice none 0 0]) (HB' : Blk 67 wb q #[.bool false, .slice none 0 0]) (hF : Ext wb w2) (hN : NatIs w2 (.slice A l c) m) (hN' : NatIs w2 (.slice A' l' c') n)
    (hs : s = (neg && decide (0 < m))) (hs' : s' = (neg' && decide (0 < n))) (hz : z = sg neg m) (hz' : z' = sg neg' n) :
    bodyPost Tryz.prog fn (RetInts w z z') .ret ⟨tmps, []⟩ ((((w2.setCell ⟨r, 0, none⟩ (.bool s)).setCell ⟨r, 1, none⟩ (.slice A l c)).setCell ⟨q, 0, none⟩ (.bool s')).setCell ⟨q, 1, none⟩ (.slice A' l' c')) := by
  have hB2 := ((((HB.ext hF).set_ 0 (.bool s)).set_ 1 (.slice A l c)).far (p := ⟨q, 0, none⟩) hne (.bool s')).far (p := ⟨q, 1, none⟩) hne (.slice A' l' c')
  have hB1 := ((HB'.ext hF).far (p := ⟨r, 0, none⟩) (Ne.symm hne) (.bool s)).far (p := ⟨r, 1, none⟩) (Ne.symm hne) (.slice A l c)
  have hB3 := (hB1.set_ 0 (.bool s')).set_ 1 (.slice A' l' c')
  refine bodyPost_ret (results_ints hres _ _ r q _ _ _ _ ht ht' hB2 hB3) rfl ⟨_, _, rfl, ?_, ?_, ?_⟩
  · subst hz
    exact IntIs.signed ((hN.store2 (HB.ext hF)).store2 hB1) hs
  · subst hz'
    exact IntIs.signed ((hN'.store2 (HB.ext hF)).store2 hB1) hs'
  · exact ((((HE.trans hF).setCell (Or.inr hr) _).setCell (Or.inr hr) _).setCell (Or.inr hq) _).setCell (Or.inr hq) _

set_option maxHeartbeats 4000000 in
set_option maxRecDepth 100000 in
theorem QuoRem_any (a b : Value) (x y : Int) (w : World) (ha : IntIs w a x) (hb : IntIs w b y) (hx : Fits x) (hy : wl y.natAbs < 80) (h0 : y ≠ 0) : Calls Tryz.prog 122 #[a, b] w (RetInts w (x.tdiv y) (x.tmod y)) := by
  obtain ⟨s, A, l, c, rfl, hN, hz, z0⟩ := ha.open
  obtain ⟨t, A', l', c', rfl, hN', hz', z0'⟩ := hb.open
  have hl := hN'.len0
  have HN := Lib.hid hN
  have HN' := Lib.hid hN'
  have Hx : Hid (wl x.natAbs ≤ 4294967296) := by unfold Fits at hx; unfold Hid; omega
  have Hy := Lib.hid hy
  have H0 : Hid (0 < y.natAbs) := by unfold Hid; omega
  have hl0 : ((l' : Int) == 0) = false := by
    have : l' ≠ 0 := by rw [hl]; intro e; rw [wl_zero_iff] at e; omega
    simp; exact this
  have HQ : Hid (x.tdiv y = sg (s != t) (x.natAbs / y.natAbs) ∧ x.tmod y = sg s (x.natAbs % y.natAbs)) := by
    unfold Hid
    constructor
    · conv => lhs; rw [hz, hz']
      exact sg_tdiv _ _ _ _
    · conv => lhs; rw [hz, hz']
      exact sg_tmod _ _ _ _
  obtain ⟨p, ep⟩ : ∃ p, x.tdiv y = p := ⟨_, rfl⟩
  obtain ⟨q, eq⟩ : ∃ q, x.tmod y = q := ⟨_, rfl⟩
  obtain ⟨d, ed⟩ : ∃ d, x.natAbs / y.natAbs = d := ⟨_, rfl⟩
  obtain ⟨r, er⟩ : ∃ r, x.natAbs % y.natAbs = r := ⟨_, rfl⟩
  rw [ep, eq, ed, er] at HQ
  rw [ep, eq]
  have Ed := Lib.hid ed
  have Er := Lib.hid er
  clear ha hb hx hy hN hN' hz hz' z0 z0' hl h0 ep eq ed er
  go_enter Tryz.func122, Tryz.ntmps122
  go_wp2_with fail
  generalize hwb : World.alloc (World.alloc (World.alloc (World.alloc w _) _) _) _ = wb
  obtain ⟨hBx, hBy, hBr, hBq, hE⟩ := four_blocks hwb
  have HBx := Lib.hid hBx
  have HBy := Lib.hid hBy
  have HBr := Lib.hid hBr
  have HBq := Lib.hid hBq
  have HE := Lib.hid hE
  clear hwb hBx hBy hBr hBq hE
  refine (divideWords_any _ _ _ _ _ (HN.out.ext HE.out) (HN'.out.ext HE.out) Hx.out Hy.out H0.out).mono ?_
  rintro e w1 ⟨u1, u2, rfl, hN1, hN2, hF1⟩
  rw [Ed.out] at hN1
  rw [Er.out] at hN2
  obtain ⟨A1, l1, c1, rfl⟩ := hN1.slice
  obtain ⟨A2, l2, c2, rfl⟩ := hN2.slice
  replace HBx := Lib.hid (HBx.out.ext hF1)
  replace HBy := Lib.hid (HBy.out.ext hF1)
  replace HBr := Lib.hid (HBr.out.ext hF1)
  replace HBq := Lib.hid (HBq.out.ext hF1)
  replace HE := Lib.hid (HE.out.trans hF1)
  have HN1 := Lib.hid hN1
  have HN2 := Lib.hid hN2
  clear hN1 hN2 hF1
  go_wp2_with fail
  go_region_held3 (fun w' => w'.cell? ⟨w.heap.size, 0, none⟩ = some (.bool s) ∧ w'.cell? ⟨w.heap.size, 1, none⟩ = some (.slice A l c) ∧ w'.cell? ⟨w.heap.size + 1, 0, none⟩ = some (.bool t) ∧ w'.cell? ⟨w.heap.size + 1, 1, none⟩ = some (.slice A' l' c'))
    (first | exact keep4 HBx.out HBy.out (Fr.refl _ _).drew | exact keep4 HBx.out HBy.out (Fr.undrew hF3) | exact keep4s HBx.out HBy.out (Fr.undrew hF3) (by omega) (by omega) | exact keep4ss HBx.out HBy.out (Fr.undrew hF3) (by omega) (by omega) (by omega) (by omega))
    (first
      | (go_at_call 106
         refine (signed_any _ _ d _ (by first | exact HN1.out | exact HN1.out.ext (Fr.undrew (by assumption)))).mono ?_
         rintro e w2 ⟨s2, rfl, hs2, hF2⟩
         have hF3 : Ext w1.drew w2 := by first | exact hF2 | exact Fr.ext (by assumption) hF2
         obtain ⟨z0, z1, z2, z3⟩ := (HBr.out.ext (Fr.undrew hF3)).cell2
         obtain ⟨y0, y1, y2, y3⟩ := (HBq.out.ext (Fr.undrew hF3)).cell2)
      | (go_at_call 106
         refine (signed_any _ _ r _ (by first | exact HN2.out | exact HN2.out.ext (Fr.undrew (by assumption)))).mono ?_
         rintro e w2' ⟨s2', rfl, hs2', hF2'⟩
         have hF3 : Ext w1.drew w2' := by first | exact hF2' | exact Fr.ext (by assumption) hF2'
         obtain ⟨z0, z1, z2, z3⟩ := (HBr.out.ext (Fr.undrew hF3)).cell2
         obtain ⟨y0, y1, y2, y3⟩ := (HBq.out.ext (Fr.undrew hF3)).cell2))
  go_wp2
  refine fin_ints rfl rfl rfl (by omega) (by omega) (by omega) HE.out HBr.out HBq.out (Fr.undrew hF3) (HN1.out.ext (Fr.undrew hF3)) (HN2.out.ext (Fr.undrew hF3)) ?_ hs2'.out HQ.out.1 HQ.out.2
  rw [hs2.out]; cases s <;> cases t <;> rfl
end Go.Proofs.YtndafmjcelgnbaaGreatDoor
