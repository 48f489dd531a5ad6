/-
  SX: what stays of the numbers' predicates when blocks without digits change; results of calls in SX's form.
  Package integer: Quo. Package rational: Fraction.
  Package rational: Ratio.Neg, Add, Sub, cancel, Mul, Inverse, Div of any numbers. (Walks written by sx.py, gx_ra.py.)
  Package rational: Ratio.String of any number; sizes of texts.
  Package rational: formatShort.
  Package rational: Compare of whole numbers.
  Package rational: Add, Mul, Div, Compare, Sub on texts. (Walks written by sx.py, gx_tx.py.)
  Plain facts: the canonical text of a rational number, and what reads it. No program in sight.
  Whole numbers: Ratio.Mul, Ratio.Add; rational.Mul, rational.Add.
  Whole numbers: rational.Mul, rational.Add on texts.
  modular.ReconstructRatio: the Euclidean algorithm that it runs, and its walk.
-/
import Derived.Test.YtndafmjcelgnbaaGreatDoorM19
import Derived.Test.YtndafmjcelgnbaaGreatDoorM18
import Derived.Test.YtndafmjcelgnbaaGreatDoorM14
import Derived.Test.YtndafmjcelgnbaaGreatDoorM13
import Derived.Test.YtndafmjcelgnbaaGreatDoorM12
import Derived.Test.YtndafmjcelgnbaaGreatDoorM17
import Derived.Deep.DeepCutAuto
import Derived.Deep.LoopGhost
namespace Go.Proofs.YtndafmjcelgnbaaGreatDoor
open Go.RowKit

section
variable {S : Nat → Prop} {w w' w0 : World} {k : IntKind} {A : Option Addr} {xs : List Nat}
theorem Shows.nrb (hk : k ≠ .i64) (h : Shows k w A xs) (hS : ∀ i, S i → NRB w i) (hF : Fr S w w') : Shows k w' A xs := by
  cases xs with
  | nil => exact Shows.nil
  | cons x xs =>
    refine h.fr hF (fun ad hA hlt hs => ?_)
    obtain ⟨g, off, e', _, hcl⟩ := h.at (i := 0) (by simp)
    rw [e'] at hA
    injection hA with hA
    subst hA
    obtain ⟨t, cs, hB, hc⟩ := hS _ hs
    rw [hB.cell] at hcl
    exact hk (hc _ _ _ hcl)
theorem NatIs.nrb {u : Value} {n : Nat} (h : NatIs w u n) (hS : ∀ i, S i → NRB w i) (hF : Fr S w w') : NatIs w' u n := by
  obtain ⟨A', xs, c', h1, h2, h3, h4⟩ := h
  exact ⟨A', xs, c', h1, h2, h3.nrb (by decide) hS hF, h4⟩
theorem IntIs.nrb {v : Value} {z : Int} (h : IntIs w v z) (hS : ∀ i, S i → NRB w i) (hF : Fr S w w') : IntIs w' v z := by
  obtain ⟨s', u, n, h1, h2, h3⟩ := h
  exact ⟨s', u, n, h1, h2.nrb hS hF, h3⟩
theorem RatIs.nrb {v : Value} {q : Rat} (h : RatIs w v q) (hS : ∀ i, S i → NRB w i) (hF : Fr S w w') : RatIs w' v q := by
  obtain ⟨s, t, A, B, l, c, l', c', h1, h2, h3⟩ := h
  exact ⟨s, t, A, B, l, c, l', c', h1, h2.nrb hS hF, h3.nrb hS hF⟩
theorem MagIs.nrb {u : Value} {n : Nat} (h : MagIs w u n) (hS : ∀ i, S i → NRB w i) (hF : Fr S w w') : MagIs w' u n := by
  obtain ⟨A', xs, c', h1, h2, h3, h4⟩ := h
  exact ⟨A', xs, c', h1, h2, h3.nrb (by decide) hS hF, h4⟩
theorem NumIs.nrb {v : Value} {z : Int} (h : NumIs w v z) (hS : ∀ i, S i → NRB w i) (hF : Fr S w w') : NumIs w' v z := by
  obtain ⟨s', u, n, h1, h2, h3⟩ := h
  exact ⟨s', u, n, h1, h2.nrb hS hF, h3⟩
theorem NRatIs.nrb {v : Value} {q : Rat} (h : NRatIs w v q) (hS : ∀ i, S i → NRB w i) (hF : Fr S w w') : NRatIs w' v q := by
  obtain ⟨s, t, A, B, l, c, l', c', h1, h2, h3⟩ := h
  exact ⟨s, t, A, B, l, c, l', c', h1, h2.nrb hS hF, h3.nrb hS hF⟩
theorem NRB.ext {i : Nat} (h : NRB w i) (he : Ext w w') : NRB w' i := by
  obtain ⟨t, cs, hB, hc⟩ := h
  exact ⟨t, cs, hB.ext he, hc⟩
theorem boxn {φ : World → Prop} (he : Ext w w') (h : ∀ S w'', (∀ i, S i → NRB w' i) → Fr S w' w'' → φ w'') : BoxN w w' φ := fun S hS w'' hf => h S w'' (fun i hi => (hS i hi).2.ext he) hf
end
abbrev ShI := Bool × Option Addr × Nat × Nat
abbrev ShQ := Bool × Option Addr × Nat × Nat × Bool × Option Addr × Nat × Nat
def shInt (x : ShI) : Value := .agg #[.bool x.1, .slice x.2.1 x.2.2.1 x.2.2.2]
def shRat (x : ShQ) : Value := .agg #[.bool x.1, .slice x.2.1 x.2.2.1 x.2.2.2.1, .bool x.2.2.2.2.1, .slice x.2.2.2.2.2.1 x.2.2.2.2.2.2.1 x.2.2.2.2.2.2.2]
section
variable {w w' : World} {e : Ending}
theorem post_Int {z : Int} (h : RetInt w z e w') : PostC shInt (fun x w => IntIs w (shInt x) z) w e w' := by
  obtain ⟨v, rfl, hI, hE⟩ := h
  obtain ⟨s, A, l, c, rfl⟩ := hI.shp
  exact ⟨(s, A, l, c), rfl, hE, boxn hE (fun S w'' hS hF => hI.nrb hS hF)⟩
theorem post_Rat {q : Rat} (h : RetRat w q e w') : PostC shRat (fun x w => RatIs w (shRat x) q) w e w' := by
  obtain ⟨v, rfl, hI, hE⟩ := h
  obtain ⟨s, A, l, c, t, B, m, d, rfl⟩ := hI.shp
  exact ⟨(s, A, l, c, t, B, m, d), rfl, hE, boxn hE (fun S w'' hS hF => hI.nrb hS hF)⟩
def RetInt2 (w : World) (x y : Int) (e : Ending) (w' : World) : Prop := ∃ u v, e = .returned (.tuple #[u, v]) ∧ IntIs w' u x ∧ IntIs w' v y ∧ Ext w w'
def shInt2 (x : ShI × ShI) : Value := .tuple #[shInt x.1, shInt x.2]
theorem post_Int2 {a b : Int} (h : RetInt2 w a b e w') : PostC shInt2 (fun x w => IntIs w (shInt x.1) a ∧ IntIs w (shInt x.2) b) w e w' := by
  obtain ⟨u, v, rfl, hI, hJ, hE⟩ := h
  obtain ⟨s, A, l, c, rfl⟩ := hI.shp
  obtain ⟨s', A', l', c', rfl⟩ := hJ.shp
  exact ⟨((s, A, l, c), (s', A', l', c')), rfl, hE, boxn hE (fun S w'' hS hF => ⟨hI.nrb hS hF, hJ.nrb hS hF⟩)⟩
theorem sign3 (x : Int) : (x < 0 ∧ x.sign = -1) ∨ (x = 0 ∧ x.sign = 0) ∨ (0 < x ∧ x.sign = 1) := by
  rcases Int.lt_trichotomy x 0 with h | h | h
  · exact Or.inl ⟨h, Int.sign_eq_neg_one_of_neg h⟩
  · exact Or.inr (Or.inl ⟨h, by rw [h]; rfl⟩)
  · exact Or.inr (Or.inr ⟨h, Int.sign_eq_one_of_pos h⟩)
/-- a value that is known -/
theorem post_val {v u : Value} (h : e = .returned v ∧ Ext w w') (hv : v = u) : PostC (fun _ : Unit => u) (fun _ _ => True) w e w' := by
  obtain ⟨rfl, hE⟩ := h
  subst hv
  exact ⟨(), rfl, hE, BoxN.pure trivial⟩
end
end Go.Proofs.YtndafmjcelgnbaaGreatDoor

namespace Go.Proofs.YtndafmjcelgnbaaGreatDoor
open Go.RowKit

set_option maxHeartbeats 2000000 in
set_option maxRecDepth 100000 in
theorem Quo_any (a b : Value) (x y : Int) (w : World) (ha : IntIs w a x) (hb : IntIs w b y) (hx : Fits x) (hy : wl y.natAbs < 80) (h0 : y ≠ 0) : Calls Tryz.prog 135 #[a, b] w (RetInt w (x.tdiv y)) := by
  obtain ⟨s, A, l, c, rfl⟩ := ha.shape
  obtain ⟨t, B, l', c', rfl⟩ := hb.shape
  have HA := Lib.hid ha
  have HB := Lib.hid hb
  have HX := Lib.hid hx
  have HY := Lib.hid hy
  have H0 := Lib.hid h0
  clear ha hb hx hy h0
  go_enter Tryz.func135, Tryz.ntmps135
  go_wp2_with fail
  generalize hwb : World.alloc (World.alloc (World.alloc w _) _) _ = wb
  obtain ⟨hB0, hB1, hB2, hE⟩ := three_blocks hwb
  clear hwb
  refine (IsOne_any _ y _ (HB.out.ext hE)).mono ?_
  by_cases h1 : y = 1
  · rw [decide_eq_true h1]
    rintro e w1 ⟨rfl, hF⟩
    have HE := Lib.hid (hE.trans hF)
    have HB0 := Lib.hid (hB0.ext hF)
    have HB2 := Lib.hid (hB2.ext hF)
    have HQ : Hid (x.tdiv y = x) := by unfold Hid; rw [h1]; exact Int.tdiv_one x
    obtain ⟨x0, x1, _, _⟩ := HB0.out.cell2
    obtain ⟨y0, y1, y2, y3⟩ := HB2.out.cell2
    clear hE hF hB0 hB1 hB2 h1
    go_wp2
    refine fin_int2 rfl rfl (by omega) HE.out HB2.out (Fr.refl _ _) ?_
    rw [HQ.out]; exact HA.out.ext HE.out
  · rw [decide_eq_false h1]
    rintro e w1 ⟨rfl, hF⟩
    have HE := Lib.hid (hE.trans hF)
    have HB0 := Lib.hid (hB0.ext hF)
    have HB1 := Lib.hid (hB1.ext hF)
    have HB2 := Lib.hid (hB2.ext hF)
    obtain ⟨x0, x1, _, _⟩ := HB0.out.cell2
    obtain ⟨z0, z1, _, _⟩ := HB1.out.cell2
    clear hE hF hB0 hB1 hB2 h1
    go_wp2_with fail
    refine (QuoRem_any _ _ x y _ (HA.out.ext HE.out) (HB.out.ext HE.out) HX.out HY.out H0.out).mono ?_
    rintro e w2 ⟨u1, u2, rfl, hN1, hN2, hF1⟩
    obtain ⟨s1, A1, l1, c1, rfl⟩ := hN1.shape
    obtain ⟨s2, A2, l2, c2, rfl⟩ := hN2.shape
    have HN1 := Lib.hid hN1
    have HE2 := Lib.hid (HE.out.trans hF1)
    have HB2' := Lib.hid (HB2.out.ext hF1)
    obtain ⟨y0, y1, y2, y3⟩ := HB2'.out.cell2
    have hlt1 := HB2'.out.lt
    have hlt2 := Nat.lt_succ_of_lt hlt1
    clear hN1 hN2 hF1 x0 x1 z0 z1
    go_wp2
    have hB := (HB2'.out.set_ 0 (.bool s1)).set_ 1 (.slice A1 l1 c1)
    refine bodyPost_ret (results_int rfl _ _ (w.heap.size + 1 + 1) _ _ rfl ((hB.alloc _).alloc _)) rfl ⟨_, rfl, ?_, (((HE2.out.setCell (Or.inr (by simp; omega)) _).setCell (Or.inr (by simp; omega)) _).alloc _).alloc _⟩
    exact (HN1.out.store2 HB2'.out).ext (((Fr.refl _ _).alloc _).alloc _)

theorem frac_blocks {t u : TypeId} {w wb : World} {x y z : Array Value} (h : ((w.alloc (.cells x t)).alloc (.cells y t)).alloc (.cells z u) = wb) :
    Blk t wb w.heap.size x ∧ Blk t wb (w.heap.size + 1) y ∧ Blk u wb (w.heap.size + 1 + 1) z ∧ Ext w wb := by
  obtain ⟨h0, h1, h2⟩ := two_blocks (t := t) (w := w) (x := x) (y := y) rfl
  subst h
  have e2 : ((w.alloc (.cells x t)).alloc (.cells y t)).heap.size = w.heap.size + 1 + 1 := by simp
  have h3 := Blk.new ((w.alloc (.cells x t)).alloc (.cells y t)) u z
  rw [e2] at h3
  exact ⟨h0.alloc _, h1.alloc _, h3, h2.alloc _⟩
theorem keepI3 {t t' t'' : TypeId} {w w' : World} {g g' g'' : Nat} {x y x' y' x'' y'' : Value} (h : Blk t w g #[x, y]) (h' : Blk t' w g' #[x', y']) (h'' : Blk t'' w g'' #[x'', y'']) (hF : Ext w w') :
    (w'.cell? ⟨g, 0, none⟩ = some x ∧ w'.cell? ⟨g, 1, none⟩ = some y) ∧ (w'.cell? ⟨g', 0, none⟩ = some x' ∧ w'.cell? ⟨g', 1, none⟩ = some y') ∧ (w'.cell? ⟨g'', 0, none⟩ = some x'' ∧ w'.cell? ⟨g'', 1, none⟩ = some y'') :=
  ⟨⟨(h.ext hF).cell 0, (h.ext hF).cell 1⟩, ⟨(h'.ext hF).cell 0, (h'.ext hF).cell 1⟩, ⟨(h''.ext hF).cell 0, (h''.ext hF).cell 1⟩⟩
theorem gcd_ne {x y : Int} (hy : 0 < y) : ((Int.gcd x y : Nat) : Int) ≠ 0 := by
  have : Int.gcd x y ≠ 0 := fun h => by rw [Int.gcd_eq_zero_iff] at h; omega
  omega
theorem gcd_wl {x y : Int} (hy : 0 < y) (h : wl y.natAbs < 80) : wl (((Int.gcd x y : Nat) : Int)).natAbs < 80 := by
  have h1 : Int.gcd x y ≤ y.natAbs := Nat.gcd_le_right _ (by omega)
  have := wl_mono h1
  rw [Int.natAbs_natCast]
  omega
theorem frac_gcd {x y : Int} (hy : 0 < y) : (Rat.divInt x y).num = x.tdiv (Int.gcd x y : Int) ∧ ((Rat.divInt x y).den : Int) = y.tdiv (Int.gcd x y : Int) := by
  have hd1 : (Int.gcd x y : Int) ∣ x := Int.gcd_dvd_left _ _
  have hd2 : (Int.gcd x y : Int) ∣ y := Int.gcd_dvd_right _ _
  rw [Rat.num_divInt, Rat.den_divInt, if_neg (by omega), Int.sign_eq_one_of_pos hy, Int.one_mul, Int.gcd_comm y x, Int.tdiv_eq_ediv_of_dvd hd1, Int.tdiv_eq_ediv_of_dvd hd2]
  refine ⟨rfl, ?_⟩
  rw [Int.natCast_ediv]
  congr 1
  omega
theorem frac_coprime {x y : Int} (hy : 0 < y) (h : ((Int.gcd x y : Nat) : Int) = 1) : (Rat.divInt x y).num = x ∧ ((Rat.divInt x y).den : Int) = y := by
  have := frac_gcd (x := x) hy
  rwa [h, Int.tdiv_one, Int.tdiv_one] at this
theorem frac_one {x y : Int} (h : y = 1) : (Rat.divInt x y).num = x ∧ denF (Rat.divInt x y) = 0 := by
  have h1 := frac_coprime (x := x) (y := y) (by omega) (by rw [h, Int.gcd_one]; rfl)
  refine ⟨h1.1, denF_zero.2 ?_⟩
  have := h1.2
  omega

set_option maxHeartbeats 4000000 in
set_option maxRecDepth 100000 in
theorem Fraction_pos (a b : Value) (x y : Int) (w : World) (hgl : Glob w) (ha : IntIs w a x) (hb : IntIs w b y) (hfx : Fits x) (hfy : Fits y) (hgk : GcdOk x y) (h80 : wl y.natAbs < 80) (hx0 : x ≠ 0) (hy : 0 < y) : Calls Tryz.prog 124 #[a, b] w (RetRat w (Rat.divInt x y)) := by
  obtain ⟨s, A, l, c, rfl⟩ := ha.shape
  obtain ⟨t, B, l', c', rfl⟩ := hb.shape
  have HA := Lib.hid ha
  have HB := Lib.hid hb
  have HGl := Lib.hid hgl
  have HFx := Lib.hid hfx
  have HFy := Lib.hid hfy
  have HGk := Lib.hid hgk
  have Hy80 := Lib.hid h80
  clear ha hb hfx hfy hgk h80 hgl
  go_enter Tryz.func124, Tryz.ntmps124
  go_wp2_with fail
  generalize hwb : World.alloc (World.alloc (World.alloc w _) _) _ = wb
  obtain ⟨hB0, hB1, hB2, hE⟩ := frac_blocks hwb
  have HX : Hid (IntAt wb w.heap.size x) := ⟨_, _, _, _, hB0, HA.out.ext hE⟩
  have HY : Hid (IntAt wb (w.heap.size + 1) y) := ⟨_, _, _, _, hB1, HB.out.ext hE⟩
  have HR := Lib.hid hB2
  have HE := Lib.hid hE
  have hrR : w.heap.size ≤ w.heap.size + 1 + 1 := by omega
  have hXY : w.heap.size ≠ w.heap.size + 1 := by omega
  have hXR : w.heap.size ≠ w.heap.size + 1 + 1 := by omega
  have hYR : w.heap.size + 1 ≠ w.heap.size + 1 + 1 := by omega
  have HB1 := Lib.hid (HB.out.ext hE)
  clear hwb hB0 hB1 hB2 hE HA HB
  generalize hRr : w.heap.size + 1 + 1 = Rr at *
  generalize hYy : w.heap.size + 1 = Y at *
  obtain ⟨X, hXx⟩ : ∃ X, w.heap.size = X := ⟨_, rfl⟩
  rw [hXx] at HX hXY hXR
  rw [hXx]
  refine (IsZero_any _ y _ HB1.out).mono ?_
  rw [decide_eq_false (show ¬ y = 0 by omega)]
  rintro e w1 ⟨rfl, hF⟩
  clear HB1
  replace HX := Lib.hid (HX.out.ext hF)
  replace HY := Lib.hid (HY.out.ext hF)
  replace HR := Lib.hid (HR.out.ext hF)
  replace HE := Lib.hid (HE.out.trans hF)
  clear hF
  obtain ⟨sx, Ax, lx, cx, hBx, hIx⟩ := HX.out
  obtain ⟨sy, Ay, ly, cy, hBy, hIy⟩ := HY.out
  obtain ⟨bx0, bx1, bx2, bx3⟩ := hBx.cell2
  obtain ⟨by0, by1, by2, by3⟩ := hBy.cell2
  have HIx := Lib.hid hIx
  have HIy := Lib.hid hIy
  have HBx := Lib.hid hBx
  have HBy := Lib.hid hBy
  clear hBx hBy hIx hIy
  go_wp2_with fail
  refine (IsZero_any _ x _ HIx.out).mono ?_
  rw [decide_eq_false hx0]
  rintro e w2 ⟨rfl, hF⟩
  clear bx0 bx1 bx2 bx3 by0 by1 by2 by3 HIx HIy HBx HBy
  replace HX := Lib.hid (HX.out.ext hF)
  replace HY := Lib.hid (HY.out.ext hF)
  replace HR := Lib.hid (HR.out.ext hF)
  replace HE := Lib.hid (HE.out.trans hF)
  clear hF
  obtain ⟨sx, Ax, lx, cx, hBx, hIx⟩ := HX.out
  obtain ⟨sy, Ay, ly, cy, hBy, hIy⟩ := HY.out
  obtain ⟨bx0, bx1, bx2, bx3⟩ := hBx.cell2
  obtain ⟨by0, by1, by2, by3⟩ := hBy.cell2
  have HIx := Lib.hid hIx
  have HIy := Lib.hid hIy
  have HBx := Lib.hid hBx
  have HBy := Lib.hid hBy
  clear hBx hBy hIx hIy
  go_wp2_with fail
  refine (Sign_any _ y _ HIy.out).mono ?_
  rw [Int.sign_eq_one_of_pos hy]
  rintro e w3 ⟨rfl, hF⟩
  clear bx0 bx1 bx2 bx3 by0 by1 by2 by3 HIx HIy HBx HBy
  replace HX := Lib.hid (HX.out.ext hF)
  replace HY := Lib.hid (HY.out.ext hF)
  replace HR := Lib.hid (HR.out.ext hF)
  replace HE := Lib.hid (HE.out.trans hF)
  clear hF
  have HG : Hid (Glob _) := HGl.out.ext HE.out
  obtain ⟨sx, Ax, lx, cx, hBx, hIx⟩ := HX.out
  obtain ⟨sy, Ay, ly, cy, hBy, hIy⟩ := HY.out
  obtain ⟨bx0, bx1, bx2, bx3⟩ := hBx.cell2
  obtain ⟨by0, by1, by2, by3⟩ := hBy.cell2
  have HIx := Lib.hid hIx
  have HIy := Lib.hid hIy
  have HBx := Lib.hid hBx
  have HBy := Lib.hid hBy
  clear hBx hBy hIx hIy
  go_wp2_with fail
  refine (IsOne_any _ y _ HIy.out).mono ?_
  by_cases h1 : y = 1
  · rw [decide_eq_true h1]
    rintro e wa ⟨rfl, hF⟩
    have HQ : Hid ((Rat.divInt x y).num = x ∧ denF (Rat.divInt x y) = 0) := frac_one h1
    clear bx0 bx1 bx2 bx3 by0 by1 by2 by3 HIx HIy HBx HBy
    replace HX := Lib.hid (HX.out.ext hF)
    replace HY := Lib.hid (HY.out.ext hF)
    replace HR := Lib.hid (HR.out.ext hF)
    replace HE := Lib.hid (HE.out.trans hF)
    clear hF
    obtain ⟨sx, Ax, lx, cx, hBx, hIx⟩ := HX.out
    obtain ⟨sy, Ay, ly, cy, hBy, hIy⟩ := HY.out
    obtain ⟨bx0, bx1, bx2, bx3⟩ := hBx.cell2
    obtain ⟨by0, by1, by2, by3⟩ := hBy.cell2
    have HIx := Lib.hid hIx
    have HIy := Lib.hid hIy
    have HBx := Lib.hid hBx
    have HBy := Lib.hid hBy
    clear hBx hBy hIx hIy
    obtain ⟨y0, y1, y2, y3, y4, y5, y6, y7⟩ := HR.out.cell4
    clear h1
    go_wp2
    refine fin_rat rfl rfl (HR.out.put4 _ _ _ _) ?_ ?_ (Fr.local_ HE.out (Fr.set4 _ _ _ _) hrR)
    · rw [HQ.out.1]; exact HIx.out.other HR.out noWords4 (Fr.set4 _ _ _ _)
    · rw [HQ.out.2]; exact IntIs.zero _
  · rw [decide_eq_false h1]
    rintro e wa ⟨rfl, hF⟩
    clear bx0 bx1 bx2 bx3 by0 by1 by2 by3 HIx HIy HBx HBy
    replace HX := Lib.hid (HX.out.ext hF)
    replace HY := Lib.hid (HY.out.ext hF)
    replace HR := Lib.hid (HR.out.ext hF)
    replace HE := Lib.hid (HE.out.trans hF)
    clear hF
    obtain ⟨sx, Ax, lx, cx, hBx, hIx⟩ := HX.out
    obtain ⟨sy, Ay, ly, cy, hBy, hIy⟩ := HY.out
    obtain ⟨bx0, bx1, bx2, bx3⟩ := hBx.cell2
    obtain ⟨by0, by1, by2, by3⟩ := hBy.cell2
    have HIx := Lib.hid hIx
    have HIy := Lib.hid hIy
    have HBx := Lib.hid hBx
    have HBy := Lib.hid hBy
    clear hBx hBy hIx hIy
    clear h1
    go_wp2_with fail
    refine (GCD_any _ _ x y _ (HGl.out.ext HE.out) HIx.out HIy.out HFx.out HFy.out HGk.out).mono ?_
    rintro e wg ⟨ug, rfl, hIg, hF⟩
    obtain ⟨sg_, Ag, lg, cg, rfl⟩ := hIg.shape
    have HIg := Lib.hid hIg
    clear hIg
    clear bx0 bx1 bx2 bx3 by0 by1 by2 by3 HIx HIy HBx HBy
    replace HX := Lib.hid (HX.out.ext hF)
    replace HY := Lib.hid (HY.out.ext hF)
    replace HR := Lib.hid (HR.out.ext hF)
    replace HE := Lib.hid (HE.out.trans hF)
    clear hF
    obtain ⟨sx, Ax, lx, cx, hBx, hIx⟩ := HX.out
    obtain ⟨sy, Ay, ly, cy, hBy, hIy⟩ := HY.out
    obtain ⟨bx0, bx1, bx2, bx3⟩ := hBx.cell2
    obtain ⟨by0, by1, by2, by3⟩ := hBy.cell2
    have HIx := Lib.hid hIx
    have HIy := Lib.hid hIy
    have HBx := Lib.hid hBx
    have HBy := Lib.hid hBy
    clear hBx hBy hIx hIy
    go_wp2_with fail
    generalize hwb : World.alloc wg _ = wh
    obtain ⟨hBg, hF⟩ := Blk.one hwb
    have HAg : Hid (IntAt wh wg.heap.size (Int.gcd x y : Int)) := ⟨_, _, _, _, hBg, HIg.out.ext hF⟩
    have hXg : X < wg.heap.size := HBx.out.lt
    have hYg : Y < wg.heap.size := HBy.out.lt
    have hRg : Rr < wg.heap.size := HR.out.lt
    generalize wg.heap.size = G at *
    replace HIg := Lib.hid (HIg.out.ext hF)
    clear hwb
    clear bx0 bx1 bx2 bx3 by0 by1 by2 by3 HIx HIy HBx HBy
    replace HX := Lib.hid (HX.out.ext hF)
    replace HY := Lib.hid (HY.out.ext hF)
    replace HR := Lib.hid (HR.out.ext hF)
    replace HE := Lib.hid (HE.out.trans hF)
    clear hF
    obtain ⟨sx, Ax, lx, cx, hBx, hIx⟩ := HX.out
    obtain ⟨sy, Ay, ly, cy, hBy, hIy⟩ := HY.out
    obtain ⟨bx0, bx1, bx2, bx3⟩ := hBx.cell2
    obtain ⟨by0, by1, by2, by3⟩ := hBy.cell2
    have HIx := Lib.hid hIx
    have HIy := Lib.hid hIy
    have HBx := Lib.hid hBx
    have HBy := Lib.hid hBy
    clear hBx hBy hIx hIy
    refine (IsOne_any _ _ _ HIg.out).mono ?_
    by_cases h2 : ((Int.gcd x y : Nat) : Int) = 1
    · rw [decide_eq_true h2]
      rintro e wi ⟨rfl, hF⟩
      have HQ : Hid ((Rat.divInt x y).num = x ∧ ((Rat.divInt x y).den : Int) = y) := frac_coprime hy h2
      clear h2 HAg HIg
      clear bx0 bx1 bx2 bx3 by0 by1 by2 by3 HIx HIy HBx HBy
      replace HX := Lib.hid (HX.out.ext hF)
      replace HY := Lib.hid (HY.out.ext hF)
      replace HR := Lib.hid (HR.out.ext hF)
      replace HE := Lib.hid (HE.out.trans hF)
      clear hF
      obtain ⟨sx, Ax, lx, cx, hBx, hIx⟩ := HX.out
      obtain ⟨sy, Ay, ly, cy, hBy, hIy⟩ := HY.out
      obtain ⟨bx0, bx1, bx2, bx3⟩ := hBx.cell2
      obtain ⟨by0, by1, by2, by3⟩ := hBy.cell2
      have HIx := Lib.hid hIx
      have HIy := Lib.hid hIy
      have HBx := Lib.hid hBx
      have HBy := Lib.hid hBy
      clear hBx hBy hIx hIy
      go_wp2_with fail
      refine (lowest_any _ _ x y (Rat.divInt x y) _ HIx.out HIy.out HQ.out).mono ?_
      rintro e wl_ ⟨ul, rfl, hRl, hF⟩
      obtain ⟨s, t, A, B, l, c, l', c', rfl, hIn, hId⟩ := hRl
      have HIn := Lib.hid hIn
      have HId := Lib.hid hId
      clear hIn hId
      clear bx0 bx1 bx2 bx3 by0 by1 by2 by3 HIx HIy HBx HBy
      replace HX := Lib.hid (HX.out.ext hF)
      replace HY := Lib.hid (HY.out.ext hF)
      replace HR := Lib.hid (HR.out.ext hF)
      replace HE := Lib.hid (HE.out.trans hF)
      clear hF
      obtain ⟨y0, y1, y2, y3, y4, y5, y6, y7⟩ := HR.out.cell4
      go_wp2
      exact fin_rat rfl rfl (HR.out.put4 _ _ _ _) (HIn.out.other HR.out noWords4 (Fr.set4 _ _ _ _)) (HId.out.other HR.out noWords4 (Fr.set4 _ _ _ _)) (Fr.local_ HE.out (Fr.set4 _ _ _ _) hrR)
    · rw [decide_eq_false h2]
      rintro e wi ⟨rfl, hF⟩
      have HQ : Hid ((Rat.divInt x y).num = x.tdiv (Int.gcd x y : Int) ∧ ((Rat.divInt x y).den : Int) = y.tdiv (Int.gcd x y : Int)) := frac_gcd hy
      have Hg0 : Hid (((Int.gcd x y : Nat) : Int) ≠ 0) := gcd_ne hy
      have Hg80 : Hid (wl (((Int.gcd x y : Nat) : Int)).natAbs < 80) := gcd_wl hy Hy80.out
      clear h2 HIg
      clear bx0 bx1 bx2 bx3 by0 by1 by2 by3 HIx HIy HBx HBy
      replace HX := Lib.hid (HX.out.ext hF)
      replace HY := Lib.hid (HY.out.ext hF)
      replace HR := Lib.hid (HR.out.ext hF)
      replace HAg := Lib.hid (HAg.out.ext hF)
      replace HE := Lib.hid (HE.out.trans hF)
      clear hF
      obtain ⟨sx, Ax, lx, cx, hBx, hIx⟩ := HX.out
      obtain ⟨sy, Ay, ly, cy, hBy, hIy⟩ := HY.out
      obtain ⟨bx0, bx1, bx2, bx3⟩ := hBx.cell2
      obtain ⟨by0, by1, by2, by3⟩ := hBy.cell2
      have HIx := Lib.hid hIx
      have HIy := Lib.hid hIy
      have HBx := Lib.hid hBx
      have HBy := Lib.hid hBy
      clear hBx hBy hIx hIy
      obtain ⟨sg_, Ag, lg, cg, hBg, hIg⟩ := HAg.out
      have HBg := Lib.hid hBg
      have HIg := Lib.hid hIg
      clear hBg hIg
      generalize ((Int.gcd x y : Nat) : Int) = g at *
      obtain ⟨x', hx'⟩ : ∃ x', x.tdiv g = x' := ⟨_, rfl⟩
      obtain ⟨y', hy'⟩ : ∃ y', y.tdiv g = y' := ⟨_, rfl⟩
      go_wp2_with fail
      refine wp_region_T 6 (fun w' => (w'.cell? ⟨X, 0, none⟩ = some (.bool sx) ∧ w'.cell? ⟨X, 1, none⟩ = some (.slice Ax lx cx)) ∧ (w'.cell? ⟨Y, 0, none⟩ = some (.bool sy) ∧ w'.cell? ⟨Y, 1, none⟩ = some (.slice Ay ly cy)) ∧ (w'.cell? ⟨G, 0, none⟩ = some (.bool sg_) ∧ w'.cell? ⟨G, 1, none⟩ = some (.slice Ag lg cg))) follows_mixed ?_
      refine wpT_take 0 rfl (by kernel_rfl) (fun _ _ _ h => h) (keepI3 HBx.out HBy.out HBg.out (Fr.refl _ _).drew) (fun _ => yields_int rfl rfl rfl (fun _ h => h.1)) (fun hS => ?_)
      refine wpT_take 1 rfl (by kernel_rfl) (fun _ _ _ h => h) hS (fun _ => yields_int rfl rfl rfl (fun _ h => h.2.2)) (fun hS => ?_)
      refine wpT_take 3 rfl (by kernel_rfl) (fun _ _ _ h => h) hS (fun _ => yields_int rfl rfl rfl (fun _ h => h.2.1)) (fun hS => ?_)
      refine wpT_take 4 rfl (by kernel_rfl) (fun _ _ _ h => h) hS (fun _ => yields_int rfl rfl rfl (fun _ h => h.2.2)) (fun hS => ?_)
      refine wpT_only 2 rfl (by kernel_rfl) rfl (fun K hK => ?_)
      go_simp
      refine (Quo_any _ _ x g _ (HIx.out.ext (Fr.refl _ _).drew) (HIg.out.ext (Fr.refl _ _).drew) HFx.out Hg80.out Hg0.out).mono ?_
      rw [hx']
      rintro e wq ⟨uq, rfl, hIq, hFq⟩
      obtain ⟨sq, Aq, lq, cq, rfl⟩ := hIq.shape
      replace hFq := Fr.undrew hFq
      refine hK _ _ (keepI3 HBx.out HBy.out HBg.out hFq) ?_
      refine wpT_only 5 rfl (by kernel_rfl) rfl (fun K hK => ?_)
      go_simp
      refine (Quo_any _ _ y g _ (HIy.out.ext hFq) (HIg.out.ext hFq) HFy.out Hg80.out Hg0.out).mono ?_
      rw [hy']
      rintro e wr ⟨ur, rfl, hIr, hFr⟩
      obtain ⟨sr, Ar, lr, cr, rfl⟩ := hIr.shape
      refine hK _ _ (keepI3 HBx.out HBy.out HBg.out (hFq.trans hFr)) ?_
      clear hK
      have hIq := hIq.ext hFr
      have hF := hFq.trans hFr
      have HIq := Lib.hid hIq
      have HIr := Lib.hid hIr
      have HQ' : Hid ((Rat.divInt x y).num = x' ∧ ((Rat.divInt x y).den : Int) = y') := by rw [Hid, ← hx', ← hy']; exact HQ.out
      clear hFq hFr hIr hIq hx' hy' HAg HIg HBg hS
      clear bx0 bx1 bx2 bx3 by0 by1 by2 by3 HIx HIy HBx HBy
      replace HX := Lib.hid (HX.out.ext hF)
      replace HY := Lib.hid (HY.out.ext hF)
      replace HR := Lib.hid (HR.out.ext hF)
      replace HE := Lib.hid (HE.out.trans hF)
      clear hF
      obtain ⟨sx, Ax, lx, cx, hBx, hIx⟩ := HX.out
      obtain ⟨sy, Ay, ly, cy, hBy, hIy⟩ := HY.out
      obtain ⟨bx0, bx1, bx2, bx3⟩ := hBx.cell2
      obtain ⟨by0, by1, by2, by3⟩ := hBy.cell2
      have HIx := Lib.hid hIx
      have HIy := Lib.hid hIy
      have HBx := Lib.hid hBx
      have HBy := Lib.hid hBy
      clear hBx hBy hIx hIy
      refine wpT_tail (l := [_, _]) 6 rfl (by kernel_rfl) ?_
      go_wp2_with fail
      have k1 := IntIs.away (a := .bool sq) (b := .slice Aq lq cq) HIq.out HX.out
      have k2 := IntIs.away (a := .bool sq) (b := .slice Aq lq cq) HIr.out HX.out
      have k3 := HX.out.put HIq.out
      have k4 := IntAt.away (a := .bool sq) (b := .slice Aq lq cq) HY.out HX.out (Ne.symm hXY)
      have k5 := HR.out.fr (Fr.set2 (r := X) (i := 0) (j := 1) (.bool sq) (.slice Aq lq cq)) (Ne.symm hXR)
      have k6 := Fr.local_ HE.out (Fr.set2 (r := X) (i := 0) (j := 1) (.bool sq) (.slice Aq lq cq)) (Nat.le_of_eq hXx)
      generalize World.setCell (World.setCell _ ⟨X, 0, none⟩ _) ⟨X, 1, none⟩ _ = wx at *
      have m1 := IntIs.away (a := .bool sr) (b := .slice Ar lr cr) k1 k4
      have m2 := IntIs.away (a := .bool sr) (b := .slice Ar lr cr) k2 k4
      have m5 := k5.fr (Fr.set2 (r := Y) (i := 0) (j := 1) (.bool sr) (.slice Ar lr cr)) (Ne.symm hYR)
      have m6 := Fr.local_ k6 (Fr.set2 (r := Y) (i := 0) (j := 1) (.bool sr) (.slice Ar lr cr)) (by omega)
      generalize World.setCell (World.setCell wx ⟨Y, 0, none⟩ _) ⟨Y, 1, none⟩ _ = wy at *
      have HR2 := Lib.hid m5
      have HE2 := Lib.hid m6
      refine (lowest_any _ _ x' y' (Rat.divInt x y) _ m1 m2 HQ'.out).mono ?_
      rintro e wl_ ⟨ul, rfl, hRl, hF⟩
      obtain ⟨s, t, A, B, l, c, l', c', rfl, hIn, hId⟩ := hRl
      have HIn := Lib.hid hIn
      have HId := Lib.hid hId
      have HR3 := Lib.hid (HR2.out.ext hF)
      have HE3 := Lib.hid (HE2.out.trans hF)
      clear hIn hId hF k1 k2 k3 k4 k5 k6 m1 m2 m5 m6
      obtain ⟨y0, y1, y2, y3, y4, y5, y6, y7⟩ := HR3.out.cell4
      go_wp2
      exact fin_rat rfl rfl (HR3.out.put4 _ _ _ _) (HIn.out.other HR3.out noWords4 (Fr.set4 _ _ _ _)) (HId.out.other HR3.out noWords4 (Fr.set4 _ _ _ _)) (Fr.local_ HE3.out (Fr.set4 _ _ _ _) hrR)

set_option maxHeartbeats 4000000 in
set_option maxRecDepth 100000 in
theorem Fraction_zero (a b : Value) (x y : Int) (w : World) (ha : IntIs w a x) (hb : IntIs w b y) (hx0 : x = 0) (hy : y ≠ 0) : Calls Tryz.prog 124 #[a, b] w (RetRat w 0) := by
  obtain ⟨s, A, l, c, rfl⟩ := ha.shape
  obtain ⟨t, B, l', c', rfl⟩ := hb.shape
  have HA := Lib.hid ha
  have HB := Lib.hid hb
  clear ha hb
  go_enter Tryz.func124, Tryz.ntmps124
  go_wp2_with fail
  generalize hwb : World.alloc (World.alloc (World.alloc w _) _) _ = wb
  obtain ⟨hB0, hB1, hB2, hE⟩ := frac_blocks hwb
  have HX : Hid (IntAt wb w.heap.size x) := ⟨_, _, _, _, hB0, HA.out.ext hE⟩
  have HY : Hid (IntAt wb (w.heap.size + 1) y) := ⟨_, _, _, _, hB1, HB.out.ext hE⟩
  have HR := Lib.hid hB2
  have HE := Lib.hid hE
  have HB1 := Lib.hid (HB.out.ext hE)
  clear hwb hB0 hB1 hB2 hE HA HB
  refine (IsZero_any _ y _ HB1.out).mono ?_
  rw [decide_eq_false hy]
  rintro e w1 ⟨rfl, hF⟩
  clear HB1
  replace HX := Lib.hid (HX.out.ext hF)
  replace HY := Lib.hid (HY.out.ext hF)
  replace HR := Lib.hid (HR.out.ext hF)
  replace HE := Lib.hid (HE.out.trans hF)
  clear hF
  obtain ⟨sx, Ax, lx, cx, hBx, hIx⟩ := HX.out
  obtain ⟨sy, Ay, ly, cy, hBy, hIy⟩ := HY.out
  obtain ⟨bx0, bx1, bx2, bx3⟩ := hBx.cell2
  obtain ⟨by0, by1, by2, by3⟩ := hBy.cell2
  have HIx := Lib.hid hIx
  have HIy := Lib.hid hIy
  have HBx := Lib.hid hBx
  have HBy := Lib.hid hBy
  clear hBx hBy hIx hIy
  go_wp2_with fail
  refine (IsZero_any _ x _ HIx.out).mono ?_
  rw [decide_eq_true hx0]
  rintro e w2 ⟨rfl, hF⟩
  clear bx0 bx1 bx2 bx3 by0 by1 by2 by3 HIx HIy HBx HBy
  replace HX := Lib.hid (HX.out.ext hF)
  replace HY := Lib.hid (HY.out.ext hF)
  replace HR := Lib.hid (HR.out.ext hF)
  replace HE := Lib.hid (HE.out.trans hF)
  clear hF
  obtain ⟨y0, y1, y2, y3, y4, y5, y6, y7⟩ := HR.out.cell4
  clear hx0 hy
  go_wp2
  exact fin_rat rfl rfl (HR.out.put4 _ _ _ _) (IntIs.zero _) (IntIs.zero _) (Fr.local_ HE.out (Fr.set4 _ _ _ _) (by omega))

set_option maxHeartbeats 4000000 in
set_option maxRecDepth 100000 in
theorem Fraction_neg (a b : Value) (xo yo x y : Int) (w : World) (hgl : Glob w) (ha : IntIs w a xo) (hb : IntIs w b yo) (hxo : -xo = x) (hyo : -yo = y) (hfx : Fits x) (hfy : Fits y) (hgk : GcdOk x y) (h80 : wl y.natAbs < 80) (hx0 : x ≠ 0) (hy : 0 < y) : Calls Tryz.prog 124 #[a, b] w (RetRat w (Rat.divInt x y)) := by
  obtain ⟨s, A, l, c, rfl⟩ := ha.shape
  obtain ⟨t, B, l', c', rfl⟩ := hb.shape
  have HA := Lib.hid ha
  have HB := Lib.hid hb
  have HGl := Lib.hid hgl
  have HFx := Lib.hid hfx
  have HFy := Lib.hid hfy
  have HGk := Lib.hid hgk
  have Hy80 := Lib.hid h80
  have Hxo := Lib.hid hxo
  have Hyo := Lib.hid hyo
  have hyn : yo < 0 := by omega
  have hxn : ¬ xo = 0 := by omega
  clear ha hb hfx hfy hgk h80 hgl hxo hyo
  go_enter Tryz.func124, Tryz.ntmps124
  go_wp2_with fail
  generalize hwb : World.alloc (World.alloc (World.alloc w _) _) _ = wb
  obtain ⟨hB0, hB1, hB2, hE⟩ := frac_blocks hwb
  have HX : Hid (IntAt wb w.heap.size xo) := ⟨_, _, _, _, hB0, HA.out.ext hE⟩
  have HY : Hid (IntAt wb (w.heap.size + 1) yo) := ⟨_, _, _, _, hB1, HB.out.ext hE⟩
  have HR := Lib.hid hB2
  have HE := Lib.hid hE
  have hrR : w.heap.size ≤ w.heap.size + 1 + 1 := by omega
  have hXY : w.heap.size ≠ w.heap.size + 1 := by omega
  have hXR : w.heap.size ≠ w.heap.size + 1 + 1 := by omega
  have hYR : w.heap.size + 1 ≠ w.heap.size + 1 + 1 := by omega
  have HB1 := Lib.hid (HB.out.ext hE)
  clear hwb hB0 hB1 hB2 hE HA HB
  generalize hRr : w.heap.size + 1 + 1 = Rr at *
  generalize hYy : w.heap.size + 1 = Y at *
  obtain ⟨X, hXx⟩ : ∃ X, w.heap.size = X := ⟨_, rfl⟩
  rw [hXx] at HX hXY hXR
  rw [hXx]
  refine (IsZero_any _ yo _ HB1.out).mono ?_
  rw [decide_eq_false (show ¬ yo = 0 by omega)]
  rintro e w1 ⟨rfl, hF⟩
  clear HB1
  replace HX := Lib.hid (HX.out.ext hF)
  replace HY := Lib.hid (HY.out.ext hF)
  replace HR := Lib.hid (HR.out.ext hF)
  replace HE := Lib.hid (HE.out.trans hF)
  clear hF
  obtain ⟨sx, Ax, lx, cx, hBx, hIx⟩ := HX.out
  obtain ⟨sy, Ay, ly, cy, hBy, hIy⟩ := HY.out
  obtain ⟨bx0, bx1, bx2, bx3⟩ := hBx.cell2
  obtain ⟨by0, by1, by2, by3⟩ := hBy.cell2
  have HIx := Lib.hid hIx
  have HIy := Lib.hid hIy
  have HBx := Lib.hid hBx
  have HBy := Lib.hid hBy
  clear hBx hBy hIx hIy
  go_wp2_with fail
  refine (IsZero_any _ xo _ HIx.out).mono ?_
  rw [decide_eq_false hxn]
  rintro e w2 ⟨rfl, hF⟩
  clear bx0 bx1 bx2 bx3 by0 by1 by2 by3 HIx HIy HBx HBy
  replace HX := Lib.hid (HX.out.ext hF)
  replace HY := Lib.hid (HY.out.ext hF)
  replace HR := Lib.hid (HR.out.ext hF)
  replace HE := Lib.hid (HE.out.trans hF)
  clear hF
  obtain ⟨sx, Ax, lx, cx, hBx, hIx⟩ := HX.out
  obtain ⟨sy, Ay, ly, cy, hBy, hIy⟩ := HY.out
  obtain ⟨bx0, bx1, bx2, bx3⟩ := hBx.cell2
  obtain ⟨by0, by1, by2, by3⟩ := hBy.cell2
  have HIx := Lib.hid hIx
  have HIy := Lib.hid hIy
  have HBx := Lib.hid hBx
  have HBy := Lib.hid hBy
  clear hBx hBy hIx hIy
  go_wp2_with fail
  refine (Sign_any _ yo _ HIy.out).mono ?_
  rw [Int.sign_eq_neg_one_of_neg hyn]
  rintro e w3 ⟨rfl, hF⟩
  clear bx0 bx1 bx2 bx3 by0 by1 by2 by3 HIx HIy HBx HBy
  replace HX := Lib.hid (HX.out.ext hF)
  replace HY := Lib.hid (HY.out.ext hF)
  replace HR := Lib.hid (HR.out.ext hF)
  replace HE := Lib.hid (HE.out.trans hF)
  clear hF
  obtain ⟨sx, Ax, lx, cx, hBx, hIx⟩ := HX.out
  obtain ⟨sy, Ay, ly, cy, hBy, hIy⟩ := HY.out
  obtain ⟨bx0, bx1, bx2, bx3⟩ := hBx.cell2
  obtain ⟨by0, by1, by2, by3⟩ := hBy.cell2
  have HIx := Lib.hid hIx
  have HIy := Lib.hid hIy
  have HBx := Lib.hid hBx
  have HBy := Lib.hid hBy
  clear hBx hBy hIx hIy
  go_wp2_with fail
  refine wp_region_T 4 (fun w' => (w'.cell? ⟨X, 0, none⟩ = some (.bool sx) ∧ w'.cell? ⟨X, 1, none⟩ = some (.slice Ax lx cx)) ∧ (w'.cell? ⟨Y, 0, none⟩ = some (.bool sy) ∧ w'.cell? ⟨Y, 1, none⟩ = some (.slice Ay ly cy))) follows_mixed ?_
  refine wpT_take 0 rfl (by kernel_rfl) (fun _ _ _ h => h) (keepI2 HBx.out HBy.out (Fr.refl _ _).drew) (fun _ => yields_int rfl rfl rfl (fun _ h => h.1)) (fun hS => ?_)
  refine wpT_take 2 rfl (by kernel_rfl) (fun _ _ _ h => h) hS (fun _ => yields_int rfl rfl rfl (fun _ h => h.2)) (fun hS => ?_)
  refine wpT_only 1 rfl (by kernel_rfl) rfl (fun K hK => ?_)
  go_simp
  refine (Neg_any _ xo _ (HIx.out.ext (Fr.refl _ _).drew)).mono ?_
  rw [Hxo.out]
  rintro e wq ⟨uq, rfl, hIq, hFq⟩
  obtain ⟨sq, Aq, lq, cq, rfl⟩ := hIq.shape
  replace hFq := Fr.undrew hFq
  refine hK _ _ (keepI2 HBx.out HBy.out hFq) ?_
  refine wpT_only 3 rfl (by kernel_rfl) rfl (fun K hK => ?_)
  go_simp
  refine (Neg_any _ yo _ (HIy.out.ext hFq)).mono ?_
  rw [Hyo.out]
  rintro e wr ⟨ur, rfl, hIr, hFr⟩
  obtain ⟨sr, Ar, lr, cr, rfl⟩ := hIr.shape
  refine hK _ _ (keepI2 HBx.out HBy.out (hFq.trans hFr)) ?_
  clear hK
  have hIq := hIq.ext hFr
  have hF := hFq.trans hFr
  have HIq := Lib.hid hIq
  have HIr := Lib.hid hIr
  clear hFq hFr hIr hIq hS
  clear bx0 bx1 bx2 bx3 by0 by1 by2 by3 HIx HIy HBx HBy
  replace HX := Lib.hid (HX.out.ext hF)
  replace HY := Lib.hid (HY.out.ext hF)
  replace HR := Lib.hid (HR.out.ext hF)
  replace HE := Lib.hid (HE.out.trans hF)
  clear hF
  obtain ⟨sx, Ax, lx, cx, hBx, hIx⟩ := HX.out
  obtain ⟨sy, Ay, ly, cy, hBy, hIy⟩ := HY.out
  obtain ⟨bx0, bx1, bx2, bx3⟩ := hBx.cell2
  obtain ⟨by0, by1, by2, by3⟩ := hBy.cell2
  have HIx := Lib.hid hIx
  have HIy := Lib.hid hIy
  have HBx := Lib.hid hBx
  have HBy := Lib.hid hBy
  clear hBx hBy hIx hIy
  refine wpT_tail (l := [_, _]) 4 rfl (by kernel_rfl) ?_
  go_wp2_with fail
  have k1 := IntIs.away (a := .bool sq) (b := .slice Aq lq cq) HIq.out HX.out
  have k2 := IntIs.away (a := .bool sq) (b := .slice Aq lq cq) HIr.out HX.out
  have k3 := HX.out.put HIq.out
  have k4 := IntAt.away (a := .bool sq) (b := .slice Aq lq cq) HY.out HX.out (Ne.symm hXY)
  have k5 := HR.out.fr (Fr.set2 (r := X) (i := 0) (j := 1) (.bool sq) (.slice Aq lq cq)) (Ne.symm hXR)
  have k6 := Fr.local_ HE.out (Fr.set2 (r := X) (i := 0) (j := 1) (.bool sq) (.slice Aq lq cq)) (Nat.le_of_eq hXx)
  generalize World.setCell (World.setCell _ ⟨X, 0, none⟩ _) ⟨X, 1, none⟩ _ = wx at *
  have m1 := IntIs.away (a := .bool sr) (b := .slice Ar lr cr) k1 k4
  have m3 := IntAt.away (a := .bool sr) (b := .slice Ar lr cr) k3 k4 hXY
  have m4 := k4.put k2
  have m2 := IntIs.away (a := .bool sr) (b := .slice Ar lr cr) k2 k4
  have m5 := k5.fr (Fr.set2 (r := Y) (i := 0) (j := 1) (.bool sr) (.slice Ar lr cr)) (Ne.symm hYR)
  have m6 := Fr.local_ k6 (Fr.set2 (r := Y) (i := 0) (j := 1) (.bool sr) (.slice Ar lr cr)) (by omega)
  generalize World.setCell (World.setCell wx ⟨Y, 0, none⟩ _) ⟨Y, 1, none⟩ _ = wy at *
  replace HX : Hid (IntAt wy X x) := m3
  replace HY : Hid (IntAt wy Y y) := m4
  replace HR := Lib.hid m5
  replace HE := Lib.hid m6
  refine (IsOne_any _ y _ m2).mono ?_
  clear k1 k2 k3 k4 k5 k6 m1 m2 m3 m4 m5 m6 HIq HIr
  clear bx0 bx1 bx2 bx3 by0 by1 by2 by3 HIx HIy HBx HBy
  obtain ⟨sx, Ax, lx, cx, hBx, hIx⟩ := HX.out
  obtain ⟨sy, Ay, ly, cy, hBy, hIy⟩ := HY.out
  obtain ⟨bx0, bx1, bx2, bx3⟩ := hBx.cell2
  obtain ⟨by0, by1, by2, by3⟩ := hBy.cell2
  have HIx := Lib.hid hIx
  have HIy := Lib.hid hIy
  have HBx := Lib.hid hBx
  have HBy := Lib.hid hBy
  clear hBx hBy hIx hIy
  have HG : Hid (Glob _) := HGl.out.ext HE.out
  by_cases h1 : y = 1
  · rw [decide_eq_true h1]
    rintro e wa ⟨rfl, hF⟩
    have HQ : Hid ((Rat.divInt x y).num = x ∧ denF (Rat.divInt x y) = 0) := frac_one h1
    clear bx0 bx1 bx2 bx3 by0 by1 by2 by3 HIx HIy HBx HBy
    replace HX := Lib.hid (HX.out.ext hF)
    replace HY := Lib.hid (HY.out.ext hF)
    replace HR := Lib.hid (HR.out.ext hF)
    replace HE := Lib.hid (HE.out.trans hF)
    clear hF
    obtain ⟨sx, Ax, lx, cx, hBx, hIx⟩ := HX.out
    obtain ⟨sy, Ay, ly, cy, hBy, hIy⟩ := HY.out
    obtain ⟨bx0, bx1, bx2, bx3⟩ := hBx.cell2
    obtain ⟨by0, by1, by2, by3⟩ := hBy.cell2
    have HIx := Lib.hid hIx
    have HIy := Lib.hid hIy
    have HBx := Lib.hid hBx
    have HBy := Lib.hid hBy
    clear hBx hBy hIx hIy
    obtain ⟨y0, y1, y2, y3, y4, y5, y6, y7⟩ := HR.out.cell4
    clear h1
    go_wp2
    refine fin_rat rfl rfl (HR.out.put4 _ _ _ _) ?_ ?_ (Fr.local_ HE.out (Fr.set4 _ _ _ _) hrR)
    · rw [HQ.out.1]; exact HIx.out.other HR.out noWords4 (Fr.set4 _ _ _ _)
    · rw [HQ.out.2]; exact IntIs.zero _
  · rw [decide_eq_false h1]
    rintro e wa ⟨rfl, hF⟩
    clear bx0 bx1 bx2 bx3 by0 by1 by2 by3 HIx HIy HBx HBy
    replace HX := Lib.hid (HX.out.ext hF)
    replace HY := Lib.hid (HY.out.ext hF)
    replace HR := Lib.hid (HR.out.ext hF)
    replace HE := Lib.hid (HE.out.trans hF)
    clear hF
    obtain ⟨sx, Ax, lx, cx, hBx, hIx⟩ := HX.out
    obtain ⟨sy, Ay, ly, cy, hBy, hIy⟩ := HY.out
    obtain ⟨bx0, bx1, bx2, bx3⟩ := hBx.cell2
    obtain ⟨by0, by1, by2, by3⟩ := hBy.cell2
    have HIx := Lib.hid hIx
    have HIy := Lib.hid hIy
    have HBx := Lib.hid hBx
    have HBy := Lib.hid hBy
    clear hBx hBy hIx hIy
    clear h1
    go_wp2_with fail
    refine (GCD_any _ _ x y _ (HGl.out.ext HE.out) HIx.out HIy.out HFx.out HFy.out HGk.out).mono ?_
    rintro e wg ⟨ug, rfl, hIg, hF⟩
    obtain ⟨sg_, Ag, lg, cg, rfl⟩ := hIg.shape
    have HIg := Lib.hid hIg
    clear hIg
    clear bx0 bx1 bx2 bx3 by0 by1 by2 by3 HIx HIy HBx HBy
    replace HX := Lib.hid (HX.out.ext hF)
    replace HY := Lib.hid (HY.out.ext hF)
    replace HR := Lib.hid (HR.out.ext hF)
    replace HE := Lib.hid (HE.out.trans hF)
    clear hF
    obtain ⟨sx, Ax, lx, cx, hBx, hIx⟩ := HX.out
    obtain ⟨sy, Ay, ly, cy, hBy, hIy⟩ := HY.out
    obtain ⟨bx0, bx1, bx2, bx3⟩ := hBx.cell2
    obtain ⟨by0, by1, by2, by3⟩ := hBy.cell2
    have HIx := Lib.hid hIx
    have HIy := Lib.hid hIy
    have HBx := Lib.hid hBx
    have HBy := Lib.hid hBy
    clear hBx hBy hIx hIy
    go_wp2_with fail
    generalize hwb : World.alloc wg _ = wh
    obtain ⟨hBg, hF⟩ := Blk.one hwb
    have HAg : Hid (IntAt wh wg.heap.size (Int.gcd x y : Int)) := ⟨_, _, _, _, hBg, HIg.out.ext hF⟩
    have hXg : X < wg.heap.size := HBx.out.lt
    have hYg : Y < wg.heap.size := HBy.out.lt
    have hRg : Rr < wg.heap.size := HR.out.lt
    generalize wg.heap.size = G at *
    replace HIg := Lib.hid (HIg.out.ext hF)
    clear hwb
    clear bx0 bx1 bx2 bx3 by0 by1 by2 by3 HIx HIy HBx HBy
    replace HX := Lib.hid (HX.out.ext hF)
    replace HY := Lib.hid (HY.out.ext hF)
    replace HR := Lib.hid (HR.out.ext hF)
    replace HE := Lib.hid (HE.out.trans hF)
    clear hF
    obtain ⟨sx, Ax, lx, cx, hBx, hIx⟩ := HX.out
    obtain ⟨sy, Ay, ly, cy, hBy, hIy⟩ := HY.out
    obtain ⟨bx0, bx1, bx2, bx3⟩ := hBx.cell2
    obtain ⟨by0, by1, by2, by3⟩ := hBy.cell2
    have HIx := Lib.hid hIx
    have HIy := Lib.hid hIy
    have HBx := Lib.hid hBx
    have HBy := Lib.hid hBy
    clear hBx hBy hIx hIy
    refine (IsOne_any _ _ _ HIg.out).mono ?_
    by_cases h2 : ((Int.gcd x y : Nat) : Int) = 1
    · rw [decide_eq_true h2]
      rintro e wi ⟨rfl, hF⟩
      have HQ : Hid ((Rat.divInt x y).num = x ∧ ((Rat.divInt x y).den : Int) = y) := frac_coprime hy h2
      clear h2 HAg HIg
      clear bx0 bx1 bx2 bx3 by0 by1 by2 by3 HIx HIy HBx HBy
      replace HX := Lib.hid (HX.out.ext hF)
      replace HY := Lib.hid (HY.out.ext hF)
      replace HR := Lib.hid (HR.out.ext hF)
      replace HE := Lib.hid (HE.out.trans hF)
      clear hF
      obtain ⟨sx, Ax, lx, cx, hBx, hIx⟩ := HX.out
      obtain ⟨sy, Ay, ly, cy, hBy, hIy⟩ := HY.out
      obtain ⟨bx0, bx1, bx2, bx3⟩ := hBx.cell2
      obtain ⟨by0, by1, by2, by3⟩ := hBy.cell2
      have HIx := Lib.hid hIx
      have HIy := Lib.hid hIy
      have HBx := Lib.hid hBx
      have HBy := Lib.hid hBy
      clear hBx hBy hIx hIy
      go_wp2_with fail
      refine (lowest_any _ _ x y (Rat.divInt x y) _ HIx.out HIy.out HQ.out).mono ?_
      rintro e wl_ ⟨ul, rfl, hRl, hF⟩
      obtain ⟨s, t, A, B, l, c, l', c', rfl, hIn, hId⟩ := hRl
      have HIn := Lib.hid hIn
      have HId := Lib.hid hId
      clear hIn hId
      clear bx0 bx1 bx2 bx3 by0 by1 by2 by3 HIx HIy HBx HBy
      replace HX := Lib.hid (HX.out.ext hF)
      replace HY := Lib.hid (HY.out.ext hF)
      replace HR := Lib.hid (HR.out.ext hF)
      replace HE := Lib.hid (HE.out.trans hF)
      clear hF
      obtain ⟨y0, y1, y2, y3, y4, y5, y6, y7⟩ := HR.out.cell4
      go_wp2
      exact fin_rat rfl rfl (HR.out.put4 _ _ _ _) (HIn.out.other HR.out noWords4 (Fr.set4 _ _ _ _)) (HId.out.other HR.out noWords4 (Fr.set4 _ _ _ _)) (Fr.local_ HE.out (Fr.set4 _ _ _ _) hrR)
    · rw [decide_eq_false h2]
      rintro e wi ⟨rfl, hF⟩
      have HQ : Hid ((Rat.divInt x y).num = x.tdiv (Int.gcd x y : Int) ∧ ((Rat.divInt x y).den : Int) = y.tdiv (Int.gcd x y : Int)) := frac_gcd hy
      have Hg0 : Hid (((Int.gcd x y : Nat) : Int) ≠ 0) := gcd_ne hy
      have Hg80 : Hid (wl (((Int.gcd x y : Nat) : Int)).natAbs < 80) := gcd_wl hy Hy80.out
      clear h2 HIg
      clear bx0 bx1 bx2 bx3 by0 by1 by2 by3 HIx HIy HBx HBy
      replace HX := Lib.hid (HX.out.ext hF)
      replace HY := Lib.hid (HY.out.ext hF)
      replace HR := Lib.hid (HR.out.ext hF)
      replace HAg := Lib.hid (HAg.out.ext hF)
      replace HE := Lib.hid (HE.out.trans hF)
      clear hF
      obtain ⟨sx, Ax, lx, cx, hBx, hIx⟩ := HX.out
      obtain ⟨sy, Ay, ly, cy, hBy, hIy⟩ := HY.out
      obtain ⟨bx0, bx1, bx2, bx3⟩ := hBx.cell2
      obtain ⟨by0, by1, by2, by3⟩ := hBy.cell2
      have HIx := Lib.hid hIx
      have HIy := Lib.hid hIy
      have HBx := Lib.hid hBx
      have HBy := Lib.hid hBy
      clear hBx hBy hIx hIy
      obtain ⟨sg_, Ag, lg, cg, hBg, hIg⟩ := HAg.out
      have HBg := Lib.hid hBg
      have HIg := Lib.hid hIg
      clear hBg hIg
      generalize ((Int.gcd x y : Nat) : Int) = g at *
      obtain ⟨x', hx'⟩ : ∃ x', x.tdiv g = x' := ⟨_, rfl⟩
      obtain ⟨y', hy'⟩ : ∃ y', y.tdiv g = y' := ⟨_, rfl⟩
      go_wp2_with fail
      refine wp_region_T 6 (fun w' => (w'.cell? ⟨X, 0, none⟩ = some (.bool sx) ∧ w'.cell? ⟨X, 1, none⟩ = some (.slice Ax lx cx)) ∧ (w'.cell? ⟨Y, 0, none⟩ = some (.bool sy) ∧ w'.cell? ⟨Y, 1, none⟩ = some (.slice Ay ly cy)) ∧ (w'.cell? ⟨G, 0, none⟩ = some (.bool sg_) ∧ w'.cell? ⟨G, 1, none⟩ = some (.slice Ag lg cg))) follows_mixed ?_
      refine wpT_take 0 rfl (by kernel_rfl) (fun _ _ _ h => h) (keepI3 HBx.out HBy.out HBg.out (Fr.refl _ _).drew) (fun _ => yields_int rfl rfl rfl (fun _ h => h.1)) (fun hS => ?_)
      refine wpT_take 1 rfl (by kernel_rfl) (fun _ _ _ h => h) hS (fun _ => yields_int rfl rfl rfl (fun _ h => h.2.2)) (fun hS => ?_)
      refine wpT_take 3 rfl (by kernel_rfl) (fun _ _ _ h => h) hS (fun _ => yields_int rfl rfl rfl (fun _ h => h.2.1)) (fun hS => ?_)
      refine wpT_take 4 rfl (by kernel_rfl) (fun _ _ _ h => h) hS (fun _ => yields_int rfl rfl rfl (fun _ h => h.2.2)) (fun hS => ?_)
      refine wpT_only 2 rfl (by kernel_rfl) rfl (fun K hK => ?_)
      go_simp
      refine (Quo_any _ _ x g _ (HIx.out.ext (Fr.refl _ _).drew) (HIg.out.ext (Fr.refl _ _).drew) HFx.out Hg80.out Hg0.out).mono ?_
      rw [hx']
      rintro e wq ⟨uq, rfl, hIq, hFq⟩
      obtain ⟨sq, Aq, lq, cq, rfl⟩ := hIq.shape
      replace hFq := Fr.undrew hFq
      refine hK _ _ (keepI3 HBx.out HBy.out HBg.out hFq) ?_
      refine wpT_only 5 rfl (by kernel_rfl) rfl (fun K hK => ?_)
      go_simp
      refine (Quo_any _ _ y g _ (HIy.out.ext hFq) (HIg.out.ext hFq) HFy.out Hg80.out Hg0.out).mono ?_
      rw [hy']
      rintro e wr ⟨ur, rfl, hIr, hFr⟩
      obtain ⟨sr, Ar, lr, cr, rfl⟩ := hIr.shape
      refine hK _ _ (keepI3 HBx.out HBy.out HBg.out (hFq.trans hFr)) ?_
      clear hK
      have hIq := hIq.ext hFr
      have hF := hFq.trans hFr
      have HIq := Lib.hid hIq
      have HIr := Lib.hid hIr
      have HQ' : Hid ((Rat.divInt x y).num = x' ∧ ((Rat.divInt x y).den : Int) = y') := by rw [Hid, ← hx', ← hy']; exact HQ.out
      clear hFq hFr hIr hIq hx' hy' HAg HIg HBg hS
      clear bx0 bx1 bx2 bx3 by0 by1 by2 by3 HIx HIy HBx HBy
      replace HX := Lib.hid (HX.out.ext hF)
      replace HY := Lib.hid (HY.out.ext hF)
      replace HR := Lib.hid (HR.out.ext hF)
      replace HE := Lib.hid (HE.out.trans hF)
      clear hF
      obtain ⟨sx, Ax, lx, cx, hBx, hIx⟩ := HX.out
      obtain ⟨sy, Ay, ly, cy, hBy, hIy⟩ := HY.out
      obtain ⟨bx0, bx1, bx2, bx3⟩ := hBx.cell2
      obtain ⟨by0, by1, by2, by3⟩ := hBy.cell2
      have HIx := Lib.hid hIx
      have HIy := Lib.hid hIy
      have HBx := Lib.hid hBx
      have HBy := Lib.hid hBy
      clear hBx hBy hIx hIy
      refine wpT_tail (l := [_, _]) 6 rfl (by kernel_rfl) ?_
      go_wp2_with fail
      have k1 := IntIs.away (a := .bool sq) (b := .slice Aq lq cq) HIq.out HX.out
      have k2 := IntIs.away (a := .bool sq) (b := .slice Aq lq cq) HIr.out HX.out
      have k3 := HX.out.put HIq.out
      have k4 := IntAt.away (a := .bool sq) (b := .slice Aq lq cq) HY.out HX.out (Ne.symm hXY)
      have k5 := HR.out.fr (Fr.set2 (r := X) (i := 0) (j := 1) (.bool sq) (.slice Aq lq cq)) (Ne.symm hXR)
      have k6 := Fr.local_ HE.out (Fr.set2 (r := X) (i := 0) (j := 1) (.bool sq) (.slice Aq lq cq)) (Nat.le_of_eq hXx)
      generalize World.setCell (World.setCell _ ⟨X, 0, none⟩ _) ⟨X, 1, none⟩ _ = wx at *
      have m1 := IntIs.away (a := .bool sr) (b := .slice Ar lr cr) k1 k4
      have m2 := IntIs.away (a := .bool sr) (b := .slice Ar lr cr) k2 k4
      have m5 := k5.fr (Fr.set2 (r := Y) (i := 0) (j := 1) (.bool sr) (.slice Ar lr cr)) (Ne.symm hYR)
      have m6 := Fr.local_ k6 (Fr.set2 (r := Y) (i := 0) (j := 1) (.bool sr) (.slice Ar lr cr)) (by omega)
      generalize World.setCell (World.setCell wx ⟨Y, 0, none⟩ _) ⟨Y, 1, none⟩ _ = wy at *
      have HR2 := Lib.hid m5
      have HE2 := Lib.hid m6
      refine (lowest_any _ _ x' y' (Rat.divInt x y) _ m1 m2 HQ'.out).mono ?_
      rintro e wl_ ⟨ul, rfl, hRl, hF⟩
      obtain ⟨s, t, A, B, l, c, l', c', rfl, hIn, hId⟩ := hRl
      have HIn := Lib.hid hIn
      have HId := Lib.hid hId
      have HR3 := Lib.hid (HR2.out.ext hF)
      have HE3 := Lib.hid (HE2.out.trans hF)
      clear hIn hId hF k1 k2 k3 k4 k5 k6 m1 m2 m5 m6
      obtain ⟨y0, y1, y2, y3, y4, y5, y6, y7⟩ := HR3.out.cell4
      go_wp2
      exact fin_rat rfl rfl (HR3.out.put4 _ _ _ _) (HIn.out.other HR3.out noWords4 (Fr.set4 _ _ _ _)) (HId.out.other HR3.out noWords4 (Fr.set4 _ _ _ _)) (Fr.local_ HE3.out (Fr.set4 _ _ _ _) hrR)

theorem Fraction_any (a b : Value) (x y : Int) (w : World) (hgl : Glob w) (ha : IntIs w a x) (hb : IntIs w b y) (hfx : Fits x) (hfy : Fits y) (hgk : GcdOk x y) (h80 : wl y.natAbs < 80) (hy : y ≠ 0) : Calls Tryz.prog 124 #[a, b] w (RetRat w (Rat.divInt x y)) := by
  by_cases hx : x = 0
  · have h := Fraction_zero a b x y w ha hb hx hy
    rwa [hx, Rat.zero_divInt]
  rcases Int.lt_or_le 0 y with h | h
  · exact Fraction_pos a b x y w hgl ha hb hfx hfy hgk h80 hx h
  · rw [← Rat.neg_divInt_neg]
    refine Fraction_neg a b x y (-x) (-y) w hgl ha hb rfl rfl ?_ ?_ ?_ ?_ (by omega) (by omega)
    · unfold Fits; rw [Int.natAbs_neg]; exact hfx
    · unfold Fits; rw [Int.natAbs_neg]; exact hfy
    · unfold GcdOk; rw [Int.natAbs_neg, Int.natAbs_neg]; exact hgk
    · rw [Int.natAbs_neg]; exact h80

end Go.Proofs.YtndafmjcelgnbaaGreatDoor

namespace Go.Proofs.YtndafmjcelgnbaaGreatDoor
open Go.RowKit

/-- sizes of rational numbers, in words -/
def QFits (q : Rat) (k : Nat) : Prop := wl q.num.natAbs ≤ k ∧ wl q.den ≤ k
theorem wlm {x y : Int} {a b : Nat} (hx : wl x.natAbs ≤ a) (hy : wl y.natAbs ≤ b) : wl (x * y).natAbs ≤ a + b := by
  have h := wl_mul x.natAbs y.natAbs
  rw [← Int.natAbs_mul] at h
  omega
theorem wla {x y : Int} {a : Nat} (hx : wl x.natAbs ≤ a) (hy : wl y.natAbs ≤ a) : wl (x + y).natAbs ≤ a + 1 :=
  Nat.le_trans (wl_mono (Int.natAbs_add_le x y)) (wl_add hx hy)
theorem wlc {n k : Nat} (h : wl n ≤ k) : wl ((n : Int)).natAbs ≤ k := by rw [Int.natAbs_natCast]; exact h
theorem wlq {x y : Int} {k : Nat} (h : wl x.natAbs ≤ k) : wl (x.tdiv y).natAbs ≤ k := by
  rw [Int.natAbs_tdiv]; exact Nat.le_trans (wl_mono (Nat.div_le_self _ _)) h
theorem wld {n m k : Nat} (h : wl n ≤ k) : wl (n / m) ≤ k := Nat.le_trans (wl_mono (Nat.div_le_self _ _)) h
theorem wlg {x y : Int} {k : Nat} (h : wl y.natAbs ≤ k) (h0 : y ≠ 0) : wl (Int.gcd x y) ≤ k :=
  Nat.le_trans (wl_mono (Nat.gcd_le_right _ (by omega))) h
theorem fit {x : Int} {k : Nat} (h : wl x.natAbs ≤ k) (hk : k ≤ 1048576) : Fits x := Nat.le_trans h hk
theorem nat_tdiv (a b : Nat) : (a : Int).tdiv (b : Int) = ((a / b : Nat) : Int) := by
  rw [Int.tdiv_eq_ediv_of_nonneg (by omega)]; rfl
/-- a whole number and a fraction -/
theorem radd_whole {p q : Rat} (h : p.den = 1) : (p + q).num = p.num * (q.den : Int) + q.num ∧ (p + q).den = q.den := by
  have := radd_one (p := p) (q := q) (by rw [h]; exact Nat.gcd_one_left _)
  rw [h] at this
  simpa using this
theorem denF_of {q : Rat} {n : Nat} (h : q.den = n) (h1 : n ≠ 1) : denF q = (n : Int) := by rw [denF_big (by rw [h]; exact h1), h]
theorem gcd_nz {x : Int} {y : Int} (h : y ≠ 0) : ((Int.gcd x y : Nat) : Int) ≠ 0 := fun e => h ((Int.gcd_eq_zero_iff.1 (Int.ofNat_eq_zero.1 e)).2)

theorem QFits.neg {q : Rat} {k : Nat} (h : QFits q k) : QFits (-q) k := ⟨by rw [rneg_num, Int.natAbs_neg]; exact h.1, h.2⟩
theorem QFits.inv {q : Rat} {k : Nat} (h : QFits q k) : QFits (q⁻¹) k := by
  obtain ⟨h1, h2⟩ := h
  rcases sign3' q.num with ⟨h, _⟩ | ⟨h, _⟩ | ⟨h, _⟩
  · obtain ⟨e1, e2⟩ := rinv_neg h
    refine ⟨by rw [e1, Int.natAbs_neg, Int.natAbs_natCast]; exact h2, ?_⟩
    have : (q⁻¹).den = q.num.natAbs := by omega
    rw [this]; exact h1
  · rw [rinv_zero h]; exact ⟨by rw [show (0 : Rat).num.natAbs = 0 from rfl]; exact Nat.le_trans (wl_mono (Nat.zero_le _)) h1, Nat.le_trans (wl_mono (by have := q.den_nz; show 1 ≤ q.den; omega)) h2⟩
  · obtain ⟨e1, e2⟩ := rinv_pos h
    refine ⟨by rw [e1, Int.natAbs_natCast]; exact h2, ?_⟩
    have : (q⁻¹).den = q.num.natAbs := by omega
    rw [this]; exact h1


set_option maxRecDepth 100000 in
theorem QAdd_ww (a b : Value) (p q : Rat) (w : World) (ha : RatIs w a p) (hb : RatIs w b q) (hp : QFits p 38) (hq : QFits q 38) (h1 : p.den = 1) (h2 : q.den = 1) :
    Calls Tryz.prog 91 #[a, b] w (RetRat w (p + q)) := by
  obtain ⟨s0, A0, l0, c0, t0, B0, m0, d0, rfl⟩ := ha.shp
  obtain ⟨s1, A1, l1, c1, t1, B1, m1, d1, rfl⟩ := hb.shp
  have S1 : wl p.num.natAbs ≤ 38 := hp.1
  have S2 : wl q.num.natAbs ≤ 38 := hq.1
  have hp2 : wl p.den ≤ 38 := hp.2
  have hq2 : wl q.den ≤ 38 := hq.2
  have S3 : wl ((p.den : Nat) : Int).natAbs ≤ 38 := wlc hp2
  have S4 : wl ((q.den : Nat) : Int).natAbs ≤ 38 := wlc hq2
  have HW := rat_whole_add h1 h2
  refine sx_enter (Φ := fun w => (((RatIs w (.agg #[.bool s0, .slice A0 l0 c0, .bool t0, .slice B0 m0 d0]) (p) ∧ RatIs w (.agg #[.bool s1, .slice A1 l1 c1, .bool t1, .slice B1 m1 d1]) (q)) ∧ IntIs w (.agg #[.bool t0, .slice B0 m0 d0]) (0)) ∧ IntIs w (.agg #[.bool t1, .slice B1 m1 d1]) (0))) Tryz.func91 rfl (by kernel_rfl) (fun w' hf => ⟨⟨⟨ha.ext hf, hb.ext hf⟩, (by have h := ha.den; rw [denF_one h1] at h; exact h.ext hf)⟩, (by have h := hb.den; rw [denF_one h2] at h; exact h.ext hf)⟩) ?_
  refine sx_seq ?_
  refine sx_region ?_
  refine sx_run 3 [(2, .p 2 0), (3, .p 3 0), (4, .p 4 0)] [(4, 80, [.v (.bool false), .v (.slice none 0 0), .v (.bool false), .v (.slice none 0 0)]), (3, 80, [.v (.bool s1), .v (.slice A1 l1 c1), .v (.bool t1), .v (.slice B1 m1 d1)]), (2, 80, [.v (.bool s0), .v (.slice A0 l0 c0), .v (.bool t0), .v (.slice B0 m0 d0)])] (by kernel_rfl) (by kernel_rfl) ?_
  refine sx_end (by kernel_rfl) ?_
  refine sx_next ?_
  refine sx_seq ?_
  refine sx_block ?_
  refine sx_seq ?_
  refine sx_region ?_
  refine sx_run 2 [(2, .p 2 0), (3, .p 3 0), (4, .p 4 0), (12, .v (.agg #[.bool t0, .slice B0 m0 d0]))] [(4, 80, [.v (.bool false), .v (.slice none 0 0), .v (.bool false), .v (.slice none 0 0)]), (3, 80, [.v (.bool s1), .v (.slice A1 l1 c1), .v (.bool t1), .v (.slice B1 m1 d1)]), (2, 80, [.v (.bool s0), .v (.slice A0 l0 c0), .v (.bool t0), .v (.slice B0 m0 d0)])] (by kernel_rfl) (by kernel_rfl) ?_
  refine sx_call 119 [.agg #[.bool t0, .slice B0 m0 d0]] 13 (fun _ : Unit => .bool true) _ (by kernel_rfl) (by kernel_rfl) (fun w hE hΦ => (IsZero_any _ (0) _ hΦ.1.2).mono (fun _ _ h => post_val h (by rw [decide_eq_true (p := (0) = 0) rfl]))) (fun xx => ?_)
  refine sx_run 3 [(2, .p 2 0), (3, .p 3 0), (4, .p 4 0), (14, .v (.bool true)), (16, .v (.agg #[.bool t1, .slice B1 m1 d1]))] [(4, 80, [.v (.bool false), .v (.slice none 0 0), .v (.bool false), .v (.slice none 0 0)]), (3, 80, [.v (.bool s1), .v (.slice A1 l1 c1), .v (.bool t1), .v (.slice B1 m1 d1)]), (2, 80, [.v (.bool s0), .v (.slice A0 l0 c0), .v (.bool t0), .v (.slice B0 m0 d0)])] (by kernel_rfl) (by kernel_rfl) ?_
  refine sx_call 119 [.agg #[.bool t1, .slice B1 m1 d1]] 17 (fun _ : Unit => .bool true) _ (by kernel_rfl) (by kernel_rfl) (fun w hE hΦ => (IsZero_any _ (0) _ hΦ.1.2).mono (fun _ _ h => post_val h (by rw [decide_eq_true (p := (0) = 0) rfl]))) (fun xx => ?_)
  refine sx_run 2 [(2, .p 2 0), (3, .p 3 0), (4, .p 4 0), (10, .v (.bool true))] [(4, 80, [.v (.bool false), .v (.slice none 0 0), .v (.bool false), .v (.slice none 0 0)]), (3, 80, [.v (.bool s1), .v (.slice A1 l1 c1), .v (.bool t1), .v (.slice B1 m1 d1)]), (2, 80, [.v (.bool s0), .v (.slice A0 l0 c0), .v (.bool t0), .v (.slice B0 m0 d0)])] (by kernel_rfl) (by kernel_rfl) ?_
  refine sx_end (by kernel_rfl) ?_
  refine sx_next ?_
  refine sx_cond_t (by kernel_rfl) ?_
  refine sx_seq ?_
  refine sx_region ?_
  refine sx_run 4 [(2, .p 2 0), (3, .p 3 0), (4, .p 4 0), (20, .v (.agg #[.bool s0, .slice A0 l0 c0])), (22, .v (.agg #[.bool s1, .slice A1 l1 c1]))] [(4, 80, [.v (.bool false), .v (.slice none 0 0), .v (.bool false), .v (.slice none 0 0)]), (3, 80, [.v (.bool s1), .v (.slice A1 l1 c1), .v (.bool t1), .v (.slice B1 m1 d1)]), (2, 80, [.v (.bool s0), .v (.slice A0 l0 c0), .v (.bool t0), .v (.slice B0 m0 d0)])] (by kernel_rfl) (by kernel_rfl) ?_
  refine sx_call 52 [.agg #[.bool s0, .slice A0 l0 c0], .agg #[.bool s1, .slice A1 l1 c1]] 23 shInt _ (by kernel_rfl) (by kernel_rfl) (fun w hE hΦ => (Add_any _ _ ((p).num) ((q).num) _ hΦ.1.1.1.1.1.num hΦ.1.1.1.1.2.num (fit S1 (by decide)) (fit S2 (by decide))).mono (fun _ _ h => post_Int h)) (fun xx => ?_)
  obtain ⟨s10, A10, l10, c10⟩ := xx
  refine sx_run 2 [(2, .p 2 0), (3, .p 3 0), (4, .p 4 0)] [(4, 80, [.v (.bool s10), .v (.slice A10 l10 c10), .v (.bool false), .v (.slice none 0 0)]), (3, 80, [.v (.bool s1), .v (.slice A1 l1 c1), .v (.bool t1), .v (.slice B1 m1 d1)]), (2, 80, [.v (.bool s0), .v (.slice A0 l0 c0), .v (.bool t0), .v (.slice B0 m0 d0)])] (by kernel_rfl) (by kernel_rfl) ?_
  refine sx_end (by kernel_rfl) ?_
  refine sx_next ?_
  refine sx_ret ?_
  refine sx_in_ret ?_
  refine sx_then_ret ?_
  refine sx_done (v := .agg #[.bool s10, .slice A10 l10 c10, .bool false, .slice none 0 0]) (by kernel_rfl) (fun w' hE hΦ => ?_)
  exact ⟨_, rfl, RatIs.of (by rw [HW.1]; exact hΦ.2) (by rw [denF_one HW.2]; exact (IntIs.nil _)), hE⟩

set_option maxRecDepth 100000 in
theorem QAdd_wf (a b : Value) (p q : Rat) (w : World) (ha : RatIs w a p) (hb : RatIs w b q) (hp : QFits p 38) (hq : QFits q 38) (h1 : p.den = 1) (h2 : ¬ q.den = 1) :
    Calls Tryz.prog 91 #[a, b] w (RetRat w (p + q)) := by
  obtain ⟨s0, A0, l0, c0, t0, B0, m0, d0, rfl⟩ := ha.shp
  obtain ⟨s1, A1, l1, c1, t1, B1, m1, d1, rfl⟩ := hb.shp
  have S1 : wl p.num.natAbs ≤ 38 := hp.1
  have S2 : wl q.num.natAbs ≤ 38 := hq.1
  have hp2 : wl p.den ≤ 38 := hp.2
  have hq2 : wl q.den ≤ 38 := hq.2
  have S3 : wl ((p.den : Nat) : Int).natAbs ≤ 38 := wlc hp2
  have S4 : wl ((q.den : Nat) : Int).natAbs ≤ 38 := wlc hq2
  have HW := radd_whole (q := q) h1
  refine sx_enter (Φ := fun w => (((RatIs w (.agg #[.bool s0, .slice A0 l0 c0, .bool t0, .slice B0 m0 d0]) (p) ∧ RatIs w (.agg #[.bool s1, .slice A1 l1 c1, .bool t1, .slice B1 m1 d1]) (q)) ∧ IntIs w (.agg #[.bool t0, .slice B0 m0 d0]) (0)) ∧ IntIs w (.agg #[.bool t1, .slice B1 m1 d1]) ((q.den : Int)))) Tryz.func91 rfl (by kernel_rfl) (fun w' hf => ⟨⟨⟨ha.ext hf, hb.ext hf⟩, (by have h := ha.den; rw [denF_one h1] at h; exact h.ext hf)⟩, (by have h := hb.den; rw [denF_big h2] at h; exact h.ext hf)⟩) ?_
  refine sx_seq ?_
  refine sx_region ?_
  refine sx_run 3 [(2, .p 2 0), (3, .p 3 0), (4, .p 4 0)] [(4, 80, [.v (.bool false), .v (.slice none 0 0), .v (.bool false), .v (.slice none 0 0)]), (3, 80, [.v (.bool s1), .v (.slice A1 l1 c1), .v (.bool t1), .v (.slice B1 m1 d1)]), (2, 80, [.v (.bool s0), .v (.slice A0 l0 c0), .v (.bool t0), .v (.slice B0 m0 d0)])] (by kernel_rfl) (by kernel_rfl) ?_
  refine sx_end (by kernel_rfl) ?_
  refine sx_next ?_
  refine sx_seq ?_
  refine sx_block ?_
  refine sx_seq ?_
  refine sx_region ?_
  refine sx_run 2 [(2, .p 2 0), (3, .p 3 0), (4, .p 4 0), (12, .v (.agg #[.bool t0, .slice B0 m0 d0]))] [(4, 80, [.v (.bool false), .v (.slice none 0 0), .v (.bool false), .v (.slice none 0 0)]), (3, 80, [.v (.bool s1), .v (.slice A1 l1 c1), .v (.bool t1), .v (.slice B1 m1 d1)]), (2, 80, [.v (.bool s0), .v (.slice A0 l0 c0), .v (.bool t0), .v (.slice B0 m0 d0)])] (by kernel_rfl) (by kernel_rfl) ?_
  refine sx_call 119 [.agg #[.bool t0, .slice B0 m0 d0]] 13 (fun _ : Unit => .bool true) _ (by kernel_rfl) (by kernel_rfl) (fun w hE hΦ => (IsZero_any _ (0) _ hΦ.1.2).mono (fun _ _ h => post_val h (by rw [decide_eq_true (p := (0) = 0) rfl]))) (fun xx => ?_)
  refine sx_run 3 [(2, .p 2 0), (3, .p 3 0), (4, .p 4 0), (14, .v (.bool true)), (16, .v (.agg #[.bool t1, .slice B1 m1 d1]))] [(4, 80, [.v (.bool false), .v (.slice none 0 0), .v (.bool false), .v (.slice none 0 0)]), (3, 80, [.v (.bool s1), .v (.slice A1 l1 c1), .v (.bool t1), .v (.slice B1 m1 d1)]), (2, 80, [.v (.bool s0), .v (.slice A0 l0 c0), .v (.bool t0), .v (.slice B0 m0 d0)])] (by kernel_rfl) (by kernel_rfl) ?_
  refine sx_call 119 [.agg #[.bool t1, .slice B1 m1 d1]] 17 (fun _ : Unit => .bool false) _ (by kernel_rfl) (by kernel_rfl) (fun w hE hΦ => (IsZero_any _ ((q.den : Int)) _ hΦ.1.2).mono (fun _ _ h => post_val h (by rw [decide_eq_false (p := ((q.den : Int)) = 0) (denI q)]))) (fun xx => ?_)
  refine sx_run 2 [(2, .p 2 0), (3, .p 3 0), (4, .p 4 0), (10, .v (.bool false))] [(4, 80, [.v (.bool false), .v (.slice none 0 0), .v (.bool false), .v (.slice none 0 0)]), (3, 80, [.v (.bool s1), .v (.slice A1 l1 c1), .v (.bool t1), .v (.slice B1 m1 d1)]), (2, 80, [.v (.bool s0), .v (.slice A0 l0 c0), .v (.bool t0), .v (.slice B0 m0 d0)])] (by kernel_rfl) (by kernel_rfl) ?_
  refine sx_end (by kernel_rfl) ?_
  refine sx_next ?_
  refine sx_cond_f (by kernel_rfl) ?_
  refine sx_seq ?_
  refine sx_region ?_
  refine sx_run 2 [(2, .p 2 0), (3, .p 3 0), (4, .p 4 0), (27, .v (.agg #[.bool t0, .slice B0 m0 d0]))] [(4, 80, [.v (.bool false), .v (.slice none 0 0), .v (.bool false), .v (.slice none 0 0)]), (3, 80, [.v (.bool s1), .v (.slice A1 l1 c1), .v (.bool t1), .v (.slice B1 m1 d1)]), (2, 80, [.v (.bool s0), .v (.slice A0 l0 c0), .v (.bool t0), .v (.slice B0 m0 d0)])] (by kernel_rfl) (by kernel_rfl) ?_
  refine sx_call 119 [.agg #[.bool t0, .slice B0 m0 d0]] 28 (fun _ : Unit => .bool true) _ (by kernel_rfl) (by kernel_rfl) (fun w hE hΦ => (IsZero_any _ (0) _ hΦ.1.1.1.2).mono (fun _ _ h => post_val h (by rw [decide_eq_true (p := (0) = 0) rfl]))) (fun xx => ?_)
  refine sx_run 1 [(2, .p 2 0), (3, .p 3 0), (4, .p 4 0), (25, .v (.bool true))] [(4, 80, [.v (.bool false), .v (.slice none 0 0), .v (.bool false), .v (.slice none 0 0)]), (3, 80, [.v (.bool s1), .v (.slice A1 l1 c1), .v (.bool t1), .v (.slice B1 m1 d1)]), (2, 80, [.v (.bool s0), .v (.slice A0 l0 c0), .v (.bool t0), .v (.slice B0 m0 d0)])] (by kernel_rfl) (by kernel_rfl) ?_
  refine sx_end (by kernel_rfl) ?_
  refine sx_next ?_
  refine sx_cond_t (by kernel_rfl) ?_
  refine sx_seq ?_
  refine sx_draw 12 (by kernel_rfl) (by kernel_rfl) follows_mixed' ?_
  refine st_flt 4 [(2, .p 2 0), (3, .p 3 0), (4, .p 4 0), (30, .v (.agg #[.bool s0, .slice A0 l0 c0])), (32, .v (.agg #[.bool t1, .slice B1 m1 d1]))] [(4, 80, [.v (.bool false), .v (.slice none 0 0), .v (.bool false), .v (.slice none 0 0)]), (3, 80, [.v (.bool s1), .v (.slice A1 l1 c1), .v (.bool t1), .v (.slice B1 m1 d1)]), (2, 80, [.v (.bool s0), .v (.slice A0 l0 c0), .v (.bool t0), .v (.slice B0 m0 d0)])] (by kernel_rfl) (by kernel_rfl) ?_
  refine st_call 53 [.agg #[.bool s0, .slice A0 l0 c0], .agg #[.bool t1, .slice B1 m1 d1]] 33 shInt _ (by kernel_rfl) (by kernel_rfl) (by kernel_rfl) (fun w hE hΦ => (Mul_any _ _ ((p).num) ((q.den : Int)) _ hΦ.1.1.1.1.1.1.num hΦ.1.1.1.2 (fit S1 (by decide)) (fit S4 (by decide)) (Or.inl (Nat.lt_of_le_of_lt S1 (by decide)))).mono (fun _ _ h => post_Int h)) (fun xx => ?_)
  obtain ⟨s10, A10, l10, c10⟩ := xx
  refine st_flt 2 [(2, .p 2 0), (3, .p 3 0), (4, .p 4 0), (33, .v (.agg #[.bool s10, .slice A10 l10 c10])), (35, .v (.agg #[.bool s1, .slice A1 l1 c1]))] [(4, 80, [.v (.bool false), .v (.slice none 0 0), .v (.bool false), .v (.slice none 0 0)]), (3, 80, [.v (.bool s1), .v (.slice A1 l1 c1), .v (.bool t1), .v (.slice B1 m1 d1)]), (2, 80, [.v (.bool s0), .v (.slice A0 l0 c0), .v (.bool t0), .v (.slice B0 m0 d0)])] (by kernel_rfl) (by kernel_rfl) ?_
  refine st_call 52 [.agg #[.bool s10, .slice A10 l10 c10], .agg #[.bool s1, .slice A1 l1 c1]] 36 shInt _ (by kernel_rfl) (by kernel_rfl) (by kernel_rfl) (fun w hE hΦ => (Add_any _ _ (((p).num) * ((q.den : Int))) ((q).num) _ hΦ.2 hΦ.1.1.1.1.1.1.2.num (fit (wlm S1 S4) (by decide)) (fit S2 (by decide))).mono (fun _ _ h => post_Int h)) (fun xx => ?_)
  obtain ⟨s11, A11, l11, c11⟩ := xx
  refine st_flt 4 [(2, .p 2 0), (3, .p 3 0), (4, .p 4 0)] [(4, 80, [.v (.bool s11), .v (.slice A11 l11 c11), .v (.bool t1), .v (.slice B1 m1 d1)]), (4, 80, [.v (.bool false), .v (.slice none 0 0), .v (.bool false), .v (.slice none 0 0)]), (3, 80, [.v (.bool s1), .v (.slice A1 l1 c1), .v (.bool t1), .v (.slice B1 m1 d1)]), (2, 80, [.v (.bool s0), .v (.slice A0 l0 c0), .v (.bool t0), .v (.slice B0 m0 d0)])] (by kernel_rfl) (by kernel_rfl) ?_
  refine st_end (by kernel_rfl) ?_
  refine sx_end (by kernel_rfl) ?_
  refine sx_next ?_
  refine sx_ret ?_
  refine sx_in_ret ?_
  refine sx_then_ret ?_
  refine sx_done (v := .agg #[.bool s11, .slice A11 l11 c11, .bool t1, .slice B1 m1 d1]) (by kernel_rfl) (fun w' hE hΦ => ?_)
  exact ⟨_, rfl, RatIs.of (by rw [HW.1]; exact hΦ.2) (by rw [denF_of HW.2 h2]; exact hΦ.1.1.1.1.1.2), hE⟩

set_option maxRecDepth 100000 in
theorem QAdd_fw (a b : Value) (p q : Rat) (w : World) (ha : RatIs w a p) (hb : RatIs w b q) (hp : QFits p 38) (hq : QFits q 38) (h1 : ¬ p.den = 1) (h2 : q.den = 1) :
    Calls Tryz.prog 91 #[a, b] w (RetRat w (p + q)) := by
  obtain ⟨s0, A0, l0, c0, t0, B0, m0, d0, rfl⟩ := ha.shp
  obtain ⟨s1, A1, l1, c1, t1, B1, m1, d1, rfl⟩ := hb.shp
  have S1 : wl p.num.natAbs ≤ 38 := hp.1
  have S2 : wl q.num.natAbs ≤ 38 := hq.1
  have hp2 : wl p.den ≤ 38 := hp.2
  have hq2 : wl q.den ≤ 38 := hq.2
  have S3 : wl ((p.den : Nat) : Int).natAbs ≤ 38 := wlc hp2
  have S4 : wl ((q.den : Nat) : Int).natAbs ≤ 38 := wlc hq2
  have HW := (show (p + q).num = q.num * (p.den : Int) + p.num ∧ (p + q).den = p.den by rw [Rat.add_comm]; exact radd_whole h2)
  refine sx_enter (Φ := fun w => (((RatIs w (.agg #[.bool s0, .slice A0 l0 c0, .bool t0, .slice B0 m0 d0]) (p) ∧ RatIs w (.agg #[.bool s1, .slice A1 l1 c1, .bool t1, .slice B1 m1 d1]) (q)) ∧ IntIs w (.agg #[.bool t0, .slice B0 m0 d0]) ((p.den : Int))) ∧ IntIs w (.agg #[.bool t1, .slice B1 m1 d1]) (0))) Tryz.func91 rfl (by kernel_rfl) (fun w' hf => ⟨⟨⟨ha.ext hf, hb.ext hf⟩, (by have h := ha.den; rw [denF_big h1] at h; exact h.ext hf)⟩, (by have h := hb.den; rw [denF_one h2] at h; exact h.ext hf)⟩) ?_
  refine sx_seq ?_
  refine sx_region ?_
  refine sx_run 3 [(2, .p 2 0), (3, .p 3 0), (4, .p 4 0)] [(4, 80, [.v (.bool false), .v (.slice none 0 0), .v (.bool false), .v (.slice none 0 0)]), (3, 80, [.v (.bool s1), .v (.slice A1 l1 c1), .v (.bool t1), .v (.slice B1 m1 d1)]), (2, 80, [.v (.bool s0), .v (.slice A0 l0 c0), .v (.bool t0), .v (.slice B0 m0 d0)])] (by kernel_rfl) (by kernel_rfl) ?_
  refine sx_end (by kernel_rfl) ?_
  refine sx_next ?_
  refine sx_seq ?_
  refine sx_block ?_
  refine sx_seq ?_
  refine sx_region ?_
  refine sx_run 2 [(2, .p 2 0), (3, .p 3 0), (4, .p 4 0), (12, .v (.agg #[.bool t0, .slice B0 m0 d0]))] [(4, 80, [.v (.bool false), .v (.slice none 0 0), .v (.bool false), .v (.slice none 0 0)]), (3, 80, [.v (.bool s1), .v (.slice A1 l1 c1), .v (.bool t1), .v (.slice B1 m1 d1)]), (2, 80, [.v (.bool s0), .v (.slice A0 l0 c0), .v (.bool t0), .v (.slice B0 m0 d0)])] (by kernel_rfl) (by kernel_rfl) ?_
  refine sx_call 119 [.agg #[.bool t0, .slice B0 m0 d0]] 13 (fun _ : Unit => .bool false) _ (by kernel_rfl) (by kernel_rfl) (fun w hE hΦ => (IsZero_any _ ((p.den : Int)) _ hΦ.1.2).mono (fun _ _ h => post_val h (by rw [decide_eq_false (p := ((p.den : Int)) = 0) (denI p)]))) (fun xx => ?_)
  refine sx_run 6 [(2, .p 2 0), (3, .p 3 0), (4, .p 4 0), (10, .v (.bool false))] [(4, 80, [.v (.bool false), .v (.slice none 0 0), .v (.bool false), .v (.slice none 0 0)]), (3, 80, [.v (.bool s1), .v (.slice A1 l1 c1), .v (.bool t1), .v (.slice B1 m1 d1)]), (2, 80, [.v (.bool s0), .v (.slice A0 l0 c0), .v (.bool t0), .v (.slice B0 m0 d0)])] (by kernel_rfl) (by kernel_rfl) ?_
  refine sx_end (by kernel_rfl) ?_
  refine sx_next ?_
  refine sx_cond_f (by kernel_rfl) ?_
  refine sx_seq ?_
  refine sx_region ?_
  refine sx_run 2 [(2, .p 2 0), (3, .p 3 0), (4, .p 4 0), (27, .v (.agg #[.bool t0, .slice B0 m0 d0]))] [(4, 80, [.v (.bool false), .v (.slice none 0 0), .v (.bool false), .v (.slice none 0 0)]), (3, 80, [.v (.bool s1), .v (.slice A1 l1 c1), .v (.bool t1), .v (.slice B1 m1 d1)]), (2, 80, [.v (.bool s0), .v (.slice A0 l0 c0), .v (.bool t0), .v (.slice B0 m0 d0)])] (by kernel_rfl) (by kernel_rfl) ?_
  refine sx_call 119 [.agg #[.bool t0, .slice B0 m0 d0]] 28 (fun _ : Unit => .bool false) _ (by kernel_rfl) (by kernel_rfl) (fun w hE hΦ => (IsZero_any _ ((p.den : Int)) _ hΦ.1.1.2).mono (fun _ _ h => post_val h (by rw [decide_eq_false (p := ((p.den : Int)) = 0) (denI p)]))) (fun xx => ?_)
  refine sx_run 1 [(2, .p 2 0), (3, .p 3 0), (4, .p 4 0), (25, .v (.bool false))] [(4, 80, [.v (.bool false), .v (.slice none 0 0), .v (.bool false), .v (.slice none 0 0)]), (3, 80, [.v (.bool s1), .v (.slice A1 l1 c1), .v (.bool t1), .v (.slice B1 m1 d1)]), (2, 80, [.v (.bool s0), .v (.slice A0 l0 c0), .v (.bool t0), .v (.slice B0 m0 d0)])] (by kernel_rfl) (by kernel_rfl) ?_
  refine sx_end (by kernel_rfl) ?_
  refine sx_next ?_
  refine sx_cond_f (by kernel_rfl) ?_
  refine sx_seq ?_
  refine sx_region ?_
  refine sx_run 2 [(2, .p 2 0), (3, .p 3 0), (4, .p 4 0), (42, .v (.agg #[.bool t1, .slice B1 m1 d1]))] [(4, 80, [.v (.bool false), .v (.slice none 0 0), .v (.bool false), .v (.slice none 0 0)]), (3, 80, [.v (.bool s1), .v (.slice A1 l1 c1), .v (.bool t1), .v (.slice B1 m1 d1)]), (2, 80, [.v (.bool s0), .v (.slice A0 l0 c0), .v (.bool t0), .v (.slice B0 m0 d0)])] (by kernel_rfl) (by kernel_rfl) ?_
  refine sx_call 119 [.agg #[.bool t1, .slice B1 m1 d1]] 43 (fun _ : Unit => .bool true) _ (by kernel_rfl) (by kernel_rfl) (fun w hE hΦ => (IsZero_any _ (0) _ hΦ.1.1.2).mono (fun _ _ h => post_val h (by rw [decide_eq_true (p := (0) = 0) rfl]))) (fun xx => ?_)
  refine sx_run 1 [(2, .p 2 0), (3, .p 3 0), (4, .p 4 0), (40, .v (.bool true))] [(4, 80, [.v (.bool false), .v (.slice none 0 0), .v (.bool false), .v (.slice none 0 0)]), (3, 80, [.v (.bool s1), .v (.slice A1 l1 c1), .v (.bool t1), .v (.slice B1 m1 d1)]), (2, 80, [.v (.bool s0), .v (.slice A0 l0 c0), .v (.bool t0), .v (.slice B0 m0 d0)])] (by kernel_rfl) (by kernel_rfl) ?_
  refine sx_end (by kernel_rfl) ?_
  refine sx_next ?_
  refine sx_cond_t (by kernel_rfl) ?_
  refine sx_seq ?_
  refine sx_draw 12 (by kernel_rfl) (by kernel_rfl) follows_mixed' ?_
  refine st_flt 4 [(2, .p 2 0), (3, .p 3 0), (4, .p 4 0), (45, .v (.agg #[.bool s1, .slice A1 l1 c1])), (47, .v (.agg #[.bool t0, .slice B0 m0 d0]))] [(4, 80, [.v (.bool false), .v (.slice none 0 0), .v (.bool false), .v (.slice none 0 0)]), (3, 80, [.v (.bool s1), .v (.slice A1 l1 c1), .v (.bool t1), .v (.slice B1 m1 d1)]), (2, 80, [.v (.bool s0), .v (.slice A0 l0 c0), .v (.bool t0), .v (.slice B0 m0 d0)])] (by kernel_rfl) (by kernel_rfl) ?_
  refine st_call 53 [.agg #[.bool s1, .slice A1 l1 c1], .agg #[.bool t0, .slice B0 m0 d0]] 48 shInt _ (by kernel_rfl) (by kernel_rfl) (by kernel_rfl) (fun w hE hΦ => (Mul_any _ _ ((q).num) ((p.den : Int)) _ hΦ.1.1.1.1.1.2.num hΦ.1.1.1.1.2 (fit S2 (by decide)) (fit S3 (by decide)) (Or.inl (Nat.lt_of_le_of_lt S2 (by decide)))).mono (fun _ _ h => post_Int h)) (fun xx => ?_)
  obtain ⟨s10, A10, l10, c10⟩ := xx
  refine st_flt 2 [(2, .p 2 0), (3, .p 3 0), (4, .p 4 0), (48, .v (.agg #[.bool s10, .slice A10 l10 c10])), (50, .v (.agg #[.bool s0, .slice A0 l0 c0]))] [(4, 80, [.v (.bool false), .v (.slice none 0 0), .v (.bool false), .v (.slice none 0 0)]), (3, 80, [.v (.bool s1), .v (.slice A1 l1 c1), .v (.bool t1), .v (.slice B1 m1 d1)]), (2, 80, [.v (.bool s0), .v (.slice A0 l0 c0), .v (.bool t0), .v (.slice B0 m0 d0)])] (by kernel_rfl) (by kernel_rfl) ?_
  refine st_call 52 [.agg #[.bool s10, .slice A10 l10 c10], .agg #[.bool s0, .slice A0 l0 c0]] 51 shInt _ (by kernel_rfl) (by kernel_rfl) (by kernel_rfl) (fun w hE hΦ => (Add_any _ _ (((q).num) * ((p.den : Int))) ((p).num) _ hΦ.2 hΦ.1.1.1.1.1.1.1.num (fit (wlm S2 S3) (by decide)) (fit S1 (by decide))).mono (fun _ _ h => post_Int h)) (fun xx => ?_)
  obtain ⟨s11, A11, l11, c11⟩ := xx
  refine st_flt 4 [(2, .p 2 0), (3, .p 3 0), (4, .p 4 0)] [(4, 80, [.v (.bool s11), .v (.slice A11 l11 c11), .v (.bool t0), .v (.slice B0 m0 d0)]), (4, 80, [.v (.bool false), .v (.slice none 0 0), .v (.bool false), .v (.slice none 0 0)]), (3, 80, [.v (.bool s1), .v (.slice A1 l1 c1), .v (.bool t1), .v (.slice B1 m1 d1)]), (2, 80, [.v (.bool s0), .v (.slice A0 l0 c0), .v (.bool t0), .v (.slice B0 m0 d0)])] (by kernel_rfl) (by kernel_rfl) ?_
  refine st_end (by kernel_rfl) ?_
  refine sx_end (by kernel_rfl) ?_
  refine sx_next ?_
  refine sx_ret ?_
  refine sx_in_ret ?_
  refine sx_then_ret ?_
  refine sx_done (v := .agg #[.bool s11, .slice A11 l11 c11, .bool t0, .slice B0 m0 d0]) (by kernel_rfl) (fun w' hE hΦ => ?_)
  exact ⟨_, rfl, RatIs.of (by rw [HW.1]; exact hΦ.2) (by rw [denF_of HW.2 h1]; exact hΦ.1.1.1.1.1.1.2), hE⟩

set_option maxRecDepth 100000 in
theorem QAdd_ff (a b : Value) (p q : Rat) (w : World) (hg : Glob w) (ha : RatIs w a p) (hb : RatIs w b q) (hp : QFits p 38) (hq : QFits q 38) (h1 : ¬ p.den = 1) (h2 : ¬ q.den = 1) :
    Calls Tryz.prog 91 #[a, b] w (RetRat w (p + q)) := by
  obtain ⟨s0, A0, l0, c0, t0, B0, m0, d0, rfl⟩ := ha.shp
  obtain ⟨s1, A1, l1, c1, t1, B1, m1, d1, rfl⟩ := hb.shp
  have S1 : wl p.num.natAbs ≤ 38 := hp.1
  have S2 : wl q.num.natAbs ≤ 38 := hq.1
  have hp2 : wl p.den ≤ 38 := hp.2
  have hq2 : wl q.den ≤ 38 := hq.2
  have S3 : wl ((p.den : Nat) : Int).natAbs ≤ 38 := wlc hp2
  have S4 : wl ((q.den : Nat) : Int).natAbs ≤ 38 := wlc hq2
  obtain ⟨c, ec⟩ : ∃ c, Nat.gcd p.den q.den = c := ⟨_, rfl⟩
  have hc0 : c ≠ 0 := by have := p.den_nz; rw [← ec]; exact fun e => this (Nat.gcd_eq_zero_iff.1 e).1
  have Sc : wl c ≤ 38 := by rw [← ec]; exact Nat.le_trans (wl_mono (Nat.gcd_le_right _ (Nat.pos_of_ne_zero q.den_nz))) hq.2
  obtain ⟨n, en⟩ : ∃ n, (p).num * ((q.den / c : Nat) : Int) + (q).num * ((p.den / c : Nat) : Int) = n := ⟨_, rfl⟩
  have Sn : wl n.natAbs ≤ 77 := by rw [← en]; exact wla (wlm S1 (wlc (wld hq2))) (wlm S2 (wlc (wld hp2)))
  have HA1 : c = 1 → (p + q).num = n ∧ (p + q).den = p.den * q.den := fun e => by have h := radd_one (p := p) (q := q) (by rw [ec]; exact e); rw [← en, e, Nat.div_one, Nat.div_one]; exact h
  have HA2 : c ≠ 1 → (p + q).num = n.tdiv (Int.gcd n c : Int) ∧ (p + q).den = p.den / c * (q.den / Int.gcd n c) := fun e => radd_big ec e en
  have HA0 : n = 0 → p + q = 0 := fun e => Rat.num_eq_zero.1 ((Decidable.em (c = 1)).elim (fun h => by rw [(HA1 h).1, e]) (fun h => by rw [(HA2 h).1, e, Int.zero_tdiv]))
  have hci : (c : Int) ≠ 0 := by omega
  refine sx_enter (Φ := fun w => ((((RatIs w (.agg #[.bool s0, .slice A0 l0 c0, .bool t0, .slice B0 m0 d0]) (p) ∧ RatIs w (.agg #[.bool s1, .slice A1 l1 c1, .bool t1, .slice B1 m1 d1]) (q)) ∧ Glob w) ∧ IntIs w (.agg #[.bool t0, .slice B0 m0 d0]) ((p.den : Int))) ∧ IntIs w (.agg #[.bool t1, .slice B1 m1 d1]) ((q.den : Int)))) Tryz.func91 rfl (by kernel_rfl) (fun w' hf => ⟨⟨⟨⟨ha.ext hf, hb.ext hf⟩, hg.ext hf⟩, (by have h := ha.den; rw [denF_big h1] at h; exact h.ext hf)⟩, (by have h := hb.den; rw [denF_big h2] at h; exact h.ext hf)⟩) ?_
  refine sx_seq ?_
  refine sx_region ?_
  refine sx_run 3 [(2, .p 2 0), (3, .p 3 0), (4, .p 4 0)] [(4, 80, [.v (.bool false), .v (.slice none 0 0), .v (.bool false), .v (.slice none 0 0)]), (3, 80, [.v (.bool s1), .v (.slice A1 l1 c1), .v (.bool t1), .v (.slice B1 m1 d1)]), (2, 80, [.v (.bool s0), .v (.slice A0 l0 c0), .v (.bool t0), .v (.slice B0 m0 d0)])] (by kernel_rfl) (by kernel_rfl) ?_
  refine sx_end (by kernel_rfl) ?_
  refine sx_next ?_
  refine sx_seq ?_
  refine sx_block ?_
  refine sx_seq ?_
  refine sx_region ?_
  refine sx_run 2 [(2, .p 2 0), (3, .p 3 0), (4, .p 4 0), (12, .v (.agg #[.bool t0, .slice B0 m0 d0]))] [(4, 80, [.v (.bool false), .v (.slice none 0 0), .v (.bool false), .v (.slice none 0 0)]), (3, 80, [.v (.bool s1), .v (.slice A1 l1 c1), .v (.bool t1), .v (.slice B1 m1 d1)]), (2, 80, [.v (.bool s0), .v (.slice A0 l0 c0), .v (.bool t0), .v (.slice B0 m0 d0)])] (by kernel_rfl) (by kernel_rfl) ?_
  refine sx_call 119 [.agg #[.bool t0, .slice B0 m0 d0]] 13 (fun _ : Unit => .bool false) _ (by kernel_rfl) (by kernel_rfl) (fun w hE hΦ => (IsZero_any _ ((p.den : Int)) _ hΦ.1.2).mono (fun _ _ h => post_val h (by rw [decide_eq_false (p := ((p.den : Int)) = 0) (denI p)]))) (fun xx => ?_)
  refine sx_run 6 [(2, .p 2 0), (3, .p 3 0), (4, .p 4 0), (10, .v (.bool false))] [(4, 80, [.v (.bool false), .v (.slice none 0 0), .v (.bool false), .v (.slice none 0 0)]), (3, 80, [.v (.bool s1), .v (.slice A1 l1 c1), .v (.bool t1), .v (.slice B1 m1 d1)]), (2, 80, [.v (.bool s0), .v (.slice A0 l0 c0), .v (.bool t0), .v (.slice B0 m0 d0)])] (by kernel_rfl) (by kernel_rfl) ?_
  refine sx_end (by kernel_rfl) ?_
  refine sx_next ?_
  refine sx_cond_f (by kernel_rfl) ?_
  refine sx_seq ?_
  refine sx_region ?_
  refine sx_run 2 [(2, .p 2 0), (3, .p 3 0), (4, .p 4 0), (27, .v (.agg #[.bool t0, .slice B0 m0 d0]))] [(4, 80, [.v (.bool false), .v (.slice none 0 0), .v (.bool false), .v (.slice none 0 0)]), (3, 80, [.v (.bool s1), .v (.slice A1 l1 c1), .v (.bool t1), .v (.slice B1 m1 d1)]), (2, 80, [.v (.bool s0), .v (.slice A0 l0 c0), .v (.bool t0), .v (.slice B0 m0 d0)])] (by kernel_rfl) (by kernel_rfl) ?_
  refine sx_call 119 [.agg #[.bool t0, .slice B0 m0 d0]] 28 (fun _ : Unit => .bool false) _ (by kernel_rfl) (by kernel_rfl) (fun w hE hΦ => (IsZero_any _ ((p.den : Int)) _ hΦ.1.1.2).mono (fun _ _ h => post_val h (by rw [decide_eq_false (p := ((p.den : Int)) = 0) (denI p)]))) (fun xx => ?_)
  refine sx_run 1 [(2, .p 2 0), (3, .p 3 0), (4, .p 4 0), (25, .v (.bool false))] [(4, 80, [.v (.bool false), .v (.slice none 0 0), .v (.bool false), .v (.slice none 0 0)]), (3, 80, [.v (.bool s1), .v (.slice A1 l1 c1), .v (.bool t1), .v (.slice B1 m1 d1)]), (2, 80, [.v (.bool s0), .v (.slice A0 l0 c0), .v (.bool t0), .v (.slice B0 m0 d0)])] (by kernel_rfl) (by kernel_rfl) ?_
  refine sx_end (by kernel_rfl) ?_
  refine sx_next ?_
  refine sx_cond_f (by kernel_rfl) ?_
  refine sx_seq ?_
  refine sx_region ?_
  refine sx_run 2 [(2, .p 2 0), (3, .p 3 0), (4, .p 4 0), (42, .v (.agg #[.bool t1, .slice B1 m1 d1]))] [(4, 80, [.v (.bool false), .v (.slice none 0 0), .v (.bool false), .v (.slice none 0 0)]), (3, 80, [.v (.bool s1), .v (.slice A1 l1 c1), .v (.bool t1), .v (.slice B1 m1 d1)]), (2, 80, [.v (.bool s0), .v (.slice A0 l0 c0), .v (.bool t0), .v (.slice B0 m0 d0)])] (by kernel_rfl) (by kernel_rfl) ?_
  refine sx_call 119 [.agg #[.bool t1, .slice B1 m1 d1]] 43 (fun _ : Unit => .bool false) _ (by kernel_rfl) (by kernel_rfl) (fun w hE hΦ => (IsZero_any _ ((q.den : Int)) _ hΦ.1.1.2).mono (fun _ _ h => post_val h (by rw [decide_eq_false (p := ((q.den : Int)) = 0) (denI q)]))) (fun xx => ?_)
  refine sx_run 1 [(2, .p 2 0), (3, .p 3 0), (4, .p 4 0), (40, .v (.bool false))] [(4, 80, [.v (.bool false), .v (.slice none 0 0), .v (.bool false), .v (.slice none 0 0)]), (3, 80, [.v (.bool s1), .v (.slice A1 l1 c1), .v (.bool t1), .v (.slice B1 m1 d1)]), (2, 80, [.v (.bool s0), .v (.slice A0 l0 c0), .v (.bool t0), .v (.slice B0 m0 d0)])] (by kernel_rfl) (by kernel_rfl) ?_
  refine sx_end (by kernel_rfl) ?_
  refine sx_next ?_
  refine sx_cond_f (by kernel_rfl) ?_
  refine sx_skip ?_
  refine sx_out ?_
  refine sx_next ?_
  refine sx_seq ?_
  refine sx_region ?_
  refine sx_run 4 [(2, .p 2 0), (3, .p 3 0), (4, .p 4 0), (56, .v (.agg #[.bool t0, .slice B0 m0 d0])), (58, .v (.agg #[.bool t1, .slice B1 m1 d1]))] [(4, 80, [.v (.bool false), .v (.slice none 0 0), .v (.bool false), .v (.slice none 0 0)]), (3, 80, [.v (.bool s1), .v (.slice A1 l1 c1), .v (.bool t1), .v (.slice B1 m1 d1)]), (2, 80, [.v (.bool s0), .v (.slice A0 l0 c0), .v (.bool t0), .v (.slice B0 m0 d0)])] (by kernel_rfl) (by kernel_rfl) ?_
  refine sx_call 99 [.agg #[.bool t0, .slice B0 m0 d0], .agg #[.bool t1, .slice B1 m1 d1]] 59 shInt _ (by kernel_rfl) (by kernel_rfl) (fun w hE hΦ => (GCD_any _ _ ((p.den : Int)) ((q.den : Int)) _ hΦ.1.1.1.1.1.2 hΦ.1.1.1.1.2 hΦ.1.1.1.2 (fit S3 (by decide)) (fit S4 (by decide)) (GcdOk.words (Nat.le_trans S3 (by decide)) (Nat.le_trans S4 (by decide)))).mono (fun _ _ h => post_Int (by rw [(show Int.gcd (p.den : Int) (q.den : Int) = c from ec)] at h; exact h))) (fun xx => ?_)
  obtain ⟨s10, A10, l10, c10⟩ := xx
  refine sx_run 2 [(2, .p 2 0), (3, .p 3 0), (4, .p 4 0), (5, .p 5 0)] [(5, 67, [.v (.bool s10), .v (.slice A10 l10 c10)]), (4, 80, [.v (.bool false), .v (.slice none 0 0), .v (.bool false), .v (.slice none 0 0)]), (3, 80, [.v (.bool s1), .v (.slice A1 l1 c1), .v (.bool t1), .v (.slice B1 m1 d1)]), (2, 80, [.v (.bool s0), .v (.slice A0 l0 c0), .v (.bool t0), .v (.slice B0 m0 d0)])] (by kernel_rfl) (by kernel_rfl) ?_
  refine sx_end (by kernel_rfl) ?_
  refine sx_next ?_
  refine sx_seq ?_
  refine sx_draw 12 (by kernel_rfl) (by kernel_rfl) follows_mixed' ?_
  refine st_flt 3 [(2, .p 2 0), (3, .p 3 0), (4, .p 4 0), (5, .p 5 0), (61, .v (.agg #[.bool t1, .slice B1 m1 d1])), (62, .v (.agg #[.bool s10, .slice A10 l10 c10]))] [(5, 67, [.v (.bool s10), .v (.slice A10 l10 c10)]), (4, 80, [.v (.bool false), .v (.slice none 0 0), .v (.bool false), .v (.slice none 0 0)]), (3, 80, [.v (.bool s1), .v (.slice A1 l1 c1), .v (.bool t1), .v (.slice B1 m1 d1)]), (2, 80, [.v (.bool s0), .v (.slice A0 l0 c0), .v (.bool t0), .v (.slice B0 m0 d0)])] (by kernel_rfl) (by kernel_rfl) ?_
  refine st_call 135 [.agg #[.bool t1, .slice B1 m1 d1], .agg #[.bool s10, .slice A10 l10 c10]] 63 shInt _ (by kernel_rfl) (by kernel_rfl) (by kernel_rfl) (fun w hE hΦ => (Quo_any _ _ ((q.den : Int)) ((c : Int)) _ hΦ.1.1.1.1.2 hΦ.2 (fit S4 (by decide)) (Nat.lt_of_le_of_lt (wlc Sc) (by decide)) hci).mono (fun _ _ h => post_Int (by rw [nat_tdiv] at h; exact h))) (fun xx => ?_)
  obtain ⟨s11, A11, l11, c11⟩ := xx
  refine st_flt 3 [(2, .p 2 0), (3, .p 3 0), (4, .p 4 0), (5, .p 5 0), (63, .v (.agg #[.bool s11, .slice A11 l11 c11])), (65, .v (.agg #[.bool t0, .slice B0 m0 d0])), (66, .v (.agg #[.bool s10, .slice A10 l10 c10]))] [(5, 67, [.v (.bool s10), .v (.slice A10 l10 c10)]), (4, 80, [.v (.bool false), .v (.slice none 0 0), .v (.bool false), .v (.slice none 0 0)]), (3, 80, [.v (.bool s1), .v (.slice A1 l1 c1), .v (.bool t1), .v (.slice B1 m1 d1)]), (2, 80, [.v (.bool s0), .v (.slice A0 l0 c0), .v (.bool t0), .v (.slice B0 m0 d0)])] (by kernel_rfl) (by kernel_rfl) ?_
  refine st_call 135 [.agg #[.bool t0, .slice B0 m0 d0], .agg #[.bool s10, .slice A10 l10 c10]] 67 shInt _ (by kernel_rfl) (by kernel_rfl) (by kernel_rfl) (fun w hE hΦ => (Quo_any _ _ ((p.den : Int)) ((c : Int)) _ hΦ.1.1.1.1.1.1.2 hΦ.1.2 (fit S3 (by decide)) (Nat.lt_of_le_of_lt (wlc Sc) (by decide)) hci).mono (fun _ _ h => post_Int (by rw [nat_tdiv] at h; exact h))) (fun xx => ?_)
  obtain ⟨s12, A12, l12, c12⟩ := xx
  refine st_flt 4 [(2, .p 2 0), (3, .p 3 0), (4, .p 4 0), (5, .p 5 0), (6, .p 6 0), (7, .p 7 0)] [(7, 67, [.v (.bool s12), .v (.slice A12 l12 c12)]), (6, 67, [.v (.bool s11), .v (.slice A11 l11 c11)]), (7, 67, [.v (.bool false), .v (.slice none 0 0)]), (6, 67, [.v (.bool false), .v (.slice none 0 0)]), (5, 67, [.v (.bool s10), .v (.slice A10 l10 c10)]), (4, 80, [.v (.bool false), .v (.slice none 0 0), .v (.bool false), .v (.slice none 0 0)]), (3, 80, [.v (.bool s1), .v (.slice A1 l1 c1), .v (.bool t1), .v (.slice B1 m1 d1)]), (2, 80, [.v (.bool s0), .v (.slice A0 l0 c0), .v (.bool t0), .v (.slice B0 m0 d0)])] (by kernel_rfl) (by kernel_rfl) ?_
  refine st_end (by kernel_rfl) ?_
  refine sx_end (by kernel_rfl) ?_
  refine sx_next ?_
  refine sx_seq ?_
  refine sx_draw 11 (by kernel_rfl) (by kernel_rfl) follows_mixed' ?_
  refine st_flt 3 [(2, .p 2 0), (3, .p 3 0), (4, .p 4 0), (5, .p 5 0), (7, .p 7 0), (69, .v (.agg #[.bool s0, .slice A0 l0 c0])), (70, .v (.agg #[.bool s11, .slice A11 l11 c11]))] [(7, 67, [.v (.bool s12), .v (.slice A12 l12 c12)]), (6, 67, [.v (.bool s11), .v (.slice A11 l11 c11)]), (7, 67, [.v (.bool false), .v (.slice none 0 0)]), (6, 67, [.v (.bool false), .v (.slice none 0 0)]), (5, 67, [.v (.bool s10), .v (.slice A10 l10 c10)]), (4, 80, [.v (.bool false), .v (.slice none 0 0), .v (.bool false), .v (.slice none 0 0)]), (3, 80, [.v (.bool s1), .v (.slice A1 l1 c1), .v (.bool t1), .v (.slice B1 m1 d1)]), (2, 80, [.v (.bool s0), .v (.slice A0 l0 c0), .v (.bool t0), .v (.slice B0 m0 d0)])] (by kernel_rfl) (by kernel_rfl) ?_
  refine st_call 53 [.agg #[.bool s0, .slice A0 l0 c0], .agg #[.bool s11, .slice A11 l11 c11]] 71 shInt _ (by kernel_rfl) (by kernel_rfl) (by kernel_rfl) (fun w hE hΦ => (Mul_any _ _ ((p).num) (((q.den / c : Nat) : Int)) _ hΦ.1.1.1.1.1.1.1.1.1.1.num hΦ.1.2 (fit S1 (by decide)) (fit (wlc (wld hq2)) (by decide)) (Or.inl (Nat.lt_of_le_of_lt S1 (by decide)))).mono (fun _ _ h => post_Int h)) (fun xx => ?_)
  obtain ⟨s13, A13, l13, c13⟩ := xx
  refine st_flt 3 [(2, .p 2 0), (3, .p 3 0), (4, .p 4 0), (5, .p 5 0), (7, .p 7 0), (71, .v (.agg #[.bool s13, .slice A13 l13 c13])), (73, .v (.agg #[.bool s1, .slice A1 l1 c1])), (74, .v (.agg #[.bool s12, .slice A12 l12 c12]))] [(7, 67, [.v (.bool s12), .v (.slice A12 l12 c12)]), (6, 67, [.v (.bool s11), .v (.slice A11 l11 c11)]), (7, 67, [.v (.bool false), .v (.slice none 0 0)]), (6, 67, [.v (.bool false), .v (.slice none 0 0)]), (5, 67, [.v (.bool s10), .v (.slice A10 l10 c10)]), (4, 80, [.v (.bool false), .v (.slice none 0 0), .v (.bool false), .v (.slice none 0 0)]), (3, 80, [.v (.bool s1), .v (.slice A1 l1 c1), .v (.bool t1), .v (.slice B1 m1 d1)]), (2, 80, [.v (.bool s0), .v (.slice A0 l0 c0), .v (.bool t0), .v (.slice B0 m0 d0)])] (by kernel_rfl) (by kernel_rfl) ?_
  refine st_call 53 [.agg #[.bool s1, .slice A1 l1 c1], .agg #[.bool s12, .slice A12 l12 c12]] 75 shInt _ (by kernel_rfl) (by kernel_rfl) (by kernel_rfl) (fun w hE hΦ => (Mul_any _ _ ((q).num) (((p.den / c : Nat) : Int)) _ hΦ.1.1.1.1.1.1.1.1.1.1.2.num hΦ.1.2 (fit S2 (by decide)) (fit (wlc (wld hp2)) (by decide)) (Or.inl (Nat.lt_of_le_of_lt S2 (by decide)))).mono (fun _ _ h => post_Int h)) (fun xx => ?_)
  obtain ⟨s14, A14, l14, c14⟩ := xx
  refine st_flt 0 [(2, .p 2 0), (3, .p 3 0), (4, .p 4 0), (5, .p 5 0), (7, .p 7 0), (71, .v (.agg #[.bool s13, .slice A13 l13 c13])), (75, .v (.agg #[.bool s14, .slice A14 l14 c14]))] [(7, 67, [.v (.bool s12), .v (.slice A12 l12 c12)]), (6, 67, [.v (.bool s11), .v (.slice A11 l11 c11)]), (7, 67, [.v (.bool false), .v (.slice none 0 0)]), (6, 67, [.v (.bool false), .v (.slice none 0 0)]), (5, 67, [.v (.bool s10), .v (.slice A10 l10 c10)]), (4, 80, [.v (.bool false), .v (.slice none 0 0), .v (.bool false), .v (.slice none 0 0)]), (3, 80, [.v (.bool s1), .v (.slice A1 l1 c1), .v (.bool t1), .v (.slice B1 m1 d1)]), (2, 80, [.v (.bool s0), .v (.slice A0 l0 c0), .v (.bool t0), .v (.slice B0 m0 d0)])] (by kernel_rfl) (by kernel_rfl) ?_
  refine st_call 52 [.agg #[.bool s13, .slice A13 l13 c13], .agg #[.bool s14, .slice A14 l14 c14]] 76 shInt _ (by kernel_rfl) (by kernel_rfl) (by kernel_rfl) (fun w hE hΦ => (Add_any _ _ (((p).num) * (((q.den / c : Nat) : Int))) (((q).num) * (((p.den / c : Nat) : Int))) _ hΦ.1.2 hΦ.2 (fit (wlm S1 (wlc (wld hq2))) (by decide)) (fit (wlm S2 (wlc (wld hp2))) (by decide))).mono (fun _ _ h => post_Int (by rw [en] at h; exact h))) (fun xx => ?_)
  obtain ⟨s15, A15, l15, c15⟩ := xx
  refine st_flt 2 [(2, .p 2 0), (3, .p 3 0), (4, .p 4 0), (5, .p 5 0), (7, .p 7 0), (8, .p 8 0)] [(8, 67, [.v (.bool s15), .v (.slice A15 l15 c15)]), (8, 67, [.v (.bool false), .v (.slice none 0 0)]), (7, 67, [.v (.bool s12), .v (.slice A12 l12 c12)]), (6, 67, [.v (.bool s11), .v (.slice A11 l11 c11)]), (7, 67, [.v (.bool false), .v (.slice none 0 0)]), (6, 67, [.v (.bool false), .v (.slice none 0 0)]), (5, 67, [.v (.bool s10), .v (.slice A10 l10 c10)]), (4, 80, [.v (.bool false), .v (.slice none 0 0), .v (.bool false), .v (.slice none 0 0)]), (3, 80, [.v (.bool s1), .v (.slice A1 l1 c1), .v (.bool t1), .v (.slice B1 m1 d1)]), (2, 80, [.v (.bool s0), .v (.slice A0 l0 c0), .v (.bool t0), .v (.slice B0 m0 d0)])] (by kernel_rfl) (by kernel_rfl) ?_
  refine st_end (by kernel_rfl) ?_
  refine sx_end (by kernel_rfl) ?_
  refine sx_next ?_
  refine sx_seq ?_
  refine sx_seq ?_
  refine sx_region ?_
  refine sx_run 1 [(2, .p 2 0), (3, .p 3 0), (4, .p 4 0), (5, .p 5 0), (7, .p 7 0), (8, .p 8 0), (77, .v (.agg #[.bool s15, .slice A15 l15 c15]))] [(8, 67, [.v (.bool s15), .v (.slice A15 l15 c15)]), (7, 67, [.v (.bool s12), .v (.slice A12 l12 c12)]), (5, 67, [.v (.bool s10), .v (.slice A10 l10 c10)]), (4, 80, [.v (.bool false), .v (.slice none 0 0), .v (.bool false), .v (.slice none 0 0)]), (3, 80, [.v (.bool s1), .v (.slice A1 l1 c1), .v (.bool t1), .v (.slice B1 m1 d1)]), (2, 80, [.v (.bool s0), .v (.slice A0 l0 c0), .v (.bool t0), .v (.slice B0 m0 d0)])] (by kernel_rfl) (by kernel_rfl) ?_
  by_cases hz16 : (n) = 0
  · refine sx_call 119 [.agg #[.bool s15, .slice A15 l15 c15]] 78 (fun _ : Unit => .bool true) _ (by kernel_rfl) (by kernel_rfl) (fun w hE hΦ => (IsZero_any _ (n) _ hΦ.2).mono (fun _ _ h => post_val h (by rw [decide_eq_true (p := (n) = 0) hz16]))) (fun xx => ?_)
    refine sx_run 0 [(2, .p 2 0), (3, .p 3 0), (4, .p 4 0), (5, .p 5 0), (7, .p 7 0), (8, .p 8 0), (78, .v (.bool true))] [(8, 67, [.v (.bool s15), .v (.slice A15 l15 c15)]), (7, 67, [.v (.bool s12), .v (.slice A12 l12 c12)]), (5, 67, [.v (.bool s10), .v (.slice A10 l10 c10)]), (4, 80, [.v (.bool false), .v (.slice none 0 0), .v (.bool false), .v (.slice none 0 0)]), (3, 80, [.v (.bool s1), .v (.slice A1 l1 c1), .v (.bool t1), .v (.slice B1 m1 d1)]), (2, 80, [.v (.bool s0), .v (.slice A0 l0 c0), .v (.bool t0), .v (.slice B0 m0 d0)])] (by kernel_rfl) (by kernel_rfl) ?_
    refine sx_end (by kernel_rfl) ?_
    refine sx_next ?_
    refine sx_cond_t (by kernel_rfl) ?_
    refine sx_seq ?_
    refine sx_region ?_
    refine sx_run 2 [(2, .p 2 0), (3, .p 3 0), (4, .p 4 0), (5, .p 5 0), (7, .p 7 0), (8, .p 8 0)] [(8, 67, [.v (.bool s15), .v (.slice A15 l15 c15)]), (7, 67, [.v (.bool s12), .v (.slice A12 l12 c12)]), (5, 67, [.v (.bool s10), .v (.slice A10 l10 c10)]), (4, 80, [.v (.bool false), .v (.slice none 0 0), .v (.bool false), .v (.slice none 0 0)]), (3, 80, [.v (.bool s1), .v (.slice A1 l1 c1), .v (.bool t1), .v (.slice B1 m1 d1)]), (2, 80, [.v (.bool s0), .v (.slice A0 l0 c0), .v (.bool t0), .v (.slice B0 m0 d0)])] (by kernel_rfl) (by kernel_rfl) ?_
    refine sx_end (by kernel_rfl) ?_
    refine sx_next ?_
    refine sx_ret ?_
    refine sx_then_ret ?_
    refine sx_done (v := .agg #[.bool false, .slice none 0 0, .bool false, .slice none 0 0]) (by kernel_rfl) (fun w' hE hΦ => ?_)
    exact ⟨_, rfl, by rw [HA0 hz16]; exact (RatIs.nil _), hE⟩
  · refine sx_call 119 [.agg #[.bool s15, .slice A15 l15 c15]] 78 (fun _ : Unit => .bool false) _ (by kernel_rfl) (by kernel_rfl) (fun w hE hΦ => (IsZero_any _ (n) _ hΦ.2).mono (fun _ _ h => post_val h (by rw [decide_eq_false (p := (n) = 0) hz16]))) (fun xx => ?_)
    refine sx_run 0 [(2, .p 2 0), (3, .p 3 0), (4, .p 4 0), (5, .p 5 0), (7, .p 7 0), (8, .p 8 0), (78, .v (.bool false))] [(8, 67, [.v (.bool s15), .v (.slice A15 l15 c15)]), (7, 67, [.v (.bool s12), .v (.slice A12 l12 c12)]), (5, 67, [.v (.bool s10), .v (.slice A10 l10 c10)]), (4, 80, [.v (.bool false), .v (.slice none 0 0), .v (.bool false), .v (.slice none 0 0)]), (3, 80, [.v (.bool s1), .v (.slice A1 l1 c1), .v (.bool t1), .v (.slice B1 m1 d1)]), (2, 80, [.v (.bool s0), .v (.slice A0 l0 c0), .v (.bool t0), .v (.slice B0 m0 d0)])] (by kernel_rfl) (by kernel_rfl) ?_
    refine sx_end (by kernel_rfl) ?_
    refine sx_next ?_
    refine sx_cond_f (by kernel_rfl) ?_
    refine sx_skip ?_
    refine sx_next ?_
    refine sx_seq ?_
    refine sx_seq ?_
    refine sx_region ?_
    refine sx_run 1 [(2, .p 2 0), (3, .p 3 0), (4, .p 4 0), (5, .p 5 0), (7, .p 7 0), (8, .p 8 0), (80, .v (.agg #[.bool s10, .slice A10 l10 c10]))] [(8, 67, [.v (.bool s15), .v (.slice A15 l15 c15)]), (7, 67, [.v (.bool s12), .v (.slice A12 l12 c12)]), (5, 67, [.v (.bool s10), .v (.slice A10 l10 c10)]), (4, 80, [.v (.bool false), .v (.slice none 0 0), .v (.bool false), .v (.slice none 0 0)]), (3, 80, [.v (.bool s1), .v (.slice A1 l1 c1), .v (.bool t1), .v (.slice B1 m1 d1)]), (2, 80, [.v (.bool s0), .v (.slice A0 l0 c0), .v (.bool t0), .v (.slice B0 m0 d0)])] (by kernel_rfl) (by kernel_rfl) ?_
    by_cases hz17 : ((c : Int)) = 1
    · refine sx_call 100 [.agg #[.bool s10, .slice A10 l10 c10]] 81 (fun _ : Unit => .bool true) _ (by kernel_rfl) (by kernel_rfl) (fun w hE hΦ => (IsOne_any _ ((c : Int)) _ hΦ.1.1.1.1.1.1.2).mono (fun _ _ h => post_val h (by rw [decide_eq_true (p := ((c : Int)) = 1) hz17]))) (fun xx => ?_)
      refine sx_run 0 [(2, .p 2 0), (3, .p 3 0), (4, .p 4 0), (5, .p 5 0), (7, .p 7 0), (8, .p 8 0), (81, .v (.bool true))] [(8, 67, [.v (.bool s15), .v (.slice A15 l15 c15)]), (7, 67, [.v (.bool s12), .v (.slice A12 l12 c12)]), (5, 67, [.v (.bool s10), .v (.slice A10 l10 c10)]), (4, 80, [.v (.bool false), .v (.slice none 0 0), .v (.bool false), .v (.slice none 0 0)]), (3, 80, [.v (.bool s1), .v (.slice A1 l1 c1), .v (.bool t1), .v (.slice B1 m1 d1)]), (2, 80, [.v (.bool s0), .v (.slice A0 l0 c0), .v (.bool t0), .v (.slice B0 m0 d0)])] (by kernel_rfl) (by kernel_rfl) ?_
      refine sx_end (by kernel_rfl) ?_
      refine sx_next ?_
      refine sx_cond_t (by kernel_rfl) ?_
      refine sx_seq ?_
      refine sx_draw 8 (by kernel_rfl) (by kernel_rfl) follows_mixed' ?_
      refine st_flt 5 [(3, .p 3 0), (4, .p 4 0), (5, .p 5 0), (7, .p 7 0), (8, .p 8 0), (82, .v (.agg #[.bool s15, .slice A15 l15 c15])), (84, .v (.agg #[.bool t0, .slice B0 m0 d0])), (86, .v (.agg #[.bool t1, .slice B1 m1 d1]))] [(8, 67, [.v (.bool s15), .v (.slice A15 l15 c15)]), (7, 67, [.v (.bool s12), .v (.slice A12 l12 c12)]), (5, 67, [.v (.bool s10), .v (.slice A10 l10 c10)]), (4, 80, [.v (.bool false), .v (.slice none 0 0), .v (.bool false), .v (.slice none 0 0)]), (3, 80, [.v (.bool s1), .v (.slice A1 l1 c1), .v (.bool t1), .v (.slice B1 m1 d1)]), (2, 80, [.v (.bool s0), .v (.slice A0 l0 c0), .v (.bool t0), .v (.slice B0 m0 d0)])] (by kernel_rfl) (by kernel_rfl) ?_
      refine st_call 53 [.agg #[.bool t0, .slice B0 m0 d0], .agg #[.bool t1, .slice B1 m1 d1]] 87 shInt _ (by kernel_rfl) (by kernel_rfl) (by kernel_rfl) (fun w hE hΦ => (Mul_any _ _ ((p.den : Int)) ((q.den : Int)) _ hΦ.1.1.1.1.1.1.1.1.1.1.1.1.2 hΦ.1.1.1.1.1.1.1.1.1.1.1.2 (fit S3 (by decide)) (fit S4 (by decide)) (Or.inl (Nat.lt_of_le_of_lt S3 (by decide)))).mono (fun _ _ h => post_Int h)) (fun xx => ?_)
      obtain ⟨s18, A18, l18, c18⟩ := xx
      refine st_flt 0 [(3, .p 3 0), (4, .p 4 0), (5, .p 5 0), (7, .p 7 0), (8, .p 8 0), (82, .v (.agg #[.bool s15, .slice A15 l15 c15])), (87, .v (.agg #[.bool s18, .slice A18 l18 c18]))] [(8, 67, [.v (.bool s15), .v (.slice A15 l15 c15)]), (7, 67, [.v (.bool s12), .v (.slice A12 l12 c12)]), (5, 67, [.v (.bool s10), .v (.slice A10 l10 c10)]), (4, 80, [.v (.bool false), .v (.slice none 0 0), .v (.bool false), .v (.slice none 0 0)]), (3, 80, [.v (.bool s1), .v (.slice A1 l1 c1), .v (.bool t1), .v (.slice B1 m1 d1)]), (2, 80, [.v (.bool s0), .v (.slice A0 l0 c0), .v (.bool t0), .v (.slice B0 m0 d0)])] (by kernel_rfl) (by kernel_rfl) ?_
      refine st_call 136 [.agg #[.bool s15, .slice A15 l15 c15], .agg #[.bool s18, .slice A18 l18 c18]] 88 shRat _ (by kernel_rfl) (by kernel_rfl) (by kernel_rfl) (fun w hE hΦ => (lowest_any _ _ (n) (((p.den : Int)) * ((q.den : Int))) (p + q) _ hΦ.1.1.1.2 hΦ.2 (by obtain ⟨k1, k2⟩ := HA1 (by omega); exact ⟨k1, by rw [k2, Int.natCast_mul]⟩)).mono (fun _ _ h => post_Rat h)) (fun xx => ?_)
      obtain ⟨s19, A19, l19, c19, t19, B19, m19, d19⟩ := xx
      refine st_flt 1 [(3, .p 3 0), (4, .p 4 0), (5, .p 5 0), (7, .p 7 0), (8, .p 8 0)] [(4, 80, [.v (.bool s19), .v (.slice A19 l19 c19), .v (.bool t19), .v (.slice B19 m19 d19)]), (8, 67, [.v (.bool s15), .v (.slice A15 l15 c15)]), (7, 67, [.v (.bool s12), .v (.slice A12 l12 c12)]), (5, 67, [.v (.bool s10), .v (.slice A10 l10 c10)]), (4, 80, [.v (.bool false), .v (.slice none 0 0), .v (.bool false), .v (.slice none 0 0)]), (3, 80, [.v (.bool s1), .v (.slice A1 l1 c1), .v (.bool t1), .v (.slice B1 m1 d1)]), (2, 80, [.v (.bool s0), .v (.slice A0 l0 c0), .v (.bool t0), .v (.slice B0 m0 d0)])] (by kernel_rfl) (by kernel_rfl) ?_
      refine st_end (by kernel_rfl) ?_
      refine sx_end (by kernel_rfl) ?_
      refine sx_next ?_
      refine sx_ret ?_
      refine sx_then_ret ?_
      refine sx_done (v := .agg #[.bool s19, .slice A19 l19 c19, .bool t19, .slice B19 m19 d19]) (by kernel_rfl) (fun w' hE hΦ => ?_)
      exact ⟨_, rfl, hΦ.2, hE⟩
    · refine sx_call 100 [.agg #[.bool s10, .slice A10 l10 c10]] 81 (fun _ : Unit => .bool false) _ (by kernel_rfl) (by kernel_rfl) (fun w hE hΦ => (IsOne_any _ ((c : Int)) _ hΦ.1.1.1.1.1.1.2).mono (fun _ _ h => post_val h (by rw [decide_eq_false (p := ((c : Int)) = 1) hz17]))) (fun xx => ?_)
      refine sx_run 0 [(2, .p 2 0), (3, .p 3 0), (4, .p 4 0), (5, .p 5 0), (7, .p 7 0), (8, .p 8 0), (81, .v (.bool false))] [(8, 67, [.v (.bool s15), .v (.slice A15 l15 c15)]), (7, 67, [.v (.bool s12), .v (.slice A12 l12 c12)]), (5, 67, [.v (.bool s10), .v (.slice A10 l10 c10)]), (4, 80, [.v (.bool false), .v (.slice none 0 0), .v (.bool false), .v (.slice none 0 0)]), (3, 80, [.v (.bool s1), .v (.slice A1 l1 c1), .v (.bool t1), .v (.slice B1 m1 d1)]), (2, 80, [.v (.bool s0), .v (.slice A0 l0 c0), .v (.bool t0), .v (.slice B0 m0 d0)])] (by kernel_rfl) (by kernel_rfl) ?_
      refine sx_end (by kernel_rfl) ?_
      refine sx_next ?_
      refine sx_cond_f (by kernel_rfl) ?_
      refine sx_skip ?_
      refine sx_next ?_
      refine sx_seq ?_
      refine sx_region ?_
      refine sx_run 2 [(3, .p 3 0), (4, .p 4 0), (7, .p 7 0), (8, .p 8 0), (89, .v (.agg #[.bool s15, .slice A15 l15 c15])), (90, .v (.agg #[.bool s10, .slice A10 l10 c10]))] [(8, 67, [.v (.bool s15), .v (.slice A15 l15 c15)]), (7, 67, [.v (.bool s12), .v (.slice A12 l12 c12)]), (4, 80, [.v (.bool false), .v (.slice none 0 0), .v (.bool false), .v (.slice none 0 0)]), (3, 80, [.v (.bool s1), .v (.slice A1 l1 c1), .v (.bool t1), .v (.slice B1 m1 d1)])] (by kernel_rfl) (by kernel_rfl) ?_
      refine sx_call 99 [.agg #[.bool s15, .slice A15 l15 c15], .agg #[.bool s10, .slice A10 l10 c10]] 91 shInt _ (by kernel_rfl) (by kernel_rfl) (fun w hE hΦ => (GCD_any _ _ (n) ((c : Int)) _ hΦ.1.1.1.1.1.1.1.1.1.1.1.1.1.2 hΦ.1.1.2 hΦ.1.1.1.1.1.1.1.2 (fit Sn (by decide)) (fit (wlc Sc) (by decide)) (GcdOk.words (Nat.le_trans Sn (by decide)) (Nat.le_trans (wlc Sc) (by decide)))).mono (fun _ _ h => post_Int h)) (fun xx => ?_)
      obtain ⟨s20, A20, l20, c20⟩ := xx
      refine sx_run 2 [(3, .p 3 0), (4, .p 4 0), (7, .p 7 0), (8, .p 8 0), (9, .p 9 0)] [(9, 67, [.v (.bool s20), .v (.slice A20 l20 c20)]), (8, 67, [.v (.bool s15), .v (.slice A15 l15 c15)]), (7, 67, [.v (.bool s12), .v (.slice A12 l12 c12)]), (4, 80, [.v (.bool false), .v (.slice none 0 0), .v (.bool false), .v (.slice none 0 0)]), (3, 80, [.v (.bool s1), .v (.slice A1 l1 c1), .v (.bool t1), .v (.slice B1 m1 d1)])] (by kernel_rfl) (by kernel_rfl) ?_
      refine sx_end (by kernel_rfl) ?_
      refine sx_next ?_
      refine sx_seq ?_
      refine sx_draw 11 (by kernel_rfl) (by kernel_rfl) follows_mixed' ?_
      refine st_flt 2 [(3, .p 3 0), (4, .p 4 0), (7, .p 7 0), (9, .p 9 0), (92, .v (.agg #[.bool s15, .slice A15 l15 c15])), (93, .v (.agg #[.bool s20, .slice A20 l20 c20]))] [(9, 67, [.v (.bool s20), .v (.slice A20 l20 c20)]), (8, 67, [.v (.bool s15), .v (.slice A15 l15 c15)]), (7, 67, [.v (.bool s12), .v (.slice A12 l12 c12)]), (4, 80, [.v (.bool false), .v (.slice none 0 0), .v (.bool false), .v (.slice none 0 0)]), (3, 80, [.v (.bool s1), .v (.slice A1 l1 c1), .v (.bool t1), .v (.slice B1 m1 d1)])] (by kernel_rfl) (by kernel_rfl) ?_
      refine st_call 135 [.agg #[.bool s15, .slice A15 l15 c15], .agg #[.bool s20, .slice A20 l20 c20]] 94 shInt _ (by kernel_rfl) (by kernel_rfl) (by kernel_rfl) (fun w hE hΦ => (Quo_any _ _ (n) (((Int.gcd (n) ((c : Int)) : Nat) : Int)) _ hΦ.1.1.1.2 hΦ.2 (fit Sn (by decide)) (Nat.lt_of_le_of_lt (wlc (wlg (wlc Sc) hci)) (by decide)) (gcd_nz hci)).mono (fun _ _ h => post_Int h)) (fun xx => ?_)
      obtain ⟨s21, A21, l21, c21⟩ := xx
      refine st_flt 4 [(4, .p 4 0), (94, .v (.agg #[.bool s21, .slice A21 l21 c21])), (95, .v (.agg #[.bool s12, .slice A12 l12 c12])), (97, .v (.agg #[.bool t1, .slice B1 m1 d1])), (98, .v (.agg #[.bool s20, .slice A20 l20 c20]))] [(9, 67, [.v (.bool s20), .v (.slice A20 l20 c20)]), (8, 67, [.v (.bool s15), .v (.slice A15 l15 c15)]), (7, 67, [.v (.bool s12), .v (.slice A12 l12 c12)]), (4, 80, [.v (.bool false), .v (.slice none 0 0), .v (.bool false), .v (.slice none 0 0)]), (3, 80, [.v (.bool s1), .v (.slice A1 l1 c1), .v (.bool t1), .v (.slice B1 m1 d1)])] (by kernel_rfl) (by kernel_rfl) ?_
      refine st_call 135 [.agg #[.bool t1, .slice B1 m1 d1], .agg #[.bool s20, .slice A20 l20 c20]] 99 shInt _ (by kernel_rfl) (by kernel_rfl) (by kernel_rfl) (fun w hE hΦ => (Quo_any _ _ ((q.den : Int)) (((Int.gcd (n) ((c : Int)) : Nat) : Int)) _ hΦ.1.1.1.1.1.1.1.1.1.1.1.1.1.2 hΦ.1.2 (fit S4 (by decide)) (Nat.lt_of_le_of_lt (wlc (wlg (wlc Sc) hci)) (by decide)) (gcd_nz hci)).mono (fun _ _ h => post_Int (by rw [nat_tdiv] at h; exact h))) (fun xx => ?_)
      obtain ⟨s22, A22, l22, c22⟩ := xx
      refine st_flt 0 [(4, .p 4 0), (94, .v (.agg #[.bool s21, .slice A21 l21 c21])), (95, .v (.agg #[.bool s12, .slice A12 l12 c12])), (99, .v (.agg #[.bool s22, .slice A22 l22 c22]))] [(9, 67, [.v (.bool s20), .v (.slice A20 l20 c20)]), (8, 67, [.v (.bool s15), .v (.slice A15 l15 c15)]), (7, 67, [.v (.bool s12), .v (.slice A12 l12 c12)]), (4, 80, [.v (.bool false), .v (.slice none 0 0), .v (.bool false), .v (.slice none 0 0)]), (3, 80, [.v (.bool s1), .v (.slice A1 l1 c1), .v (.bool t1), .v (.slice B1 m1 d1)])] (by kernel_rfl) (by kernel_rfl) ?_
      refine st_call 53 [.agg #[.bool s12, .slice A12 l12 c12], .agg #[.bool s22, .slice A22 l22 c22]] 100 shInt _ (by kernel_rfl) (by kernel_rfl) (by kernel_rfl) (fun w hE hΦ => (Mul_any _ _ (((p.den / c : Nat) : Int)) (((q.den / Int.gcd (n) ((c : Int)) : Nat) : Int)) _ hΦ.1.1.1.1.1.1.1.1.2 hΦ.2 (fit (wlc (wld hp2)) (by decide)) (fit (wlc (wld hq2)) (by decide)) (Or.inl (Nat.lt_of_le_of_lt (wlc (wld hp2)) (by decide)))).mono (fun _ _ h => post_Int h)) (fun xx => ?_)
      obtain ⟨s23, A23, l23, c23⟩ := xx
      refine st_flt 0 [(4, .p 4 0), (94, .v (.agg #[.bool s21, .slice A21 l21 c21])), (100, .v (.agg #[.bool s23, .slice A23 l23 c23]))] [(9, 67, [.v (.bool s20), .v (.slice A20 l20 c20)]), (8, 67, [.v (.bool s15), .v (.slice A15 l15 c15)]), (7, 67, [.v (.bool s12), .v (.slice A12 l12 c12)]), (4, 80, [.v (.bool false), .v (.slice none 0 0), .v (.bool false), .v (.slice none 0 0)]), (3, 80, [.v (.bool s1), .v (.slice A1 l1 c1), .v (.bool t1), .v (.slice B1 m1 d1)])] (by kernel_rfl) (by kernel_rfl) ?_
      refine st_call 136 [.agg #[.bool s21, .slice A21 l21 c21], .agg #[.bool s23, .slice A23 l23 c23]] 101 shRat _ (by kernel_rfl) (by kernel_rfl) (by kernel_rfl) (fun w hE hΦ => (lowest_any _ _ ((n).tdiv (((Int.gcd (n) ((c : Int)) : Nat) : Int))) ((((p.den / c : Nat) : Int)) * (((q.den / Int.gcd (n) ((c : Int)) : Nat) : Int))) (p + q) _ hΦ.1.1.2 hΦ.2 (by obtain ⟨k1, k2⟩ := HA2 (by omega); exact ⟨k1, by rw [k2, Int.natCast_mul]⟩)).mono (fun _ _ h => post_Rat h)) (fun xx => ?_)
      obtain ⟨s24, A24, l24, c24, t24, B24, m24, d24⟩ := xx
      refine st_flt 1 [(4, .p 4 0)] [(4, 80, [.v (.bool s24), .v (.slice A24 l24 c24), .v (.bool t24), .v (.slice B24 m24 d24)]), (9, 67, [.v (.bool s20), .v (.slice A20 l20 c20)]), (8, 67, [.v (.bool s15), .v (.slice A15 l15 c15)]), (7, 67, [.v (.bool s12), .v (.slice A12 l12 c12)]), (4, 80, [.v (.bool false), .v (.slice none 0 0), .v (.bool false), .v (.slice none 0 0)]), (3, 80, [.v (.bool s1), .v (.slice A1 l1 c1), .v (.bool t1), .v (.slice B1 m1 d1)])] (by kernel_rfl) (by kernel_rfl) ?_
      refine st_end (by kernel_rfl) ?_
      refine sx_end (by kernel_rfl) ?_
      refine sx_next ?_
      refine sx_ret ?_
      refine sx_done (v := .agg #[.bool s24, .slice A24 l24 c24, .bool t24, .slice B24 m24 d24]) (by kernel_rfl) (fun w' hE hΦ => ?_)
      exact ⟨_, rfl, hΦ.2, hE⟩

theorem QAdd_any (a b : Value) (p q : Rat) (w : World) (hg : Glob w) (ha : RatIs w a p) (hb : RatIs w b q) (hp : QFits p 38) (hq : QFits q 38) : Calls Tryz.prog 91 #[a, b] w (RetRat w (p + q)) := by
  by_cases h1 : p.den = 1
  · by_cases h2 : q.den = 1
    · exact QAdd_ww a b p q w ha hb hp hq h1 h2
    · exact QAdd_wf a b p q w ha hb hp hq h1 h2
  · by_cases h2 : q.den = 1
    · exact QAdd_fw a b p q w ha hb hp hq h1 h2
    · exact QAdd_ff a b p q w hg ha hb hp hq h1 h2

set_option maxRecDepth 100000 in
theorem QIsZero_any (a : Value) (q : Rat) (w : World) (ha : RatIs w a q) :
    Calls Tryz.prog 94 #[a] w (RetV w (.bool (decide (q.num = 0)))) := by
  obtain ⟨s0, A0, l0, c0, t0, B0, m0, d0, rfl⟩ := ha.shp
  refine sx_enter (Φ := fun w => RatIs w (.agg #[.bool s0, .slice A0 l0 c0, .bool t0, .slice B0 m0 d0]) (q)) Tryz.func94 rfl (by kernel_rfl) (fun w' hf => ha.ext hf) ?_
  refine sx_seq ?_
  refine sx_region ?_
  refine sx_run 2 [(1, .p 1 0), (2, .v (.bool false))] [(1, 80, [.v (.bool s0), .v (.slice A0 l0 c0), .v (.bool t0), .v (.slice B0 m0 d0)])] (by kernel_rfl) (by kernel_rfl) ?_
  refine sx_end (by kernel_rfl) ?_
  refine sx_next ?_
  refine sx_seq ?_
  refine sx_region ?_
  refine sx_run 2 [(2, .v (.bool false)), (4, .v (.agg #[.bool s0, .slice A0 l0 c0]))] [] (by kernel_rfl) (by kernel_rfl) ?_
  refine sx_call 119 [.agg #[.bool s0, .slice A0 l0 c0]] 5 (fun _ : Unit => .bool (decide (q.num = 0))) _ (by kernel_rfl) (by kernel_rfl) (fun w hE hΦ => (IsZero_any _ (q.num) _ hΦ.num).mono (fun _ _ h => post_val h rfl)) (fun xx => ?_)
  refine sx_run 1 [(2, .v (.bool (decide (q.num = 0))))] [] (by kernel_rfl) (by kernel_rfl) ?_
  refine sx_end (by kernel_rfl) ?_
  refine sx_next ?_
  refine sx_ret ?_
  refine sx_done (v := .bool (decide (q.num = 0))) (by kernel_rfl) (fun w' hE hΦ => ?_)
  exact ⟨rfl, hE⟩

set_option maxRecDepth 100000 in
theorem cancel_any (a b : Value) (x y : Int) (w : World) (hg : Glob w) (ha : IntIs w a x) (hb : IntIs w b y) (hx : wl x.natAbs ≤ 38) (hy : wl y.natAbs ≤ 38) (h0 : y ≠ 0) :
    Calls Tryz.prog 138 #[a, b] w (RetInt2 w (x.tdiv ((Int.gcd x y : Nat) : Int)) (y.tdiv ((Int.gcd x y : Nat) : Int))) := by
  obtain ⟨s0, A0, l0, c0, rfl⟩ := ha.shp
  obtain ⟨s1, A1, l1, c1, rfl⟩ := hb.shp
  refine sx_enter (Φ := fun w => ((IntIs w (.agg #[.bool s0, .slice A0 l0 c0]) (x) ∧ IntIs w (.agg #[.bool s1, .slice A1 l1 c1]) (y)) ∧ Glob w)) Tryz.func138 rfl (by kernel_rfl) (fun w' hf => ⟨⟨ha.ext hf, hb.ext hf⟩, hg.ext hf⟩) ?_
  refine sx_seq ?_
  refine sx_region ?_
  refine sx_run 4 [(2, .p 2 0), (3, .p 3 0), (4, .p 4 0), (5, .p 5 0)] [(5, 67, [.v (.bool false), .v (.slice none 0 0)]), (4, 67, [.v (.bool false), .v (.slice none 0 0)]), (3, 67, [.v (.bool s1), .v (.slice A1 l1 c1)]), (2, 67, [.v (.bool s0), .v (.slice A0 l0 c0)])] (by kernel_rfl) (by kernel_rfl) ?_
  refine sx_end (by kernel_rfl) ?_
  refine sx_next ?_
  refine sx_seq ?_
  refine sx_seq ?_
  refine sx_region ?_
  refine sx_run 1 [(2, .p 2 0), (3, .p 3 0), (4, .p 4 0), (5, .p 5 0), (7, .v (.agg #[.bool s1, .slice A1 l1 c1]))] [(5, 67, [.v (.bool false), .v (.slice none 0 0)]), (4, 67, [.v (.bool false), .v (.slice none 0 0)]), (3, 67, [.v (.bool s1), .v (.slice A1 l1 c1)]), (2, 67, [.v (.bool s0), .v (.slice A0 l0 c0)])] (by kernel_rfl) (by kernel_rfl) ?_
  by_cases hz10 : (y) = 1
  · refine sx_call 100 [.agg #[.bool s1, .slice A1 l1 c1]] 8 (fun _ : Unit => .bool true) _ (by kernel_rfl) (by kernel_rfl) (fun w hE hΦ => (IsOne_any _ (y) _ hΦ.1.2).mono (fun _ _ h => post_val h (by rw [decide_eq_true (p := (y) = 1) hz10]))) (fun xx => ?_)
    refine sx_run 0 [(2, .p 2 0), (3, .p 3 0), (4, .p 4 0), (5, .p 5 0), (8, .v (.bool true))] [(5, 67, [.v (.bool false), .v (.slice none 0 0)]), (4, 67, [.v (.bool false), .v (.slice none 0 0)]), (3, 67, [.v (.bool s1), .v (.slice A1 l1 c1)]), (2, 67, [.v (.bool s0), .v (.slice A0 l0 c0)])] (by kernel_rfl) (by kernel_rfl) ?_
    refine sx_end (by kernel_rfl) ?_
    refine sx_next ?_
    refine sx_cond_t (by kernel_rfl) ?_
    refine sx_seq ?_
    refine sx_draw 4 (by kernel_rfl) (by kernel_rfl) follows_mixed' ?_
    refine st_flt 4 [(2, .p 2 0), (3, .p 3 0), (4, .p 4 0), (5, .p 5 0)] [(5, 67, [.v (.bool s1), .v (.slice A1 l1 c1)]), (4, 67, [.v (.bool s0), .v (.slice A0 l0 c0)]), (5, 67, [.v (.bool false), .v (.slice none 0 0)]), (4, 67, [.v (.bool false), .v (.slice none 0 0)]), (3, 67, [.v (.bool s1), .v (.slice A1 l1 c1)]), (2, 67, [.v (.bool s0), .v (.slice A0 l0 c0)])] (by kernel_rfl) (by kernel_rfl) ?_
    refine st_end (by kernel_rfl) ?_
    refine sx_end (by kernel_rfl) ?_
    refine sx_next ?_
    refine sx_ret ?_
    refine sx_then_ret ?_
    refine sx_done (v := .tuple #[.agg #[.bool s0, .slice A0 l0 c0], .agg #[.bool s1, .slice A1 l1 c1]]) (by kernel_rfl) (fun w' hE hΦ => ?_)
    exact ⟨_, _, rfl, by rw [hz10, Int.gcd_one_right]; simpa using hΦ.1.1.1, by rw [hz10, Int.gcd_one_right]; simpa [hz10] using hΦ.1.1.2, hE⟩
  · refine sx_call 100 [.agg #[.bool s1, .slice A1 l1 c1]] 8 (fun _ : Unit => .bool false) _ (by kernel_rfl) (by kernel_rfl) (fun w hE hΦ => (IsOne_any _ (y) _ hΦ.1.2).mono (fun _ _ h => post_val h (by rw [decide_eq_false (p := (y) = 1) hz10]))) (fun xx => ?_)
    refine sx_run 0 [(2, .p 2 0), (3, .p 3 0), (4, .p 4 0), (5, .p 5 0), (8, .v (.bool false))] [(5, 67, [.v (.bool false), .v (.slice none 0 0)]), (4, 67, [.v (.bool false), .v (.slice none 0 0)]), (3, 67, [.v (.bool s1), .v (.slice A1 l1 c1)]), (2, 67, [.v (.bool s0), .v (.slice A0 l0 c0)])] (by kernel_rfl) (by kernel_rfl) ?_
    refine sx_end (by kernel_rfl) ?_
    refine sx_next ?_
    refine sx_cond_f (by kernel_rfl) ?_
    refine sx_skip ?_
    refine sx_next ?_
    refine sx_seq ?_
    refine sx_region ?_
    refine sx_run 2 [(2, .p 2 0), (3, .p 3 0), (4, .p 4 0), (5, .p 5 0), (11, .v (.agg #[.bool s0, .slice A0 l0 c0])), (12, .v (.agg #[.bool s1, .slice A1 l1 c1]))] [(5, 67, [.v (.bool false), .v (.slice none 0 0)]), (4, 67, [.v (.bool false), .v (.slice none 0 0)]), (3, 67, [.v (.bool s1), .v (.slice A1 l1 c1)]), (2, 67, [.v (.bool s0), .v (.slice A0 l0 c0)])] (by kernel_rfl) (by kernel_rfl) ?_
    refine sx_call 99 [.agg #[.bool s0, .slice A0 l0 c0], .agg #[.bool s1, .slice A1 l1 c1]] 13 shInt _ (by kernel_rfl) (by kernel_rfl) (fun w hE hΦ => (GCD_any _ _ (x) (y) _ hΦ.1.2 hΦ.1.1.1 hΦ.1.1.2 (fit hx (by decide)) (fit hy (by decide)) (GcdOk.words (Nat.le_trans hx (by decide)) (Nat.le_trans hy (by decide)))).mono (fun _ _ h => post_Int h)) (fun xx => ?_)
    obtain ⟨s11, A11, l11, c11⟩ := xx
    refine sx_run 2 [(2, .p 2 0), (3, .p 3 0), (4, .p 4 0), (5, .p 5 0), (6, .p 6 0)] [(6, 67, [.v (.bool s11), .v (.slice A11 l11 c11)]), (5, 67, [.v (.bool false), .v (.slice none 0 0)]), (4, 67, [.v (.bool false), .v (.slice none 0 0)]), (3, 67, [.v (.bool s1), .v (.slice A1 l1 c1)]), (2, 67, [.v (.bool s0), .v (.slice A0 l0 c0)])] (by kernel_rfl) (by kernel_rfl) ?_
    refine sx_end (by kernel_rfl) ?_
    refine sx_next ?_
    refine sx_seq ?_
    refine sx_draw 8 (by kernel_rfl) (by kernel_rfl) follows_mixed' ?_
    refine st_flt 2 [(3, .p 3 0), (4, .p 4 0), (5, .p 5 0), (6, .p 6 0), (14, .v (.agg #[.bool s0, .slice A0 l0 c0])), (15, .v (.agg #[.bool s11, .slice A11 l11 c11]))] [(6, 67, [.v (.bool s11), .v (.slice A11 l11 c11)]), (5, 67, [.v (.bool false), .v (.slice none 0 0)]), (4, 67, [.v (.bool false), .v (.slice none 0 0)]), (3, 67, [.v (.bool s1), .v (.slice A1 l1 c1)]), (2, 67, [.v (.bool s0), .v (.slice A0 l0 c0)])] (by kernel_rfl) (by kernel_rfl) ?_
    refine st_call 135 [.agg #[.bool s0, .slice A0 l0 c0], .agg #[.bool s11, .slice A11 l11 c11]] 16 shInt _ (by kernel_rfl) (by kernel_rfl) (by kernel_rfl) (fun w hE hΦ => (Quo_any _ _ (x) (((Int.gcd (x) (y) : Nat) : Int)) _ hΦ.1.1.1.1 hΦ.2 (fit hx (by decide)) (Nat.lt_of_le_of_lt (wlc (wlg hy h0)) (by decide)) (gcd_nz h0)).mono (fun _ _ h => post_Int h)) (fun xx => ?_)
    obtain ⟨s12, A12, l12, c12⟩ := xx
    refine st_flt 2 [(4, .p 4 0), (5, .p 5 0), (16, .v (.agg #[.bool s12, .slice A12 l12 c12])), (17, .v (.agg #[.bool s1, .slice A1 l1 c1])), (18, .v (.agg #[.bool s11, .slice A11 l11 c11]))] [(6, 67, [.v (.bool s11), .v (.slice A11 l11 c11)]), (5, 67, [.v (.bool false), .v (.slice none 0 0)]), (4, 67, [.v (.bool false), .v (.slice none 0 0)]), (3, 67, [.v (.bool s1), .v (.slice A1 l1 c1)]), (2, 67, [.v (.bool s0), .v (.slice A0 l0 c0)])] (by kernel_rfl) (by kernel_rfl) ?_
    refine st_call 135 [.agg #[.bool s1, .slice A1 l1 c1], .agg #[.bool s11, .slice A11 l11 c11]] 19 shInt _ (by kernel_rfl) (by kernel_rfl) (by kernel_rfl) (fun w hE hΦ => (Quo_any _ _ (y) (((Int.gcd (x) (y) : Nat) : Int)) _ hΦ.1.1.1.1.2 hΦ.1.2 (fit hy (by decide)) (Nat.lt_of_le_of_lt (wlc (wlg hy h0)) (by decide)) (gcd_nz h0)).mono (fun _ _ h => post_Int h)) (fun xx => ?_)
    obtain ⟨s13, A13, l13, c13⟩ := xx
    refine st_flt 2 [(4, .p 4 0), (5, .p 5 0)] [(5, 67, [.v (.bool s13), .v (.slice A13 l13 c13)]), (4, 67, [.v (.bool s12), .v (.slice A12 l12 c12)]), (6, 67, [.v (.bool s11), .v (.slice A11 l11 c11)]), (5, 67, [.v (.bool false), .v (.slice none 0 0)]), (4, 67, [.v (.bool false), .v (.slice none 0 0)]), (3, 67, [.v (.bool s1), .v (.slice A1 l1 c1)]), (2, 67, [.v (.bool s0), .v (.slice A0 l0 c0)])] (by kernel_rfl) (by kernel_rfl) ?_
    refine st_end (by kernel_rfl) ?_
    refine sx_end (by kernel_rfl) ?_
    refine sx_next ?_
    refine sx_ret ?_
    refine sx_done (v := .tuple #[.agg #[.bool s12, .slice A12 l12 c12], .agg #[.bool s13, .slice A13 l13 c13]]) (by kernel_rfl) (fun w' hE hΦ => ?_)
    exact ⟨_, _, rfl, hΦ.1.2, hΦ.2, hE⟩

set_option maxRecDepth 100000 in
theorem QMul_any (a b : Value) (p q : Rat) (w : World) (hg : Glob w) (ha : RatIs w a p) (hb : RatIs w b q) (hp : QFits p 38) (hq : QFits q 38) :
    Calls Tryz.prog 93 #[a, b] w (RetRat w (p * q)) := by
  obtain ⟨s0, A0, l0, c0, t0, B0, m0, d0, rfl⟩ := ha.shp
  obtain ⟨s1, A1, l1, c1, t1, B1, m1, d1, rfl⟩ := hb.shp
  have S1 : wl p.num.natAbs ≤ 38 := hp.1
  have S2 : wl q.num.natAbs ≤ 38 := hq.1
  have hp2 : wl p.den ≤ 38 := hp.2
  have hq2 : wl q.den ≤ 38 := hq.2
  have S3 : wl ((p.den : Nat) : Int).natAbs ≤ 38 := wlc hp2
  have S4 : wl ((q.den : Nat) : Int).natAbs ≤ 38 := wlc hq2
  refine sx_enter (Φ := fun w => ((RatIs w (.agg #[.bool s0, .slice A0 l0 c0, .bool t0, .slice B0 m0 d0]) (p) ∧ RatIs w (.agg #[.bool s1, .slice A1 l1 c1, .bool t1, .slice B1 m1 d1]) (q)) ∧ Glob w)) Tryz.func93 rfl (by kernel_rfl) (fun w' hf => ⟨⟨ha.ext hf, hb.ext hf⟩, hg.ext hf⟩) ?_
  refine sx_seq ?_
  refine sx_region ?_
  refine sx_run 3 [(2, .p 2 0), (3, .p 3 0), (4, .p 4 0)] [(4, 80, [.v (.bool false), .v (.slice none 0 0), .v (.bool false), .v (.slice none 0 0)]), (3, 80, [.v (.bool s1), .v (.slice A1 l1 c1), .v (.bool t1), .v (.slice B1 m1 d1)]), (2, 80, [.v (.bool s0), .v (.slice A0 l0 c0), .v (.bool t0), .v (.slice B0 m0 d0)])] (by kernel_rfl) (by kernel_rfl) ?_
  refine sx_end (by kernel_rfl) ?_
  refine sx_next ?_
  refine sx_seq ?_
  refine sx_seq ?_
  refine sx_region ?_
  refine sx_run 2 [(2, .p 2 0), (3, .p 3 0), (4, .p 4 0), (10, .v (.agg #[.bool s0, .slice A0 l0 c0]))] [(4, 80, [.v (.bool false), .v (.slice none 0 0), .v (.bool false), .v (.slice none 0 0)]), (3, 80, [.v (.bool s1), .v (.slice A1 l1 c1), .v (.bool t1), .v (.slice B1 m1 d1)]), (2, 80, [.v (.bool s0), .v (.slice A0 l0 c0), .v (.bool t0), .v (.slice B0 m0 d0)])] (by kernel_rfl) (by kernel_rfl) ?_
  by_cases hz10 : ((p).num) = 0
  · refine sx_call 119 [.agg #[.bool s0, .slice A0 l0 c0]] 11 (fun _ : Unit => .bool true) _ (by kernel_rfl) (by kernel_rfl) (fun w hE hΦ => (IsZero_any _ ((p).num) _ hΦ.1.1.num).mono (fun _ _ h => post_val h (by rw [decide_eq_true (p := ((p).num) = 0) hz10]))) (fun xx => ?_)
    refine sx_run 5 [(2, .p 2 0), (3, .p 3 0), (4, .p 4 0), (16, .v (.bool true))] [(4, 80, [.v (.bool false), .v (.slice none 0 0), .v (.bool false), .v (.slice none 0 0)]), (3, 80, [.v (.bool s1), .v (.slice A1 l1 c1), .v (.bool t1), .v (.slice B1 m1 d1)]), (2, 80, [.v (.bool s0), .v (.slice A0 l0 c0), .v (.bool t0), .v (.slice B0 m0 d0)])] (by kernel_rfl) (by kernel_rfl) ?_
    refine sx_end (by kernel_rfl) ?_
    refine sx_next ?_
    refine sx_cond_t (by kernel_rfl) ?_
    refine sx_seq ?_
    refine sx_region ?_
    refine sx_run 2 [(2, .p 2 0), (3, .p 3 0), (4, .p 4 0)] [(4, 80, [.v (.bool false), .v (.slice none 0 0), .v (.bool false), .v (.slice none 0 0)]), (3, 80, [.v (.bool s1), .v (.slice A1 l1 c1), .v (.bool t1), .v (.slice B1 m1 d1)]), (2, 80, [.v (.bool s0), .v (.slice A0 l0 c0), .v (.bool t0), .v (.slice B0 m0 d0)])] (by kernel_rfl) (by kernel_rfl) ?_
    refine sx_end (by kernel_rfl) ?_
    refine sx_next ?_
    refine sx_ret ?_
    refine sx_then_ret ?_
    refine sx_done (v := .agg #[.bool false, .slice none 0 0, .bool false, .slice none 0 0]) (by kernel_rfl) (fun w' hE hΦ => ?_)
    exact ⟨_, rfl, by rw [rmul_zero_l hz10]; exact RatIs.nil _, hE⟩
  · refine sx_call 119 [.agg #[.bool s0, .slice A0 l0 c0]] 11 (fun _ : Unit => .bool false) _ (by kernel_rfl) (by kernel_rfl) (fun w hE hΦ => (IsZero_any _ ((p).num) _ hΦ.1.1.num).mono (fun _ _ h => post_val h (by rw [decide_eq_false (p := ((p).num) = 0) hz10]))) (fun xx => ?_)
    refine sx_run 3 [(2, .p 2 0), (3, .p 3 0), (4, .p 4 0), (12, .v (.bool false)), (14, .v (.agg #[.bool s1, .slice A1 l1 c1]))] [(4, 80, [.v (.bool false), .v (.slice none 0 0), .v (.bool false), .v (.slice none 0 0)]), (3, 80, [.v (.bool s1), .v (.slice A1 l1 c1), .v (.bool t1), .v (.slice B1 m1 d1)]), (2, 80, [.v (.bool s0), .v (.slice A0 l0 c0), .v (.bool t0), .v (.slice B0 m0 d0)])] (by kernel_rfl) (by kernel_rfl) ?_
    by_cases hz11 : ((q).num) = 0
    · refine sx_call 119 [.agg #[.bool s1, .slice A1 l1 c1]] 15 (fun _ : Unit => .bool true) _ (by kernel_rfl) (by kernel_rfl) (fun w hE hΦ => (IsZero_any _ ((q).num) _ hΦ.1.1.2.num).mono (fun _ _ h => post_val h (by rw [decide_eq_true (p := ((q).num) = 0) hz11]))) (fun xx => ?_)
      refine sx_run 1 [(2, .p 2 0), (3, .p 3 0), (4, .p 4 0), (16, .v (.bool true))] [(4, 80, [.v (.bool false), .v (.slice none 0 0), .v (.bool false), .v (.slice none 0 0)]), (3, 80, [.v (.bool s1), .v (.slice A1 l1 c1), .v (.bool t1), .v (.slice B1 m1 d1)]), (2, 80, [.v (.bool s0), .v (.slice A0 l0 c0), .v (.bool t0), .v (.slice B0 m0 d0)])] (by kernel_rfl) (by kernel_rfl) ?_
      refine sx_end (by kernel_rfl) ?_
      refine sx_next ?_
      refine sx_cond_t (by kernel_rfl) ?_
      refine sx_seq ?_
      refine sx_region ?_
      refine sx_run 2 [(2, .p 2 0), (3, .p 3 0), (4, .p 4 0)] [(4, 80, [.v (.bool false), .v (.slice none 0 0), .v (.bool false), .v (.slice none 0 0)]), (3, 80, [.v (.bool s1), .v (.slice A1 l1 c1), .v (.bool t1), .v (.slice B1 m1 d1)]), (2, 80, [.v (.bool s0), .v (.slice A0 l0 c0), .v (.bool t0), .v (.slice B0 m0 d0)])] (by kernel_rfl) (by kernel_rfl) ?_
      refine sx_end (by kernel_rfl) ?_
      refine sx_next ?_
      refine sx_ret ?_
      refine sx_then_ret ?_
      refine sx_done (v := .agg #[.bool false, .slice none 0 0, .bool false, .slice none 0 0]) (by kernel_rfl) (fun w' hE hΦ => ?_)
      exact ⟨_, rfl, by rw [rmul_zero_r hz11]; exact RatIs.nil _, hE⟩
    · refine sx_call 119 [.agg #[.bool s1, .slice A1 l1 c1]] 15 (fun _ : Unit => .bool false) _ (by kernel_rfl) (by kernel_rfl) (fun w hE hΦ => (IsZero_any _ ((q).num) _ hΦ.1.1.2.num).mono (fun _ _ h => post_val h (by rw [decide_eq_false (p := ((q).num) = 0) hz11]))) (fun xx => ?_)
      refine sx_run 1 [(2, .p 2 0), (3, .p 3 0), (4, .p 4 0), (16, .v (.bool false))] [(4, 80, [.v (.bool false), .v (.slice none 0 0), .v (.bool false), .v (.slice none 0 0)]), (3, 80, [.v (.bool s1), .v (.slice A1 l1 c1), .v (.bool t1), .v (.slice B1 m1 d1)]), (2, 80, [.v (.bool s0), .v (.slice A0 l0 c0), .v (.bool t0), .v (.slice B0 m0 d0)])] (by kernel_rfl) (by kernel_rfl) ?_
      refine sx_end (by kernel_rfl) ?_
      refine sx_next ?_
      refine sx_cond_f (by kernel_rfl) ?_
      refine sx_skip ?_
      refine sx_next ?_
      refine sx_seq ?_
      refine sx_seq ?_
      refine sx_region ?_
      refine sx_run 2 [(2, .p 2 0), (3, .p 3 0), (4, .p 4 0), (19, .v (.agg #[.bool t0, .slice B0 m0 d0]))] [(4, 80, [.v (.bool false), .v (.slice none 0 0), .v (.bool false), .v (.slice none 0 0)]), (3, 80, [.v (.bool s1), .v (.slice A1 l1 c1), .v (.bool t1), .v (.slice B1 m1 d1)]), (2, 80, [.v (.bool s0), .v (.slice A0 l0 c0), .v (.bool t0), .v (.slice B0 m0 d0)])] (by kernel_rfl) (by kernel_rfl) ?_
      by_cases hz12 : (denF (p)) = 0
      · refine sx_call 119 [.agg #[.bool t0, .slice B0 m0 d0]] 20 (fun _ : Unit => .bool true) _ (by kernel_rfl) (by kernel_rfl) (fun w hE hΦ => (IsZero_any _ (denF (p)) _ hΦ.1.1.1.1.den).mono (fun _ _ h => post_val h (by rw [decide_eq_true (p := (denF (p)) = 0) hz12]))) (fun xx => ?_)
        refine sx_run 3 [(2, .p 2 0), (3, .p 3 0), (4, .p 4 0), (21, .v (.bool true)), (23, .v (.agg #[.bool t1, .slice B1 m1 d1]))] [(4, 80, [.v (.bool false), .v (.slice none 0 0), .v (.bool false), .v (.slice none 0 0)]), (3, 80, [.v (.bool s1), .v (.slice A1 l1 c1), .v (.bool t1), .v (.slice B1 m1 d1)]), (2, 80, [.v (.bool s0), .v (.slice A0 l0 c0), .v (.bool t0), .v (.slice B0 m0 d0)])] (by kernel_rfl) (by kernel_rfl) ?_
        by_cases hz13 : (denF (q)) = 0
        · refine sx_call 119 [.agg #[.bool t1, .slice B1 m1 d1]] 24 (fun _ : Unit => .bool true) _ (by kernel_rfl) (by kernel_rfl) (fun w hE hΦ => (IsZero_any _ (denF (q)) _ hΦ.1.1.1.1.2.den).mono (fun _ _ h => post_val h (by rw [decide_eq_true (p := (denF (q)) = 0) hz13]))) (fun xx => ?_)
          refine sx_run 1 [(2, .p 2 0), (3, .p 3 0), (4, .p 4 0), (25, .v (.bool true))] [(4, 80, [.v (.bool false), .v (.slice none 0 0), .v (.bool false), .v (.slice none 0 0)]), (3, 80, [.v (.bool s1), .v (.slice A1 l1 c1), .v (.bool t1), .v (.slice B1 m1 d1)]), (2, 80, [.v (.bool s0), .v (.slice A0 l0 c0), .v (.bool t0), .v (.slice B0 m0 d0)])] (by kernel_rfl) (by kernel_rfl) ?_
          refine sx_end (by kernel_rfl) ?_
          refine sx_next ?_
          refine sx_cond_t (by kernel_rfl) ?_
          refine sx_seq ?_
          refine sx_region ?_
          refine sx_run 4 [(2, .p 2 0), (3, .p 3 0), (4, .p 4 0), (27, .v (.agg #[.bool s0, .slice A0 l0 c0])), (29, .v (.agg #[.bool s1, .slice A1 l1 c1]))] [(4, 80, [.v (.bool false), .v (.slice none 0 0), .v (.bool false), .v (.slice none 0 0)]), (3, 80, [.v (.bool s1), .v (.slice A1 l1 c1), .v (.bool t1), .v (.slice B1 m1 d1)]), (2, 80, [.v (.bool s0), .v (.slice A0 l0 c0), .v (.bool t0), .v (.slice B0 m0 d0)])] (by kernel_rfl) (by kernel_rfl) ?_
          refine sx_call 53 [.agg #[.bool s0, .slice A0 l0 c0], .agg #[.bool s1, .slice A1 l1 c1]] 30 shInt _ (by kernel_rfl) (by kernel_rfl) (fun w hE hΦ => (Mul_any _ _ ((p).num) ((q).num) _ hΦ.1.1.1.1.1.1.num hΦ.1.1.1.1.1.2.num (fit S1 (by decide)) (fit S2 (by decide)) (Or.inl (Nat.lt_of_le_of_lt S1 (by decide)))).mono (fun _ _ h => post_Int h)) (fun xx => ?_)
          obtain ⟨s14, A14, l14, c14⟩ := xx
          refine sx_run 2 [(2, .p 2 0), (3, .p 3 0), (4, .p 4 0)] [(4, 80, [.v (.bool s14), .v (.slice A14 l14 c14), .v (.bool false), .v (.slice none 0 0)]), (3, 80, [.v (.bool s1), .v (.slice A1 l1 c1), .v (.bool t1), .v (.slice B1 m1 d1)]), (2, 80, [.v (.bool s0), .v (.slice A0 l0 c0), .v (.bool t0), .v (.slice B0 m0 d0)])] (by kernel_rfl) (by kernel_rfl) ?_
          refine sx_end (by kernel_rfl) ?_
          refine sx_next ?_
          refine sx_ret ?_
          refine sx_then_ret ?_
          refine sx_done (v := .agg #[.bool s14, .slice A14 l14 c14, .bool false, .slice none 0 0]) (by kernel_rfl) (fun w' hE hΦ => ?_)
          have HW := rat_whole_mul (denF_iff.1 hz12) (denF_iff.1 hz13)
          exact ⟨_, rfl, RatIs.of (by rw [HW.1]; exact hΦ.2) (by rw [denF_one HW.2]; exact (IntIs.nil _)), hE⟩
        · refine sx_call 119 [.agg #[.bool t1, .slice B1 m1 d1]] 24 (fun _ : Unit => .bool false) _ (by kernel_rfl) (by kernel_rfl) (fun w hE hΦ => (IsZero_any _ (denF (q)) _ hΦ.1.1.1.1.2.den).mono (fun _ _ h => post_val h (by rw [decide_eq_false (p := (denF (q)) = 0) hz13]))) (fun xx => ?_)
          refine sx_run 1 [(2, .p 2 0), (3, .p 3 0), (4, .p 4 0), (25, .v (.bool false))] [(4, 80, [.v (.bool false), .v (.slice none 0 0), .v (.bool false), .v (.slice none 0 0)]), (3, 80, [.v (.bool s1), .v (.slice A1 l1 c1), .v (.bool t1), .v (.slice B1 m1 d1)]), (2, 80, [.v (.bool s0), .v (.slice A0 l0 c0), .v (.bool t0), .v (.slice B0 m0 d0)])] (by kernel_rfl) (by kernel_rfl) ?_
          refine sx_end (by kernel_rfl) ?_
          refine sx_next ?_
          refine sx_cond_f (by kernel_rfl) ?_
          refine sx_skip ?_
          refine sx_next ?_
          refine sx_seq ?_
          refine sx_draw 12 (by kernel_rfl) (by kernel_rfl) follows_mixed' ?_
          refine st_flt 3 [(2, .p 2 0), (3, .p 3 0), (4, .p 4 0), (34, .v (.agg #[.bool s0, .slice A0 l0 c0])), (35, .v (.agg #[.bool s1, .slice A1 l1 c1, .bool t1, .slice B1 m1 d1]))] [(4, 80, [.v (.bool false), .v (.slice none 0 0), .v (.bool false), .v (.slice none 0 0)]), (3, 80, [.v (.bool s1), .v (.slice A1 l1 c1), .v (.bool t1), .v (.slice B1 m1 d1)]), (2, 80, [.v (.bool s0), .v (.slice A0 l0 c0), .v (.bool t0), .v (.slice B0 m0 d0)])] (by kernel_rfl) (by kernel_rfl) ?_
          refine st_call 77 [.agg #[.bool s1, .slice A1 l1 c1, .bool t1, .slice B1 m1 d1]] 36 shInt _ (by kernel_rfl) (by kernel_rfl) (by kernel_rfl) (fun w hE hΦ => (Den_any _ (q) _ hΦ.1.1.1.1.1.2).mono (fun _ _ h => post_Int h)) (fun xx => ?_)
          obtain ⟨s15, A15, l15, c15⟩ := xx
          refine st_flt 0 [(2, .p 2 0), (3, .p 3 0), (4, .p 4 0), (34, .v (.agg #[.bool s0, .slice A0 l0 c0])), (36, .v (.agg #[.bool s15, .slice A15 l15 c15]))] [(4, 80, [.v (.bool false), .v (.slice none 0 0), .v (.bool false), .v (.slice none 0 0)]), (3, 80, [.v (.bool s1), .v (.slice A1 l1 c1), .v (.bool t1), .v (.slice B1 m1 d1)]), (2, 80, [.v (.bool s0), .v (.slice A0 l0 c0), .v (.bool t0), .v (.slice B0 m0 d0)])] (by kernel_rfl) (by kernel_rfl) ?_
          refine st_call 138 [.agg #[.bool s0, .slice A0 l0 c0], .agg #[.bool s15, .slice A15 l15 c15]] 37 shInt2 _ (by kernel_rfl) (by kernel_rfl) (by kernel_rfl) (fun w hE hΦ => (cancel_any _ _ ((p).num) (((q).den : Int)) _ hΦ.1.1.1.1.1.2 hΦ.1.1.1.1.1.1.1.num hΦ.2 S1 S4 (denI q)).mono (fun _ _ h => post_Int2 h)) (fun xx => ?_)
          obtain ⟨⟨s16, A16, l16, c16⟩, ⟨s17, A17, l17, c17⟩⟩ := xx
          refine st_flt 7 [(2, .p 2 0), (3, .p 3 0), (4, .p 4 0), (5, .p 5 0), (6, .p 6 0)] [(6, 67, [.v (.bool s17), .v (.slice A17 l17 c17)]), (5, 67, [.v (.bool s16), .v (.slice A16 l16 c16)]), (6, 67, [.v (.bool false), .v (.slice none 0 0)]), (5, 67, [.v (.bool false), .v (.slice none 0 0)]), (4, 80, [.v (.bool false), .v (.slice none 0 0), .v (.bool false), .v (.slice none 0 0)]), (3, 80, [.v (.bool s1), .v (.slice A1 l1 c1), .v (.bool t1), .v (.slice B1 m1 d1)]), (2, 80, [.v (.bool s0), .v (.slice A0 l0 c0), .v (.bool t0), .v (.slice B0 m0 d0)])] (by kernel_rfl) (by kernel_rfl) ?_
          refine st_end (by kernel_rfl) ?_
          refine sx_end (by kernel_rfl) ?_
          refine sx_next ?_
          refine sx_seq ?_
          refine sx_draw 12 (by kernel_rfl) (by kernel_rfl) follows_mixed' ?_
          refine st_flt 3 [(4, .p 4 0), (5, .p 5 0), (6, .p 6 0), (42, .v (.agg #[.bool s1, .slice A1 l1 c1])), (43, .v (.agg #[.bool s0, .slice A0 l0 c0, .bool t0, .slice B0 m0 d0]))] [(6, 67, [.v (.bool s17), .v (.slice A17 l17 c17)]), (5, 67, [.v (.bool s16), .v (.slice A16 l16 c16)]), (6, 67, [.v (.bool false), .v (.slice none 0 0)]), (5, 67, [.v (.bool false), .v (.slice none 0 0)]), (4, 80, [.v (.bool false), .v (.slice none 0 0), .v (.bool false), .v (.slice none 0 0)]), (3, 80, [.v (.bool s1), .v (.slice A1 l1 c1), .v (.bool t1), .v (.slice B1 m1 d1)]), (2, 80, [.v (.bool s0), .v (.slice A0 l0 c0), .v (.bool t0), .v (.slice B0 m0 d0)])] (by kernel_rfl) (by kernel_rfl) ?_
          refine st_call 77 [.agg #[.bool s0, .slice A0 l0 c0, .bool t0, .slice B0 m0 d0]] 44 shInt _ (by kernel_rfl) (by kernel_rfl) (by kernel_rfl) (fun w hE hΦ => (Den_any _ (p) _ hΦ.1.1.1.1.1.1.1.1).mono (fun _ _ h => post_Int h)) (fun xx => ?_)
          obtain ⟨s18, A18, l18, c18⟩ := xx
          refine st_flt 0 [(4, .p 4 0), (5, .p 5 0), (6, .p 6 0), (42, .v (.agg #[.bool s1, .slice A1 l1 c1])), (44, .v (.agg #[.bool s18, .slice A18 l18 c18]))] [(6, 67, [.v (.bool s17), .v (.slice A17 l17 c17)]), (5, 67, [.v (.bool s16), .v (.slice A16 l16 c16)]), (6, 67, [.v (.bool false), .v (.slice none 0 0)]), (5, 67, [.v (.bool false), .v (.slice none 0 0)]), (4, 80, [.v (.bool false), .v (.slice none 0 0), .v (.bool false), .v (.slice none 0 0)]), (3, 80, [.v (.bool s1), .v (.slice A1 l1 c1), .v (.bool t1), .v (.slice B1 m1 d1)]), (2, 80, [.v (.bool s0), .v (.slice A0 l0 c0), .v (.bool t0), .v (.slice B0 m0 d0)])] (by kernel_rfl) (by kernel_rfl) ?_
          refine st_call 138 [.agg #[.bool s1, .slice A1 l1 c1], .agg #[.bool s18, .slice A18 l18 c18]] 45 shInt2 _ (by kernel_rfl) (by kernel_rfl) (by kernel_rfl) (fun w hE hΦ => (cancel_any _ _ ((q).num) (((p).den : Int)) _ hΦ.1.1.1.1.1.1.1.2 hΦ.1.1.1.1.1.1.1.1.2.num hΦ.2 S2 S3 (denI p)).mono (fun _ _ h => post_Int2 h)) (fun xx => ?_)
          obtain ⟨⟨s19, A19, l19, c19⟩, ⟨s20, A20, l20, c20⟩⟩ := xx
          refine st_flt 7 [(4, .p 4 0), (5, .p 5 0), (6, .p 6 0), (7, .p 7 0), (8, .p 8 0)] [(8, 67, [.v (.bool s20), .v (.slice A20 l20 c20)]), (7, 67, [.v (.bool s19), .v (.slice A19 l19 c19)]), (8, 67, [.v (.bool false), .v (.slice none 0 0)]), (7, 67, [.v (.bool false), .v (.slice none 0 0)]), (6, 67, [.v (.bool s17), .v (.slice A17 l17 c17)]), (5, 67, [.v (.bool s16), .v (.slice A16 l16 c16)]), (6, 67, [.v (.bool false), .v (.slice none 0 0)]), (5, 67, [.v (.bool false), .v (.slice none 0 0)]), (4, 80, [.v (.bool false), .v (.slice none 0 0), .v (.bool false), .v (.slice none 0 0)]), (3, 80, [.v (.bool s1), .v (.slice A1 l1 c1), .v (.bool t1), .v (.slice B1 m1 d1)]), (2, 80, [.v (.bool s0), .v (.slice A0 l0 c0), .v (.bool t0), .v (.slice B0 m0 d0)])] (by kernel_rfl) (by kernel_rfl) ?_
          refine st_end (by kernel_rfl) ?_
          refine sx_end (by kernel_rfl) ?_
          refine sx_next ?_
          refine sx_seq ?_
          refine sx_draw 8 (by kernel_rfl) (by kernel_rfl) follows_mixed' ?_
          refine st_flt 2 [(4, .p 4 0), (6, .p 6 0), (8, .p 8 0), (48, .v (.agg #[.bool s16, .slice A16 l16 c16])), (49, .v (.agg #[.bool s19, .slice A19 l19 c19]))] [(8, 67, [.v (.bool s20), .v (.slice A20 l20 c20)]), (7, 67, [.v (.bool s19), .v (.slice A19 l19 c19)]), (8, 67, [.v (.bool false), .v (.slice none 0 0)]), (7, 67, [.v (.bool false), .v (.slice none 0 0)]), (6, 67, [.v (.bool s17), .v (.slice A17 l17 c17)]), (5, 67, [.v (.bool s16), .v (.slice A16 l16 c16)]), (6, 67, [.v (.bool false), .v (.slice none 0 0)]), (5, 67, [.v (.bool false), .v (.slice none 0 0)]), (4, 80, [.v (.bool false), .v (.slice none 0 0), .v (.bool false), .v (.slice none 0 0)]), (3, 80, [.v (.bool s1), .v (.slice A1 l1 c1), .v (.bool t1), .v (.slice B1 m1 d1)]), (2, 80, [.v (.bool s0), .v (.slice A0 l0 c0), .v (.bool t0), .v (.slice B0 m0 d0)])] (by kernel_rfl) (by kernel_rfl) ?_
          refine st_call 53 [.agg #[.bool s16, .slice A16 l16 c16], .agg #[.bool s19, .slice A19 l19 c19]] 50 shInt _ (by kernel_rfl) (by kernel_rfl) (by kernel_rfl) (fun w hE hΦ => (Mul_any _ _ (((p).num).tdiv (((Int.gcd ((p).num) (((q).den : Int)) : Nat) : Int))) (((q).num).tdiv (((Int.gcd ((q).num) (((p).den : Int)) : Nat) : Int))) _ hΦ.1.1.2.1 hΦ.2.1 (fit (wlq S1) (by decide)) (fit (wlq S2) (by decide)) (Or.inl (Nat.lt_of_le_of_lt (wlq S1) (by decide)))).mono (fun _ _ h => post_Int h)) (fun xx => ?_)
          obtain ⟨s21, A21, l21, c21⟩ := xx
          refine st_flt 2 [(4, .p 4 0), (50, .v (.agg #[.bool s21, .slice A21 l21 c21])), (51, .v (.agg #[.bool s20, .slice A20 l20 c20])), (52, .v (.agg #[.bool s17, .slice A17 l17 c17]))] [(8, 67, [.v (.bool s20), .v (.slice A20 l20 c20)]), (7, 67, [.v (.bool s19), .v (.slice A19 l19 c19)]), (8, 67, [.v (.bool false), .v (.slice none 0 0)]), (7, 67, [.v (.bool false), .v (.slice none 0 0)]), (6, 67, [.v (.bool s17), .v (.slice A17 l17 c17)]), (5, 67, [.v (.bool s16), .v (.slice A16 l16 c16)]), (6, 67, [.v (.bool false), .v (.slice none 0 0)]), (5, 67, [.v (.bool false), .v (.slice none 0 0)]), (4, 80, [.v (.bool false), .v (.slice none 0 0), .v (.bool false), .v (.slice none 0 0)]), (3, 80, [.v (.bool s1), .v (.slice A1 l1 c1), .v (.bool t1), .v (.slice B1 m1 d1)]), (2, 80, [.v (.bool s0), .v (.slice A0 l0 c0), .v (.bool t0), .v (.slice B0 m0 d0)])] (by kernel_rfl) (by kernel_rfl) ?_
          refine st_call 53 [.agg #[.bool s20, .slice A20 l20 c20], .agg #[.bool s17, .slice A17 l17 c17]] 53 shInt _ (by kernel_rfl) (by kernel_rfl) (by kernel_rfl) (fun w hE hΦ => (Mul_any _ _ ((((p).den : Int)).tdiv (((Int.gcd ((q).num) (((p).den : Int)) : Nat) : Int))) ((((q).den : Int)).tdiv (((Int.gcd ((p).num) (((q).den : Int)) : Nat) : Int))) _ hΦ.1.2.2 hΦ.1.1.1.2.2 (fit (wlq S3) (by decide)) (fit (wlq S4) (by decide)) (Or.inl (Nat.lt_of_le_of_lt (wlq S3) (by decide)))).mono (fun _ _ h => post_Int h)) (fun xx => ?_)
          obtain ⟨s22, A22, l22, c22⟩ := xx
          refine st_flt 0 [(4, .p 4 0), (50, .v (.agg #[.bool s21, .slice A21 l21 c21])), (53, .v (.agg #[.bool s22, .slice A22 l22 c22]))] [(8, 67, [.v (.bool s20), .v (.slice A20 l20 c20)]), (7, 67, [.v (.bool s19), .v (.slice A19 l19 c19)]), (8, 67, [.v (.bool false), .v (.slice none 0 0)]), (7, 67, [.v (.bool false), .v (.slice none 0 0)]), (6, 67, [.v (.bool s17), .v (.slice A17 l17 c17)]), (5, 67, [.v (.bool s16), .v (.slice A16 l16 c16)]), (6, 67, [.v (.bool false), .v (.slice none 0 0)]), (5, 67, [.v (.bool false), .v (.slice none 0 0)]), (4, 80, [.v (.bool false), .v (.slice none 0 0), .v (.bool false), .v (.slice none 0 0)]), (3, 80, [.v (.bool s1), .v (.slice A1 l1 c1), .v (.bool t1), .v (.slice B1 m1 d1)]), (2, 80, [.v (.bool s0), .v (.slice A0 l0 c0), .v (.bool t0), .v (.slice B0 m0 d0)])] (by kernel_rfl) (by kernel_rfl) ?_
          refine st_call 136 [.agg #[.bool s21, .slice A21 l21 c21], .agg #[.bool s22, .slice A22 l22 c22]] 54 shRat _ (by kernel_rfl) (by kernel_rfl) (by kernel_rfl) (fun w hE hΦ => (lowest_any _ _ ((((p).num).tdiv (((Int.gcd ((p).num) (((q).den : Int)) : Nat) : Int))) * (((q).num).tdiv (((Int.gcd ((q).num) (((p).den : Int)) : Nat) : Int)))) (((((p).den : Int)).tdiv (((Int.gcd ((q).num) (((p).den : Int)) : Nat) : Int))) * ((((q).den : Int)).tdiv (((Int.gcd ((p).num) (((q).den : Int)) : Nat) : Int)))) (p * q) _ hΦ.1.2 hΦ.2 (by obtain ⟨k1, k2⟩ := rmul_parts p q; exact ⟨k1, by rw [k2, Int.natCast_mul, ← nat_tdiv, ← nat_tdiv]⟩)).mono (fun _ _ h => post_Rat h)) (fun xx => ?_)
          obtain ⟨s23, A23, l23, c23, t23, B23, m23, d23⟩ := xx
          refine st_flt 1 [(4, .p 4 0)] [(4, 80, [.v (.bool s23), .v (.slice A23 l23 c23), .v (.bool t23), .v (.slice B23 m23 d23)]), (8, 67, [.v (.bool s20), .v (.slice A20 l20 c20)]), (7, 67, [.v (.bool s19), .v (.slice A19 l19 c19)]), (8, 67, [.v (.bool false), .v (.slice none 0 0)]), (7, 67, [.v (.bool false), .v (.slice none 0 0)]), (6, 67, [.v (.bool s17), .v (.slice A17 l17 c17)]), (5, 67, [.v (.bool s16), .v (.slice A16 l16 c16)]), (6, 67, [.v (.bool false), .v (.slice none 0 0)]), (5, 67, [.v (.bool false), .v (.slice none 0 0)]), (4, 80, [.v (.bool false), .v (.slice none 0 0), .v (.bool false), .v (.slice none 0 0)]), (3, 80, [.v (.bool s1), .v (.slice A1 l1 c1), .v (.bool t1), .v (.slice B1 m1 d1)]), (2, 80, [.v (.bool s0), .v (.slice A0 l0 c0), .v (.bool t0), .v (.slice B0 m0 d0)])] (by kernel_rfl) (by kernel_rfl) ?_
          refine st_end (by kernel_rfl) ?_
          refine sx_end (by kernel_rfl) ?_
          refine sx_next ?_
          refine sx_ret ?_
          refine sx_done (v := .agg #[.bool s23, .slice A23 l23 c23, .bool t23, .slice B23 m23 d23]) (by kernel_rfl) (fun w' hE hΦ => ?_)
          exact ⟨_, rfl, hΦ.2, hE⟩
      · refine sx_call 119 [.agg #[.bool t0, .slice B0 m0 d0]] 20 (fun _ : Unit => .bool false) _ (by kernel_rfl) (by kernel_rfl) (fun w hE hΦ => (IsZero_any _ (denF (p)) _ hΦ.1.1.1.1.den).mono (fun _ _ h => post_val h (by rw [decide_eq_false (p := (denF (p)) = 0) hz12]))) (fun xx => ?_)
        refine sx_run 5 [(2, .p 2 0), (3, .p 3 0), (4, .p 4 0), (25, .v (.bool false))] [(4, 80, [.v (.bool false), .v (.slice none 0 0), .v (.bool false), .v (.slice none 0 0)]), (3, 80, [.v (.bool s1), .v (.slice A1 l1 c1), .v (.bool t1), .v (.slice B1 m1 d1)]), (2, 80, [.v (.bool s0), .v (.slice A0 l0 c0), .v (.bool t0), .v (.slice B0 m0 d0)])] (by kernel_rfl) (by kernel_rfl) ?_
        refine sx_end (by kernel_rfl) ?_
        refine sx_next ?_
        refine sx_cond_f (by kernel_rfl) ?_
        refine sx_skip ?_
        refine sx_next ?_
        refine sx_seq ?_
        refine sx_draw 12 (by kernel_rfl) (by kernel_rfl) follows_mixed' ?_
        refine st_flt 3 [(2, .p 2 0), (3, .p 3 0), (4, .p 4 0), (34, .v (.agg #[.bool s0, .slice A0 l0 c0])), (35, .v (.agg #[.bool s1, .slice A1 l1 c1, .bool t1, .slice B1 m1 d1]))] [(4, 80, [.v (.bool false), .v (.slice none 0 0), .v (.bool false), .v (.slice none 0 0)]), (3, 80, [.v (.bool s1), .v (.slice A1 l1 c1), .v (.bool t1), .v (.slice B1 m1 d1)]), (2, 80, [.v (.bool s0), .v (.slice A0 l0 c0), .v (.bool t0), .v (.slice B0 m0 d0)])] (by kernel_rfl) (by kernel_rfl) ?_
        refine st_call 77 [.agg #[.bool s1, .slice A1 l1 c1, .bool t1, .slice B1 m1 d1]] 36 shInt _ (by kernel_rfl) (by kernel_rfl) (by kernel_rfl) (fun w hE hΦ => (Den_any _ (q) _ hΦ.1.1.1.1.2).mono (fun _ _ h => post_Int h)) (fun xx => ?_)
        obtain ⟨s24, A24, l24, c24⟩ := xx
        refine st_flt 0 [(2, .p 2 0), (3, .p 3 0), (4, .p 4 0), (34, .v (.agg #[.bool s0, .slice A0 l0 c0])), (36, .v (.agg #[.bool s24, .slice A24 l24 c24]))] [(4, 80, [.v (.bool false), .v (.slice none 0 0), .v (.bool false), .v (.slice none 0 0)]), (3, 80, [.v (.bool s1), .v (.slice A1 l1 c1), .v (.bool t1), .v (.slice B1 m1 d1)]), (2, 80, [.v (.bool s0), .v (.slice A0 l0 c0), .v (.bool t0), .v (.slice B0 m0 d0)])] (by kernel_rfl) (by kernel_rfl) ?_
        refine st_call 138 [.agg #[.bool s0, .slice A0 l0 c0], .agg #[.bool s24, .slice A24 l24 c24]] 37 shInt2 _ (by kernel_rfl) (by kernel_rfl) (by kernel_rfl) (fun w hE hΦ => (cancel_any _ _ ((p).num) (((q).den : Int)) _ hΦ.1.1.1.1.2 hΦ.1.1.1.1.1.1.num hΦ.2 S1 S4 (denI q)).mono (fun _ _ h => post_Int2 h)) (fun xx => ?_)
        obtain ⟨⟨s25, A25, l25, c25⟩, ⟨s26, A26, l26, c26⟩⟩ := xx
        refine st_flt 7 [(2, .p 2 0), (3, .p 3 0), (4, .p 4 0), (5, .p 5 0), (6, .p 6 0)] [(6, 67, [.v (.bool s26), .v (.slice A26 l26 c26)]), (5, 67, [.v (.bool s25), .v (.slice A25 l25 c25)]), (6, 67, [.v (.bool false), .v (.slice none 0 0)]), (5, 67, [.v (.bool false), .v (.slice none 0 0)]), (4, 80, [.v (.bool false), .v (.slice none 0 0), .v (.bool false), .v (.slice none 0 0)]), (3, 80, [.v (.bool s1), .v (.slice A1 l1 c1), .v (.bool t1), .v (.slice B1 m1 d1)]), (2, 80, [.v (.bool s0), .v (.slice A0 l0 c0), .v (.bool t0), .v (.slice B0 m0 d0)])] (by kernel_rfl) (by kernel_rfl) ?_
        refine st_end (by kernel_rfl) ?_
        refine sx_end (by kernel_rfl) ?_
        refine sx_next ?_
        refine sx_seq ?_
        refine sx_draw 12 (by kernel_rfl) (by kernel_rfl) follows_mixed' ?_
        refine st_flt 3 [(4, .p 4 0), (5, .p 5 0), (6, .p 6 0), (42, .v (.agg #[.bool s1, .slice A1 l1 c1])), (43, .v (.agg #[.bool s0, .slice A0 l0 c0, .bool t0, .slice B0 m0 d0]))] [(6, 67, [.v (.bool s26), .v (.slice A26 l26 c26)]), (5, 67, [.v (.bool s25), .v (.slice A25 l25 c25)]), (6, 67, [.v (.bool false), .v (.slice none 0 0)]), (5, 67, [.v (.bool false), .v (.slice none 0 0)]), (4, 80, [.v (.bool false), .v (.slice none 0 0), .v (.bool false), .v (.slice none 0 0)]), (3, 80, [.v (.bool s1), .v (.slice A1 l1 c1), .v (.bool t1), .v (.slice B1 m1 d1)]), (2, 80, [.v (.bool s0), .v (.slice A0 l0 c0), .v (.bool t0), .v (.slice B0 m0 d0)])] (by kernel_rfl) (by kernel_rfl) ?_
        refine st_call 77 [.agg #[.bool s0, .slice A0 l0 c0, .bool t0, .slice B0 m0 d0]] 44 shInt _ (by kernel_rfl) (by kernel_rfl) (by kernel_rfl) (fun w hE hΦ => (Den_any _ (p) _ hΦ.1.1.1.1.1.1.1).mono (fun _ _ h => post_Int h)) (fun xx => ?_)
        obtain ⟨s27, A27, l27, c27⟩ := xx
        refine st_flt 0 [(4, .p 4 0), (5, .p 5 0), (6, .p 6 0), (42, .v (.agg #[.bool s1, .slice A1 l1 c1])), (44, .v (.agg #[.bool s27, .slice A27 l27 c27]))] [(6, 67, [.v (.bool s26), .v (.slice A26 l26 c26)]), (5, 67, [.v (.bool s25), .v (.slice A25 l25 c25)]), (6, 67, [.v (.bool false), .v (.slice none 0 0)]), (5, 67, [.v (.bool false), .v (.slice none 0 0)]), (4, 80, [.v (.bool false), .v (.slice none 0 0), .v (.bool false), .v (.slice none 0 0)]), (3, 80, [.v (.bool s1), .v (.slice A1 l1 c1), .v (.bool t1), .v (.slice B1 m1 d1)]), (2, 80, [.v (.bool s0), .v (.slice A0 l0 c0), .v (.bool t0), .v (.slice B0 m0 d0)])] (by kernel_rfl) (by kernel_rfl) ?_
        refine st_call 138 [.agg #[.bool s1, .slice A1 l1 c1], .agg #[.bool s27, .slice A27 l27 c27]] 45 shInt2 _ (by kernel_rfl) (by kernel_rfl) (by kernel_rfl) (fun w hE hΦ => (cancel_any _ _ ((q).num) (((p).den : Int)) _ hΦ.1.1.1.1.1.1.2 hΦ.1.1.1.1.1.1.1.2.num hΦ.2 S2 S3 (denI p)).mono (fun _ _ h => post_Int2 h)) (fun xx => ?_)
        obtain ⟨⟨s28, A28, l28, c28⟩, ⟨s29, A29, l29, c29⟩⟩ := xx
        refine st_flt 7 [(4, .p 4 0), (5, .p 5 0), (6, .p 6 0), (7, .p 7 0), (8, .p 8 0)] [(8, 67, [.v (.bool s29), .v (.slice A29 l29 c29)]), (7, 67, [.v (.bool s28), .v (.slice A28 l28 c28)]), (8, 67, [.v (.bool false), .v (.slice none 0 0)]), (7, 67, [.v (.bool false), .v (.slice none 0 0)]), (6, 67, [.v (.bool s26), .v (.slice A26 l26 c26)]), (5, 67, [.v (.bool s25), .v (.slice A25 l25 c25)]), (6, 67, [.v (.bool false), .v (.slice none 0 0)]), (5, 67, [.v (.bool false), .v (.slice none 0 0)]), (4, 80, [.v (.bool false), .v (.slice none 0 0), .v (.bool false), .v (.slice none 0 0)]), (3, 80, [.v (.bool s1), .v (.slice A1 l1 c1), .v (.bool t1), .v (.slice B1 m1 d1)]), (2, 80, [.v (.bool s0), .v (.slice A0 l0 c0), .v (.bool t0), .v (.slice B0 m0 d0)])] (by kernel_rfl) (by kernel_rfl) ?_
        refine st_end (by kernel_rfl) ?_
        refine sx_end (by kernel_rfl) ?_
        refine sx_next ?_
        refine sx_seq ?_
        refine sx_draw 8 (by kernel_rfl) (by kernel_rfl) follows_mixed' ?_
        refine st_flt 2 [(4, .p 4 0), (6, .p 6 0), (8, .p 8 0), (48, .v (.agg #[.bool s25, .slice A25 l25 c25])), (49, .v (.agg #[.bool s28, .slice A28 l28 c28]))] [(8, 67, [.v (.bool s29), .v (.slice A29 l29 c29)]), (7, 67, [.v (.bool s28), .v (.slice A28 l28 c28)]), (8, 67, [.v (.bool false), .v (.slice none 0 0)]), (7, 67, [.v (.bool false), .v (.slice none 0 0)]), (6, 67, [.v (.bool s26), .v (.slice A26 l26 c26)]), (5, 67, [.v (.bool s25), .v (.slice A25 l25 c25)]), (6, 67, [.v (.bool false), .v (.slice none 0 0)]), (5, 67, [.v (.bool false), .v (.slice none 0 0)]), (4, 80, [.v (.bool false), .v (.slice none 0 0), .v (.bool false), .v (.slice none 0 0)]), (3, 80, [.v (.bool s1), .v (.slice A1 l1 c1), .v (.bool t1), .v (.slice B1 m1 d1)]), (2, 80, [.v (.bool s0), .v (.slice A0 l0 c0), .v (.bool t0), .v (.slice B0 m0 d0)])] (by kernel_rfl) (by kernel_rfl) ?_
        refine st_call 53 [.agg #[.bool s25, .slice A25 l25 c25], .agg #[.bool s28, .slice A28 l28 c28]] 50 shInt _ (by kernel_rfl) (by kernel_rfl) (by kernel_rfl) (fun w hE hΦ => (Mul_any _ _ (((p).num).tdiv (((Int.gcd ((p).num) (((q).den : Int)) : Nat) : Int))) (((q).num).tdiv (((Int.gcd ((q).num) (((p).den : Int)) : Nat) : Int))) _ hΦ.1.1.2.1 hΦ.2.1 (fit (wlq S1) (by decide)) (fit (wlq S2) (by decide)) (Or.inl (Nat.lt_of_le_of_lt (wlq S1) (by decide)))).mono (fun _ _ h => post_Int h)) (fun xx => ?_)
        obtain ⟨s30, A30, l30, c30⟩ := xx
        refine st_flt 2 [(4, .p 4 0), (50, .v (.agg #[.bool s30, .slice A30 l30 c30])), (51, .v (.agg #[.bool s29, .slice A29 l29 c29])), (52, .v (.agg #[.bool s26, .slice A26 l26 c26]))] [(8, 67, [.v (.bool s29), .v (.slice A29 l29 c29)]), (7, 67, [.v (.bool s28), .v (.slice A28 l28 c28)]), (8, 67, [.v (.bool false), .v (.slice none 0 0)]), (7, 67, [.v (.bool false), .v (.slice none 0 0)]), (6, 67, [.v (.bool s26), .v (.slice A26 l26 c26)]), (5, 67, [.v (.bool s25), .v (.slice A25 l25 c25)]), (6, 67, [.v (.bool false), .v (.slice none 0 0)]), (5, 67, [.v (.bool false), .v (.slice none 0 0)]), (4, 80, [.v (.bool false), .v (.slice none 0 0), .v (.bool false), .v (.slice none 0 0)]), (3, 80, [.v (.bool s1), .v (.slice A1 l1 c1), .v (.bool t1), .v (.slice B1 m1 d1)]), (2, 80, [.v (.bool s0), .v (.slice A0 l0 c0), .v (.bool t0), .v (.slice B0 m0 d0)])] (by kernel_rfl) (by kernel_rfl) ?_
        refine st_call 53 [.agg #[.bool s29, .slice A29 l29 c29], .agg #[.bool s26, .slice A26 l26 c26]] 53 shInt _ (by kernel_rfl) (by kernel_rfl) (by kernel_rfl) (fun w hE hΦ => (Mul_any _ _ ((((p).den : Int)).tdiv (((Int.gcd ((q).num) (((p).den : Int)) : Nat) : Int))) ((((q).den : Int)).tdiv (((Int.gcd ((p).num) (((q).den : Int)) : Nat) : Int))) _ hΦ.1.2.2 hΦ.1.1.1.2.2 (fit (wlq S3) (by decide)) (fit (wlq S4) (by decide)) (Or.inl (Nat.lt_of_le_of_lt (wlq S3) (by decide)))).mono (fun _ _ h => post_Int h)) (fun xx => ?_)
        obtain ⟨s31, A31, l31, c31⟩ := xx
        refine st_flt 0 [(4, .p 4 0), (50, .v (.agg #[.bool s30, .slice A30 l30 c30])), (53, .v (.agg #[.bool s31, .slice A31 l31 c31]))] [(8, 67, [.v (.bool s29), .v (.slice A29 l29 c29)]), (7, 67, [.v (.bool s28), .v (.slice A28 l28 c28)]), (8, 67, [.v (.bool false), .v (.slice none 0 0)]), (7, 67, [.v (.bool false), .v (.slice none 0 0)]), (6, 67, [.v (.bool s26), .v (.slice A26 l26 c26)]), (5, 67, [.v (.bool s25), .v (.slice A25 l25 c25)]), (6, 67, [.v (.bool false), .v (.slice none 0 0)]), (5, 67, [.v (.bool false), .v (.slice none 0 0)]), (4, 80, [.v (.bool false), .v (.slice none 0 0), .v (.bool false), .v (.slice none 0 0)]), (3, 80, [.v (.bool s1), .v (.slice A1 l1 c1), .v (.bool t1), .v (.slice B1 m1 d1)]), (2, 80, [.v (.bool s0), .v (.slice A0 l0 c0), .v (.bool t0), .v (.slice B0 m0 d0)])] (by kernel_rfl) (by kernel_rfl) ?_
        refine st_call 136 [.agg #[.bool s30, .slice A30 l30 c30], .agg #[.bool s31, .slice A31 l31 c31]] 54 shRat _ (by kernel_rfl) (by kernel_rfl) (by kernel_rfl) (fun w hE hΦ => (lowest_any _ _ ((((p).num).tdiv (((Int.gcd ((p).num) (((q).den : Int)) : Nat) : Int))) * (((q).num).tdiv (((Int.gcd ((q).num) (((p).den : Int)) : Nat) : Int)))) (((((p).den : Int)).tdiv (((Int.gcd ((q).num) (((p).den : Int)) : Nat) : Int))) * ((((q).den : Int)).tdiv (((Int.gcd ((p).num) (((q).den : Int)) : Nat) : Int)))) (p * q) _ hΦ.1.2 hΦ.2 (by obtain ⟨k1, k2⟩ := rmul_parts p q; exact ⟨k1, by rw [k2, Int.natCast_mul, ← nat_tdiv, ← nat_tdiv]⟩)).mono (fun _ _ h => post_Rat h)) (fun xx => ?_)
        obtain ⟨s32, A32, l32, c32, t32, B32, m32, d32⟩ := xx
        refine st_flt 1 [(4, .p 4 0)] [(4, 80, [.v (.bool s32), .v (.slice A32 l32 c32), .v (.bool t32), .v (.slice B32 m32 d32)]), (8, 67, [.v (.bool s29), .v (.slice A29 l29 c29)]), (7, 67, [.v (.bool s28), .v (.slice A28 l28 c28)]), (8, 67, [.v (.bool false), .v (.slice none 0 0)]), (7, 67, [.v (.bool false), .v (.slice none 0 0)]), (6, 67, [.v (.bool s26), .v (.slice A26 l26 c26)]), (5, 67, [.v (.bool s25), .v (.slice A25 l25 c25)]), (6, 67, [.v (.bool false), .v (.slice none 0 0)]), (5, 67, [.v (.bool false), .v (.slice none 0 0)]), (4, 80, [.v (.bool false), .v (.slice none 0 0), .v (.bool false), .v (.slice none 0 0)]), (3, 80, [.v (.bool s1), .v (.slice A1 l1 c1), .v (.bool t1), .v (.slice B1 m1 d1)]), (2, 80, [.v (.bool s0), .v (.slice A0 l0 c0), .v (.bool t0), .v (.slice B0 m0 d0)])] (by kernel_rfl) (by kernel_rfl) ?_
        refine st_end (by kernel_rfl) ?_
        refine sx_end (by kernel_rfl) ?_
        refine sx_next ?_
        refine sx_ret ?_
        refine sx_done (v := .agg #[.bool s32, .slice A32 l32 c32, .bool t32, .slice B32 m32 d32]) (by kernel_rfl) (fun w' hE hΦ => ?_)
        exact ⟨_, rfl, hΦ.2, hE⟩

set_option maxRecDepth 100000 in
theorem QInverse_any (a : Value) (q : Rat) (w : World) (ha : RatIs w a q) :
    Calls Tryz.prog 139 #[a] w (RetRat w (q⁻¹)) := by
  obtain ⟨s0, A0, l0, c0, t0, B0, m0, d0, rfl⟩ := ha.shp
  refine sx_enter (Φ := fun w => RatIs w (.agg #[.bool s0, .slice A0 l0 c0, .bool t0, .slice B0 m0 d0]) (q)) Tryz.func139 rfl (by kernel_rfl) (fun w' hf => ha.ext hf) ?_
  refine sx_seq ?_
  refine sx_region ?_
  refine sx_run 2 [(1, .p 1 0), (2, .p 2 0)] [(2, 80, [.v (.bool false), .v (.slice none 0 0), .v (.bool false), .v (.slice none 0 0)]), (1, 80, [.v (.bool s0), .v (.slice A0 l0 c0), .v (.bool t0), .v (.slice B0 m0 d0)])] (by kernel_rfl) (by kernel_rfl) ?_
  refine sx_end (by kernel_rfl) ?_
  refine sx_next ?_
  refine sx_seq ?_
  refine sx_seq ?_
  refine sx_region ?_
  refine sx_run 2 [(1, .p 1 0), (2, .p 2 0), (4, .v (.agg #[.bool s0, .slice A0 l0 c0]))] [(2, 80, [.v (.bool false), .v (.slice none 0 0), .v (.bool false), .v (.slice none 0 0)]), (1, 80, [.v (.bool s0), .v (.slice A0 l0 c0), .v (.bool t0), .v (.slice B0 m0 d0)])] (by kernel_rfl) (by kernel_rfl) ?_
  rcases sign3 ((q).num) with ⟨hz10, hs10⟩ | ⟨hz10, hs10⟩ | ⟨hz10, hs10⟩
  · refine sx_call 159 [.agg #[.bool s0, .slice A0 l0 c0]] 5 (fun _ : Unit => .int .i64 (-1)) _ (by kernel_rfl) (by kernel_rfl) (fun w hE hΦ => (Sign_any _ _ _ hΦ.num).mono (fun _ _ h => post_val h (by rw [hs10]))) (fun xx => ?_)
    refine sx_run 0 [(1, .p 1 0), (2, .p 2 0), (5, .v (.int .i64 (-1)))] [(2, 80, [.v (.bool false), .v (.slice none 0 0), .v (.bool false), .v (.slice none 0 0)]), (1, 80, [.v (.bool s0), .v (.slice A0 l0 c0), .v (.bool t0), .v (.slice B0 m0 d0)])] (by kernel_rfl) (by kernel_rfl) ?_
    refine sx_end (by kernel_rfl) ?_
    refine sx_next ?_
    refine sx_block ?_
    refine sx_seq ?_
    refine sx_region ?_
    refine sx_run 2 [(1, .p 1 0), (2, .p 2 0), (5, .v (.int .i64 (-1))), (6, .v (.bool false))] [(2, 80, [.v (.bool false), .v (.slice none 0 0), .v (.bool false), .v (.slice none 0 0)]), (1, 80, [.v (.bool s0), .v (.slice A0 l0 c0), .v (.bool t0), .v (.slice B0 m0 d0)])] (by kernel_rfl) (by kernel_rfl) ?_
    refine sx_end (by kernel_rfl) ?_
    refine sx_next ?_
    refine sx_cond_f (by kernel_rfl) ?_
    refine sx_seq ?_
    refine sx_region ?_
    refine sx_run 2 [(1, .p 1 0), (2, .p 2 0), (9, .v (.bool true))] [(2, 80, [.v (.bool false), .v (.slice none 0 0), .v (.bool false), .v (.slice none 0 0)]), (1, 80, [.v (.bool s0), .v (.slice A0 l0 c0), .v (.bool t0), .v (.slice B0 m0 d0)])] (by kernel_rfl) (by kernel_rfl) ?_
    refine sx_end (by kernel_rfl) ?_
    refine sx_next ?_
    refine sx_cond_t (by kernel_rfl) ?_
    refine sx_seq ?_
    refine sx_draw 8 (by kernel_rfl) (by kernel_rfl) follows_mixed' ?_
    refine st_flt 1 [(1, .p 1 0), (2, .p 2 0), (11, .v (.agg #[.bool s0, .slice A0 l0 c0, .bool t0, .slice B0 m0 d0]))] [(2, 80, [.v (.bool false), .v (.slice none 0 0), .v (.bool false), .v (.slice none 0 0)]), (1, 80, [.v (.bool s0), .v (.slice A0 l0 c0), .v (.bool t0), .v (.slice B0 m0 d0)])] (by kernel_rfl) (by kernel_rfl) ?_
    refine st_call 77 [.agg #[.bool s0, .slice A0 l0 c0, .bool t0, .slice B0 m0 d0]] 12 shInt _ (by kernel_rfl) (by kernel_rfl) (by kernel_rfl) (fun w hE hΦ => (Den_any _ (q) _ hΦ.1).mono (fun _ _ h => post_Int h)) (fun xx => ?_)
    obtain ⟨s11, A11, l11, c11⟩ := xx
    refine st_flt 0 [(1, .p 1 0), (2, .p 2 0), (12, .v (.agg #[.bool s11, .slice A11 l11 c11]))] [(2, 80, [.v (.bool false), .v (.slice none 0 0), .v (.bool false), .v (.slice none 0 0)]), (1, 80, [.v (.bool s0), .v (.slice A0 l0 c0), .v (.bool t0), .v (.slice B0 m0 d0)])] (by kernel_rfl) (by kernel_rfl) ?_
    refine st_call 118 [.agg #[.bool s11, .slice A11 l11 c11]] 13 shInt _ (by kernel_rfl) (by kernel_rfl) (by kernel_rfl) (fun w hE hΦ => (Neg_any _ (((q).den : Int)) _ hΦ.2).mono (fun _ _ h => post_Int h)) (fun xx => ?_)
    obtain ⟨s12, A12, l12, c12⟩ := xx
    refine st_flt 2 [(1, .p 1 0), (2, .p 2 0), (13, .v (.agg #[.bool s12, .slice A12 l12 c12])), (15, .v (.agg #[.bool s0, .slice A0 l0 c0]))] [(2, 80, [.v (.bool false), .v (.slice none 0 0), .v (.bool false), .v (.slice none 0 0)]), (1, 80, [.v (.bool s0), .v (.slice A0 l0 c0), .v (.bool t0), .v (.slice B0 m0 d0)])] (by kernel_rfl) (by kernel_rfl) ?_
    refine st_call 118 [.agg #[.bool s0, .slice A0 l0 c0]] 16 shInt _ (by kernel_rfl) (by kernel_rfl) (by kernel_rfl) (fun w hE hΦ => (Neg_any _ ((q).num) _ hΦ.1.1.1.num).mono (fun _ _ h => post_Int h)) (fun xx => ?_)
    obtain ⟨s13, A13, l13, c13⟩ := xx
    refine st_flt 0 [(1, .p 1 0), (2, .p 2 0), (13, .v (.agg #[.bool s12, .slice A12 l12 c12])), (16, .v (.agg #[.bool s13, .slice A13 l13 c13]))] [(2, 80, [.v (.bool false), .v (.slice none 0 0), .v (.bool false), .v (.slice none 0 0)]), (1, 80, [.v (.bool s0), .v (.slice A0 l0 c0), .v (.bool t0), .v (.slice B0 m0 d0)])] (by kernel_rfl) (by kernel_rfl) ?_
    refine st_call 136 [.agg #[.bool s12, .slice A12 l12 c12], .agg #[.bool s13, .slice A13 l13 c13]] 17 shRat _ (by kernel_rfl) (by kernel_rfl) (by kernel_rfl) (fun w hE hΦ => (lowest_any _ _ (-(((q).den : Int))) (-((q).num)) (q⁻¹) _ hΦ.1.2 hΦ.2 (rinv_neg hz10)).mono (fun _ _ h => post_Rat h)) (fun xx => ?_)
    obtain ⟨s14, A14, l14, c14, t14, B14, m14, d14⟩ := xx
    refine st_flt 1 [(1, .p 1 0), (2, .p 2 0)] [(2, 80, [.v (.bool s14), .v (.slice A14 l14 c14), .v (.bool t14), .v (.slice B14 m14 d14)]), (2, 80, [.v (.bool false), .v (.slice none 0 0), .v (.bool false), .v (.slice none 0 0)]), (1, 80, [.v (.bool s0), .v (.slice A0 l0 c0), .v (.bool t0), .v (.slice B0 m0 d0)])] (by kernel_rfl) (by kernel_rfl) ?_
    refine st_end (by kernel_rfl) ?_
    refine sx_end (by kernel_rfl) ?_
    refine sx_next ?_
    refine sx_ret ?_
    refine sx_in_ret ?_
    refine sx_then_ret ?_
    refine sx_done (v := .agg #[.bool s14, .slice A14 l14 c14, .bool t14, .slice B14 m14 d14]) (by kernel_rfl) (fun w' hE hΦ => ?_)
    exact ⟨_, rfl, hΦ.2, hE⟩
  · refine sx_call 159 [.agg #[.bool s0, .slice A0 l0 c0]] 5 (fun _ : Unit => .int .i64 0) _ (by kernel_rfl) (by kernel_rfl) (fun w hE hΦ => (Sign_any _ _ _ hΦ.num).mono (fun _ _ h => post_val h (by rw [hs10]))) (fun xx => ?_)
    refine sx_run 0 [(1, .p 1 0), (2, .p 2 0), (5, .v (.int .i64 0))] [(2, 80, [.v (.bool false), .v (.slice none 0 0), .v (.bool false), .v (.slice none 0 0)]), (1, 80, [.v (.bool s0), .v (.slice A0 l0 c0), .v (.bool t0), .v (.slice B0 m0 d0)])] (by kernel_rfl) (by kernel_rfl) ?_
    refine sx_end (by kernel_rfl) ?_
    refine sx_next ?_
    refine sx_block ?_
    refine sx_seq ?_
    refine sx_region ?_
    refine sx_run 2 [(1, .p 1 0), (2, .p 2 0), (5, .v (.int .i64 0)), (6, .v (.bool true))] [(2, 80, [.v (.bool false), .v (.slice none 0 0), .v (.bool false), .v (.slice none 0 0)]), (1, 80, [.v (.bool s0), .v (.slice A0 l0 c0), .v (.bool t0), .v (.slice B0 m0 d0)])] (by kernel_rfl) (by kernel_rfl) ?_
    refine sx_end (by kernel_rfl) ?_
    refine sx_next ?_
    refine sx_cond_t (by kernel_rfl) ?_
    refine sx_seq ?_
    refine sx_region ?_
    refine sx_run 2 [(1, .p 1 0), (2, .p 2 0)] [(2, 80, [.v (.bool false), .v (.slice none 0 0), .v (.bool false), .v (.slice none 0 0)]), (1, 80, [.v (.bool s0), .v (.slice A0 l0 c0), .v (.bool t0), .v (.slice B0 m0 d0)])] (by kernel_rfl) (by kernel_rfl) ?_
    refine sx_end (by kernel_rfl) ?_
    refine sx_next ?_
    refine sx_ret ?_
    refine sx_in_ret ?_
    refine sx_then_ret ?_
    refine sx_done (v := .agg #[.bool false, .slice none 0 0, .bool false, .slice none 0 0]) (by kernel_rfl) (fun w' hE hΦ => ?_)
    exact ⟨_, rfl, by rw [rinv_zero hz10]; exact RatIs.nil _, hE⟩
  · refine sx_call 159 [.agg #[.bool s0, .slice A0 l0 c0]] 5 (fun _ : Unit => .int .i64 1) _ (by kernel_rfl) (by kernel_rfl) (fun w hE hΦ => (Sign_any _ _ _ hΦ.num).mono (fun _ _ h => post_val h (by rw [hs10]))) (fun xx => ?_)
    refine sx_run 0 [(1, .p 1 0), (2, .p 2 0), (5, .v (.int .i64 1))] [(2, 80, [.v (.bool false), .v (.slice none 0 0), .v (.bool false), .v (.slice none 0 0)]), (1, 80, [.v (.bool s0), .v (.slice A0 l0 c0), .v (.bool t0), .v (.slice B0 m0 d0)])] (by kernel_rfl) (by kernel_rfl) ?_
    refine sx_end (by kernel_rfl) ?_
    refine sx_next ?_
    refine sx_block ?_
    refine sx_seq ?_
    refine sx_region ?_
    refine sx_run 2 [(1, .p 1 0), (2, .p 2 0), (5, .v (.int .i64 1)), (6, .v (.bool false))] [(2, 80, [.v (.bool false), .v (.slice none 0 0), .v (.bool false), .v (.slice none 0 0)]), (1, 80, [.v (.bool s0), .v (.slice A0 l0 c0), .v (.bool t0), .v (.slice B0 m0 d0)])] (by kernel_rfl) (by kernel_rfl) ?_
    refine sx_end (by kernel_rfl) ?_
    refine sx_next ?_
    refine sx_cond_f (by kernel_rfl) ?_
    refine sx_seq ?_
    refine sx_region ?_
    refine sx_run 2 [(1, .p 1 0), (2, .p 2 0), (9, .v (.bool false))] [(2, 80, [.v (.bool false), .v (.slice none 0 0), .v (.bool false), .v (.slice none 0 0)]), (1, 80, [.v (.bool s0), .v (.slice A0 l0 c0), .v (.bool t0), .v (.slice B0 m0 d0)])] (by kernel_rfl) (by kernel_rfl) ?_
    refine sx_end (by kernel_rfl) ?_
    refine sx_next ?_
    refine sx_cond_f (by kernel_rfl) ?_
    refine sx_skip ?_
    refine sx_out ?_
    refine sx_next ?_
    refine sx_seq ?_
    refine sx_draw 6 (by kernel_rfl) (by kernel_rfl) follows_mixed' ?_
    refine st_flt 1 [(1, .p 1 0), (2, .p 2 0), (18, .v (.agg #[.bool s0, .slice A0 l0 c0, .bool t0, .slice B0 m0 d0]))] [(2, 80, [.v (.bool false), .v (.slice none 0 0), .v (.bool false), .v (.slice none 0 0)]), (1, 80, [.v (.bool s0), .v (.slice A0 l0 c0), .v (.bool t0), .v (.slice B0 m0 d0)])] (by kernel_rfl) (by kernel_rfl) ?_
    refine st_call 77 [.agg #[.bool s0, .slice A0 l0 c0, .bool t0, .slice B0 m0 d0]] 19 shInt _ (by kernel_rfl) (by kernel_rfl) (by kernel_rfl) (fun w hE hΦ => (Den_any _ (q) _ hΦ.1).mono (fun _ _ h => post_Int h)) (fun xx => ?_)
    obtain ⟨s15, A15, l15, c15⟩ := xx
    refine st_flt 2 [(2, .p 2 0), (19, .v (.agg #[.bool s15, .slice A15 l15 c15])), (21, .v (.agg #[.bool s0, .slice A0 l0 c0]))] [(2, 80, [.v (.bool false), .v (.slice none 0 0), .v (.bool false), .v (.slice none 0 0)]), (1, 80, [.v (.bool s0), .v (.slice A0 l0 c0), .v (.bool t0), .v (.slice B0 m0 d0)])] (by kernel_rfl) (by kernel_rfl) ?_
    refine st_call 136 [.agg #[.bool s15, .slice A15 l15 c15], .agg #[.bool s0, .slice A0 l0 c0]] 22 shRat _ (by kernel_rfl) (by kernel_rfl) (by kernel_rfl) (fun w hE hΦ => (lowest_any _ _ (((q).den : Int)) ((q).num) (q⁻¹) _ hΦ.2 hΦ.1.1.num (rinv_pos hz10)).mono (fun _ _ h => post_Rat h)) (fun xx => ?_)
    obtain ⟨s16, A16, l16, c16, t16, B16, m16, d16⟩ := xx
    refine st_flt 1 [(2, .p 2 0)] [(2, 80, [.v (.bool s16), .v (.slice A16 l16 c16), .v (.bool t16), .v (.slice B16 m16 d16)]), (2, 80, [.v (.bool false), .v (.slice none 0 0), .v (.bool false), .v (.slice none 0 0)]), (1, 80, [.v (.bool s0), .v (.slice A0 l0 c0), .v (.bool t0), .v (.slice B0 m0 d0)])] (by kernel_rfl) (by kernel_rfl) ?_
    refine st_end (by kernel_rfl) ?_
    refine sx_end (by kernel_rfl) ?_
    refine sx_next ?_
    refine sx_ret ?_
    refine sx_done (v := .agg #[.bool s16, .slice A16 l16 c16, .bool t16, .slice B16 m16 d16]) (by kernel_rfl) (fun w' hE hΦ => ?_)
    exact ⟨_, rfl, hΦ.2, hE⟩

set_option maxRecDepth 100000 in
theorem QDiv_any (a b : Value) (p q : Rat) (w : World) (hg : Glob w) (ha : RatIs w a p) (hb : RatIs w b q) (hp : QFits p 38) (hq : QFits q 38) :
    Calls Tryz.prog 95 #[a, b] w (RetRat w (p / q)) := by
  obtain ⟨s0, A0, l0, c0, t0, B0, m0, d0, rfl⟩ := ha.shp
  obtain ⟨s1, A1, l1, c1, t1, B1, m1, d1, rfl⟩ := hb.shp
  refine sx_enter (Φ := fun w => ((RatIs w (.agg #[.bool s0, .slice A0 l0 c0, .bool t0, .slice B0 m0 d0]) (p) ∧ RatIs w (.agg #[.bool s1, .slice A1 l1 c1, .bool t1, .slice B1 m1 d1]) (q)) ∧ Glob w)) Tryz.func95 rfl (by kernel_rfl) (fun w' hf => ⟨⟨ha.ext hf, hb.ext hf⟩, hg.ext hf⟩) ?_
  refine sx_seq ?_
  refine sx_region ?_
  refine sx_run 3 [(2, .p 2 0), (3, .p 3 0), (4, .p 4 0)] [(4, 80, [.v (.bool false), .v (.slice none 0 0), .v (.bool false), .v (.slice none 0 0)]), (3, 80, [.v (.bool s1), .v (.slice A1 l1 c1), .v (.bool t1), .v (.slice B1 m1 d1)]), (2, 80, [.v (.bool s0), .v (.slice A0 l0 c0), .v (.bool t0), .v (.slice B0 m0 d0)])] (by kernel_rfl) (by kernel_rfl) ?_
  refine sx_end (by kernel_rfl) ?_
  refine sx_next ?_
  refine sx_seq ?_
  refine sx_draw 5 (by kernel_rfl) (by kernel_rfl) follows_mixed' ?_
  refine st_flt 2 [(4, .p 4 0), (5, .v (.agg #[.bool s0, .slice A0 l0 c0, .bool t0, .slice B0 m0 d0])), (6, .v (.agg #[.bool s1, .slice A1 l1 c1, .bool t1, .slice B1 m1 d1]))] [(4, 80, [.v (.bool false), .v (.slice none 0 0), .v (.bool false), .v (.slice none 0 0)]), (3, 80, [.v (.bool s1), .v (.slice A1 l1 c1), .v (.bool t1), .v (.slice B1 m1 d1)]), (2, 80, [.v (.bool s0), .v (.slice A0 l0 c0), .v (.bool t0), .v (.slice B0 m0 d0)])] (by kernel_rfl) (by kernel_rfl) ?_
  refine st_call 139 [.agg #[.bool s1, .slice A1 l1 c1, .bool t1, .slice B1 m1 d1]] 7 shRat _ (by kernel_rfl) (by kernel_rfl) (by kernel_rfl) (fun w hE hΦ => (QInverse_any _ (q) _ hΦ.1.2).mono (fun _ _ h => post_Rat h)) (fun xx => ?_)
  obtain ⟨s10, A10, l10, c10, t10, B10, m10, d10⟩ := xx
  refine st_flt 0 [(4, .p 4 0), (5, .v (.agg #[.bool s0, .slice A0 l0 c0, .bool t0, .slice B0 m0 d0])), (7, .v (.agg #[.bool s10, .slice A10 l10 c10, .bool t10, .slice B10 m10 d10]))] [(4, 80, [.v (.bool false), .v (.slice none 0 0), .v (.bool false), .v (.slice none 0 0)]), (3, 80, [.v (.bool s1), .v (.slice A1 l1 c1), .v (.bool t1), .v (.slice B1 m1 d1)]), (2, 80, [.v (.bool s0), .v (.slice A0 l0 c0), .v (.bool t0), .v (.slice B0 m0 d0)])] (by kernel_rfl) (by kernel_rfl) ?_
  refine st_call 93 [.agg #[.bool s0, .slice A0 l0 c0, .bool t0, .slice B0 m0 d0], .agg #[.bool s10, .slice A10 l10 c10, .bool t10, .slice B10 m10 d10]] 8 shRat _ (by kernel_rfl) (by kernel_rfl) (by kernel_rfl) (fun w hE hΦ => (QMul_any _ _ (p) ((q)⁻¹) _ hΦ.1.2 hΦ.1.1.1 hΦ.2 hp hq.inv).mono (fun _ _ h => post_Rat (by rw [← Rat.div_def] at h; exact h))) (fun xx => ?_)
  obtain ⟨s11, A11, l11, c11, t11, B11, m11, d11⟩ := xx
  refine st_flt 1 [(4, .p 4 0)] [(4, 80, [.v (.bool s11), .v (.slice A11 l11 c11), .v (.bool t11), .v (.slice B11 m11 d11)]), (4, 80, [.v (.bool false), .v (.slice none 0 0), .v (.bool false), .v (.slice none 0 0)]), (3, 80, [.v (.bool s1), .v (.slice A1 l1 c1), .v (.bool t1), .v (.slice B1 m1 d1)]), (2, 80, [.v (.bool s0), .v (.slice A0 l0 c0), .v (.bool t0), .v (.slice B0 m0 d0)])] (by kernel_rfl) (by kernel_rfl) ?_
  refine st_end (by kernel_rfl) ?_
  refine sx_end (by kernel_rfl) ?_
  refine sx_next ?_
  refine sx_ret ?_
  refine sx_done (v := .agg #[.bool s11, .slice A11 l11 c11, .bool t11, .slice B11 m11 d11]) (by kernel_rfl) (fun w' hE hΦ => ?_)
  exact ⟨_, rfl, hΦ.2, hE⟩

end Go.Proofs.YtndafmjcelgnbaaGreatDoor

namespace Go.Proofs.YtndafmjcelgnbaaGreatDoor
open Go.RowKit

theorem nDigits_le : ∀ (k u : Nat), 1 ≤ k → u < 10 ^ k → Lib.nDigits u ≤ k
  | 0, _, h, _ => by omega
  | k + 1, u, _, h => by
    by_cases h0 : u < 10
    · rw [Lib.nDigits_small h0]; omega
    · rw [Lib.nDigits_big h0]
      have hk : 1 ≤ k := by
        rcases Nat.eq_zero_or_pos k with e | e
        · subst e; simp at h; omega
        · exact e
      have h1 : u / 10 < 10 ^ k := by
        rw [Nat.pow_succ] at h
        exact Nat.div_lt_of_lt_mul (by rw [Nat.mul_comm]; exact h)
      have := nDigits_le k (u / 10) hk h1
      omega
theorem itoa_le {z : Int} {k : Nat} (hk : 1 ≤ k) (h : z.natAbs < 10 ^ k) : (Lib.itoa z).length ≤ k + 1 := by
  have h1 := nDigits_le k z.natAbs hk h
  have e : 0 ≤ z → z.toNat = z.natAbs := fun h => by omega
  unfold Lib.itoa
  split
  · simp only [List.length_cons, Lib.decDigits_length]
    omega
  · rename_i hz
    rw [Lib.decDigits_length]
    first
      | omega
      | (rw [e (by omega)]; omega)
theorem pow_wl {n k : Nat} (h : wl n ≤ k) : n < 10 ^ (20 * k) := by
  have h1 : n < W64 ^ k := wl_le_iff.1 h
  have h2 : W64 ^ k ≤ (10 ^ 20) ^ k := Nat.pow_le_pow_left (by rw [W64_eq]; decide) k
  rw [← Nat.pow_mul] at h2
  omega
theorem RString_any (a : Value) (q : Rat) (w : World) (hg : Glob w) (ha : RatIs w a q) (hn : PrtOk q.num.natAbs) (hd : PrtOk q.den) : Calls Tryz.prog 65 #[a] w (RetV w (.string ⟨(ratText q).toArray⟩)) := by
  by_cases h : q.den = 1
  · have := RString_whole a q w hg ha h hn
    unfold ratText
    rw [if_pos h]; exact this
  · refine RString_frac a q w hg ha hn hd h ?_
    unfold PrtOk at hn
    have h1 := pow_wl (show wl q.num.natAbs ≤ 128 by omega)
    have h2 := itoa_le (z := q.num) (k := 20 * 128) (by decide) h1
    omega
theorem valF_none {l : List UInt8} (h : readF l = none) : valF l = 0 := by unfold valF; rw [h]; rfl
theorem valF_some {l : List UInt8} {q : Rat} (h : readF l = some q) : valF l = q := by unfold valF; rw [h]; rfl
theorem valF_fits {l : List UInt8} (hl : l.length ≤ 570) : QFits (valF l) 30 := by
  cases h : readF l with
  | none => rw [valF_none h]; exact ⟨by rw [show (0 : Rat).num.natAbs = 0 from rfl, wl_zero]; omega, Nat.le_trans (wl_one.2 (by rw [W64_eq]; decide)) (by decide)⟩
  | some q => rw [valF_some h]; exact readF_small h hl
theorem QFits.up {q : Rat} {k m : Nat} (h : QFits q k) (hk : k ≤ m) : QFits q m := ⟨Nat.le_trans h.1 hk, Nat.le_trans h.2 hk⟩
end Go.Proofs.YtndafmjcelgnbaaGreatDoor

namespace Go.Proofs.YtndafmjcelgnbaaGreatDoor
open Go.RowKit Go.Sort

theorem zeros48_room {w wb : World} (h : w.alloc (.cells (Array.replicate 48 (.int .u8 0)) 156) = wb) : Room .u8 156 wb w.heap.size 48 (nats []) := by
  subst h
  refine ⟨⟨List.replicate 48 (.int .u8 0), fun v hv => ⟨0, List.eq_of_mem_replicate hv⟩, ?_⟩, _, heap_alloc_new w _, by simp⟩
  rw [heap_alloc_new]; rfl
theorem Room.bytes {T : TypeId} {w : World} {b cap : Nat} {l : List UInt8} (h : Room .u8 T w b cap (nats l)) : ∀ j (hj : j < l.length), w.cell? ((⟨b, 0, none⟩ : Addr).add j) = some (.int .u8 (l[j].toNat : Int)) := fun j hj => by
  have := h.1.cell (i := j) (by rw [nats_length]; exact hj)
  rw [Lib.add_plain, Nat.zero_add, this]
  simp [nats, hj]
theorem itoa18 {z : Int} (h : -4000000000000000000 ≤ z) (h1 : z ≤ 4000000000000000000) : (Lib.itoa z).length ≤ 20 := by
  have hn : ∀ u : Nat, u ≤ 4000000000000000000 → Lib.nDigits u ≤ 19 := fun u hu => by
    rcases Nat.eq_zero_or_pos u with e | e
    · subst e; rw [Lib.nDigits_small (by omega)]; omega
    · have h2 := Lib.lt_pow_nDigits u
      rcases Nat.lt_or_ge 19 (Lib.nDigits u) with hlt | hge
      · exfalso
        have h3 := Lib.nDigits_unique 19 (10 ^ 19)
        have h4 := (Lib.numDigits_eq u e (by omega))
        have := h4.2
        have h5 := h4.1
        split at h5
        · rename_i h6
          have h7 : Lib.l10 (Lib.bitLen u) = 19 := by omega
          rw [h7] at h6
          omega
        · omega
      · exact hge
  unfold Lib.itoa
  split
  · simp only [List.length_cons, Lib.decDigits_length]
    have := hn z.natAbs (by omega)
    omega
  · have e : z.toNat = z.natAbs := by omega
    rw [Lib.decDigits_length]
    have := hn z.natAbs (by omega)
    first | omega | (rw [e]; omega)

set_option maxHeartbeats 4000000 in
set_option maxRecDepth 100000 in
theorem formatShort_core (N n' : Int) (D M G d' : Nat) (w : World) (hg : Glob w) (hM : max N (-N) = (M : Int)) (hN : -4000000000000000000 ≤ N) (hN1 : N ≤ 4000000000000000000) (hD : 2 ≤ D) (hD1 : D ≤ 4000000000000000000) (hG : Nat.gcd M D = G) (hG0 : 1 ≤ G)
    (q1 : N.tdiv (G : Int) = n') (q2 : (D : Int).tdiv (G : Int) = (d' : Int)) (hn : -4000000000000000000 ≤ n') (hn1 : n' ≤ 4000000000000000000) (hd : 1 ≤ d') (hd1 : d' ≤ 4000000000000000000) (t : List UInt8) (ht : t = if d' = 1 then Lib.itoa n' else Lib.itoa n' ++ [47] ++ Lib.itoa (d' : Int)) :
    Calls Tryz.prog 90 #[.int .i64 N, .int .i64 (D : Int)] w (RetV w (.string ⟨t.toArray⟩)) := by
  have h1 : ¬ ((D : Int) < 0) := by omega
  have hMb : M ≤ 4000000000000000000 := by omega
  have h2 : ((D : Int) != 1) = true := by simp; omega
  have g0 : ((G : Int) == 0) = false := by simp; omega
  have g1 : ¬ (G : Int) = 0 := by omega
  have q3 : (D : Int) / (G : Int) = (d' : Int) := by rw [← q2, Int.tdiv_eq_ediv_of_nonneg (by omega)]
  have HF := Lib.hid (FormatInt_any n' · · (by omega) (by omega))
  have HG := Lib.hid hg
  have HGc := Lib.hid (gcd64_any M D · (by omega) (by omega))
  rw [hG] at HGc
  by_cases e1 : d' = 1
  · have HT2 : Hid (t = Lib.itoa n') := by unfold Hid; rw [ht, if_pos e1]
    generalize Lib.itoa n' = t1 at *
    clear hg hG ht
    go_enter Tryz.func90, Tryz.ntmps90
    go_wp2_with (go_at_call 133; refine (HGc.out _).mono ?_; rintro e w1 ⟨rfl, n, rfl⟩)
    go_region
    go_wp2_with fail
    refine (HF.out _ (HG.out.ext ((Fr.refl _ _).drewN n).drew)).mono ?_
    rintro e w2 ⟨rfl, hF⟩
    have HE : Hid (Ext w w2) := ((Fr.refl _ w).drewN n).drew.trans hF
    clear hF
    go_wp2
    go_ret
    exact ⟨by rw [HT2.out]; rfl, HE.out⟩
  · have e2 : ((d' : Int) == 1) = false := by simp; omega
    have e3 : ¬ (d' : Int) = 1 := by omega
    have HT2 : Hid (t = Lib.itoa n' ++ [47] ++ Lib.itoa (d' : Int)) := by unfold Hid; rw [ht, if_neg e1]
    have hl1 := itoa18 hn hn1
    have hl2 := itoa18 (z := (d' : Int)) (by omega) (by omega)
    have HA1 := Lib.hid (fun b W (hgW : ∀ w', Fr (· = b) W w' → Glob w') hB => AppendInt_room 156 b 48 0 n' [] W rfl hgW (by omega) (by omega) hB (by omega))
    have HA2 := Lib.hid (fun b n W l (hnl : l.length = n) (hgW : ∀ w', Fr (· = b) W w' → Glob w') hB (h27 : n ≤ 27) => AppendInt_room 156 b 48 n (d' : Int) l W hnl hgW (by omega) (by omega) hB (by omega))
    simp only [List.nil_append] at HA1
    generalize Lib.itoa n' = t1 at *
    generalize Lib.itoa (d' : Int) = t2 at *
    clear hg hG ht
    go_enter Tryz.func90, Tryz.ntmps90
    go_wp2_with (go_at_call 133; refine (HGc.out _).mono ?_; rintro e w1 ⟨rfl, n, rfl⟩)
    go_region
    have HEr : Hid (Ext w (w.drewN n).drew) := ((Fr.refl _ w).drewN n).drew
    generalize (w.drewN n).drew = wr at *
    have hal : Tryz.prog.arrayLen 156 = 48 := by simp [Program.arrayLen, Tryz.underlying156]
    have hsl : ∀ W, (Instr.sliceAt 156 (.pointer (some ⟨wr.heap.size, 0, none⟩)) none (some (.int .i64 0)) none).run Tryz.prog W = .ok (.slice (some ⟨wr.heap.size, 0, none⟩) 0 48) W := fun W => by
      rw [run_sliceAt_array_h W 156 ⟨wr.heap.size, 0, none⟩ (by simp [Program.arrayLen, Program.elem, Tryz.underlying156]) .i64 0 (by omega) (by rw [hal]; omega)]
      go_simp
    go_wp2_with fail
    generalize hwb : World.alloc wr _ = wb
    have HR := Lib.hid (zeros48_room hwb)
    have HEb : Hid (Ext wr wb) := hwb ▸ (Fr.refl _ _).alloc _
    have HL : Hid (w.heap.size ≤ wr.heap.size) := HEr.out.size
    clear hwb hal hsl
    generalize wr.heap.size = g at *
    have HGl : Hid (∀ W, Fr (· = g) wb W → Glob W) := fun W hF => HG.out.ext (((HEr.out.trans HEb.out).mono (fun _ _ h => h.elim)).next hF (fun i hi e => by have := HL.out; omega))
    refine (HA1.out g wb HGl.out HR.out).mono ?_
    rintro e w3 ⟨rfl, hB3, hF3⟩
    have HB3 := Lib.hid hB3
    have HF3 := Lib.hid hF3
    obtain ⟨k, hk⟩ : ∃ k, t1.length = k := ⟨_, rfl⟩
    rw [hk] at hl1 ⊢
    have HK := Lib.hid hk
    clear hB3 hF3 hk
    have HS : Hid (Shows .u8 (w3.alloc (.cells #[.int .u8 47] 5)) (some ⟨w3.heap.size, 0, none⟩) (nats [47])) := (Own.new w3 5 .u8 [47] []).shows0
    go_wp2_with (at_builtin; refine Hid.out ?_)
    refine Lib.hid ?_
    refine wpList_append_room rfl _ _ _ rfl _ 156 .u8 1 Tryz.underlying133 info8 g 48 k 1 1 (some ⟨w3.heap.size, 0, none⟩) rfl rfl (nats t1) (nats [47]) (by rw [nats_length]; exact HK.out) rfl (by simp [nats]) (HB3.out.ext ((Fr.refl _ _).alloc _)) HS.out (by omega) ?_
    intro w4 hB4 hF4
    have HF4 : Hid (Fr (· = g) wb w4) := HF3.out.trans (((Fr.refl _ _).alloc _).trans hF4)
    have HB4 : Hid (Room .u8 156 w4 g 48 (nats (t1 ++ [47]))) := by unfold Hid; rw [nats_append]; exact hB4
    clear hB4 hF4
    go_wp2_with fail
    refine (HA2.out g (k + 1) w4 (t1 ++ [47]) (by rw [List.length_append, HK.out]; rfl) (fun W hF => HGl.out W (HF4.out.trans hF)) HB4.out (by omega)).mono ?_
    rw [← HT2.out]
    rintro e w5 ⟨rfl, hB5, hF5⟩
    have hc := Room.bytes hB5
    have hcv := run_convert_bytes_back (P := Tryz.prog) w5 133 9 5 ⟨g, 0, none⟩ 48 t Tryz.underlying133 Tryz.underlying5 Tryz.underlying9 hc
    have HE : Hid (Ext w w5) := ((HEr.out.trans HEb.out)).next (HF4.out.trans hF5) (fun i hi e => by have := HL.out; omega)
    clear hB5 hF5 hc
    go_wp2
    go_ret
    exact ⟨rfl, HE.out⟩

set_option maxHeartbeats 4000000 in
set_option maxRecDepth 100000 in
theorem formatShort_coreN (N n' : Int) (D M G d' : Nat) (w : World) (hg : Glob w) (hM : max N (-N) = (M : Int)) (hN : -4000000000000000000 ≤ N) (hN1 : N ≤ 4000000000000000000) (hD : 2 ≤ D) (hD1 : D ≤ 4000000000000000000) (hG : Nat.gcd M D = G) (hG0 : 1 ≤ G)
    (q1 : N.tdiv (G : Int) = n') (q2 : (D : Int).tdiv (G : Int) = (d' : Int)) (hn : -4000000000000000000 ≤ n') (hn1 : n' ≤ 4000000000000000000) (hd : 1 ≤ d') (hd1 : d' ≤ 4000000000000000000) (t : List UInt8) (ht : t = if d' = 1 then Lib.itoa n' else Lib.itoa n' ++ [47] ++ Lib.itoa (d' : Int)) :
    Calls Tryz.prog 90 #[.int .i64 (-N), .int .i64 (-(D : Int))] w (RetV w (.string ⟨t.toArray⟩)) := by
  have h1 : -(D : Int) < 0 := by omega
  have hMb : M ≤ 4000000000000000000 := by omega
  have h2 : ((D : Int) != 1) = true := by simp; omega
  have g0 : ((G : Int) == 0) = false := by simp; omega
  have g1 : ¬ (G : Int) = 0 := by omega
  have q3 : (D : Int) / (G : Int) = (d' : Int) := by rw [← q2, Int.tdiv_eq_ediv_of_nonneg (by omega)]
  have HF := Lib.hid (FormatInt_any n' · · (by omega) (by omega))
  have HG := Lib.hid hg
  have HGc := Lib.hid (gcd64_any M D · (by omega) (by omega))
  rw [hG] at HGc
  by_cases e1 : d' = 1
  · have HT2 : Hid (t = Lib.itoa n') := by unfold Hid; rw [ht, if_pos e1]
    generalize Lib.itoa n' = t1 at *
    clear hg hG ht
    go_enter Tryz.func90, Tryz.ntmps90
    go_wp2_with (go_at_call 133; refine (HGc.out _).mono ?_; rintro e w1 ⟨rfl, n, rfl⟩)
    go_region
    go_wp2_with fail
    refine (HF.out _ (HG.out.ext ((Fr.refl _ _).drewN n).drew)).mono ?_
    rintro e w2 ⟨rfl, hF⟩
    have HE : Hid (Ext w w2) := ((Fr.refl _ w).drewN n).drew.trans hF
    clear hF
    go_wp2
    go_ret
    exact ⟨by rw [HT2.out]; rfl, HE.out⟩
  · have e2 : ((d' : Int) == 1) = false := by simp; omega
    have e3 : ¬ (d' : Int) = 1 := by omega
    have HT2 : Hid (t = Lib.itoa n' ++ [47] ++ Lib.itoa (d' : Int)) := by unfold Hid; rw [ht, if_neg e1]
    have hl1 := itoa18 hn hn1
    have hl2 := itoa18 (z := (d' : Int)) (by omega) (by omega)
    have HA1 := Lib.hid (fun b W (hgW : ∀ w', Fr (· = b) W w' → Glob w') hB => AppendInt_room 156 b 48 0 n' [] W rfl hgW (by omega) (by omega) hB (by omega))
    have HA2 := Lib.hid (fun b n W l (hnl : l.length = n) (hgW : ∀ w', Fr (· = b) W w' → Glob w') hB (h27 : n ≤ 27) => AppendInt_room 156 b 48 n (d' : Int) l W hnl hgW (by omega) (by omega) hB (by omega))
    simp only [List.nil_append] at HA1
    generalize Lib.itoa n' = t1 at *
    generalize Lib.itoa (d' : Int) = t2 at *
    clear hg hG ht
    go_enter Tryz.func90, Tryz.ntmps90
    go_wp2_with (go_at_call 133; refine (HGc.out _).mono ?_; rintro e w1 ⟨rfl, n, rfl⟩)
    go_region
    have HEr : Hid (Ext w (w.drewN n).drew) := ((Fr.refl _ w).drewN n).drew
    generalize (w.drewN n).drew = wr at *
    have hal : Tryz.prog.arrayLen 156 = 48 := by simp [Program.arrayLen, Tryz.underlying156]
    have hsl : ∀ W, (Instr.sliceAt 156 (.pointer (some ⟨wr.heap.size, 0, none⟩)) none (some (.int .i64 0)) none).run Tryz.prog W = .ok (.slice (some ⟨wr.heap.size, 0, none⟩) 0 48) W := fun W => by
      rw [run_sliceAt_array_h W 156 ⟨wr.heap.size, 0, none⟩ (by simp [Program.arrayLen, Program.elem, Tryz.underlying156]) .i64 0 (by omega) (by rw [hal]; omega)]
      go_simp
    go_wp2_with fail
    generalize hwb : World.alloc wr _ = wb
    have HR := Lib.hid (zeros48_room hwb)
    have HEb : Hid (Ext wr wb) := hwb ▸ (Fr.refl _ _).alloc _
    have HL : Hid (w.heap.size ≤ wr.heap.size) := HEr.out.size
    clear hwb hal hsl
    generalize wr.heap.size = g at *
    have HGl : Hid (∀ W, Fr (· = g) wb W → Glob W) := fun W hF => HG.out.ext (((HEr.out.trans HEb.out).mono (fun _ _ h => h.elim)).next hF (fun i hi e => by have := HL.out; omega))
    refine (HA1.out g wb HGl.out HR.out).mono ?_
    rintro e w3 ⟨rfl, hB3, hF3⟩
    have HB3 := Lib.hid hB3
    have HF3 := Lib.hid hF3
    obtain ⟨k, hk⟩ : ∃ k, t1.length = k := ⟨_, rfl⟩
    rw [hk] at hl1 ⊢
    have HK := Lib.hid hk
    clear hB3 hF3 hk
    have HS : Hid (Shows .u8 (w3.alloc (.cells #[.int .u8 47] 5)) (some ⟨w3.heap.size, 0, none⟩) (nats [47])) := (Own.new w3 5 .u8 [47] []).shows0
    go_wp2_with (at_builtin; refine Hid.out ?_)
    refine Lib.hid ?_
    refine wpList_append_room rfl _ _ _ rfl _ 156 .u8 1 Tryz.underlying133 info8 g 48 k 1 1 (some ⟨w3.heap.size, 0, none⟩) rfl rfl (nats t1) (nats [47]) (by rw [nats_length]; exact HK.out) rfl (by simp [nats]) (HB3.out.ext ((Fr.refl _ _).alloc _)) HS.out (by omega) ?_
    intro w4 hB4 hF4
    have HF4 : Hid (Fr (· = g) wb w4) := HF3.out.trans (((Fr.refl _ _).alloc _).trans hF4)
    have HB4 : Hid (Room .u8 156 w4 g 48 (nats (t1 ++ [47]))) := by unfold Hid; rw [nats_append]; exact hB4
    clear hB4 hF4
    go_wp2_with fail
    refine (HA2.out g (k + 1) w4 (t1 ++ [47]) (by rw [List.length_append, HK.out]; rfl) (fun W hF => HGl.out W (HF4.out.trans hF)) HB4.out (by omega)).mono ?_
    rw [← HT2.out]
    rintro e w5 ⟨rfl, hB5, hF5⟩
    have hc := Room.bytes hB5
    have hcv := run_convert_bytes_back (P := Tryz.prog) w5 133 9 5 ⟨g, 0, none⟩ 48 t Tryz.underlying133 Tryz.underlying5 Tryz.underlying9 hc
    have HE : Hid (Ext w w5) := ((HEr.out.trans HEb.out)).next (HF4.out.trans hF5) (fun i hi e => by have := HL.out; omega)
    clear hB5 hF5 hc
    go_wp2
    go_ret
    exact ⟨rfl, HE.out⟩

set_option maxHeartbeats 1000000 in
theorem formatShort_oneN (n : Int) (w : World) (hg : Glob w) (h0 : -9223372036854775807 ≤ n) (h1 : n ≤ 9223372036854775807) :
    Calls Tryz.prog 90 #[.int .i64 (-n), .int .i64 (-1)] w (RetV w (.string ⟨(Lib.itoa n).toArray⟩)) := by
  have H := Lib.hid (FormatInt_any n w hg (by omega) h1)
  generalize Lib.itoa n = t at *
  clear hg
  go_enter Tryz.func90, Tryz.ntmps90
  go_wp2_with fail
  refine H.out.mono ?_
  rintro e w1 ⟨rfl, hF⟩
  have HF := Lib.hid hF
  clear hF
  go_wp2
  go_ret
  exact ⟨rfl, HF.out⟩

theorem mkRat_parts' (N : Int) (D : Nat) (hD : D ≠ 0) : (mkRat N D).num = N.tdiv ((Nat.gcd N.natAbs D : Nat) : Int) ∧ (mkRat N D).den = D / Nat.gcd N.natAbs D := by
  rw [← Rat.normalize_eq_mkRat hD, Rat.normalize_eq]
  exact ⟨(Int.tdiv_eq_ediv_of_dvd (Int.ofNat_dvd_left.2 (Nat.gcd_dvd_left _ _))).symm, rfl⟩
/-- the positive part of formatShort -/
theorem formatShort_parts (N : Int) (D : Nat) (q : Rat) (hN : N.natAbs ≤ 4000000000000000000) (hD : 2 ≤ D) (hD1 : D ≤ 4000000000000000000) (hq : mkRat N D = q) :
    ∃ (n' : Int) (M G d' : Nat), max N (-N) = (M : Int) ∧ Nat.gcd M D = G ∧ 1 ≤ G ∧ N.tdiv (G : Int) = n' ∧ (D : Int).tdiv (G : Int) = (d' : Int) ∧ -4000000000000000000 ≤ n' ∧ n' ≤ 4000000000000000000 ∧ 1 ≤ d' ∧ d' ≤ 4000000000000000000 ∧ ratText q = if d' = 1 then Lib.itoa n' else Lib.itoa n' ++ [47] ++ Lib.itoa (d' : Int) := by
  obtain ⟨e1, e2⟩ := mkRat_parts' N D (by omega)
  have hG : 1 ≤ Nat.gcd N.natAbs D := Nat.gcd_pos_of_pos_right _ (by omega)
  have hd : 1 ≤ D / Nat.gcd N.natAbs D := Nat.div_pos (Nat.le_of_dvd (by omega) (Nat.gcd_dvd_right _ _)) hG
  have hd2 : D / Nat.gcd N.natAbs D ≤ D := Nat.div_le_self _ _
  have hn : (N.tdiv ((Nat.gcd N.natAbs D : Nat) : Int)).natAbs ≤ N.natAbs := by rw [Int.natAbs_tdiv]; exact Nat.div_le_self _ _
  refine ⟨_, N.natAbs, _, D / Nat.gcd N.natAbs D, by omega, rfl, hG, rfl, ?_, by omega, by omega, hd, by omega, ?_⟩
  · rw [Int.tdiv_eq_ediv_of_nonneg (by omega)]; rfl
  · rw [← hq]
    unfold ratText
    rw [e1, e2]
theorem formatShort_any (N D : Int) (q : Rat) (w : World) (hg : Glob w) (hN : N.natAbs ≤ 4000000000000000000) (hD : D.natAbs ≤ 4000000000000000000) (h0 : D ≠ 0) (hq : Rat.divInt N D = q) :
    Calls Tryz.prog 90 #[.int .i64 N, .int .i64 D] w (RetV w (.string ⟨(ratText q).toArray⟩)) := by
  rcases (by omega : 0 < D ∨ D < 0) with hp | hp
  · obtain ⟨d, rfl⟩ : ∃ d : Nat, D = (d : Int) := ⟨D.natAbs, by omega⟩
    have hm : mkRat N d = q := by rw [← hq]; rfl
    by_cases h1 : d = 1
    · subst h1
      have e : ratText q = Lib.itoa N := by
        rw [← hm]
        unfold ratText
        have := mkRat_parts' N 1 (by decide)
        simp only [Nat.gcd_one_right] at this
        rw [this.1, this.2]
        simp
      rw [e]
      exact formatShort_one N w hg (by omega) (by omega)
    · obtain ⟨n', M, G, d', k1, k2, k3, k4, k5, k6, k7, k8, k9, k10⟩ := formatShort_parts N d q hN (by omega) (by omega) hm
      exact formatShort_core N n' d M G d' w hg k1 (by omega) (by omega) (by omega) (by omega) k2 k3 k4 k5 k6 k7 k8 k9 _ k10
  · obtain ⟨d, rfl⟩ : ∃ d : Nat, D = -(d : Int) := ⟨D.natAbs, by omega⟩
    obtain ⟨m, rfl⟩ : ∃ m : Int, N = -m := ⟨-N, by omega⟩
    have hm : mkRat m d = q := by rw [← hq, Rat.neg_divInt_neg]; rfl
    by_cases h1 : d = 1
    · subst h1
      have e : ratText q = Lib.itoa m := by
        rw [← hm]
        unfold ratText
        have := mkRat_parts' m 1 (by decide)
        simp only [Nat.gcd_one_right] at this
        rw [this.1, this.2]
        simp
      rw [e]
      exact formatShort_oneN m w hg (by omega) (by omega)
    · obtain ⟨n', M, G, d', k1, k2, k3, k4, k5, k6, k7, k8, k9, k10⟩ := formatShort_parts m d q (by omega) (by omega) (by omega) hm
      exact formatShort_coreN m n' d M G d' w hg k1 (by omega) (by omega) (by omega) (by omega) k2 k3 k4 k5 k6 k7 k8 k9 _ k10
end Go.Proofs.YtndafmjcelgnbaaGreatDoor

namespace Go.Proofs.YtndafmjcelgnbaaGreatDoor
open Go.RowKit

end Go.Proofs.YtndafmjcelgnbaaGreatDoor

namespace Go.Proofs.YtndafmjcelgnbaaGreatDoor
open Go.RowKit

abbrev Sh5 := Int × Int × Int × Int × Bool
def shTwo (x : Sh5) : Value := .tuple #[.agg #[.int .i64 x.1, .int .i64 x.2.1], .agg #[.int .i64 x.2.2.1, .int .i64 x.2.2.2.1], .bool x.2.2.2.2]
theorem post_Two {w w' : World} {e : Ending} {l l' : List UInt8} (h : RetTwoShort w l l' e w') : PostC shTwo (fun x _ => x.2.2.2.2 = true → ShortIs l x.1 x.2.1 true ∧ ShortIs l' x.2.2.1 x.2.2.2.1 true) w e w' := by
  obtain ⟨a, b, a', b', ok, rfl, hS, hE⟩ := h
  exact ⟨(a, b, a', b', ok), rfl, hE, BoxN.pure hS⟩
/-- two short numbers -/
theorem short_two {l l' : List UInt8} {a b a' b' : Int} (h : ShortIs l a b true ∧ ShortIs l' a' b' true) :
    ∃ p q : Rat, valF l = p ∧ valF l' = q ∧ p.num = a ∧ (p.den : Int) = b ∧ q.num = a' ∧ (q.den : Int) = b' ∧ -1000000000 < a ∧ a < 1000000000 ∧ 1 ≤ b ∧ b < 1000000000 ∧ -1000000000 < a' ∧ a' < 1000000000 ∧ 1 ≤ b' ∧ b' < 1000000000 := by
  obtain ⟨p, h1, h2, h3, h4, h5, h6, h7⟩ := h.1.ok
  obtain ⟨q, k1, k2, k3, k4, k5, k6, k7⟩ := h.2.ok
  exact ⟨p, q, valF_some h1, valF_some k1, h2, h3, k2, k3, h4, h5, h6, h7, k4, k5, k6, k7⟩
/-- products of short numbers -/
theorem mul_bound {a b : Int} (h1 : -1000000000 < a) (h2 : a < 1000000000) (h3 : -1000000000 < b) (h4 : b < 1000000000) : -1000000000000000000 ≤ a * b ∧ a * b ≤ 1000000000000000000 := by
  have ha : a.natAbs ≤ 1000000000 := by omega
  have hb : b.natAbs ≤ 1000000000 := by omega
  have h := Nat.mul_le_mul ha hb
  rw [← Int.natAbs_mul] at h
  omega
theorem wrap_id {x : Int} (h1 : -9223372036854775808 ≤ x) (h2 : x ≤ 9223372036854775807) : IntKind.i64.wrap x = x := by
  rw [IntKind.wrap_i64]
  omega
theorem wAdd {l l' : List UInt8} {a b a' b' : Int} (h : ShortIs l a b true ∧ ShortIs l' a' b' true) :
    ∃ N D : Int, IntKind.i64.wrap (IntKind.i64.wrap (a * b') + IntKind.i64.wrap (a' * b)) = N ∧ IntKind.i64.wrap (b * b') = D ∧ 1 ≤ D ∧ N.natAbs ≤ 4000000000000000000 ∧ D.natAbs ≤ 4000000000000000000 ∧ Rat.divInt N D = valF l + valF l' := by
  obtain ⟨p, q, rfl, rfl, e1, e2, e3, e4, b1, b2, b3, b4, b5, b6, b7, b8⟩ := short_two h
  have m1 := mul_bound b1 b2 (show -1000000000 < b' by omega) b8
  have m2 := mul_bound b5 b6 (show -1000000000 < b by omega) b4
  have m3 := mul_bound (show -1000000000 < b by omega) b4 (show -1000000000 < b' by omega) b8
  have m4 : 1 ≤ b * b' := Int.mul_pos (by omega) (by omega)
  refine ⟨_, _, rfl, rfl, ?_⟩
  rw [wrap_id (x := a * b') (by omega) (by omega), wrap_id (x := a' * b) (by omega) (by omega), wrap_id (x := b * b') (by omega) (by omega), wrap_id (by omega) (by omega)]
  refine ⟨m4, by omega, by omega, ?_⟩
  rw [← e1, ← e2, ← e3, ← e4]
  exact rat_add_frac _ _
theorem wMul {l l' : List UInt8} {a b a' b' : Int} (h : ShortIs l a b true ∧ ShortIs l' a' b' true) :
    ∃ N D : Int, IntKind.i64.wrap (a * a') = N ∧ IntKind.i64.wrap (b * b') = D ∧ 1 ≤ D ∧ N.natAbs ≤ 4000000000000000000 ∧ D.natAbs ≤ 4000000000000000000 ∧ Rat.divInt N D = valF l * valF l' := by
  obtain ⟨p, q, rfl, rfl, e1, e2, e3, e4, b1, b2, b3, b4, b5, b6, b7, b8⟩ := short_two h
  have m1 := mul_bound b1 b2 b5 b6
  have m3 := mul_bound (show -1000000000 < b by omega) b4 (show -1000000000 < b' by omega) b8
  have m4 : 1 ≤ b * b' := Int.mul_pos (by omega) (by omega)
  refine ⟨_, _, rfl, rfl, ?_⟩
  rw [wrap_id (x := a * a') (by omega) (by omega), wrap_id (x := b * b') (by omega) (by omega)]
  refine ⟨m4, by omega, by omega, ?_⟩
  rw [← e1, ← e2, ← e3, ← e4]
  exact rat_mul_frac _ _
theorem wDiv {l l' : List UInt8} {a b a' b' : Int} (h : ShortIs l a b true ∧ ShortIs l' a' b' true) (h0 : a' ≠ 0) :
    ∃ N D : Int, IntKind.i64.wrap (a * b') = N ∧ IntKind.i64.wrap (b * a') = D ∧ D ≠ 0 ∧ N.natAbs ≤ 4000000000000000000 ∧ D.natAbs ≤ 4000000000000000000 ∧ Rat.divInt N D = valF l / valF l' := by
  obtain ⟨p, q, rfl, rfl, e1, e2, e3, e4, b1, b2, b3, b4, b5, b6, b7, b8⟩ := short_two h
  have m1 := mul_bound b1 b2 (show -1000000000 < b' by omega) b8
  have m3 := mul_bound (show -1000000000 < b by omega) b4 b5 b6
  have m4 : b * a' ≠ 0 := Int.mul_ne_zero (by omega) h0
  refine ⟨_, _, rfl, rfl, ?_⟩
  rw [wrap_id (x := a * b') (by omega) (by omega), wrap_id (x := b * a') (by omega) (by omega)]
  refine ⟨m4, by omega, by omega, ?_⟩
  rw [← e1, ← e2, ← e3, ← e4]
  exact rat_div_frac _ _
theorem prt_add {p q : Rat} (hp : QFits p 30) (hq : QFits q 30) : PrtOk (p + q).num.natAbs ∧ PrtOk (p + q).den := by
  have e : mkRat (p.num * q.den + q.num * p.den) (p.den * q.den) = p + q := by rw [← rat_add_frac, ← Int.natCast_mul]; rfl
  obtain ⟨k1, k2⟩ := mkRat_parts' (p.num * q.den + q.num * p.den) (p.den * q.den) (Nat.mul_ne_zero p.den_nz q.den_nz)
  rw [e] at k1 k2
  have h1 := wlq (y := ((Nat.gcd (p.num * q.den + q.num * p.den).natAbs (p.den * q.den) : Nat) : Int)) (wla (a := 60) (wlm hp.1 (wlc hq.2)) (wlm hq.1 (wlc hp.2)))
  have h2 := wl_mul p.den q.den
  have h3 : wl (p.den * q.den) ≤ 60 := by have := hp.2; have := hq.2; omega
  have h4 := wld (m := Nat.gcd (p.num * q.den + q.num * p.den).natAbs (p.den * q.den)) h3
  unfold PrtOk
  rw [k1, k2]
  omega
theorem prt_mul {p q : Rat} (hp : QFits p 30) (hq : QFits q 30) : PrtOk (p * q).num.natAbs ∧ PrtOk (p * q).den := by
  obtain ⟨k1, k2⟩ := rmul_parts p q
  have h1 := wlm (wlq (y := ((Int.gcd p.num q.den : Nat) : Int)) hp.1) (wlq (y := ((Int.gcd q.num p.den : Nat) : Int)) hq.1)
  have h2 := wl_mul (p.den / Int.gcd q.num p.den) (q.den / Int.gcd p.num q.den)
  have h3 := wld (m := Int.gcd q.num p.den) hp.2
  have h4 := wld (m := Int.gcd p.num q.den) hq.2
  unfold PrtOk
  rw [k1, k2]
  omega
theorem prt_div {p q : Rat} (hp : QFits p 30) (hq : QFits q 30) : PrtOk (p / q).num.natAbs ∧ PrtOk (p / q).den := by
  rw [Rat.div_def]; exact prt_mul hp hq.inv

set_option maxRecDepth 100000 in
theorem TAdd_any (s t : ByteArray) (w : World) (hg : Glob w) (hs : (bytes s).length ≤ 570) (ht : (bytes t).length ≤ 570) :
    Calls Tryz.prog 41 #[.string s, .string t] w (RetV w (.string ⟨(ratText (valF (bytes s) + valF (bytes t))).toArray⟩)) := by
  have hs8 : s.size ≤ 1099511627776 := by rw [bytes_length] at hs; omega
  have ht8 : t.size ≤ 1099511627776 := by rw [bytes_length] at ht; omega
  have fa := valF_fits hs
  have fb := valF_fits ht
  have hP := prt_add fa fb
  refine sx_enter (Φ := fun w => Glob w) Tryz.func41 rfl (by kernel_rfl) (fun w' hf => hg.ext hf) ?_
  refine sx_seq ?_
  refine sx_region ?_
  refine sx_run 1 [(0, .v (.string s)), (1, .v (.string t)), (4, .v (.string ⟨#[]⟩))] [] (by kernel_rfl) (by kernel_rfl) ?_
  refine sx_end (by kernel_rfl) ?_
  refine sx_next ?_
  refine sx_seq ?_
  refine sx_seq ?_
  refine sx_region ?_
  refine sx_run 2 [(0, .v (.string s)), (1, .v (.string t)), (4, .v (.string ⟨#[]⟩)), (9, .v (.string s)), (10, .v (.string t))] [] (by kernel_rfl) (by kernel_rfl) ?_
  refine sx_call 85 [.string s, .string t] 11 shTwo _ (by kernel_rfl) (by kernel_rfl) (fun w hE hΦ => (readTwo_any s t _ hs8 ht8).mono (fun _ _ h => post_Two h)) (fun xx => ?_)
  obtain ⟨x10, y10, u10, v10, ok10⟩ := xx
  cases ok10
  · refine sx_run 9 [(0, .v (.string s)), (1, .v (.string t)), (4, .v (.string ⟨#[]⟩)), (5, .p 5 0), (6, .p 6 0), (7, .v (.bool false))] [(6, 107, [.v (.int .i64 u10), .v (.int .i64 v10)]), (5, 107, [.v (.int .i64 x10), .v (.int .i64 y10)])] (by kernel_rfl) (by kernel_rfl) ?_
    refine sx_end (by kernel_rfl) ?_
    refine sx_next ?_
    refine sx_seq ?_
    refine sx_region ?_
    refine sx_run 1 [(0, .v (.string s)), (1, .v (.string t)), (4, .v (.string ⟨#[]⟩)), (5, .p 5 0), (6, .p 6 0), (15, .v (.bool false))] [(6, 107, [.v (.int .i64 u10), .v (.int .i64 v10)]), (5, 107, [.v (.int .i64 x10), .v (.int .i64 y10)])] (by kernel_rfl) (by kernel_rfl) ?_
    refine sx_end (by kernel_rfl) ?_
    refine sx_next ?_
    refine sx_cond_f (by kernel_rfl) ?_
    refine sx_skip ?_
    refine sx_next ?_
    refine sx_seq ?_
    refine sx_region ?_
    refine sx_run 1 [(1, .v (.string t)), (4, .v (.string ⟨#[]⟩)), (33, .v (.string s))] [] (by kernel_rfl) (by kernel_rfl) ?_
    refine sx_call 87 [.string s] 34 shRat _ (by kernel_rfl) (by kernel_rfl) (fun w hE hΦ => (value_any s _ hΦ.1 (ReadOk.of_len hs)).mono (fun _ _ h => post_Rat h)) (fun xx => ?_)
    obtain ⟨s11, A11, l11, c11, t11, B11, m11, d11⟩ := xx
    refine sx_run 1 [(4, .v (.string ⟨#[]⟩)), (34, .v (.agg #[.bool s11, .slice A11 l11 c11, .bool t11, .slice B11 m11 d11])), (35, .v (.string t))] [] (by kernel_rfl) (by kernel_rfl) ?_
    refine sx_call 87 [.string t] 36 shRat _ (by kernel_rfl) (by kernel_rfl) (fun w hE hΦ => (value_any t _ hΦ.1.1 (ReadOk.of_len ht)).mono (fun _ _ h => post_Rat h)) (fun xx => ?_)
    obtain ⟨s12, A12, l12, c12, t12, B12, m12, d12⟩ := xx
    refine sx_run 0 [(4, .v (.string ⟨#[]⟩)), (34, .v (.agg #[.bool s11, .slice A11 l11 c11, .bool t11, .slice B11 m11 d11])), (36, .v (.agg #[.bool s12, .slice A12 l12 c12, .bool t12, .slice B12 m12 d12]))] [] (by kernel_rfl) (by kernel_rfl) ?_
    refine sx_call 91 [.agg #[.bool s11, .slice A11 l11 c11, .bool t11, .slice B11 m11 d11], .agg #[.bool s12, .slice A12 l12 c12, .bool t12, .slice B12 m12 d12]] 37 shRat _ (by kernel_rfl) (by kernel_rfl) (fun w hE hΦ => (QAdd_any _ _ (valF (bytes s)) (valF (bytes t)) _ hΦ.1.1.1 hΦ.1.2 hΦ.2 (fa.up (by decide)) (fb.up (by decide))).mono (fun _ _ h => post_Rat h)) (fun xx => ?_)
    obtain ⟨s13, A13, l13, c13, t13, B13, m13, d13⟩ := xx
    refine sx_run 0 [(4, .v (.string ⟨#[]⟩)), (37, .v (.agg #[.bool s13, .slice A13 l13 c13, .bool t13, .slice B13 m13 d13]))] [] (by kernel_rfl) (by kernel_rfl) ?_
    refine sx_call 65 [.agg #[.bool s13, .slice A13 l13 c13, .bool t13, .slice B13 m13 d13]] 38 (fun _ : Unit => .string ⟨(ratText (valF (bytes s) + valF (bytes t))).toArray⟩) _ (by kernel_rfl) (by kernel_rfl) (fun w hE hΦ => (RString_any _ (valF (bytes s) + valF (bytes t)) _ hΦ.1.1.1.1 hΦ.2 hP.1 hP.2).mono (fun _ _ h => post_val h rfl)) (fun xx => ?_)
    refine sx_run 1 [(4, .v (.string ⟨(ratText (valF (bytes s) + valF (bytes t))).toArray⟩))] [] (by kernel_rfl) (by kernel_rfl) ?_
    refine sx_end (by kernel_rfl) ?_
    refine sx_next ?_
    refine sx_ret ?_
    refine sx_done (v := .string ⟨(ratText (valF (bytes s) + valF (bytes t))).toArray⟩) (by kernel_rfl) (fun w' hE hΦ => ?_)
    exact ⟨rfl, hE⟩
  · refine sx_run 9 [(0, .v (.string s)), (1, .v (.string t)), (4, .v (.string ⟨#[]⟩)), (5, .p 5 0), (6, .p 6 0), (7, .v (.bool true))] [(6, 107, [.v (.int .i64 u10), .v (.int .i64 v10)]), (5, 107, [.v (.int .i64 x10), .v (.int .i64 y10)])] (by kernel_rfl) (by kernel_rfl) ?_
    refine sx_end (by kernel_rfl) ?_
    refine sx_next ?_
    refine sx_seq ?_
    refine sx_region ?_
    refine sx_run 1 [(0, .v (.string s)), (1, .v (.string t)), (4, .v (.string ⟨#[]⟩)), (5, .p 5 0), (6, .p 6 0), (15, .v (.bool true))] [(6, 107, [.v (.int .i64 u10), .v (.int .i64 v10)]), (5, 107, [.v (.int .i64 x10), .v (.int .i64 y10)])] (by kernel_rfl) (by kernel_rfl) ?_
    refine sx_end (by kernel_rfl) ?_
    refine sx_next ?_
    refine sx_cond_t (by kernel_rfl) ?_
    refine sx_seq ?_
    refine sx_region ?_
    refine sx_run 16 [(0, .v (.string s)), (1, .v (.string t)), (4, .v (.string ⟨#[]⟩)), (26, .v (.int .i64 (IntKind.i64.wrap ((IntKind.i64.wrap (x10 * v10)) + (IntKind.i64.wrap (u10 * y10)))))), (31, .v (.int .i64 (IntKind.i64.wrap (y10 * v10))))] [] (by kernel_rfl) (by kernel_rfl) ?_
    refine sx_call 90 [.int .i64 (IntKind.i64.wrap ((IntKind.i64.wrap (x10 * v10)) + (IntKind.i64.wrap (u10 * y10)))), .int .i64 (IntKind.i64.wrap (y10 * v10))] 32 (fun _ : Unit => .string ⟨(ratText (valF (bytes s) + valF (bytes t))).toArray⟩) _ (by kernel_rfl) (by kernel_rfl) (fun w hE hΦ => by obtain ⟨N, D, e1, e2, d0, n1, n2, e3⟩ := wAdd (hΦ.2 rfl); rw [e1, e2]; exact (formatShort_any N D _ _ hΦ.1 n1 n2 (by omega) e3).mono (fun _ _ h => post_val h rfl)) (fun xx => ?_)
    refine sx_run 1 [(0, .v (.string s)), (1, .v (.string t)), (4, .v (.string ⟨(ratText (valF (bytes s) + valF (bytes t))).toArray⟩))] [] (by kernel_rfl) (by kernel_rfl) ?_
    refine sx_end (by kernel_rfl) ?_
    refine sx_next ?_
    refine sx_ret ?_
    refine sx_then_ret ?_
    refine sx_done (v := .string ⟨(ratText (valF (bytes s) + valF (bytes t))).toArray⟩) (by kernel_rfl) (fun w' hE hΦ => ?_)
    exact ⟨rfl, hE⟩

set_option maxRecDepth 100000 in
theorem TMul_any (s t : ByteArray) (w : World) (hg : Glob w) (hs : (bytes s).length ≤ 570) (ht : (bytes t).length ≤ 570) :
    Calls Tryz.prog 43 #[.string s, .string t] w (RetV w (.string ⟨(ratText (valF (bytes s) * valF (bytes t))).toArray⟩)) := by
  have hs8 : s.size ≤ 1099511627776 := by rw [bytes_length] at hs; omega
  have ht8 : t.size ≤ 1099511627776 := by rw [bytes_length] at ht; omega
  have fa := valF_fits hs
  have fb := valF_fits ht
  have hP := prt_mul fa fb
  refine sx_enter (Φ := fun w => Glob w) Tryz.func43 rfl (by kernel_rfl) (fun w' hf => hg.ext hf) ?_
  refine sx_seq ?_
  refine sx_region ?_
  refine sx_run 1 [(0, .v (.string s)), (1, .v (.string t)), (4, .v (.string ⟨#[]⟩))] [] (by kernel_rfl) (by kernel_rfl) ?_
  refine sx_end (by kernel_rfl) ?_
  refine sx_next ?_
  refine sx_seq ?_
  refine sx_seq ?_
  refine sx_region ?_
  refine sx_run 2 [(0, .v (.string s)), (1, .v (.string t)), (4, .v (.string ⟨#[]⟩)), (9, .v (.string s)), (10, .v (.string t))] [] (by kernel_rfl) (by kernel_rfl) ?_
  refine sx_call 85 [.string s, .string t] 11 shTwo _ (by kernel_rfl) (by kernel_rfl) (fun w hE hΦ => (readTwo_any s t _ hs8 ht8).mono (fun _ _ h => post_Two h)) (fun xx => ?_)
  obtain ⟨x10, y10, u10, v10, ok10⟩ := xx
  cases ok10
  · refine sx_run 9 [(0, .v (.string s)), (1, .v (.string t)), (4, .v (.string ⟨#[]⟩)), (5, .p 5 0), (6, .p 6 0), (7, .v (.bool false))] [(6, 107, [.v (.int .i64 u10), .v (.int .i64 v10)]), (5, 107, [.v (.int .i64 x10), .v (.int .i64 y10)])] (by kernel_rfl) (by kernel_rfl) ?_
    refine sx_end (by kernel_rfl) ?_
    refine sx_next ?_
    refine sx_seq ?_
    refine sx_region ?_
    refine sx_run 1 [(0, .v (.string s)), (1, .v (.string t)), (4, .v (.string ⟨#[]⟩)), (5, .p 5 0), (6, .p 6 0), (15, .v (.bool false))] [(6, 107, [.v (.int .i64 u10), .v (.int .i64 v10)]), (5, 107, [.v (.int .i64 x10), .v (.int .i64 y10)])] (by kernel_rfl) (by kernel_rfl) ?_
    refine sx_end (by kernel_rfl) ?_
    refine sx_next ?_
    refine sx_cond_f (by kernel_rfl) ?_
    refine sx_skip ?_
    refine sx_next ?_
    refine sx_seq ?_
    refine sx_region ?_
    refine sx_run 1 [(1, .v (.string t)), (4, .v (.string ⟨#[]⟩)), (27, .v (.string s))] [] (by kernel_rfl) (by kernel_rfl) ?_
    refine sx_call 87 [.string s] 28 shRat _ (by kernel_rfl) (by kernel_rfl) (fun w hE hΦ => (value_any s _ hΦ.1 (ReadOk.of_len hs)).mono (fun _ _ h => post_Rat h)) (fun xx => ?_)
    obtain ⟨s11, A11, l11, c11, t11, B11, m11, d11⟩ := xx
    refine sx_run 1 [(4, .v (.string ⟨#[]⟩)), (28, .v (.agg #[.bool s11, .slice A11 l11 c11, .bool t11, .slice B11 m11 d11])), (29, .v (.string t))] [] (by kernel_rfl) (by kernel_rfl) ?_
    refine sx_call 87 [.string t] 30 shRat _ (by kernel_rfl) (by kernel_rfl) (fun w hE hΦ => (value_any t _ hΦ.1.1 (ReadOk.of_len ht)).mono (fun _ _ h => post_Rat h)) (fun xx => ?_)
    obtain ⟨s12, A12, l12, c12, t12, B12, m12, d12⟩ := xx
    refine sx_run 0 [(4, .v (.string ⟨#[]⟩)), (28, .v (.agg #[.bool s11, .slice A11 l11 c11, .bool t11, .slice B11 m11 d11])), (30, .v (.agg #[.bool s12, .slice A12 l12 c12, .bool t12, .slice B12 m12 d12]))] [] (by kernel_rfl) (by kernel_rfl) ?_
    refine sx_call 93 [.agg #[.bool s11, .slice A11 l11 c11, .bool t11, .slice B11 m11 d11], .agg #[.bool s12, .slice A12 l12 c12, .bool t12, .slice B12 m12 d12]] 31 shRat _ (by kernel_rfl) (by kernel_rfl) (fun w hE hΦ => (QMul_any _ _ (valF (bytes s)) (valF (bytes t)) _ hΦ.1.1.1 hΦ.1.2 hΦ.2 (fa.up (by decide)) (fb.up (by decide))).mono (fun _ _ h => post_Rat h)) (fun xx => ?_)
    obtain ⟨s13, A13, l13, c13, t13, B13, m13, d13⟩ := xx
    refine sx_run 0 [(4, .v (.string ⟨#[]⟩)), (31, .v (.agg #[.bool s13, .slice A13 l13 c13, .bool t13, .slice B13 m13 d13]))] [] (by kernel_rfl) (by kernel_rfl) ?_
    refine sx_call 65 [.agg #[.bool s13, .slice A13 l13 c13, .bool t13, .slice B13 m13 d13]] 32 (fun _ : Unit => .string ⟨(ratText (valF (bytes s) * valF (bytes t))).toArray⟩) _ (by kernel_rfl) (by kernel_rfl) (fun w hE hΦ => (RString_any _ (valF (bytes s) * valF (bytes t)) _ hΦ.1.1.1.1 hΦ.2 hP.1 hP.2).mono (fun _ _ h => post_val h rfl)) (fun xx => ?_)
    refine sx_run 1 [(4, .v (.string ⟨(ratText (valF (bytes s) * valF (bytes t))).toArray⟩))] [] (by kernel_rfl) (by kernel_rfl) ?_
    refine sx_end (by kernel_rfl) ?_
    refine sx_next ?_
    refine sx_ret ?_
    refine sx_done (v := .string ⟨(ratText (valF (bytes s) * valF (bytes t))).toArray⟩) (by kernel_rfl) (fun w' hE hΦ => ?_)
    exact ⟨rfl, hE⟩
  · refine sx_run 9 [(0, .v (.string s)), (1, .v (.string t)), (4, .v (.string ⟨#[]⟩)), (5, .p 5 0), (6, .p 6 0), (7, .v (.bool true))] [(6, 107, [.v (.int .i64 u10), .v (.int .i64 v10)]), (5, 107, [.v (.int .i64 x10), .v (.int .i64 y10)])] (by kernel_rfl) (by kernel_rfl) ?_
    refine sx_end (by kernel_rfl) ?_
    refine sx_next ?_
    refine sx_seq ?_
    refine sx_region ?_
    refine sx_run 1 [(0, .v (.string s)), (1, .v (.string t)), (4, .v (.string ⟨#[]⟩)), (5, .p 5 0), (6, .p 6 0), (15, .v (.bool true))] [(6, 107, [.v (.int .i64 u10), .v (.int .i64 v10)]), (5, 107, [.v (.int .i64 x10), .v (.int .i64 y10)])] (by kernel_rfl) (by kernel_rfl) ?_
    refine sx_end (by kernel_rfl) ?_
    refine sx_next ?_
    refine sx_cond_t (by kernel_rfl) ?_
    refine sx_seq ?_
    refine sx_region ?_
    refine sx_run 10 [(0, .v (.string s)), (1, .v (.string t)), (4, .v (.string ⟨#[]⟩)), (20, .v (.int .i64 (IntKind.i64.wrap (x10 * u10)))), (25, .v (.int .i64 (IntKind.i64.wrap (y10 * v10))))] [] (by kernel_rfl) (by kernel_rfl) ?_
    refine sx_call 90 [.int .i64 (IntKind.i64.wrap (x10 * u10)), .int .i64 (IntKind.i64.wrap (y10 * v10))] 26 (fun _ : Unit => .string ⟨(ratText (valF (bytes s) * valF (bytes t))).toArray⟩) _ (by kernel_rfl) (by kernel_rfl) (fun w hE hΦ => by obtain ⟨N, D, e1, e2, d0, n1, n2, e3⟩ := wMul (hΦ.2 rfl); rw [e1, e2]; exact (formatShort_any N D _ _ hΦ.1 n1 n2 (by omega) e3).mono (fun _ _ h => post_val h rfl)) (fun xx => ?_)
    refine sx_run 1 [(0, .v (.string s)), (1, .v (.string t)), (4, .v (.string ⟨(ratText (valF (bytes s) * valF (bytes t))).toArray⟩))] [] (by kernel_rfl) (by kernel_rfl) ?_
    refine sx_end (by kernel_rfl) ?_
    refine sx_next ?_
    refine sx_ret ?_
    refine sx_then_ret ?_
    refine sx_done (v := .string ⟨(ratText (valF (bytes s) * valF (bytes t))).toArray⟩) (by kernel_rfl) (fun w' hE hΦ => ?_)
    exact ⟨rfl, hE⟩

set_option maxRecDepth 100000 in
theorem TDiv_zero (s t : ByteArray) (w : World) (hg : Glob w) (hs : (bytes s).length ≤ 570) (ht : (bytes t).length ≤ 570) (h0 : (valF (bytes t)).num = 0) :
    Calls Tryz.prog 44 #[.string s, .string t] w (RetV w (.tuple #[.string ⟨#[]⟩, .bool false])) := by
  have hs8 : s.size ≤ 1099511627776 := by rw [bytes_length] at hs; omega
  have ht8 : t.size ≤ 1099511627776 := by rw [bytes_length] at ht; omega
  have fa := valF_fits hs
  have fb := valF_fits ht
  have hP := prt_div fa fb
  refine sx_enter (Φ := fun w => Glob w) Tryz.func44 rfl (by kernel_rfl) (fun w' hf => hg.ext hf) ?_
  refine sx_seq ?_
  refine sx_region ?_
  refine sx_run 2 [(0, .v (.string s)), (1, .v (.string t)), (4, .v (.string ⟨#[]⟩)), (5, .v (.bool false))] [] (by kernel_rfl) (by kernel_rfl) ?_
  refine sx_end (by kernel_rfl) ?_
  refine sx_next ?_
  refine sx_seq ?_
  refine sx_seq ?_
  refine sx_region ?_
  refine sx_run 2 [(0, .v (.string s)), (1, .v (.string t)), (4, .v (.string ⟨#[]⟩)), (5, .v (.bool false)), (11, .v (.string s)), (12, .v (.string t))] [] (by kernel_rfl) (by kernel_rfl) ?_
  refine sx_call 85 [.string s, .string t] 13 shTwo _ (by kernel_rfl) (by kernel_rfl) (fun w hE hΦ => (readTwo_any s t _ hs8 ht8).mono (fun _ _ h => post_Two h)) (fun xx => ?_)
  obtain ⟨x10, y10, u10, v10, ok10⟩ := xx
  cases ok10
  · refine sx_run 9 [(0, .v (.string s)), (1, .v (.string t)), (4, .v (.string ⟨#[]⟩)), (5, .v (.bool false)), (6, .p 6 0), (7, .p 7 0), (8, .v (.bool false))] [(7, 107, [.v (.int .i64 u10), .v (.int .i64 v10)]), (6, 107, [.v (.int .i64 x10), .v (.int .i64 y10)])] (by kernel_rfl) (by kernel_rfl) ?_
    refine sx_end (by kernel_rfl) ?_
    refine sx_next ?_
    refine sx_seq ?_
    refine sx_region ?_
    refine sx_run 6 [(0, .v (.string s)), (1, .v (.string t)), (4, .v (.string ⟨#[]⟩)), (5, .v (.bool false)), (6, .p 6 0), (7, .p 7 0), (22, .v (.bool false))] [(7, 107, [.v (.int .i64 u10), .v (.int .i64 v10)]), (6, 107, [.v (.int .i64 x10), .v (.int .i64 y10)])] (by kernel_rfl) (by kernel_rfl) ?_
    refine sx_end (by kernel_rfl) ?_
    refine sx_next ?_
    refine sx_cond_f (by kernel_rfl) ?_
    refine sx_skip ?_
    refine sx_next ?_
    refine sx_seq ?_
    refine sx_region ?_
    refine sx_run 1 [(0, .v (.string s)), (4, .v (.string ⟨#[]⟩)), (5, .v (.bool false)), (34, .v (.string t))] [] (by kernel_rfl) (by kernel_rfl) ?_
    refine sx_call 87 [.string t] 35 shRat _ (by kernel_rfl) (by kernel_rfl) (fun w hE hΦ => (value_any t _ hΦ.1 (ReadOk.of_len ht)).mono (fun _ _ h => post_Rat h)) (fun xx => ?_)
    obtain ⟨s11, A11, l11, c11, t11, B11, m11, d11⟩ := xx
    refine sx_run 2 [(0, .v (.string s)), (4, .v (.string ⟨#[]⟩)), (5, .v (.bool false)), (9, .p 9 0)] [(9, 80, [.v (.bool s11), .v (.slice A11 l11 c11), .v (.bool t11), .v (.slice B11 m11 d11)])] (by kernel_rfl) (by kernel_rfl) ?_
    refine sx_end (by kernel_rfl) ?_
    refine sx_next ?_
    refine sx_seq ?_
    refine sx_seq ?_
    refine sx_region ?_
    refine sx_run 1 [(0, .v (.string s)), (4, .v (.string ⟨#[]⟩)), (5, .v (.bool false)), (9, .p 9 0), (36, .v (.agg #[.bool s11, .slice A11 l11 c11, .bool t11, .slice B11 m11 d11]))] [(9, 80, [.v (.bool s11), .v (.slice A11 l11 c11), .v (.bool t11), .v (.slice B11 m11 d11)])] (by kernel_rfl) (by kernel_rfl) ?_
    refine sx_call 94 [.agg #[.bool s11, .slice A11 l11 c11, .bool t11, .slice B11 m11 d11]] 37 (fun _ : Unit => .bool true) _ (by kernel_rfl) (by kernel_rfl) (fun w hE hΦ => (QIsZero_any _ (valF (bytes t)) _ hΦ.2).mono (fun _ _ h => post_val h (by rw [decide_eq_true h0]))) (fun xx => ?_)
    refine sx_run 0 [(0, .v (.string s)), (4, .v (.string ⟨#[]⟩)), (5, .v (.bool false)), (9, .p 9 0), (37, .v (.bool true))] [(9, 80, [.v (.bool s11), .v (.slice A11 l11 c11), .v (.bool t11), .v (.slice B11 m11 d11)])] (by kernel_rfl) (by kernel_rfl) ?_
    refine sx_end (by kernel_rfl) ?_
    refine sx_next ?_
    refine sx_cond_t (by kernel_rfl) ?_
    refine sx_seq ?_
    refine sx_region ?_
    refine sx_run 2 [(0, .v (.string s)), (4, .v (.string ⟨#[]⟩)), (5, .v (.bool false)), (9, .p 9 0)] [(9, 80, [.v (.bool s11), .v (.slice A11 l11 c11), .v (.bool t11), .v (.slice B11 m11 d11)])] (by kernel_rfl) (by kernel_rfl) ?_
    refine sx_end (by kernel_rfl) ?_
    refine sx_next ?_
    refine sx_ret ?_
    refine sx_then_ret ?_
    refine sx_done (v := .tuple #[.string ⟨#[]⟩, .bool false]) (by kernel_rfl) (fun w' hE hΦ => ?_)
    exact ⟨rfl, hE⟩
  · refine sx_run 9 [(0, .v (.string s)), (1, .v (.string t)), (4, .v (.string ⟨#[]⟩)), (5, .v (.bool false)), (6, .p 6 0), (7, .p 7 0), (8, .v (.bool true))] [(7, 107, [.v (.int .i64 u10), .v (.int .i64 v10)]), (6, 107, [.v (.int .i64 x10), .v (.int .i64 y10)])] (by kernel_rfl) (by kernel_rfl) ?_
    refine sx_end (by kernel_rfl) ?_
    refine sx_next ?_
    refine sx_seq ?_
    refine sx_region ?_
    refine sx_run 6 [(0, .v (.string s)), (1, .v (.string t)), (4, .v (.string ⟨#[]⟩)), (5, .v (.bool false)), (6, .p 6 0), (7, .p 7 0), (22, .v (.bool ((u10 : Int) != 0)))] [(7, 107, [.v (.int .i64 u10), .v (.int .i64 v10)]), (6, 107, [.v (.int .i64 x10), .v (.int .i64 y10)])] (by kernel_rfl) (by kernel_rfl) ?_
    refine sx_end (by kernel_rfl) ?_
    refine sx_next ?_
    refine sx_cond (((u10 : Int) != 0)) (by kernel_rfl) (fun hb12 => ?_) (fun hb12 => ?_)
    · refine SXc.know (p := False) (fun w hE hΦ => ?_) (fun h => h.elim)
      obtain ⟨p', q', e1, e2, e3, e4, e5, _⟩ := short_two (hΦ.2 rfl)
      rw [e2, show q'.num = u10 from e5] at h0; rw [h0] at hb12; cases hb12
    · refine sx_skip ?_
      refine sx_next ?_
      refine sx_seq ?_
      refine sx_region ?_
      refine sx_run 1 [(0, .v (.string s)), (4, .v (.string ⟨#[]⟩)), (5, .v (.bool false)), (34, .v (.string t))] [] (by kernel_rfl) (by kernel_rfl) ?_
      refine sx_call 87 [.string t] 35 shRat _ (by kernel_rfl) (by kernel_rfl) (fun w hE hΦ => (value_any t _ hΦ.1 (ReadOk.of_len ht)).mono (fun _ _ h => post_Rat h)) (fun xx => ?_)
      obtain ⟨s13, A13, l13, c13, t13, B13, m13, d13⟩ := xx
      refine sx_run 2 [(0, .v (.string s)), (4, .v (.string ⟨#[]⟩)), (5, .v (.bool false)), (9, .p 9 0)] [(9, 80, [.v (.bool s13), .v (.slice A13 l13 c13), .v (.bool t13), .v (.slice B13 m13 d13)])] (by kernel_rfl) (by kernel_rfl) ?_
      refine sx_end (by kernel_rfl) ?_
      refine sx_next ?_
      refine sx_seq ?_
      refine sx_seq ?_
      refine sx_region ?_
      refine sx_run 1 [(0, .v (.string s)), (4, .v (.string ⟨#[]⟩)), (5, .v (.bool false)), (9, .p 9 0), (36, .v (.agg #[.bool s13, .slice A13 l13 c13, .bool t13, .slice B13 m13 d13]))] [(9, 80, [.v (.bool s13), .v (.slice A13 l13 c13), .v (.bool t13), .v (.slice B13 m13 d13)])] (by kernel_rfl) (by kernel_rfl) ?_
      refine sx_call 94 [.agg #[.bool s13, .slice A13 l13 c13, .bool t13, .slice B13 m13 d13]] 37 (fun _ : Unit => .bool true) _ (by kernel_rfl) (by kernel_rfl) (fun w hE hΦ => (QIsZero_any _ (valF (bytes t)) _ hΦ.2).mono (fun _ _ h => post_val h (by rw [decide_eq_true h0]))) (fun xx => ?_)
      refine sx_run 0 [(0, .v (.string s)), (4, .v (.string ⟨#[]⟩)), (5, .v (.bool false)), (9, .p 9 0), (37, .v (.bool true))] [(9, 80, [.v (.bool s13), .v (.slice A13 l13 c13), .v (.bool t13), .v (.slice B13 m13 d13)])] (by kernel_rfl) (by kernel_rfl) ?_
      refine sx_end (by kernel_rfl) ?_
      refine sx_next ?_
      refine sx_cond_t (by kernel_rfl) ?_
      refine sx_seq ?_
      refine sx_region ?_
      refine sx_run 2 [(0, .v (.string s)), (4, .v (.string ⟨#[]⟩)), (5, .v (.bool false)), (9, .p 9 0)] [(9, 80, [.v (.bool s13), .v (.slice A13 l13 c13), .v (.bool t13), .v (.slice B13 m13 d13)])] (by kernel_rfl) (by kernel_rfl) ?_
      refine sx_end (by kernel_rfl) ?_
      refine sx_next ?_
      refine sx_ret ?_
      refine sx_then_ret ?_
      refine sx_done (v := .tuple #[.string ⟨#[]⟩, .bool false]) (by kernel_rfl) (fun w' hE hΦ => ?_)
      exact ⟨rfl, hE⟩

set_option maxRecDepth 100000 in
theorem TDiv_nz (s t : ByteArray) (w : World) (hg : Glob w) (hs : (bytes s).length ≤ 570) (ht : (bytes t).length ≤ 570) (h0 : ¬ (valF (bytes t)).num = 0) :
    Calls Tryz.prog 44 #[.string s, .string t] w (RetV w (.tuple #[.string ⟨(ratText (valF (bytes s) / valF (bytes t))).toArray⟩, .bool true])) := by
  have hs8 : s.size ≤ 1099511627776 := by rw [bytes_length] at hs; omega
  have ht8 : t.size ≤ 1099511627776 := by rw [bytes_length] at ht; omega
  have fa := valF_fits hs
  have fb := valF_fits ht
  have hP := prt_div fa fb
  refine sx_enter (Φ := fun w => Glob w) Tryz.func44 rfl (by kernel_rfl) (fun w' hf => hg.ext hf) ?_
  refine sx_seq ?_
  refine sx_region ?_
  refine sx_run 2 [(0, .v (.string s)), (1, .v (.string t)), (4, .v (.string ⟨#[]⟩)), (5, .v (.bool false))] [] (by kernel_rfl) (by kernel_rfl) ?_
  refine sx_end (by kernel_rfl) ?_
  refine sx_next ?_
  refine sx_seq ?_
  refine sx_seq ?_
  refine sx_region ?_
  refine sx_run 2 [(0, .v (.string s)), (1, .v (.string t)), (4, .v (.string ⟨#[]⟩)), (5, .v (.bool false)), (11, .v (.string s)), (12, .v (.string t))] [] (by kernel_rfl) (by kernel_rfl) ?_
  refine sx_call 85 [.string s, .string t] 13 shTwo _ (by kernel_rfl) (by kernel_rfl) (fun w hE hΦ => (readTwo_any s t _ hs8 ht8).mono (fun _ _ h => post_Two h)) (fun xx => ?_)
  obtain ⟨x10, y10, u10, v10, ok10⟩ := xx
  cases ok10
  · refine sx_run 9 [(0, .v (.string s)), (1, .v (.string t)), (4, .v (.string ⟨#[]⟩)), (5, .v (.bool false)), (6, .p 6 0), (7, .p 7 0), (8, .v (.bool false))] [(7, 107, [.v (.int .i64 u10), .v (.int .i64 v10)]), (6, 107, [.v (.int .i64 x10), .v (.int .i64 y10)])] (by kernel_rfl) (by kernel_rfl) ?_
    refine sx_end (by kernel_rfl) ?_
    refine sx_next ?_
    refine sx_seq ?_
    refine sx_region ?_
    refine sx_run 6 [(0, .v (.string s)), (1, .v (.string t)), (4, .v (.string ⟨#[]⟩)), (5, .v (.bool false)), (6, .p 6 0), (7, .p 7 0), (22, .v (.bool false))] [(7, 107, [.v (.int .i64 u10), .v (.int .i64 v10)]), (6, 107, [.v (.int .i64 x10), .v (.int .i64 y10)])] (by kernel_rfl) (by kernel_rfl) ?_
    refine sx_end (by kernel_rfl) ?_
    refine sx_next ?_
    refine sx_cond_f (by kernel_rfl) ?_
    refine sx_skip ?_
    refine sx_next ?_
    refine sx_seq ?_
    refine sx_region ?_
    refine sx_run 1 [(0, .v (.string s)), (4, .v (.string ⟨#[]⟩)), (5, .v (.bool false)), (34, .v (.string t))] [] (by kernel_rfl) (by kernel_rfl) ?_
    refine sx_call 87 [.string t] 35 shRat _ (by kernel_rfl) (by kernel_rfl) (fun w hE hΦ => (value_any t _ hΦ.1 (ReadOk.of_len ht)).mono (fun _ _ h => post_Rat h)) (fun xx => ?_)
    obtain ⟨s11, A11, l11, c11, t11, B11, m11, d11⟩ := xx
    refine sx_run 2 [(0, .v (.string s)), (4, .v (.string ⟨#[]⟩)), (5, .v (.bool false)), (9, .p 9 0)] [(9, 80, [.v (.bool s11), .v (.slice A11 l11 c11), .v (.bool t11), .v (.slice B11 m11 d11)])] (by kernel_rfl) (by kernel_rfl) ?_
    refine sx_end (by kernel_rfl) ?_
    refine sx_next ?_
    refine sx_seq ?_
    refine sx_seq ?_
    refine sx_region ?_
    refine sx_run 1 [(0, .v (.string s)), (4, .v (.string ⟨#[]⟩)), (5, .v (.bool false)), (9, .p 9 0), (36, .v (.agg #[.bool s11, .slice A11 l11 c11, .bool t11, .slice B11 m11 d11]))] [(9, 80, [.v (.bool s11), .v (.slice A11 l11 c11), .v (.bool t11), .v (.slice B11 m11 d11)])] (by kernel_rfl) (by kernel_rfl) ?_
    refine sx_call 94 [.agg #[.bool s11, .slice A11 l11 c11, .bool t11, .slice B11 m11 d11]] 37 (fun _ : Unit => .bool false) _ (by kernel_rfl) (by kernel_rfl) (fun w hE hΦ => (QIsZero_any _ (valF (bytes t)) _ hΦ.2).mono (fun _ _ h => post_val h (by rw [decide_eq_false h0]))) (fun xx => ?_)
    refine sx_run 0 [(0, .v (.string s)), (4, .v (.string ⟨#[]⟩)), (5, .v (.bool false)), (9, .p 9 0), (37, .v (.bool false))] [(9, 80, [.v (.bool s11), .v (.slice A11 l11 c11), .v (.bool t11), .v (.slice B11 m11 d11)])] (by kernel_rfl) (by kernel_rfl) ?_
    refine sx_end (by kernel_rfl) ?_
    refine sx_next ?_
    refine sx_cond_f (by kernel_rfl) ?_
    refine sx_skip ?_
    refine sx_next ?_
    refine sx_seq ?_
    refine sx_draw 7 (by kernel_rfl) (by kernel_rfl) follows_mixed' ?_
    refine st_flt 1 [(4, .v (.string ⟨#[]⟩)), (5, .v (.bool false)), (9, .p 9 0), (38, .v (.string s))] [(9, 80, [.v (.bool s11), .v (.slice A11 l11 c11), .v (.bool t11), .v (.slice B11 m11 d11)])] (by kernel_rfl) (by kernel_rfl) ?_
    refine st_call 87 [.string s] 39 shRat _ (by kernel_rfl) (by kernel_rfl) (by kernel_rfl) (fun w hE hΦ => (value_any s _ hΦ.1.1.1 (ReadOk.of_len hs)).mono (fun _ _ h => post_Rat h)) (fun xx => ?_)
    obtain ⟨s12, A12, l12, c12, t12, B12, m12, d12⟩ := xx
    refine st_flt 1 [(4, .v (.string ⟨#[]⟩)), (5, .v (.bool false)), (39, .v (.agg #[.bool s12, .slice A12 l12 c12, .bool t12, .slice B12 m12 d12])), (40, .v (.agg #[.bool s11, .slice A11 l11 c11, .bool t11, .slice B11 m11 d11]))] [(9, 80, [.v (.bool s11), .v (.slice A11 l11 c11), .v (.bool t11), .v (.slice B11 m11 d11)])] (by kernel_rfl) (by kernel_rfl) ?_
    refine st_call 95 [.agg #[.bool s12, .slice A12 l12 c12, .bool t12, .slice B12 m12 d12], .agg #[.bool s11, .slice A11 l11 c11, .bool t11, .slice B11 m11 d11]] 41 shRat _ (by kernel_rfl) (by kernel_rfl) (by kernel_rfl) (fun w hE hΦ => (QDiv_any _ _ (valF (bytes s)) (valF (bytes t)) _ hΦ.1.1.1.1 hΦ.2 hΦ.1.1.2 (fa.up (by decide)) (fb.up (by decide))).mono (fun _ _ h => post_Rat h)) (fun xx => ?_)
    obtain ⟨s13, A13, l13, c13, t13, B13, m13, d13⟩ := xx
    refine st_flt 0 [(4, .v (.string ⟨#[]⟩)), (5, .v (.bool false)), (41, .v (.agg #[.bool s13, .slice A13 l13 c13, .bool t13, .slice B13 m13 d13]))] [(9, 80, [.v (.bool s11), .v (.slice A11 l11 c11), .v (.bool t11), .v (.slice B11 m11 d11)])] (by kernel_rfl) (by kernel_rfl) ?_
    refine st_call 65 [.agg #[.bool s13, .slice A13 l13 c13, .bool t13, .slice B13 m13 d13]] 42 (fun _ : Unit => .string ⟨(ratText (valF (bytes s) / valF (bytes t))).toArray⟩) _ (by kernel_rfl) (by kernel_rfl) (by kernel_rfl) (fun w hE hΦ => (RString_any _ (valF (bytes s) / valF (bytes t)) _ hΦ.1.1.1.1.1 hΦ.2 hP.1 hP.2).mono (fun _ _ h => post_val h rfl)) (fun xx => ?_)
    refine st_flt 2 [(4, .v (.string ⟨(ratText (valF (bytes s) / valF (bytes t))).toArray⟩)), (5, .v (.bool true))] [(9, 80, [.v (.bool s11), .v (.slice A11 l11 c11), .v (.bool t11), .v (.slice B11 m11 d11)])] (by kernel_rfl) (by kernel_rfl) ?_
    refine st_end (by kernel_rfl) ?_
    refine sx_end (by kernel_rfl) ?_
    refine sx_next ?_
    refine sx_ret ?_
    refine sx_done (v := .tuple #[.string ⟨(ratText (valF (bytes s) / valF (bytes t))).toArray⟩, .bool true]) (by kernel_rfl) (fun w' hE hΦ => ?_)
    exact ⟨rfl, hE⟩
  · refine sx_run 9 [(0, .v (.string s)), (1, .v (.string t)), (4, .v (.string ⟨#[]⟩)), (5, .v (.bool false)), (6, .p 6 0), (7, .p 7 0), (8, .v (.bool true))] [(7, 107, [.v (.int .i64 u10), .v (.int .i64 v10)]), (6, 107, [.v (.int .i64 x10), .v (.int .i64 y10)])] (by kernel_rfl) (by kernel_rfl) ?_
    refine sx_end (by kernel_rfl) ?_
    refine sx_next ?_
    refine sx_seq ?_
    refine sx_region ?_
    refine sx_run 6 [(0, .v (.string s)), (1, .v (.string t)), (4, .v (.string ⟨#[]⟩)), (5, .v (.bool false)), (6, .p 6 0), (7, .p 7 0), (22, .v (.bool ((u10 : Int) != 0)))] [(7, 107, [.v (.int .i64 u10), .v (.int .i64 v10)]), (6, 107, [.v (.int .i64 x10), .v (.int .i64 y10)])] (by kernel_rfl) (by kernel_rfl) ?_
    refine sx_end (by kernel_rfl) ?_
    refine sx_next ?_
    refine sx_cond (((u10 : Int) != 0)) (by kernel_rfl) (fun hb14 => ?_) (fun hb14 => ?_)
    · refine sx_seq ?_
      refine sx_region ?_
      refine sx_run 10 [(0, .v (.string s)), (1, .v (.string t)), (4, .v (.string ⟨#[]⟩)), (5, .v (.bool false)), (27, .v (.int .i64 (IntKind.i64.wrap (x10 * v10)))), (32, .v (.int .i64 (IntKind.i64.wrap (y10 * u10))))] [] (by kernel_rfl) (by kernel_rfl) ?_
      refine sx_call 90 [.int .i64 (IntKind.i64.wrap (x10 * v10)), .int .i64 (IntKind.i64.wrap (y10 * u10))] 33 (fun _ : Unit => .string ⟨(ratText (valF (bytes s) / valF (bytes t))).toArray⟩) _ (by kernel_rfl) (by kernel_rfl) (fun w hE hΦ => by obtain ⟨N, D, e1, e2, d0, n1, n2, e3⟩ := wDiv (hΦ.2 rfl) (by rw [bne_iff_ne] at hb14; exact hb14); rw [e1, e2]; exact (formatShort_any N D _ _ hΦ.1 n1 n2 d0 e3).mono (fun _ _ h => post_val h rfl)) (fun xx => ?_)
      refine sx_run 2 [(0, .v (.string s)), (1, .v (.string t)), (4, .v (.string ⟨(ratText (valF (bytes s) / valF (bytes t))).toArray⟩)), (5, .v (.bool true))] [] (by kernel_rfl) (by kernel_rfl) ?_
      refine sx_end (by kernel_rfl) ?_
      refine sx_next ?_
      refine sx_ret ?_
      refine sx_then_ret ?_
      refine sx_done (v := .tuple #[.string ⟨(ratText (valF (bytes s) / valF (bytes t))).toArray⟩, .bool true]) (by kernel_rfl) (fun w' hE hΦ => ?_)
      exact ⟨rfl, hE⟩
    · refine sx_skip ?_
      refine sx_next ?_
      refine sx_seq ?_
      refine sx_region ?_
      refine sx_run 1 [(0, .v (.string s)), (4, .v (.string ⟨#[]⟩)), (5, .v (.bool false)), (34, .v (.string t))] [] (by kernel_rfl) (by kernel_rfl) ?_
      refine sx_call 87 [.string t] 35 shRat _ (by kernel_rfl) (by kernel_rfl) (fun w hE hΦ => (value_any t _ hΦ.1 (ReadOk.of_len ht)).mono (fun _ _ h => post_Rat h)) (fun xx => ?_)
      obtain ⟨s15, A15, l15, c15, t15, B15, m15, d15⟩ := xx
      refine sx_run 2 [(0, .v (.string s)), (4, .v (.string ⟨#[]⟩)), (5, .v (.bool false)), (9, .p 9 0)] [(9, 80, [.v (.bool s15), .v (.slice A15 l15 c15), .v (.bool t15), .v (.slice B15 m15 d15)])] (by kernel_rfl) (by kernel_rfl) ?_
      refine sx_end (by kernel_rfl) ?_
      refine sx_next ?_
      refine sx_seq ?_
      refine sx_seq ?_
      refine sx_region ?_
      refine sx_run 1 [(0, .v (.string s)), (4, .v (.string ⟨#[]⟩)), (5, .v (.bool false)), (9, .p 9 0), (36, .v (.agg #[.bool s15, .slice A15 l15 c15, .bool t15, .slice B15 m15 d15]))] [(9, 80, [.v (.bool s15), .v (.slice A15 l15 c15), .v (.bool t15), .v (.slice B15 m15 d15)])] (by kernel_rfl) (by kernel_rfl) ?_
      refine sx_call 94 [.agg #[.bool s15, .slice A15 l15 c15, .bool t15, .slice B15 m15 d15]] 37 (fun _ : Unit => .bool false) _ (by kernel_rfl) (by kernel_rfl) (fun w hE hΦ => (QIsZero_any _ (valF (bytes t)) _ hΦ.2).mono (fun _ _ h => post_val h (by rw [decide_eq_false h0]))) (fun xx => ?_)
      refine sx_run 0 [(0, .v (.string s)), (4, .v (.string ⟨#[]⟩)), (5, .v (.bool false)), (9, .p 9 0), (37, .v (.bool false))] [(9, 80, [.v (.bool s15), .v (.slice A15 l15 c15), .v (.bool t15), .v (.slice B15 m15 d15)])] (by kernel_rfl) (by kernel_rfl) ?_
      refine sx_end (by kernel_rfl) ?_
      refine sx_next ?_
      refine sx_cond_f (by kernel_rfl) ?_
      refine sx_skip ?_
      refine sx_next ?_
      refine sx_seq ?_
      refine sx_draw 7 (by kernel_rfl) (by kernel_rfl) follows_mixed' ?_
      refine st_flt 1 [(4, .v (.string ⟨#[]⟩)), (5, .v (.bool false)), (9, .p 9 0), (38, .v (.string s))] [(9, 80, [.v (.bool s15), .v (.slice A15 l15 c15), .v (.bool t15), .v (.slice B15 m15 d15)])] (by kernel_rfl) (by kernel_rfl) ?_
      refine st_call 87 [.string s] 39 shRat _ (by kernel_rfl) (by kernel_rfl) (by kernel_rfl) (fun w hE hΦ => (value_any s _ hΦ.1.1.1 (ReadOk.of_len hs)).mono (fun _ _ h => post_Rat h)) (fun xx => ?_)
      obtain ⟨s16, A16, l16, c16, t16, B16, m16, d16⟩ := xx
      refine st_flt 1 [(4, .v (.string ⟨#[]⟩)), (5, .v (.bool false)), (39, .v (.agg #[.bool s16, .slice A16 l16 c16, .bool t16, .slice B16 m16 d16])), (40, .v (.agg #[.bool s15, .slice A15 l15 c15, .bool t15, .slice B15 m15 d15]))] [(9, 80, [.v (.bool s15), .v (.slice A15 l15 c15), .v (.bool t15), .v (.slice B15 m15 d15)])] (by kernel_rfl) (by kernel_rfl) ?_
      refine st_call 95 [.agg #[.bool s16, .slice A16 l16 c16, .bool t16, .slice B16 m16 d16], .agg #[.bool s15, .slice A15 l15 c15, .bool t15, .slice B15 m15 d15]] 41 shRat _ (by kernel_rfl) (by kernel_rfl) (by kernel_rfl) (fun w hE hΦ => (QDiv_any _ _ (valF (bytes s)) (valF (bytes t)) _ hΦ.1.1.1.1 hΦ.2 hΦ.1.1.2 (fa.up (by decide)) (fb.up (by decide))).mono (fun _ _ h => post_Rat h)) (fun xx => ?_)
      obtain ⟨s17, A17, l17, c17, t17, B17, m17, d17⟩ := xx
      refine st_flt 0 [(4, .v (.string ⟨#[]⟩)), (5, .v (.bool false)), (41, .v (.agg #[.bool s17, .slice A17 l17 c17, .bool t17, .slice B17 m17 d17]))] [(9, 80, [.v (.bool s15), .v (.slice A15 l15 c15), .v (.bool t15), .v (.slice B15 m15 d15)])] (by kernel_rfl) (by kernel_rfl) ?_
      refine st_call 65 [.agg #[.bool s17, .slice A17 l17 c17, .bool t17, .slice B17 m17 d17]] 42 (fun _ : Unit => .string ⟨(ratText (valF (bytes s) / valF (bytes t))).toArray⟩) _ (by kernel_rfl) (by kernel_rfl) (by kernel_rfl) (fun w hE hΦ => (RString_any _ (valF (bytes s) / valF (bytes t)) _ hΦ.1.1.1.1.1 hΦ.2 hP.1 hP.2).mono (fun _ _ h => post_val h rfl)) (fun xx => ?_)
      refine st_flt 2 [(4, .v (.string ⟨(ratText (valF (bytes s) / valF (bytes t))).toArray⟩)), (5, .v (.bool true))] [(9, 80, [.v (.bool s15), .v (.slice A15 l15 c15), .v (.bool t15), .v (.slice B15 m15 d15)])] (by kernel_rfl) (by kernel_rfl) ?_
      refine st_end (by kernel_rfl) ?_
      refine sx_end (by kernel_rfl) ?_
      refine sx_next ?_
      refine sx_ret ?_
      refine sx_done (v := .tuple #[.string ⟨(ratText (valF (bytes s) / valF (bytes t))).toArray⟩, .bool true]) (by kernel_rfl) (fun w' hE hΦ => ?_)
      exact ⟨rfl, hE⟩

end Go.Proofs.YtndafmjcelgnbaaGreatDoor

namespace Go.Proofs.YtndafmjcelgnbaaGreatDoor
open Go.RowKit

theorem head_dec_ne (n : Nat) : (Lib.decDigits n).head? ≠ some 45 := by
  intro e
  cases h : Lib.decDigits n with
  | nil => exact decDigits_ne n h
  | cons x xs =>
    rw [h] at e
    simp only [List.head?_cons, Option.some.injEq] at e
    subst e
    have := dec_all n
    rw [h] at this
    simp only [List.all_cons, Bool.and_eq_true] at this
    exact absurd this.1 (by decide)
theorem takeWhile_stop {p : UInt8 → Bool} {l r : List UInt8} {c : UInt8} (h : l.all p = true) (hc : p c = false) : (l ++ c :: r).takeWhile p = l ∧ (l ++ c :: r).dropWhile p = c :: r := by
  induction l with
  | nil => simp [hc]
  | cons x xs ih =>
    simp only [List.all_cons, Bool.and_eq_true] at h
    obtain ⟨h1, h2⟩ := ih h.2
    rw [List.cons_append, List.takeWhile_cons, List.dropWhile_cons, h.1]
    simp [h1, h2]
/-- the sign and the digits of an integer -/
theorem unsign_itoa (z : Int) (r : List UInt8) : unsign (Lib.itoa z ++ r) = (decide (z < 0), Lib.decDigits z.natAbs ++ r) := by
  by_cases h : z < 0
  · rw [itoa_neg h, decide_eq_true h]
    unfold unsign
    rw [if_pos (by simp)]
    rfl
  · rw [itoa_nn (by omega), decide_eq_false h]
    unfold unsign
    rw [if_neg]
    intro e
    rw [List.head?_append] at e
    cases hx : (Lib.decDigits z.natAbs).head? with
    | none => exact absurd (List.head?_eq_none_iff.1 hx) (decDigits_ne _)
    | some c =>
      rw [hx] at e
      exact head_dec_ne _ (hx.trans e)
theorem sg_abs (z : Int) : sg (decide (z < 0)) z.natAbs = z := by
  unfold sg
  split
  · rename_i h; have := of_decide_eq_true h; omega
  · rename_i h; have : ¬ z < 0 := fun k => h (decide_eq_true k); omega
theorem whole_self {q : Rat} (h : q.den = 1) : ((q.num : Int) : Rat) = q := by
  apply Rat.ext <;> simp [h]
theorem num_ne {q : Rat} (h : q.den ≠ 1) : q.num ≠ 0 := by
  intro e
  have := q.reduced
  rw [e] at this
  simp [Nat.Coprime] at this
  exact h this
theorem itoa_den (n : Nat) : Lib.itoa (n : Int) = Lib.decDigits n := by
  rw [itoa_nn (by omega), Int.natAbs_natCast]
theorem split_text {q : Rat} (h : q.den ≠ 1) : splitF (ratText q) = (decide (q.num < 0), Lib.decDigits q.num.natAbs, Lib.decDigits q.den, true) := by
  have hn := num_ne h
  have hd := q.den_nz
  unfold ratText
  rw [if_neg h, itoa_den, List.append_assoc]
  unfold splitF
  rw [unsign_itoa]
  simp only []
  obtain ⟨h1, h2⟩ := takeWhile_stop (p := isDig) (r := Lib.decDigits q.den) (c := 47) (dec_all q.num.natAbs) (by decide)
  have e : Lib.decDigits q.num.natAbs ++ ([47] ++ Lib.decDigits q.den) = Lib.decDigits q.num.natAbs ++ 47 :: Lib.decDigits q.den := rfl
  rw [e, h1, h2]
  have hh := dec_head q.num.natAbs (by omega)
  rw [if_neg (fun e => hh (by rw [e]; rfl)), if_neg (fun e => e.elim (decDigits_ne _) hh), if_neg (by simp), if_neg (by simp)]
  simp only [List.tail_cons]
  obtain ⟨h3, h4⟩ := takeWhile_all (dec_all q.den)
  rw [h3, h4]
  have hh2 := dec_head q.den (by omega)
  have h49 : Lib.decDigits q.den ≠ [49] := fun e => by
    have := dec_val q.den
    rw [e] at this
    exact h (by rw [← this]; rfl)
  have hne := decDigits_ne q.den
  simp [hh2, h49, hne]
theorem read_text (q : Rat) : readF (ratText q) = some q := by
  by_cases h : q.den = 1
  · unfold ratText
    rw [if_pos h, read_itoa, whole_self h]
  · unfold readF
    rw [split_text h]
    simp only []
    rw [if_neg (decDigits_ne _), dec_val, dec_val, if_pos q.reduced, sg_abs, Rat.mkRat_self]
end Go.Proofs.YtndafmjcelgnbaaGreatDoor

namespace Go.Proofs.YtndafmjcelgnbaaGreatDoor
open Go.RowKit

end Go.Proofs.YtndafmjcelgnbaaGreatDoor

namespace Go.Proofs.YtndafmjcelgnbaaGreatDoor
open Go.RowKit

/-- the parts of a short whole number -/
theorem ShortIs.whole {l : List UInt8} {a b x : Int} (h : ShortIs l a b true) (hx : readF l = some (x : Rat)) : a = x ∧ b = 1 ∧ -1000000000 < x ∧ x < 1000000000 := by
  obtain ⟨q, k1, k2, k3, k4, k5, _⟩ := h.ok
  rw [hx] at k1
  injection k1 with k1
  subst k1
  have e1 : ((x : Rat)).num = x := rfl
  have e2 : (((x : Rat)).den : Int) = 1 := rfl
  rw [e1] at k2
  rw [e2] at k3
  exact ⟨k2.symm, k3.symm, by omega, by omega⟩

end Go.Proofs.YtndafmjcelgnbaaGreatDoor

namespace Go.Proofs.YtndafmjcelgnbaaGreatDoor
open Go.RowKit

/-- The Euclidean algorithm from the rests r0, r1 with the factors t0, t1 ends with the rest r and the factor t. -/
inductive RecRun (m : Int) : Int → Int → Int → Int → Int → Int → Prop
  | done {r0 r1 t0 t1 : Int} (h : r1 * r1 * 2 < m) : RecRun m r0 r1 t0 t1 r1 t1
  | step {r0 r1 t0 t1 r t : Int} (h : ¬ r1 * r1 * 2 < m) (k : RecRun m r1 (r0.tmod r1) t1 (t0 - r0.tdiv r1 * t1) r t) : RecRun m r0 r1 t0 t1 r t
theorem RecRun.unique {m r0 r1 t0 t1 r t r' t' : Int} (h : RecRun m r0 r1 t0 t1 r t) (k : RecRun m r0 r1 t0 t1 r' t') : r = r' ∧ t = t' := by
  induction h with
  | done h =>
    cases k with
    | done => exact ⟨rfl, rfl⟩
    | step h' => exact absurd h h'
  | step h _ ih =>
    cases k with
    | done h' => exact absurd h' h
    | step _ k => exact ih k
/-- what holds at the head of every round -/
structure RecInv (m r0 r1 t0 t1 : Int) : Prop where
  nonneg : 0 ≤ r1
  lt : r1 < r0
  le : r0 ≤ m
  sum : (t1.natAbs : Int) * r0 + (t0.natAbs : Int) * r1 = m
  alt : (0 ≤ t0 ∧ t1 ≤ 0) ∨ (t0 ≤ 0 ∧ 0 ≤ t1)
theorem RecInv.start {m r : Int} (h0 : 0 ≤ r) (hr : r < m) : RecInv m m r 0 1 := ⟨h0, hr, Int.le_refl _, by simp, Or.inr ⟨Int.le_refl _, by omega⟩⟩
theorem RecInv.next {m r0 r1 t0 t1 : Int} (h : RecInv m r0 r1 t0 t1) (h1 : 0 < r1) : RecInv m r1 (r0.tmod r1) t1 (t0 - r0.tdiv r1 * t1) := by
  obtain ⟨h2, h3, h4, h5, h6⟩ := h
  have e1 : r0.tdiv r1 = r0 / r1 := Int.tdiv_eq_ediv_of_nonneg (by omega)
  have e2 : r0.tmod r1 = r0 % r1 := Int.tmod_eq_emod_of_nonneg (by omega)
  rw [e1, e2]
  have hq : 0 ≤ r0 / r1 := Int.ediv_nonneg (by omega) h2
  have hd := Int.mul_ediv_add_emod r0 r1
  have hm0 := Int.emod_nonneg r0 (show r1 ≠ 0 by omega)
  have hm1 := Int.emod_lt_of_pos r0 h1
  generalize r0 / r1 = q at *
  generalize r0 % r1 = r2 at *
  have habs : ((t0 - q * t1).natAbs : Int) = (t0.natAbs : Int) + q * (t1.natAbs : Int) := by
    rcases h6 with ⟨a, b⟩ | ⟨a, b⟩
    · have e3 : (t1.natAbs : Int) = -t1 := by omega
      have e4 : (t0.natAbs : Int) = t0 := by omega
      have hp : 0 ≤ q * -t1 := Int.mul_nonneg hq (by omega)
      rw [e3, e4, Int.mul_neg]
      rw [Int.mul_neg] at hp
      omega
    · have e3 : (t1.natAbs : Int) = t1 := by omega
      have e4 : (t0.natAbs : Int) = -t0 := by omega
      have hp : 0 ≤ q * t1 := Int.mul_nonneg hq b
      rw [e3, e4]
      omega
  refine ⟨hm0, hm1, by omega, ?_, ?_⟩
  · rw [habs, Int.add_mul]
    rw [← hd, Int.mul_add] at h5
    rw [← h5, Int.mul_right_comm q, Int.mul_assoc q, Int.mul_comm (t1.natAbs : Int) (r1 * q), Int.mul_right_comm r1 q, Int.mul_comm q, Int.mul_comm r1 (t1.natAbs : Int)]
    omega
  · rcases h6 with ⟨a, b⟩ | ⟨a, b⟩
    · right
      have hp : 0 ≤ q * -t1 := Int.mul_nonneg hq (by omega)
      rw [Int.mul_neg] at hp
      exact ⟨b, by omega⟩
    · left
      have hp : 0 ≤ q * t1 := Int.mul_nonneg hq b
      exact ⟨b, by omega⟩
theorem RecInv.bound {m r0 r1 t0 t1 : Int} (h : RecInv m r0 r1 t0 t1) : t1.natAbs ≤ m.natAbs ∧ r0.natAbs ≤ m.natAbs ∧ r1.natAbs ≤ m.natAbs ∧ (0 < r1 → t0.natAbs ≤ m.natAbs) := by
  obtain ⟨h2, h3, h4, h5, _⟩ := h
  have a1 : 0 ≤ (t1.natAbs : Int) * r0 := Int.mul_nonneg (by omega) (by omega)
  have a2 : 0 ≤ (t0.natAbs : Int) * r1 := Int.mul_nonneg (by omega) h2
  have a3 : (t1.natAbs : Int) * 1 ≤ (t1.natAbs : Int) * r0 := Int.mul_le_mul_of_nonneg_left (by omega) (by omega)
  refine ⟨by omega, by omega, by omega, fun h1 => ?_⟩
  have a4 : (t0.natAbs : Int) * 1 ≤ (t0.natAbs : Int) * r1 := Int.mul_le_mul_of_nonneg_left (by omega) (by omega)
  omega

/-- two new blocks hold the integers x and y -/
def TwoNew (wb wx : World) (g h : Nat) (x y : Int) : Prop := IntAt wx g x ∧ IntAt wx h y ∧ Ext wb wx ∧ g ≠ h ∧ wb.heap.size ≤ g ∧ wb.heap.size ≤ h
theorem IntAt.new {w : World} {z : Int} {s : Bool} {A : Option Addr} {l c : Nat} (hI : IntIs w (.agg #[.bool s, .slice A l c]) z) : IntAt (w.alloc (.cells #[.bool s, .slice A l c] 67)) w.heap.size z :=
  ⟨s, A, l, c, Blk.new _ _ _, hI.ext ((Fr.refl _ _).alloc _)⟩

theorem blk_second (w : World) (t : TypeId) (x y : Array Value) : Blk t ((w.alloc (.cells x t)).alloc (.cells y t)) (w.heap.size + 1) y := by
  have e : (w.alloc (.cells x t)).heap.size = w.heap.size + 1 := by simp
  have h1 := Blk.new (w.alloc (.cells x t)) t y
  rwa [e] at h1
theorem intAt_zero {w : World} {g : Nat} (h : Blk 67 w g #[.bool false, .slice none 0 0]) : IntAt w g 0 := ⟨_, _, _, _, h, IntIs.zero w⟩
/-- the blocks of ReconstructRatio: the modulus, the result, the two rests and the two factors -/
structure RecMem (w wr : World) (M R b r f g : Nat) (m r0 r1 t0 t1 : Int) : Prop where
  ext : Ext w wr
  mod : IntAt wr M m
  res : Blk 80 wr R #[.bool false, .slice none 0 0, .bool false, .slice none 0 0]
  rest0 : IntAt wr b r0
  rest1 : IntAt wr r r1
  fac0 : IntAt wr f t0
  fac1 : IntAt wr g t1
theorem RecMem.on {w wr wx : World} {M R b r f g : Nat} {m r0 r1 t0 t1 : Int} (h : RecMem w wr M R b r f g m r0 r1 t0 t1) (hF : Ext wr wx) : RecMem w wx M R b r f g m r0 r1 t0 t1 :=
  ⟨h.ext.trans hF, h.mod.ext hF, h.res.ext hF, h.rest0.ext hF, h.rest1.ext hF, h.fac0.ext hF, h.fac1.ext hF⟩
/-- the blocks are different, and new -/
def RecNe (w : World) (M R b r f g : Nat) : Prop := w.heap.size ≤ M ∧ w.heap.size ≤ R ∧ M ≠ R ∧ M < b ∧ M < r ∧ R < b ∧ R < r ∧ b ≠ r ∧ b < f ∧ r < f ∧ b < g ∧ r < g ∧ f ≠ g
section
variable {w wr : World} {M R b r f g : Nat} {m r0 r1 t0 t1 z : Int} {s : Bool} {A : Option Addr} {l c : Nat}
theorem RecMem.put0 (h : RecMem w wr M R b r f g m r0 r1 t0 t1) (hd : RecNe w M R b r f g) (hI : IntIs wr (.agg #[.bool s, .slice A l c]) z) : RecMem w ((wr.setCell ⟨b, 0, none⟩ (.bool s)).setCell ⟨b, 1, none⟩ (.slice A l c)) M R b r f g m z r1 t0 t1 := by
  unfold RecNe at hd
  exact ⟨Fr.local_ h.ext (Fr.set2 _ _) (by omega), h.mod.away h.rest0 (by omega), h.res.fr (Fr.set2 (r := b) (i := 0) (j := 1) _ _) (by omega), h.rest0.put hI, h.rest1.away h.rest0 (by omega), h.fac0.away h.rest0 (by omega), h.fac1.away h.rest0 (by omega)⟩
theorem RecMem.put1 (h : RecMem w wr M R b r f g m r0 r1 t0 t1) (hd : RecNe w M R b r f g) (hI : IntIs wr (.agg #[.bool s, .slice A l c]) z) : RecMem w ((wr.setCell ⟨r, 0, none⟩ (.bool s)).setCell ⟨r, 1, none⟩ (.slice A l c)) M R b r f g m r0 z t0 t1 := by
  unfold RecNe at hd
  exact ⟨Fr.local_ h.ext (Fr.set2 _ _) (by omega), h.mod.away h.rest1 (by omega), h.res.fr (Fr.set2 (r := r) (i := 0) (j := 1) _ _) (by omega), h.rest0.away h.rest1 (by omega), h.rest1.put hI, h.fac0.away h.rest1 (by omega), h.fac1.away h.rest1 (by omega)⟩
theorem RecMem.put2 (h : RecMem w wr M R b r f g m r0 r1 t0 t1) (hd : RecNe w M R b r f g) (hI : IntIs wr (.agg #[.bool s, .slice A l c]) z) : RecMem w ((wr.setCell ⟨f, 0, none⟩ (.bool s)).setCell ⟨f, 1, none⟩ (.slice A l c)) M R b r f g m r0 r1 z t1 := by
  unfold RecNe at hd
  exact ⟨Fr.local_ h.ext (Fr.set2 _ _) (by omega), h.mod.away h.fac0 (by omega), h.res.fr (Fr.set2 (r := f) (i := 0) (j := 1) _ _) (by omega), h.rest0.away h.fac0 (by omega), h.rest1.away h.fac0 (by omega), h.fac0.put hI, h.fac1.away h.fac0 (by omega)⟩
theorem RecMem.put3 (h : RecMem w wr M R b r f g m r0 r1 t0 t1) (hd : RecNe w M R b r f g) (hI : IntIs wr (.agg #[.bool s, .slice A l c]) z) : RecMem w ((wr.setCell ⟨g, 0, none⟩ (.bool s)).setCell ⟨g, 1, none⟩ (.slice A l c)) M R b r f g m r0 r1 t0 z := by
  unfold RecNe at hd
  exact ⟨Fr.local_ h.ext (Fr.set2 _ _) (by omega), h.mod.away h.fac1 (by omega), h.res.fr (Fr.set2 (r := g) (i := 0) (j := 1) _ _) (by omega), h.rest0.away h.fac1 (by omega), h.rest1.away h.fac1 (by omega), h.fac0.away h.fac1 (by omega), h.fac1.put hI⟩
end
def RecSt (w wr : World) (M R b r f g : Nat) (v m r0 r1 t0 t1 : Int) : Prop :=
  RecMem w wr M R b r f g m r0 r1 t0 t1 ∧ RecInv m r0 r1 t0 t1 ∧ ∀ x y, RecRun m r0 r1 t0 t1 x y → RecRun m m (v % m) 0 1 x y
/-- the greatest common divisors of numbers one of which is not greater than m are covered -/
def GcdAll (m : Int) : Prop := ∀ x y : Int, x.natAbs ≤ m.natAbs ∨ y.natAbs ≤ m.natAbs → GcdOk x y
theorem GcdAll.small {m : Int} (h : m.natAbs < W64) : GcdAll m := fun x y hxy => by
  unfold GcdOk
  refine Or.inl ?_
  rcases hxy with h1 | h1
  · exact Nat.lt_of_le_of_lt (Nat.min_le_left _ _) (by omega)
  · exact Nat.lt_of_le_of_lt (Nat.min_le_right _ _) (by omega)
/-- the result of ReconstructRatio -/
def RecIs (v m : Int) (q : Rat) (ok : Bool) : Prop := ∃ r t : Int, RecRun m m (v % m) 0 1 r t ∧ 
  ((ok = true ∧ t * t * 2 < m ∧ Int.gcd t m = 1 ∧ Int.gcd t r = 1 ∧ q = Rat.divInt r t) ∨ (ok = false ∧ ¬ (t * t * 2 < m ∧ Int.gcd t m = 1 ∧ Int.gcd t r = 1) ∧ q = 0))
def RetRec (w : World) (v m : Int) (e : Ending) (w' : World) : Prop := ∃ x q ok, e = .returned (.tuple #[x, .bool ok]) ∧ RatIs w' x q ∧ RecIs v m q ok ∧ Ext w w'
theorem fin_rec {fn : Func} {tmps : Array Value} {w wz : World} {r : Nat} {ok : Bool} {s t : Bool} {A B : Option Addr} {l c l' c' : Nat} {v m : Int} {q : Rat} (hres : fn.results = #[.cell 4 80, .tmp 5]) (ht : tmps[4]? = some (.pointer (some ⟨r, 0, none⟩))) (h3 : tmps[5]? = some (.bool ok))
    (hB : Blk 80 wz r #[.bool s, .slice A l c, .bool t, .slice B l' c']) (hE : Ext w wz) (hR : RatIs wz (.agg #[.bool s, .slice A l c, .bool t, .slice B l' c']) q) (hI : RecIs v m q ok) :
    bodyPost Tryz.prog fn (RetRec w v m) .ret ⟨tmps, []⟩ wz := by
  obtain ⟨h0, h1, h2, h4, _⟩ := hB.cell4
  exact bodyPost_ret (v := .tuple #[.agg #[.bool s, .slice A l c, .bool t, .slice B l' c'], .bool ok]) (by simp [results, hres, ht, h3, go_sem, h0, h1, h2, h4]) rfl ⟨_, q, ok, rfl, hR, hI, hE⟩
theorem keepF2 {t t' : TypeId} {w : World} {g g' r i j : Nat} {x y x' y' a b : Value} (h : Blk t w g #[x, y]) (h' : Blk t' w g' #[x', y']) (hg : g ≠ r) (hg' : g' ≠ r) :
    ((((w.setCell ⟨r, i, none⟩ a).setCell ⟨r, j, none⟩ b).drew.cell? ⟨g, 0, none⟩ = some x ∧ ((w.setCell ⟨r, i, none⟩ a).setCell ⟨r, j, none⟩ b).drew.cell? ⟨g, 1, none⟩ = some y) ∧ (((w.setCell ⟨r, i, none⟩ a).setCell ⟨r, j, none⟩ b).drew.cell? ⟨g', 0, none⟩ = some x' ∧ ((w.setCell ⟨r, i, none⟩ a).setCell ⟨r, j, none⟩ b).drew.cell? ⟨g', 1, none⟩ = some y')) :=
  ⟨⟨(h.fr (Fr.set2 a b) hg).cell 0, (h.fr (Fr.set2 a b) hg).cell 1⟩, ⟨(h'.fr (Fr.set2 a b) hg').cell 0, (h'.fr (Fr.set2 a b) hg').cell 1⟩⟩
section
variable {wb w1 : World} {x y : Int} {s s' : Bool} {A A' : Option Addr} {l c l' c' : Nat}
abbrev bx (s : Bool) (A : Option Addr) (l c : Nat) : Obj := .cells #[.bool s, .slice A l c] 67
theorem two_new1 (hX : Ext wb w1) (hx : IntIs w1 (.agg #[.bool s, .slice A l c]) x) (hy : IntIs w1 (.agg #[.bool s', .slice A' l' c']) y) : TwoNew wb ((w1.alloc (bx s A l c)).alloc (bx s' A' l' c')) w1.heap.size (w1.heap.size + 1) x y := by
  refine ⟨(IntAt.new hx).ext ((Fr.refl _ _).alloc _), ⟨_, _, _, _, blk_second _ _ _ _, hy.ext (((Fr.refl _ _).alloc _).alloc _)⟩, (hX.alloc _).alloc _, by omega, hX.size, by have := hX.size; omega⟩
theorem two_new2 (hX : Ext wb w1) (hx : IntIs w1 (.agg #[.bool s, .slice A l c]) x) (hy : IntIs w1 (.agg #[.bool s', .slice A' l' c']) y) : TwoNew wb ((w1.alloc (bx s' A' l' c')).alloc (bx s A l c)) (w1.heap.size + 1) w1.heap.size x y := by
  obtain ⟨h1, h2, h3, h4, h5, h6⟩ := two_new1 hX hy hx
  exact ⟨h2, h1, h3, Ne.symm h4, h6, h5⟩
theorem two_new3 (hX : Ext wb w1) (hb : Blk 67 w1 wb.heap.size #[.bool false, .slice none 0 0]) (hx : IntIs w1 (.agg #[.bool s, .slice A l c]) x) (hy : IntIs w1 (.agg #[.bool s', .slice A' l' c']) y) :
    TwoNew wb (((w1.setCell ⟨wb.heap.size, 0, none⟩ (.bool s)).setCell ⟨wb.heap.size, 1, none⟩ (.slice A l c)).alloc (bx s' A' l' c')) wb.heap.size w1.heap.size x y := by
  have h1 := (intAt_zero hb).put hx
  have h2 := IntIs.away (a := .bool s) (b := .slice A l c) hy (intAt_zero hb)
  have h3 := Fr.local_ hX (Fr.set2 (r := wb.heap.size) (i := 0) (j := 1) (.bool s) (.slice A l c)) (Nat.le_refl _)
  have e : ((w1.setCell ⟨wb.heap.size, 0, none⟩ (.bool s)).setCell ⟨wb.heap.size, 1, none⟩ (.slice A l c)).heap.size = w1.heap.size := by simp [World.setCell]
  have h4 := IntAt.new h2
  rw [e] at h4
  exact ⟨h1.ext ((Fr.refl _ _).alloc _), h4, h3.alloc _, Nat.ne_of_lt hb.lt, Nat.le_refl _, hX.size⟩
theorem two_new4 (hX : Ext wb w1) (hb : Blk 67 w1 wb.heap.size #[.bool false, .slice none 0 0]) (hx : IntIs w1 (.agg #[.bool s, .slice A l c]) x) (hy : IntIs w1 (.agg #[.bool s', .slice A' l' c']) y) :
    TwoNew wb (((w1.setCell ⟨wb.heap.size, 0, none⟩ (.bool s')).setCell ⟨wb.heap.size, 1, none⟩ (.slice A' l' c')).alloc (bx s A l c)) w1.heap.size wb.heap.size x y := by
  obtain ⟨h1, h2, h3, h4, h5, h6⟩ := two_new3 hX hb hy hx
  exact ⟨h2, h1, h3, Ne.symm h4, h6, h5⟩
theorem two_new5 (hX : Ext wb w1) (hb : Blk 67 w1 wb.heap.size #[.bool false, .slice none 0 0]) (hb2 : Blk 67 w1 (wb.heap.size + 1) #[.bool false, .slice none 0 0]) (hx : IntIs w1 (.agg #[.bool s, .slice A l c]) x) (hy : IntIs w1 (.agg #[.bool s', .slice A' l' c']) y) :
    TwoNew wb ((((w1.setCell ⟨wb.heap.size, 0, none⟩ (.bool s)).setCell ⟨wb.heap.size, 1, none⟩ (.slice A l c)).setCell ⟨wb.heap.size + 1, 0, none⟩ (.bool s')).setCell ⟨wb.heap.size + 1, 1, none⟩ (.slice A' l' c')) wb.heap.size (wb.heap.size + 1) x y := by
  have h1 := (intAt_zero hb).put hx
  have h2 := IntIs.away (a := .bool s) (b := .slice A l c) hy (intAt_zero hb)
  have h3 := Fr.local_ hX (Fr.set2 (r := wb.heap.size) (i := 0) (j := 1) (.bool s) (.slice A l c)) (Nat.le_refl _)
  have h4 := IntAt.away (a := .bool s) (b := .slice A l c) (intAt_zero hb2) (intAt_zero hb) (by omega)
  have h5 := Fr.local_ h3 (Fr.set2 (r := wb.heap.size + 1) (i := 0) (j := 1) (.bool s') (.slice A' l' c')) (by omega)
  exact ⟨h1.away h4 (by omega), h4.put h2, h5, by omega, Nat.le_refl _, by omega⟩
theorem two_new6 (hX : Ext wb w1) (hb : Blk 67 w1 wb.heap.size #[.bool false, .slice none 0 0]) (hb2 : Blk 67 w1 (wb.heap.size + 1) #[.bool false, .slice none 0 0]) (hx : IntIs w1 (.agg #[.bool s, .slice A l c]) x) (hy : IntIs w1 (.agg #[.bool s', .slice A' l' c']) y) :
    TwoNew wb ((((w1.setCell ⟨wb.heap.size + 1, 0, none⟩ (.bool s)).setCell ⟨wb.heap.size + 1, 1, none⟩ (.slice A l c)).setCell ⟨wb.heap.size, 0, none⟩ (.bool s')).setCell ⟨wb.heap.size, 1, none⟩ (.slice A' l' c')) (wb.heap.size + 1) wb.heap.size x y := by
  have h1 := (intAt_zero hb2).put hx
  have h2 := IntIs.away (a := .bool s) (b := .slice A l c) hy (intAt_zero hb2)
  have h3 := Fr.local_ hX (Fr.set2 (r := wb.heap.size + 1) (i := 0) (j := 1) (.bool s) (.slice A l c)) (by omega)
  have h4 := IntAt.away (a := .bool s) (b := .slice A l c) (intAt_zero hb) (intAt_zero hb2) (by omega)
  have h5 := Fr.local_ h3 (Fr.set2 (r := wb.heap.size) (i := 0) (j := 1) (.bool s') (.slice A' l' c')) (Nat.le_refl _)
  exact ⟨h1.away h4 (by omega), h4.put h2, h5, by omega, by omega, Nat.le_refl _⟩
end

set_option maxHeartbeats 4000000 in
set_option maxRecDepth 100000 in
theorem ReconstructRatio_any (a b : Value) (v m : Int) (w : World) (hgl : Glob w) (ha : IntIs w a v) (hb : IntIs w b m) (hv : Fits v) (hm : wl m.natAbs < 39) (h2 : 2 ≤ m) (hga : GcdAll m) : Calls Tryz.prog 64 #[a, b] w (RetRec w v m) := by
  obtain ⟨s, A, l, c, rfl⟩ := ha.shape
  obtain ⟨t, B, l', c', rfl⟩ := hb.shape
  have HA := Lib.hid ha
  have HB := Lib.hid hb
  have HGl := Lib.hid hgl
  have HV := Lib.hid hv
  have HM := Lib.hid hm
  have HGA := Lib.hid hga
  clear ha hb hgl hv hm hga
  go_enter Tryz.func64, Tryz.ntmps64
  go_wp2_with fail
  generalize hwb : World.alloc (World.alloc (World.alloc w _) _) _ = wb
  obtain ⟨hB0, hB1, hB2, hE⟩ := frac_blocks hwb
  have HB0 := Lib.hid hB0
  have HB1 := Lib.hid hB1
  have HR := Lib.hid hB2
  have HE := Lib.hid hE
  clear hwb hB0 hB1 hB2 hE
  go_cut [6, 7] (fun s6 s7 wx => ∃ g6 g7 : Nat, s6 = .pointer (some ⟨g6, 0, none⟩) ∧ s7 = .pointer (some ⟨g7, 0, none⟩) ∧ Hid (TwoNew wb wx g6 g7 m (v % m)))
  case first =>
    refine wp_region_T 6 (fun w' => (w'.cell? ⟨w.heap.size, 0, none⟩ = some (.bool s) ∧ w'.cell? ⟨w.heap.size, 1, none⟩ = some (.slice A l c)) ∧ (w'.cell? ⟨w.heap.size + 1, 0, none⟩ = some (.bool t) ∧ w'.cell? ⟨w.heap.size + 1, 1, none⟩ = some (.slice B l' c'))) follows_mixed ?_
    refine wpT_take 0 rfl (by kernel_rfl) (fun _ _ _ h => h) (keepI2 HB0.out HB1.out ((Fr.refl _ _).drew)) (fun _ => yields_int rfl rfl rfl (fun _ h => h.2)) (fun hS => ?_)
    refine wpT_take 1 rfl (by kernel_rfl) (fun _ _ _ h => h) hS (fun _ => yields_int rfl rfl rfl (fun _ h => h.1)) (fun hS => ?_)
    refine wpT_take 2 rfl (by kernel_rfl) (fun _ _ _ h => h) hS (fun _ => yields_int rfl rfl rfl (fun _ h => h.2)) (fun hS => ?_)
    refine wpT_each (rs := [3, 4, 5]) (by kernel_rfl) (forall_three ?_ ?_ ?_)
    · refine ⟨_, rfl, rfl, fun K hK => ?_⟩
      go_simp
      refine (Mod_any _ _ v m _ (HA.out.ext (HE.out.trans ((Fr.refl _ _).drew))) (HB.out.ext (HE.out.trans ((Fr.refl _ _).drew))) HV.out (by have := HM.out; omega) (by omega)).mono ?_
      rintro e w1 ⟨u1, rfl, hI1, hF1⟩
      obtain ⟨s1, A1, l1, c1, rfl⟩ := hI1.shape
      have hX : Ext wb w1 := ((Fr.refl _ _).drew).trans hF1
      refine hK _ _ (keepI2 HB0.out HB1.out (hX)) ?_
      refine wpT_each (rs := [4, 5]) (by kernel_rfl) (forall_two ?_ ?_)
      · refine ⟨_, rfl, rfl, fun K hK => ?_⟩
        go_simp
        refine hK _ _ (keepI2 HB0.out HB1.out (hX.alloc _)) ?_
        refine wpT_each (rs := [5]) (by kernel_rfl) (forall_one ?_)
        refine ⟨_, rfl, rfl, fun K hK => ?_⟩
        go_simp
        refine hK _ _ (keepI2 HB0.out HB1.out ((hX.alloc _).alloc _)) ?_
        refine wpT_tail (l := [_, _]) 6 rfl (by kernel_rfl) ?_
        go_wp2_with fail
        go_meet
        exact ⟨_, _, rfl, rfl, two_new1 hX (HB.out.ext (HE.out.trans hX)) hI1⟩
      · refine ⟨_, rfl, rfl, fun K hK => ?_⟩
        go_simp
        refine hK _ _ (keepI2 HB0.out HB1.out (hX.alloc _)) ?_
        refine wpT_each (rs := [4]) (by kernel_rfl) (forall_one ?_)
        refine ⟨_, rfl, rfl, fun K hK => ?_⟩
        go_simp
        refine hK _ _ (keepI2 HB0.out HB1.out ((hX.alloc _).alloc _)) ?_
        refine wpT_tail (l := [_, _]) 6 rfl (by kernel_rfl) ?_
        go_wp2_with fail
        go_meet
        exact ⟨_, _, rfl, rfl, two_new2 hX (HB.out.ext (HE.out.trans hX)) hI1⟩
    · refine ⟨_, rfl, rfl, fun K hK => ?_⟩
      go_simp
      refine hK _ _ (keepI2 HB0.out HB1.out (((Fr.refl _ _).drew).alloc _)) ?_
      refine wpT_each (rs := [3, 5]) (by kernel_rfl) (forall_two ?_ ?_)
      · refine ⟨_, rfl, rfl, fun K hK => ?_⟩
        go_simp
        refine (Mod_any _ _ v m _ (HA.out.ext (HE.out.trans (((Fr.refl _ _).drew).alloc _))) (HB.out.ext (HE.out.trans (((Fr.refl _ _).drew).alloc _))) HV.out (by have := HM.out; omega) (by omega)).mono ?_
        rintro e w1 ⟨u1, rfl, hI1, hF1⟩
        obtain ⟨s1, A1, l1, c1, rfl⟩ := hI1.shape
        have hX : Ext wb w1 := (((Fr.refl _ _).drew).alloc _).trans hF1
        refine hK _ _ (keepI2 HB0.out HB1.out (hX)) ?_
        refine wpT_each (rs := [5]) (by kernel_rfl) (forall_one ?_)
        refine ⟨_, rfl, rfl, fun K hK => ?_⟩
        go_simp
        refine hK _ _ (keepI2 HB0.out HB1.out (hX.alloc _)) ?_
        have hb := (Blk.new wb 67 #[.bool false, .slice none 0 0]).ext (Fr.undrew hF1)
        obtain ⟨f0, f1, f2, f3⟩ := hb.cell2
        have hlt := hb.lt
        have hne := Nat.ne_of_lt hlt
        refine wpT_tail (l := [_, _]) 6 rfl (by kernel_rfl) ?_
        go_wp2_with fail
        go_meet
        exact ⟨_, _, rfl, rfl, two_new3 hX hb (HB.out.ext (HE.out.trans hX)) hI1⟩
      · refine ⟨_, rfl, rfl, fun K hK => ?_⟩
        go_simp
        refine hK _ _ (keepI2 HB0.out HB1.out ((((Fr.refl _ _).drew).alloc _).alloc _)) ?_
        refine wpT_each (rs := [3]) (by kernel_rfl) (forall_one ?_)
        refine ⟨_, rfl, rfl, fun K hK => ?_⟩
        go_simp
        refine (Mod_any _ _ v m _ (HA.out.ext (HE.out.trans ((((Fr.refl _ _).drew).alloc _).alloc _))) (HB.out.ext (HE.out.trans ((((Fr.refl _ _).drew).alloc _).alloc _))) HV.out (by have := HM.out; omega) (by omega)).mono ?_
        rintro e w1 ⟨u1, rfl, hI1, hF1⟩
        obtain ⟨s1, A1, l1, c1, rfl⟩ := hI1.shape
        have hX : Ext wb w1 := ((((Fr.refl _ _).drew).alloc _).alloc _).trans hF1
        refine hK _ _ (keepI2 HB0.out HB1.out (hX)) ?_
        have hb := ((Blk.new wb 67 #[.bool false, .slice none 0 0]).alloc (.cells #[.bool false, .slice none 0 0] 67)).ext (Fr.undrew hF1)
        have hb2 := (blk_second wb 67 #[.bool false, .slice none 0 0] #[.bool false, .slice none 0 0]).ext (Fr.undrew hF1)
        obtain ⟨f0, f1, f2, f3⟩ := hb.cell2
        obtain ⟨f4, f5, f6, f7⟩ := hb2.cell2
        refine wpT_tail (l := [_, _]) 6 rfl (by kernel_rfl) ?_
        go_wp2_with fail
        go_meet
        exact ⟨_, _, rfl, rfl, two_new5 hX hb hb2 (HB.out.ext (HE.out.trans hX)) hI1⟩
    · refine ⟨_, rfl, rfl, fun K hK => ?_⟩
      go_simp
      refine hK _ _ (keepI2 HB0.out HB1.out (((Fr.refl _ _).drew).alloc _)) ?_
      refine wpT_each (rs := [3, 4]) (by kernel_rfl) (forall_two ?_ ?_)
      · refine ⟨_, rfl, rfl, fun K hK => ?_⟩
        go_simp
        refine (Mod_any _ _ v m _ (HA.out.ext (HE.out.trans (((Fr.refl _ _).drew).alloc _))) (HB.out.ext (HE.out.trans (((Fr.refl _ _).drew).alloc _))) HV.out (by have := HM.out; omega) (by omega)).mono ?_
        rintro e w1 ⟨u1, rfl, hI1, hF1⟩
        obtain ⟨s1, A1, l1, c1, rfl⟩ := hI1.shape
        have hX : Ext wb w1 := (((Fr.refl _ _).drew).alloc _).trans hF1
        refine hK _ _ (keepI2 HB0.out HB1.out (hX)) ?_
        refine wpT_each (rs := [4]) (by kernel_rfl) (forall_one ?_)
        refine ⟨_, rfl, rfl, fun K hK => ?_⟩
        go_simp
        refine hK _ _ (keepI2 HB0.out HB1.out (hX.alloc _)) ?_
        have hb := (Blk.new wb 67 #[.bool false, .slice none 0 0]).ext (Fr.undrew hF1)
        obtain ⟨f0, f1, f2, f3⟩ := hb.cell2
        have hlt := hb.lt
        have hne := Nat.ne_of_lt hlt
        refine wpT_tail (l := [_, _]) 6 rfl (by kernel_rfl) ?_
        go_wp2_with fail
        go_meet
        exact ⟨_, _, rfl, rfl, two_new4 hX hb (HB.out.ext (HE.out.trans hX)) hI1⟩
      · refine ⟨_, rfl, rfl, fun K hK => ?_⟩
        go_simp
        refine hK _ _ (keepI2 HB0.out HB1.out ((((Fr.refl _ _).drew).alloc _).alloc _)) ?_
        refine wpT_each (rs := [3]) (by kernel_rfl) (forall_one ?_)
        refine ⟨_, rfl, rfl, fun K hK => ?_⟩
        go_simp
        refine (Mod_any _ _ v m _ (HA.out.ext (HE.out.trans ((((Fr.refl _ _).drew).alloc _).alloc _))) (HB.out.ext (HE.out.trans ((((Fr.refl _ _).drew).alloc _).alloc _))) HV.out (by have := HM.out; omega) (by omega)).mono ?_
        rintro e w1 ⟨u1, rfl, hI1, hF1⟩
        obtain ⟨s1, A1, l1, c1, rfl⟩ := hI1.shape
        have hX : Ext wb w1 := ((((Fr.refl _ _).drew).alloc _).alloc _).trans hF1
        refine hK _ _ (keepI2 HB0.out HB1.out (hX)) ?_
        have hb := ((Blk.new wb 67 #[.bool false, .slice none 0 0]).alloc (.cells #[.bool false, .slice none 0 0] 67)).ext (Fr.undrew hF1)
        have hb2 := (blk_second wb 67 #[.bool false, .slice none 0 0] #[.bool false, .slice none 0 0]).ext (Fr.undrew hF1)
        obtain ⟨f0, f1, f2, f3⟩ := hb.cell2
        obtain ⟨f4, f5, f6, f7⟩ := hb2.cell2
        refine wpT_tail (l := [_, _]) 6 rfl (by kernel_rfl) ?_
        go_wp2_with fail
        go_meet
        exact ⟨_, _, rfl, rfl, two_new6 hX hb hb2 (HB.out.ext (HE.out.trans hX)) hI1⟩
  case rest =>
    obtain ⟨g6, g7, rfl, rfl, hT⟩ := hcut
    obtain ⟨h6, h7, hEc, hne67, hl6, hl7⟩ := hT.out
    have hR1 := HR.out.ext hEc
    have hM1 : IntAt wc (w.heap.size + 1) m := ⟨_, _, _, _, HB1.out.ext hEc, HB.out.ext (HE.out.trans hEc)⟩
    have hsz : w.heap.size + 1 + 1 < wb.heap.size := HR.out.lt
    have hmod0 := Int.emod_nonneg v (show m ≠ 0 by omega)
    have hmod1 := Int.emod_lt_of_pos v (show 0 < m by omega)
    have H6 := Lib.hid h6
    have H7 := Lib.hid h7
    have HEc := Lib.hid (HE.out.trans hEc)
    have HR1 := Lib.hid hR1
    have HM1 := Lib.hid hM1
    have hc6 := h6.lt
    have hc7 := h7.lt
    clear h6 h7 hEc hT hR1 hM1 HB0 HB1 HR HE HA HV
    generalize hMM : w.heap.size + 1 = M at *
    generalize hRR : M + 1 = R at *
    have d1 : w.heap.size ≤ M := by omega
    have d2 : w.heap.size ≤ R := by omega
    have d3 : M ≠ R := by omega
    have d4 : M < g6 := by omega
    have d5 : M < g7 := by omega
    have d6 : R < g6 := by omega
    have d7 : R < g7 := by omega
    clear hMM hRR hsz hl6 hl7
    clear wb
    go_wp2_with fail
    refine (New_pos 0 _ W64_pos rfl rfl).mono ?_
    rintro e w1 ⟨u1, rfl, hI1, hF1⟩
    obtain ⟨s1, B1, l1, c1, rfl⟩ := hI1.shape
    go_wp2_with fail
    refine (New_pos 1 _ W64_one rfl rfl).mono ?_
    rintro e w2 ⟨u2, rfl, hI2, hF2⟩
    obtain ⟨s2, B2, l2, c2, rfl⟩ := hI2.shape
    have HTN := Lib.hid (two_new1 (hF1.trans hF2) (hI1.ext hF2) hI2)
    have d8 : g6 < w2.heap.size := Nat.lt_of_lt_of_le hc6 (hF1.trans hF2).size
    have d9 : g7 < w2.heap.size := Nat.lt_of_lt_of_le hc7 (hF1.trans hF2).size
    clear hI1 hI2 hF1 hF2 hc6 hc7
    go_wp2
    generalize hwx : World.alloc (World.alloc w2 _) _ = wx
    have HST : Hid (RecSt w wx M R g6 g7 w2.heap.size (w2.heap.size + 1) v m m (v % m) 0 1) := by
      have h := HTN.out
      rw [show (w2.alloc (bx s1 B1 l1 c1)).alloc (bx s2 B2 l2 c2) = wx from hwx] at h
      obtain ⟨k1, k2, k3, _⟩ := h
      exact ⟨⟨HEc.out.trans k3, HM1.out.ext k3, HR1.out.ext k3, H6.out.ext k3, H7.out.ext k3, k1, k2⟩, RecInv.start hmod0 hmod1, fun _ _ h => h⟩
    have hfg : w2.heap.size ≠ w2.heap.size + 1 := by omega
    have d10 : g6 < w2.heap.size + 1 := by omega
    have d11 : g7 < w2.heap.size + 1 := by omega
    generalize w2.heap.size + 1 = g at *
    generalize w2.heap.size = f at *
    clear hwx HTN H6 H7 HEc HR1 HM1 hmod0 hmod1 w1 w2
    have HNE : Hid (RecNe w M R g6 g7 f g) := ⟨d1, d2, d3, d4, d5, d6, d7, hne67, d8, d9, d10, d11, hfg⟩
    go_loopg [10] (v % m).toNat (fun k _ wr => ∃ r0 r1 t0 t1 : Int, k = r1.toNat ∧ Hid (RecSt w wr M R g6 g7 f g v m r0 r1 t0 t1))
    case atStart => exact ⟨m, v % m, 0, 1, rfl, HST.out⟩
    case round =>
      obtain ⟨r0, r1, t0, t1, hk, hST⟩ := hrel
      have HK := Lib.hid hk
      clear hk HST
      obtain ⟨hMem, hInv, hRun⟩ := hST.out
      obtain ⟨b1, b2, b3, b4⟩ := hInv.bound
      have HInv := Lib.hid hInv
      have HRun := Lib.hid hRun
      have HMem := Lib.hid hMem
      have W1 : Hid (wl t1.natAbs < 39) := Nat.lt_of_le_of_lt (wl_mono b1) HM.out
      have W2 : Hid (wl r0.natAbs < 39) := Nat.lt_of_le_of_lt (wl_mono b2) HM.out
      have W3 : Hid (wl r1.natAbs < 39) := Nat.lt_of_le_of_lt (wl_mono b3) HM.out
      have W4 : Hid (0 < r1 → wl t0.natAbs < 39) := fun h => Nat.lt_of_le_of_lt (wl_mono (b4 h)) HM.out
      have HB3 := Lib.hid b3
      have FM : Hid (Fits m) := by have := HM.out; unfold Hid Fits; omega
      obtain ⟨sm, Am, lm, cm, hBm, hIm⟩ := hMem.mod
      obtain ⟨sr, Ar, lr, cr, hBr, hIr⟩ := hMem.rest1
      obtain ⟨m0, m1, _, _⟩ := hBm.cell2
      obtain ⟨n0, n1, _, _⟩ := hBr.cell2
      clear hST hMem hInv hRun b1 b2 b3 b4
      go_wp2_with fail
      refine (isSmall_any _ _ r1 m _ hIr hIm (by have := W3.out; omega) FM.out).mono ?_
      by_cases hsm : r1 * r1 * 2 < m
      · have HSM := Lib.hid hsm
        rw [decide_eq_true hsm]
        rintro e w1 ⟨rfl, hF1⟩
        replace HMem := Lib.hid (HMem.out.on hF1)
        clear hBm hIm hBr hIr m0 m1 n0 n1 hF1 hsm
        obtain ⟨sm, Am, lm, cm, hBm, hIm⟩ := HMem.out.mod
        obtain ⟨sg_, Ag, lg, cg, hBg, hIg⟩ := HMem.out.fac1
        obtain ⟨m0, m1, _, _⟩ := hBm.cell2
        obtain ⟨n0, n1, _, _⟩ := hBg.cell2
        go_wp2_with fail
        refine (isSmall_any _ _ t1 m _ hIg hIm (by have := W1.out; omega) FM.out).mono ?_
        by_cases hst : t1 * t1 * 2 < m
        · have HST := Lib.hid hst
          rw [decide_eq_true hst]
          rintro e w2 ⟨rfl, hF1⟩
          replace HMem := Lib.hid (HMem.out.on hF1)
          clear hBm hIm hBg hIg m0 m1 n0 n1 hF1 hst
          obtain ⟨sm, Am, lm, cm, hBm, hIm⟩ := HMem.out.mod
          obtain ⟨sg_, Ag, lg, cg, hBg, hIg⟩ := HMem.out.fac1
          obtain ⟨m0, m1, _, _⟩ := hBm.cell2
          obtain ⟨n0, n1, _, _⟩ := hBg.cell2
          go_wp2_with fail
          refine (GCD_any _ _ t1 m _ (HGl.out.ext HMem.out.ext) hIg hIm (by have := W1.out; unfold Fits; omega) FM.out (HGA.out _ _ (Or.inr (Nat.le_refl _)))).mono ?_
          rintro e w3 ⟨u3, rfl, hI3, hF1⟩
          obtain ⟨s3, A3, l3, c3, rfl⟩ := hI3.shape
          have HI3 := Lib.hid hI3
          replace HMem := Lib.hid (HMem.out.on hF1)
          clear hBm hIm hBg hIg m0 m1 n0 n1 hF1 hI3
          go_wp2_with fail
          refine (IsOne_any _ _ _ HI3.out).mono ?_
          clear HI3
          by_cases hg1 : ((Int.gcd t1 m : Nat) : Int) = 1
          · rw [decide_eq_true hg1]
            have HG1 : Hid (Int.gcd t1 m = 1) := by unfold Hid; omega
            rintro e w4 ⟨rfl, hF1⟩
            replace HMem := Lib.hid (HMem.out.on hF1)
            clear hF1 hg1
            obtain ⟨sr, Ar, lr, cr, hBr, hIr⟩ := HMem.out.rest1
            obtain ⟨sg_, Ag, lg, cg, hBg, hIg⟩ := HMem.out.fac1
            obtain ⟨m0, m1, _, _⟩ := hBr.cell2
            obtain ⟨n0, n1, _, _⟩ := hBg.cell2
            go_wp2_with fail
            refine (GCD_any _ _ t1 r1 _ (HGl.out.ext HMem.out.ext) hIg hIr (by have := W1.out; unfold Fits; omega) (by have := W3.out; unfold Fits; omega) (HGA.out _ _ (Or.inr HB3.out))).mono ?_
            rintro e w5 ⟨u5, rfl, hI5, hF1⟩
            obtain ⟨s5, A5, l5, c5, rfl⟩ := hI5.shape
            have HI5 := Lib.hid hI5
            replace HMem := Lib.hid (HMem.out.on hF1)
            clear hBr hIr hBg hIg m0 m1 n0 n1 hF1 hI5
            go_wp2_with fail
            refine (IsOne_any _ _ _ HI5.out).mono ?_
            clear HI5
            by_cases hg2 : ((Int.gcd t1 r1 : Nat) : Int) = 1
            · rw [decide_eq_true hg2]
              have HG2 : Hid (Int.gcd t1 r1 = 1) := by unfold Hid; omega
              have Ht0 : Hid (t1 ≠ 0) := fun e0 => by
                have h1 := HG1.out
                rw [e0] at h1
                simp at h1
                omega
              rintro e w6 ⟨rfl, hF1⟩
              have HRi : Hid (RecIs v m (Rat.divInt r1 t1) true) := ⟨r1, t1, HRun.out _ _ (RecRun.done HSM.out), Or.inl ⟨rfl, HST.out, HG1.out, HG2.out, rfl⟩⟩
              replace HMem := Lib.hid (HMem.out.on hF1)
              clear hF1 hg2
              obtain ⟨sr, Ar, lr, cr, hBr, hIr⟩ := HMem.out.rest1
              obtain ⟨sg_, Ag, lg, cg, hBg, hIg⟩ := HMem.out.fac1
              obtain ⟨m0, m1, _, _⟩ := hBr.cell2
              obtain ⟨n0, n1, _, _⟩ := hBg.cell2
              go_wp2_with fail
              refine (Fraction_any _ _ r1 t1 _ (HGl.out.ext HMem.out.ext) hIr hIg (by have := W3.out; unfold Fits; omega) (by have := W1.out; unfold Fits; omega) (HGA.out _ _ (Or.inl HB3.out)) (by have := W1.out; omega) Ht0.out).mono ?_
              rintro e w7 ⟨u7, rfl, hR7, hF1⟩
              obtain ⟨s, t, A, B, l, c, l', c', rfl, hIn, hId⟩ := hR7
              have HIn := Lib.hid hIn
              have HId := Lib.hid hId
              replace HMem := Lib.hid (HMem.out.on hF1)
              clear hBr hIr hBg hIg m0 m1 n0 n1 hF1 hIn hId
              obtain ⟨z0, z1, z2, z3, z4, z5, z6, z7⟩ := HMem.out.res.cell4
              go_wp2
              exact fin_rec rfl rfl rfl (HMem.out.res.put4 _ _ _ _) (Fr.local_ HMem.out.ext (Fr.set4 _ _ _ _) d2) ⟨_, _, _, _, _, _, _, _, rfl, HIn.out.other HMem.out.res noWords4 (Fr.set4 _ _ _ _), HId.out.other HMem.out.res noWords4 (Fr.set4 _ _ _ _)⟩ HRi.out
            · rw [decide_eq_false hg2]
              have HG2 : Hid (¬ Int.gcd t1 r1 = 1) := by unfold Hid; omega
              clear hg2
              rintro e w6 ⟨rfl, hF⟩
              have HRi : Hid (RecIs v m 0 false) := ⟨r1, t1, HRun.out _ _ (RecRun.done HSM.out), Or.inr ⟨rfl, fun hh => HG2.out hh.2.2, rfl⟩⟩
              replace HMem := Lib.hid (HMem.out.on hF)
              clear hF
              obtain ⟨z0, z1, z2, z3, z4, z5, z6, z7⟩ := HMem.out.res.cell4
              go_wp2
              exact fin_rec rfl rfl rfl (HMem.out.res.put4 _ _ _ _) (Fr.local_ HMem.out.ext (Fr.set4 _ _ _ _) d2) (RatIs.zero _) HRi.out
          · rw [decide_eq_false hg1]
            have HG1 : Hid (¬ Int.gcd t1 m = 1) := by unfold Hid; omega
            clear hg1
            rintro e w4 ⟨rfl, hF⟩
            have HRi : Hid (RecIs v m 0 false) := ⟨r1, t1, HRun.out _ _ (RecRun.done HSM.out), Or.inr ⟨rfl, fun hh => HG1.out hh.2.1, rfl⟩⟩
            replace HMem := Lib.hid (HMem.out.on hF)
            clear hF
            obtain ⟨z0, z1, z2, z3, z4, z5, z6, z7⟩ := HMem.out.res.cell4
            go_wp2
            exact fin_rec rfl rfl rfl (HMem.out.res.put4 _ _ _ _) (Fr.local_ HMem.out.ext (Fr.set4 _ _ _ _) d2) (RatIs.zero _) HRi.out
        · rw [decide_eq_false hst]
          have HST := Lib.hid hst
          clear hst hBm hIm hBg hIg m0 m1 n0 n1
          rintro e w2 ⟨rfl, hF⟩
          have HRi : Hid (RecIs v m 0 false) := ⟨r1, t1, HRun.out _ _ (RecRun.done HSM.out), Or.inr ⟨rfl, fun hh => HST.out hh.1, rfl⟩⟩
          replace HMem := Lib.hid (HMem.out.on hF)
          clear hF
          obtain ⟨z0, z1, z2, z3, z4, z5, z6, z7⟩ := HMem.out.res.cell4
          go_wp2
          exact fin_rec rfl rfl rfl (HMem.out.res.put4 _ _ _ _) (Fr.local_ HMem.out.ext (Fr.set4 _ _ _ _) d2) (RatIs.zero _) HRi.out
      · rw [decide_eq_false hsm]
        rintro e w1 ⟨rfl, hF1⟩
        have HSM := Lib.hid hsm
        have hr1 : 0 < r1 := by
          have := HInv.out.nonneg
          rcases Int.lt_or_le 0 r1 with h | h
          · exact h
          · exfalso; apply hsm; have e0 : r1 = 0 := by omega
            rw [e0]; omega
        replace HMem := Lib.hid (HMem.out.on hF1)
        clear hBm hIm hBr hIr m0 m1 n0 n1 hF1 hsm
        obtain ⟨s0, A0, l0, c0, hB0, hI0⟩ := HMem.out.rest0
        obtain ⟨s7, A7, l7, c7, hB7, hI7⟩ := HMem.out.rest1
        obtain ⟨m0, m1, _, _⟩ := hB0.cell2
        obtain ⟨n0, n1, _, _⟩ := hB7.cell2
        go_wp2_with fail
        refine (QuoRem_any _ _ r0 r1 _ hI0 hI7 (by have := W2.out; unfold Fits; omega) (by have := W3.out; omega) (by omega)).mono ?_
        rintro e w2 ⟨u1, u2, rfl, hN1, hN2, hF2⟩
        obtain ⟨sq, Aq, lq, cq, rfl⟩ := hN1.shape
        obtain ⟨sn, An, ln, cn, rfl⟩ := hN2.shape
        have HI7 := Lib.hid (hI7.ext hF2)
        have HTN := Lib.hid (two_new1 (Fr.refl _ _) hN1 hN2)
        replace HMem := Lib.hid (HMem.out.on hF2)
        have e10 : g < w2.heap.size := HMem.out.fac1.lt
        have e11 : f < w2.heap.size := HMem.out.fac0.lt
        have HWq : Hid (wl (r0.tdiv r1).natAbs < 39) := by
          have h1 : (r0.tdiv r1).natAbs ≤ r0.natAbs := by rw [Int.natAbs_tdiv]; exact Nat.div_le_self _ _
          exact Nat.lt_of_le_of_lt (wl_mono h1) W2.out
        have HNx := Lib.hid (HInv.out.next hr1)
        have HRn : Hid (∀ x y, RecRun m r1 (r0.tmod r1) t1 (t0 - r0.tdiv r1 * t1) x y → RecRun m m (v % m) 0 1 x y) := fun x y h => HRun.out x y (RecRun.step (Int.not_lt.2 HSM.out) h)
        have hmeas : Hid ((r0.tmod r1).toNat < gk) := by
          have h1 := HNx.out.lt
          have h2 := HNx.out.nonneg
          have := HK.out
          unfold Hid; omega
        clear hN1 hN2 hF2 hB0 hI0 hB7 hI7 m0 m1 n0 n1 HSM HInv HRun
        go_wp2_with fail
        generalize hw3 : World.alloc (World.alloc w2 _) _ = w3
        have hTN := HTN.out
        rw [show (w2.alloc (bx sq Aq lq cq)).alloc (bx sn An ln cn) = w3 from hw3] at hTN
        obtain ⟨h10, h11, hE3, hne10, _, _⟩ := hTN
        replace HMem := Lib.hid (HMem.out.on hE3)
        replace HI7 := Lib.hid (HI7.out.ext hE3)
        have e12 : g < w2.heap.size + 1 := by omega
        have e13 : f < w2.heap.size + 1 := by omega
        have H10 := Lib.hid h10
        have H11 := Lib.hid h11
        generalize w2.heap.size + 1 = G11 at *
        generalize w2.heap.size = G10 at *
        clear hw3 HTN hE3 h10 h11
        obtain ⟨s7', A7', l7', c7', hB7, hI7⟩ := HMem.out.rest1
        obtain ⟨s11, A11, l11, c11, hB11, hI11⟩ := H11.out
        obtain ⟨s6, A6, l6, c6, hB6, _⟩ := HMem.out.rest0
        obtain ⟨p0, p1, p2, p3⟩ := hB6.cell2
        have hD := HNE.out
        unfold RecNe at hD
        refine wp_region_T 3 (fun w' => (w'.cell? ⟨g7, 0, none⟩ = some (.bool s7') ∧ w'.cell? ⟨g7, 1, none⟩ = some (.slice A7' l7' c7')) ∧ (w'.cell? ⟨G11, 0, none⟩ = some (.bool s11) ∧ w'.cell? ⟨G11, 1, none⟩ = some (.slice A11 l11 c11))) follows_mixed ?_
        refine wpT_take 0 rfl (by kernel_rfl) (fun _ _ _ h => h) (keepI2 hB7 hB11 (Fr.refl _ _).drew) (fun _ => yields_int rfl rfl rfl (fun _ h => h.1)) (fun hS => ?_)
        refine wpT_take 1 rfl (by kernel_rfl) (fun _ _ _ h => h) hS (fun _ => yields_int rfl rfl rfl (fun _ h => h.2)) (fun hS => ?_)
        refine wpT_only 2 rfl (by kernel_rfl) rfl (fun K hK => ?_)
        go_simp
        refine hK _ _ (keepF2 hB7 hB11 (r := g6) (i := 0) (j := 1) (by omega) (by omega)) ?_
        have kA := (HMem.out.put0 HNE.out hI7).on (Fr.refl _ _).drew
        have kI := (IntIs.away (a := .bool s7') (b := .slice A7' l7' c7') hI11 HMem.out.rest0).ext (Fr.refl _ _).drew
        have k10 := (IntAt.away (a := .bool s7') (b := .slice A7' l7' c7') H10.out HMem.out.rest0 (by omega)).ext (Fr.refl _ _).drew
        first
          | generalize World.drew (World.setCell (World.setCell w3 _ _) _ _) = wA at *
          | generalize World.setCell (World.setCell (World.drew w3) _ _) _ _ = wA at *
        have HMA := Lib.hid kA
        have HIA := Lib.hid kI
        have H10A := Lib.hid k10
        obtain ⟨s7'', A7'', l7'', c7'', hB7'', _⟩ := kA.rest1
        obtain ⟨q0, q1, q2, q3⟩ := hB7''.cell2
        clear kA kI k10 hK hS hB7 hI7 hB11 hI11 hB6 p0 p1 p2 p3 HI7 H10 H11 hB7'' HMem
        refine wpT_tail (l := [_]) 3 rfl (by kernel_rfl) ?_
        go_wp2_with fail
        have kB := HMA.out.put1 HNE.out HIA.out
        have k10 := IntAt.away (a := .bool s11) (b := .slice A11 l11 c11) H10A.out HMA.out.rest1 (by omega)
        generalize World.setCell (World.setCell wA _ _) _ _ = wB at *
        have HMB := Lib.hid kB
        have H10B := Lib.hid k10
        clear kB k10 q0 q1 q2 q3 HMA HIA H10A
        obtain ⟨sf, Af, lf, cf, hBf, hIf⟩ := HMB.out.fac0
        obtain ⟨sg_, Ag, lg, cg, hBg, hIg⟩ := HMB.out.fac1
        obtain ⟨st, At, lt, ct, hBt, hIt⟩ := H10B.out
        refine wp_region_T 6 (fun w' => (w'.cell? ⟨g, 0, none⟩ = some (.bool sg_) ∧ w'.cell? ⟨g, 1, none⟩ = some (.slice Ag lg cg)) ∧ (w'.cell? ⟨f, 0, none⟩ = some (.bool sf) ∧ w'.cell? ⟨f, 1, none⟩ = some (.slice Af lf cf)) ∧ (w'.cell? ⟨G10, 0, none⟩ = some (.bool st) ∧ w'.cell? ⟨G10, 1, none⟩ = some (.slice At lt ct))) follows_mixed ?_
        refine wpT_take 0 rfl (by kernel_rfl) (fun _ _ _ h => h) (keepI3 hBg hBf hBt (Fr.refl _ _).drew) (fun _ => yields_int rfl rfl rfl (fun _ h => h.1)) (fun hS => ?_)
        refine wpT_take 1 rfl (by kernel_rfl) (fun _ _ _ h => h) hS (fun _ => yields_int rfl rfl rfl (fun _ h => h.2.1)) (fun hS => ?_)
        refine wpT_take 2 rfl (by kernel_rfl) (fun _ _ _ h => h) hS (fun _ => yields_int rfl rfl rfl (fun _ h => h.2.2)) (fun hS => ?_)
        refine wpT_take 3 rfl (by kernel_rfl) (fun _ _ _ h => h) hS (fun _ => yields_int rfl rfl rfl (fun _ h => h.1)) (fun hS => ?_)
        refine wpT_only 4 rfl (by kernel_rfl) rfl (fun K hK => ?_)
        go_simp
        refine (Mul_any _ _ (r0.tdiv r1) t1 _ (hIt.ext (Fr.refl _ _).drew) (hIg.ext (Fr.refl _ _).drew) (by have := HWq.out; unfold Fits; omega) (by have := W1.out; unfold Fits; omega) (Or.inr (by have := W1.out; omega))).mono ?_
        rintro e wM ⟨uM, rfl, hIM, hFM⟩
        obtain ⟨sM, AM, lM, cM, rfl⟩ := hIM.shape
        replace hFM := Fr.undrew hFM
        refine hK _ _ (keepI3 hBg hBf hBt hFM) ?_
        refine wpT_only 5 rfl (by kernel_rfl) rfl (fun K hK => ?_)
        go_simp
        refine (Sub_any _ _ t0 (r0.tdiv r1 * t1) _ (hIf.ext hFM) hIM (by have := W4.out hr1; unfold Fits; omega) (by have h1 := wl_mul (r0.tdiv r1).natAbs t1.natAbs; have := HWq.out; have := W1.out; unfold Fits; rw [Int.natAbs_mul]; omega)).mono ?_
        rintro e wS ⟨uS, rfl, hIS, hFS⟩
        obtain ⟨sS, AS, lS, cS, rfl⟩ := hIS.shape
        refine hK _ _ (keepI3 hBg hBf hBt (hFM.trans hFS)) ?_
        have HMC := Lib.hid (HMB.out.on (hFM.trans hFS))
        have HIg := Lib.hid (hIg.ext (hFM.trans hFS))
        have HIS := Lib.hid hIS
        clear hK hS hBf hIf hBg hIg hBt hIt hIM hFM hIS hFS HMB H10B
        obtain ⟨sf', Af', lf', cf', hBf', _⟩ := HMC.out.fac0
        obtain ⟨sg', Ag', lg', cg', hBg', _⟩ := HMC.out.fac1
        obtain ⟨p0, p1, p2, p3⟩ := hBf'.cell2
        obtain ⟨q0, q1, q2, q3⟩ := hBg'.cell2
        clear hBf' hBg'
        refine wpT_tail (l := [_, _]) 6 rfl (by kernel_rfl) ?_
        go_wp2
        have kC := HMC.out.put2 HNE.out HIg.out
        have kI := IntIs.away (a := .bool sg_) (b := .slice Ag lg cg) HIS.out HMC.out.fac0
        have kD := kC.put3 HNE.out kI
        go_roundg (r0.tmod r1).toNat
        case measure => exact hmeas.out
        case rel => exact ⟨r1, r0.tmod r1, t1, t0 - r0.tdiv r1 * t1, rfl, kD, HNx.out, HRn.out⟩
end Go.Proofs.YtndafmjcelgnbaaGreatDoor
