/-
  Package integer: Quo. Package rational: Fraction.
-/
import Derived.Test.YtndafmjcelgnbaaGreatDoorRat2
namespace Go.Proofs.YtndafmjcelgnbaaGreatDoor
open Go.RowKit

set_option maxHeartbeats 2000000 in
set_option maxRecDepth 100000 in
theorem Quo_any (a b : Value) (x y : Int) (w : World) (ha : IntIs w a x) (hb : IntIs w b y) (hx : Fits x) (hy : wl y.natAbs < 80) (h0 : y ≠ 0) : Calls Tryz.prog 135 #[a, b] w (RetInt w (x.tdiv y)) := by
  obtain ⟨s, A, l, c, rfl⟩ := ha.shape
  obtain ⟨t, B, l', c', rfl⟩ := hb.shape
  have HA := Lib.hid ha
  have HB := Lib.hid hb
  have HX := Lib.hid hx
  have HY := Lib.hid hy
  have H0 := Lib.hid h0
  clear ha hb hx hy h0
  go_enter Tryz.func135, Tryz.ntmps135
  go_wp2_with fail
  generalize hwb : World.alloc (World.alloc (World.alloc w _) _) _ = wb
  obtain ⟨hB0, hB1, hB2, hE⟩ := three_blocks hwb
  clear hwb
  refine (IsOne_any _ y _ (HB.out.ext hE)).mono ?_
  by_cases h1 : y = 1
  · rw [decide_eq_true h1]
    rintro e w1 ⟨rfl, hF⟩
    have HE := Lib.hid (hE.trans hF)
    have HB0 := Lib.hid (hB0.ext hF)
    have HB2 := Lib.hid (hB2.ext hF)
    have HQ : Hid (x.tdiv y = x) := by unfold Hid; rw [h1]; exact Int.tdiv_one x
    obtain ⟨x0, x1, _, _⟩ := HB0.out.cell2
    obtain ⟨y0, y1, y2, y3⟩ := HB2.out.cell2
    clear hE hF hB0 hB1 hB2 h1
    go_wp2
    refine fin_int2 rfl rfl (by omega) HE.out HB2.out (Fr.refl _ _) ?_
    rw [HQ.out]; exact HA.out.ext HE.out
  · rw [decide_eq_false h1]
    rintro e w1 ⟨rfl, hF⟩
    have HE := Lib.hid (hE.trans hF)
    have HB0 := Lib.hid (hB0.ext hF)
    have HB1 := Lib.hid (hB1.ext hF)
    have HB2 := Lib.hid (hB2.ext hF)
    obtain ⟨x0, x1, _, _⟩ := HB0.out.cell2
    obtain ⟨z0, z1, _, _⟩ := HB1.out.cell2
    clear hE hF hB0 hB1 hB2 h1
    go_wp2_with fail
    refine (QuoRem_any _ _ x y _ (HA.out.ext HE.out) (HB.out.ext HE.out) HX.out HY.out H0.out).mono ?_
    rintro e w2 ⟨u1, u2, rfl, hN1, hN2, hF1⟩
    obtain ⟨s1, A1, l1, c1, rfl⟩ := hN1.shape
    obtain ⟨s2, A2, l2, c2, rfl⟩ := hN2.shape
    have HN1 := Lib.hid hN1
    have HE2 := Lib.hid (HE.out.trans hF1)
    have HB2' := Lib.hid (HB2.out.ext hF1)
    obtain ⟨y0, y1, y2, y3⟩ := HB2'.out.cell2
    have hlt1 := HB2'.out.lt
    have hlt2 := Nat.lt_succ_of_lt hlt1
    clear hN1 hN2 hF1 x0 x1 z0 z1
    go_wp2
    have hB := (HB2'.out.set_ 0 (.bool s1)).set_ 1 (.slice A1 l1 c1)
    refine bodyPost_ret (results_int rfl _ _ (w.heap.size + 1 + 1) _ _ rfl ((hB.alloc _).alloc _)) rfl ⟨_, rfl, ?_, (((HE2.out.setCell (Or.inr (by simp; omega)) _).setCell (Or.inr (by simp; omega)) _).alloc _).alloc _⟩
    exact (HN1.out.store2 HB2'.out).ext (((Fr.refl _ _).alloc _).alloc _)

theorem frac_blocks {t u : TypeId} {w wb : World} {x y z : Array Value} (h : ((w.alloc (.cells x t)).alloc (.cells y t)).alloc (.cells z u) = wb) :
    Blk t wb w.heap.size x ∧ Blk t wb (w.heap.size + 1) y ∧ Blk u wb (w.heap.size + 1 + 1) z ∧ Ext w wb := by
  obtain ⟨h0, h1, h2⟩ := two_blocks (t := t) (w := w) (x := x) (y := y) rfl
  subst h
  have e2 : ((w.alloc (.cells x t)).alloc (.cells y t)).heap.size = w.heap.size + 1 + 1 := by simp
  have h3 := Blk.new ((w.alloc (.cells x t)).alloc (.cells y t)) u z
  rw [e2] at h3
  exact ⟨h0.alloc _, h1.alloc _, h3, h2.alloc _⟩
theorem keepI3 {t t' t'' : TypeId} {w w' : World} {g g' g'' : Nat} {x y x' y' x'' y'' : Value} (h : Blk t w g #[x, y]) (h' : Blk t' w g' #[x', y']) (h'' : Blk t'' w g'' #[x'', y'']) (hF : Ext w w') :
    (w'.cell? ⟨g, 0, none⟩ = some x ∧ w'.cell? ⟨g, 1, none⟩ = some y) ∧ (w'.cell? ⟨g', 0, none⟩ = some x' ∧ w'.cell? ⟨g', 1, none⟩ = some y') ∧ (w'.cell? ⟨g'', 0, none⟩ = some x'' ∧ w'.cell? ⟨g'', 1, none⟩ = some y'') :=
  ⟨⟨(h.ext hF).cell 0, (h.ext hF).cell 1⟩, ⟨(h'.ext hF).cell 0, (h'.ext hF).cell 1⟩, ⟨(h''.ext hF).cell 0, (h''.ext hF).cell 1⟩⟩
theorem gcd_ne {x y : Int} (hy : 0 < y) : ((Int.gcd x y : Nat) : Int) ≠ 0 := by
  have : Int.gcd x y ≠ 0 := fun h => by rw [Int.gcd_eq_zero_iff] at h; omega
  omega
theorem gcd_wl {x y : Int} (hy : 0 < y) (h : wl y.natAbs < 80) : wl (((Int.gcd x y : Nat) : Int)).natAbs < 80 := by
  have h1 : Int.gcd x y ≤ y.natAbs := Nat.gcd_le_right _ (by omega)
  have := wl_mono h1
  rw [Int.natAbs_natCast]
  omega
theorem frac_gcd {x y : Int} (hy : 0 < y) : (Rat.divInt x y).num = x.tdiv (Int.gcd x y : Int) ∧ ((Rat.divInt x y).den : Int) = y.tdiv (Int.gcd x y : Int) := by
  have hd1 : (Int.gcd x y : Int) ∣ x := Int.gcd_dvd_left _ _
  have hd2 : (Int.gcd x y : Int) ∣ y := Int.gcd_dvd_right _ _
  rw [Rat.num_divInt, Rat.den_divInt, if_neg (by omega), Int.sign_eq_one_of_pos hy, Int.one_mul, Int.gcd_comm y x, Int.tdiv_eq_ediv_of_dvd hd1, Int.tdiv_eq_ediv_of_dvd hd2]
  refine ⟨rfl, ?_⟩
  rw [Int.natCast_ediv]
  congr 1
  omega
theorem frac_coprime {x y : Int} (hy : 0 < y) (h : ((Int.gcd x y : Nat) : Int) = 1) : (Rat.divInt x y).num = x ∧ ((Rat.divInt x y).den : Int) = y := by
  have := frac_gcd (x := x) hy
  rwa [h, Int.tdiv_one, Int.tdiv_one] at this
theorem frac_one {x y : Int} (h : y = 1) : (Rat.divInt x y).num = x ∧ denF (Rat.divInt x y) = 0 := by
  have h1 := frac_coprime (x := x) (y := y) (by omega) (by rw [h, Int.gcd_one]; rfl)
  refine ⟨h1.1, denF_zero.2 ?_⟩
  have := h1.2
  omega

set_option maxHeartbeats 4000000 in
set_option maxRecDepth 100000 in
theorem Fraction_pos (a b : Value) (x y : Int) (w : World) (hgl : Glob w) (ha : IntIs w a x) (hb : IntIs w b y) (hfx : Fits x) (hfy : Fits y) (hgk : GcdOk x y) (h80 : wl y.natAbs < 80) (hx0 : x ≠ 0) (hy : 0 < y) : Calls Tryz.prog 124 #[a, b] w (RetRat w (Rat.divInt x y)) := by
  obtain ⟨s, A, l, c, rfl⟩ := ha.shape
  obtain ⟨t, B, l', c', rfl⟩ := hb.shape
  have HA := Lib.hid ha
  have HB := Lib.hid hb
  have HGl := Lib.hid hgl
  have HFx := Lib.hid hfx
  have HFy := Lib.hid hfy
  have HGk := Lib.hid hgk
  have Hy80 := Lib.hid h80
  clear ha hb hfx hfy hgk h80 hgl
  go_enter Tryz.func124, Tryz.ntmps124
  go_wp2_with fail
  generalize hwb : World.alloc (World.alloc (World.alloc w _) _) _ = wb
  obtain ⟨hB0, hB1, hB2, hE⟩ := frac_blocks hwb
  have HX : Hid (IntAt wb w.heap.size x) := ⟨_, _, _, _, hB0, HA.out.ext hE⟩
  have HY : Hid (IntAt wb (w.heap.size + 1) y) := ⟨_, _, _, _, hB1, HB.out.ext hE⟩
  have HR := Lib.hid hB2
  have HE := Lib.hid hE
  have hrR : w.heap.size ≤ w.heap.size + 1 + 1 := by omega
  have hXY : w.heap.size ≠ w.heap.size + 1 := by omega
  have hXR : w.heap.size ≠ w.heap.size + 1 + 1 := by omega
  have hYR : w.heap.size + 1 ≠ w.heap.size + 1 + 1 := by omega
  have HB1 := Lib.hid (HB.out.ext hE)
  clear hwb hB0 hB1 hB2 hE HA HB
  generalize hRr : w.heap.size + 1 + 1 = Rr at *
  generalize hYy : w.heap.size + 1 = Y at *
  obtain ⟨X, hXx⟩ : ∃ X, w.heap.size = X := ⟨_, rfl⟩
  rw [hXx] at HX hXY hXR
  rw [hXx]
  refine (IsZero_any _ y _ HB1.out).mono ?_
  rw [decide_eq_false (show ¬ y = 0 by omega)]
  rintro e w1 ⟨rfl, hF⟩
  clear HB1
  replace HX := Lib.hid (HX.out.ext hF)
  replace HY := Lib.hid (HY.out.ext hF)
  replace HR := Lib.hid (HR.out.ext hF)
  replace HE := Lib.hid (HE.out.trans hF)
  clear hF
  obtain ⟨sx, Ax, lx, cx, hBx, hIx⟩ := HX.out
  obtain ⟨sy, Ay, ly, cy, hBy, hIy⟩ := HY.out
  obtain ⟨bx0, bx1, bx2, bx3⟩ := hBx.cell2
  obtain ⟨by0, by1, by2, by3⟩ := hBy.cell2
  have HIx := Lib.hid hIx
  have HIy := Lib.hid hIy
  have HBx := Lib.hid hBx
  have HBy := Lib.hid hBy
  clear hBx hBy hIx hIy
  go_wp2_with fail
  refine (IsZero_any _ x _ HIx.out).mono ?_
  rw [decide_eq_false hx0]
  rintro e w2 ⟨rfl, hF⟩
  clear bx0 bx1 bx2 bx3 by0 by1 by2 by3 HIx HIy HBx HBy
  replace HX := Lib.hid (HX.out.ext hF)
  replace HY := Lib.hid (HY.out.ext hF)
  replace HR := Lib.hid (HR.out.ext hF)
  replace HE := Lib.hid (HE.out.trans hF)
  clear hF
  obtain ⟨sx, Ax, lx, cx, hBx, hIx⟩ := HX.out
  obtain ⟨sy, Ay, ly, cy, hBy, hIy⟩ := HY.out
  obtain ⟨bx0, bx1, bx2, bx3⟩ := hBx.cell2
  obtain ⟨by0, by1, by2, by3⟩ := hBy.cell2
  have HIx := Lib.hid hIx
  have HIy := Lib.hid hIy
  have HBx := Lib.hid hBx
  have HBy := Lib.hid hBy
  clear hBx hBy hIx hIy
  go_wp2_with fail
  refine (Sign_any _ y _ HIy.out).mono ?_
  rw [Int.sign_eq_one_of_pos hy]
  rintro e w3 ⟨rfl, hF⟩
  clear bx0 bx1 bx2 bx3 by0 by1 by2 by3 HIx HIy HBx HBy
  replace HX := Lib.hid (HX.out.ext hF)
  replace HY := Lib.hid (HY.out.ext hF)
  replace HR := Lib.hid (HR.out.ext hF)
  replace HE := Lib.hid (HE.out.trans hF)
  clear hF
  have HG : Hid (Glob _) := HGl.out.ext HE.out
  obtain ⟨sx, Ax, lx, cx, hBx, hIx⟩ := HX.out
  obtain ⟨sy, Ay, ly, cy, hBy, hIy⟩ := HY.out
  obtain ⟨bx0, bx1, bx2, bx3⟩ := hBx.cell2
  obtain ⟨by0, by1, by2, by3⟩ := hBy.cell2
  have HIx := Lib.hid hIx
  have HIy := Lib.hid hIy
  have HBx := Lib.hid hBx
  have HBy := Lib.hid hBy
  clear hBx hBy hIx hIy
  go_wp2_with fail
  refine (IsOne_any _ y _ HIy.out).mono ?_
  by_cases h1 : y = 1
  · rw [decide_eq_true h1]
    rintro e wa ⟨rfl, hF⟩
    have HQ : Hid ((Rat.divInt x y).num = x ∧ denF (Rat.divInt x y) = 0) := frac_one h1
    clear bx0 bx1 bx2 bx3 by0 by1 by2 by3 HIx HIy HBx HBy
    replace HX := Lib.hid (HX.out.ext hF)
    replace HY := Lib.hid (HY.out.ext hF)
    replace HR := Lib.hid (HR.out.ext hF)
    replace HE := Lib.hid (HE.out.trans hF)
    clear hF
    obtain ⟨sx, Ax, lx, cx, hBx, hIx⟩ := HX.out
    obtain ⟨sy, Ay, ly, cy, hBy, hIy⟩ := HY.out
    obtain ⟨bx0, bx1, bx2, bx3⟩ := hBx.cell2
    obtain ⟨by0, by1, by2, by3⟩ := hBy.cell2
    have HIx := Lib.hid hIx
    have HIy := Lib.hid hIy
    have HBx := Lib.hid hBx
    have HBy := Lib.hid hBy
    clear hBx hBy hIx hIy
    obtain ⟨y0, y1, y2, y3, y4, y5, y6, y7⟩ := HR.out.cell4
    clear h1
    go_wp2
    refine fin_rat rfl rfl (HR.out.put4 _ _ _ _) ?_ ?_ (Fr.local_ HE.out (Fr.set4 _ _ _ _) hrR)
    · rw [HQ.out.1]; exact HIx.out.other HR.out noWords4 (Fr.set4 _ _ _ _)
    · rw [HQ.out.2]; exact IntIs.zero _
  · rw [decide_eq_false h1]
    rintro e wa ⟨rfl, hF⟩
    clear bx0 bx1 bx2 bx3 by0 by1 by2 by3 HIx HIy HBx HBy
    replace HX := Lib.hid (HX.out.ext hF)
    replace HY := Lib.hid (HY.out.ext hF)
    replace HR := Lib.hid (HR.out.ext hF)
    replace HE := Lib.hid (HE.out.trans hF)
    clear hF
    obtain ⟨sx, Ax, lx, cx, hBx, hIx⟩ := HX.out
    obtain ⟨sy, Ay, ly, cy, hBy, hIy⟩ := HY.out
    obtain ⟨bx0, bx1, bx2, bx3⟩ := hBx.cell2
    obtain ⟨by0, by1, by2, by3⟩ := hBy.cell2
    have HIx := Lib.hid hIx
    have HIy := Lib.hid hIy
    have HBx := Lib.hid hBx
    have HBy := Lib.hid hBy
    clear hBx hBy hIx hIy
    clear h1
    go_wp2_with fail
    refine (GCD_any _ _ x y _ (HGl.out.ext HE.out) HIx.out HIy.out HFx.out HFy.out HGk.out).mono ?_
    rintro e wg ⟨ug, rfl, hIg, hF⟩
    obtain ⟨sg_, Ag, lg, cg, rfl⟩ := hIg.shape
    have HIg := Lib.hid hIg
    clear hIg
    clear bx0 bx1 bx2 bx3 by0 by1 by2 by3 HIx HIy HBx HBy
    replace HX := Lib.hid (HX.out.ext hF)
    replace HY := Lib.hid (HY.out.ext hF)
    replace HR := Lib.hid (HR.out.ext hF)
    replace HE := Lib.hid (HE.out.trans hF)
    clear hF
    obtain ⟨sx, Ax, lx, cx, hBx, hIx⟩ := HX.out
    obtain ⟨sy, Ay, ly, cy, hBy, hIy⟩ := HY.out
    obtain ⟨bx0, bx1, bx2, bx3⟩ := hBx.cell2
    obtain ⟨by0, by1, by2, by3⟩ := hBy.cell2
    have HIx := Lib.hid hIx
    have HIy := Lib.hid hIy
    have HBx := Lib.hid hBx
    have HBy := Lib.hid hBy
    clear hBx hBy hIx hIy
    go_wp2_with fail
    generalize hwb : World.alloc wg _ = wh
    obtain ⟨hBg, hF⟩ := Blk.one hwb
    have HAg : Hid (IntAt wh wg.heap.size (Int.gcd x y : Int)) := ⟨_, _, _, _, hBg, HIg.out.ext hF⟩
    have hXg : X < wg.heap.size := HBx.out.lt
    have hYg : Y < wg.heap.size := HBy.out.lt
    have hRg : Rr < wg.heap.size := HR.out.lt
    generalize wg.heap.size = G at *
    replace HIg := Lib.hid (HIg.out.ext hF)
    clear hwb
    clear bx0 bx1 bx2 bx3 by0 by1 by2 by3 HIx HIy HBx HBy
    replace HX := Lib.hid (HX.out.ext hF)
    replace HY := Lib.hid (HY.out.ext hF)
    replace HR := Lib.hid (HR.out.ext hF)
    replace HE := Lib.hid (HE.out.trans hF)
    clear hF
    obtain ⟨sx, Ax, lx, cx, hBx, hIx⟩ := HX.out
    obtain ⟨sy, Ay, ly, cy, hBy, hIy⟩ := HY.out
    obtain ⟨bx0, bx1, bx2, bx3⟩ := hBx.cell2
    obtain ⟨by0, by1, by2, by3⟩ := hBy.cell2
    have HIx := Lib.hid hIx
    have HIy := Lib.hid hIy
    have HBx := Lib.hid hBx
    have HBy := Lib.hid hBy
    clear hBx hBy hIx hIy
    refine (IsOne_any _ _ _ HIg.out).mono ?_
    by_cases h2 : ((Int.gcd x y : Nat) : Int) = 1
    · rw [decide_eq_true h2]
      rintro e wi ⟨rfl, hF⟩
      have HQ : Hid ((Rat.divInt x y).num = x ∧ ((Rat.divInt x y).den : Int) = y) := frac_coprime hy h2
      clear h2 HAg HIg
      clear bx0 bx1 bx2 bx3 by0 by1 by2 by3 HIx HIy HBx HBy
      replace HX := Lib.hid (HX.out.ext hF)
      replace HY := Lib.hid (HY.out.ext hF)
      replace HR := Lib.hid (HR.out.ext hF)
      replace HE := Lib.hid (HE.out.trans hF)
      clear hF
      obtain ⟨sx, Ax, lx, cx, hBx, hIx⟩ := HX.out
      obtain ⟨sy, Ay, ly, cy, hBy, hIy⟩ := HY.out
      obtain ⟨bx0, bx1, bx2, bx3⟩ := hBx.cell2
      obtain ⟨by0, by1, by2, by3⟩ := hBy.cell2
      have HIx := Lib.hid hIx
      have HIy := Lib.hid hIy
      have HBx := Lib.hid hBx
      have HBy := Lib.hid hBy
      clear hBx hBy hIx hIy
      go_wp2_with fail
      refine (lowest_any _ _ x y (Rat.divInt x y) _ HIx.out HIy.out HQ.out).mono ?_
      rintro e wl_ ⟨ul, rfl, hRl, hF⟩
      obtain ⟨s, t, A, B, l, c, l', c', rfl, hIn, hId⟩ := hRl
      have HIn := Lib.hid hIn
      have HId := Lib.hid hId
      clear hIn hId
      clear bx0 bx1 bx2 bx3 by0 by1 by2 by3 HIx HIy HBx HBy
      replace HX := Lib.hid (HX.out.ext hF)
      replace HY := Lib.hid (HY.out.ext hF)
      replace HR := Lib.hid (HR.out.ext hF)
      replace HE := Lib.hid (HE.out.trans hF)
      clear hF
      obtain ⟨y0, y1, y2, y3, y4, y5, y6, y7⟩ := HR.out.cell4
      go_wp2
      exact fin_rat rfl rfl (HR.out.put4 _ _ _ _) (HIn.out.other HR.out noWords4 (Fr.set4 _ _ _ _)) (HId.out.other HR.out noWords4 (Fr.set4 _ _ _ _)) (Fr.local_ HE.out (Fr.set4 _ _ _ _) hrR)
    · rw [decide_eq_false h2]
      rintro e wi ⟨rfl, hF⟩
      have HQ : Hid ((Rat.divInt x y).num = x.tdiv (Int.gcd x y : Int) ∧ ((Rat.divInt x y).den : Int) = y.tdiv (Int.gcd x y : Int)) := frac_gcd hy
      have Hg0 : Hid (((Int.gcd x y : Nat) : Int) ≠ 0) := gcd_ne hy
      have Hg80 : Hid (wl (((Int.gcd x y : Nat) : Int)).natAbs < 80) := gcd_wl hy Hy80.out
      clear h2 HIg
      clear bx0 bx1 bx2 bx3 by0 by1 by2 by3 HIx HIy HBx HBy
      replace HX := Lib.hid (HX.out.ext hF)
      replace HY := Lib.hid (HY.out.ext hF)
      replace HR := Lib.hid (HR.out.ext hF)
      replace HAg := Lib.hid (HAg.out.ext hF)
      replace HE := Lib.hid (HE.out.trans hF)
      clear hF
      obtain ⟨sx, Ax, lx, cx, hBx, hIx⟩ := HX.out
      obtain ⟨sy, Ay, ly, cy, hBy, hIy⟩ := HY.out
      obtain ⟨bx0, bx1, bx2, bx3⟩ := hBx.cell2
      obtain ⟨by0, by1, by2, by3⟩ := hBy.cell2
      have HIx := Lib.hid hIx
      have HIy := Lib.hid hIy
      have HBx := Lib.hid hBx
      have HBy := Lib.hid hBy
      clear hBx hBy hIx hIy
      obtain ⟨sg_, Ag, lg, cg, hBg, hIg⟩ := HAg.out
      have HBg := Lib.hid hBg
      have HIg := Lib.hid hIg
      clear hBg hIg
      generalize ((Int.gcd x y : Nat) : Int) = g at *
      obtain ⟨x', hx'⟩ : ∃ x', x.tdiv g = x' := ⟨_, rfl⟩
      obtain ⟨y', hy'⟩ : ∃ y', y.tdiv g = y' := ⟨_, rfl⟩
      go_wp2_with fail
      refine wp_region_T 6 (fun w' => (w'.cell? ⟨X, 0, none⟩ = some (.bool sx) ∧ w'.cell? ⟨X, 1, none⟩ = some (.slice Ax lx cx)) ∧ (w'.cell? ⟨Y, 0, none⟩ = some (.bool sy) ∧ w'.cell? ⟨Y, 1, none⟩ = some (.slice Ay ly cy)) ∧ (w'.cell? ⟨G, 0, none⟩ = some (.bool sg_) ∧ w'.cell? ⟨G, 1, none⟩ = some (.slice Ag lg cg))) follows_mixed ?_
      refine wpT_take 0 rfl (by kernel_rfl) (fun _ _ _ h => h) (keepI3 HBx.out HBy.out HBg.out (Fr.refl _ _).drew) (fun _ => yields_int rfl rfl rfl (fun _ h => h.1)) (fun hS => ?_)
      refine wpT_take 1 rfl (by kernel_rfl) (fun _ _ _ h => h) hS (fun _ => yields_int rfl rfl rfl (fun _ h => h.2.2)) (fun hS => ?_)
      refine wpT_take 3 rfl (by kernel_rfl) (fun _ _ _ h => h) hS (fun _ => yields_int rfl rfl rfl (fun _ h => h.2.1)) (fun hS => ?_)
      refine wpT_take 4 rfl (by kernel_rfl) (fun _ _ _ h => h) hS (fun _ => yields_int rfl rfl rfl (fun _ h => h.2.2)) (fun hS => ?_)
      refine wpT_only 2 rfl (by kernel_rfl) rfl (fun K hK => ?_)
      go_simp
      refine (Quo_any _ _ x g _ (HIx.out.ext (Fr.refl _ _).drew) (HIg.out.ext (Fr.refl _ _).drew) HFx.out Hg80.out Hg0.out).mono ?_
      rw [hx']
      rintro e wq ⟨uq, rfl, hIq, hFq⟩
      obtain ⟨sq, Aq, lq, cq, rfl⟩ := hIq.shape
      replace hFq := Fr.undrew hFq
      refine hK _ _ (keepI3 HBx.out HBy.out HBg.out hFq) ?_
      refine wpT_only 5 rfl (by kernel_rfl) rfl (fun K hK => ?_)
      go_simp
      refine (Quo_any _ _ y g _ (HIy.out.ext hFq) (HIg.out.ext hFq) HFy.out Hg80.out Hg0.out).mono ?_
      rw [hy']
      rintro e wr ⟨ur, rfl, hIr, hFr⟩
      obtain ⟨sr, Ar, lr, cr, rfl⟩ := hIr.shape
      refine hK _ _ (keepI3 HBx.out HBy.out HBg.out (hFq.trans hFr)) ?_
      clear hK
      have hIq := hIq.ext hFr
      have hF := hFq.trans hFr
      have HIq := Lib.hid hIq
      have HIr := Lib.hid hIr
      have HQ' : Hid ((Rat.divInt x y).num = x' ∧ ((Rat.divInt x y).den : Int) = y') := by rw [Hid, ← hx', ← hy']; exact HQ.out
      clear hFq hFr hIr hIq hx' hy' HAg HIg HBg hS
      clear bx0 bx1 bx2 bx3 by0 by1 by2 by3 HIx HIy HBx HBy
      replace HX := Lib.hid (HX.out.ext hF)
      replace HY := Lib.hid (HY.out.ext hF)
      replace HR := Lib.hid (HR.out.ext hF)
      replace HE := Lib.hid (HE.out.trans hF)
      clear hF
      obtain ⟨sx, Ax, lx, cx, hBx, hIx⟩ := HX.out
      obtain ⟨sy, Ay, ly, cy, hBy, hIy⟩ := HY.out
      obtain ⟨bx0, bx1, bx2, bx3⟩ := hBx.cell2
      obtain ⟨by0, by1, by2, by3⟩ := hBy.cell2
      have HIx := Lib.hid hIx
      have HIy := Lib.hid hIy
      have HBx := Lib.hid hBx
      have HBy := Lib.hid hBy
      clear hBx hBy hIx hIy
      refine wpT_tail (l := [_, _]) 6 rfl (by kernel_rfl) ?_
      go_wp2_with fail
      have k1 := IntIs.away (a := .bool sq) (b := .slice Aq lq cq) HIq.out HX.out
      have k2 := IntIs.away (a := .bool sq) (b := .slice Aq lq cq) HIr.out HX.out
      have k3 := HX.out.put HIq.out
      have k4 := IntAt.away (a := .bool sq) (b := .slice Aq lq cq) HY.out HX.out (Ne.symm hXY)
      have k5 := HR.out.fr (Fr.set2 (r := X) (i := 0) (j := 1) (.bool sq) (.slice Aq lq cq)) (Ne.symm hXR)
      have k6 := Fr.local_ HE.out (Fr.set2 (r := X) (i := 0) (j := 1) (.bool sq) (.slice Aq lq cq)) (Nat.le_of_eq hXx)
      generalize World.setCell (World.setCell _ ⟨X, 0, none⟩ _) ⟨X, 1, none⟩ _ = wx at *
      have m1 := IntIs.away (a := .bool sr) (b := .slice Ar lr cr) k1 k4
      have m2 := IntIs.away (a := .bool sr) (b := .slice Ar lr cr) k2 k4
      have m5 := k5.fr (Fr.set2 (r := Y) (i := 0) (j := 1) (.bool sr) (.slice Ar lr cr)) (Ne.symm hYR)
      have m6 := Fr.local_ k6 (Fr.set2 (r := Y) (i := 0) (j := 1) (.bool sr) (.slice Ar lr cr)) (by omega)
      generalize World.setCell (World.setCell wx ⟨Y, 0, none⟩ _) ⟨Y, 1, none⟩ _ = wy at *
      have HR2 := Lib.hid m5
      have HE2 := Lib.hid m6
      refine (lowest_any _ _ x' y' (Rat.divInt x y) _ m1 m2 HQ'.out).mono ?_
      rintro e wl_ ⟨ul, rfl, hRl, hF⟩
      obtain ⟨s, t, A, B, l, c, l', c', rfl, hIn, hId⟩ := hRl
      have HIn := Lib.hid hIn
      have HId := Lib.hid hId
      have HR3 := Lib.hid (HR2.out.ext hF)
      have HE3 := Lib.hid (HE2.out.trans hF)
      clear hIn hId hF k1 k2 k3 k4 k5 k6 m1 m2 m5 m6
      obtain ⟨y0, y1, y2, y3, y4, y5, y6, y7⟩ := HR3.out.cell4
      go_wp2
      exact fin_rat rfl rfl (HR3.out.put4 _ _ _ _) (HIn.out.other HR3.out noWords4 (Fr.set4 _ _ _ _)) (HId.out.other HR3.out noWords4 (Fr.set4 _ _ _ _)) (Fr.local_ HE3.out (Fr.set4 _ _ _ _) hrR)

set_option maxHeartbeats 4000000 in
set_option maxRecDepth 100000 in
theorem Fraction_zero (a b : Value) (x y : Int) (w : World) (ha : IntIs w a x) (hb : IntIs w b y) (hx0 : x = 0) (hy : y ≠ 0) : Calls Tryz.prog 124 #[a, b] w (RetRat w 0) := by
  obtain ⟨s, A, l, c, rfl⟩ := ha.shape
  obtain ⟨t, B, l', c', rfl⟩ := hb.shape
  have HA := Lib.hid ha
  have HB := Lib.hid hb
  clear ha hb
  go_enter Tryz.func124, Tryz.ntmps124
  go_wp2_with fail
  generalize hwb : World.alloc (World.alloc (World.alloc w _) _) _ = wb
  obtain ⟨hB0, hB1, hB2, hE⟩ := frac_blocks hwb
  have HX : Hid (IntAt wb w.heap.size x) := ⟨_, _, _, _, hB0, HA.out.ext hE⟩
  have HY : Hid (IntAt wb (w.heap.size + 1) y) := ⟨_, _, _, _, hB1, HB.out.ext hE⟩
  have HR := Lib.hid hB2
  have HE := Lib.hid hE
  have HB1 := Lib.hid (HB.out.ext hE)
  clear hwb hB0 hB1 hB2 hE HA HB
  refine (IsZero_any _ y _ HB1.out).mono ?_
  rw [decide_eq_false hy]
  rintro e w1 ⟨rfl, hF⟩
  clear HB1
  replace HX := Lib.hid (HX.out.ext hF)
  replace HY := Lib.hid (HY.out.ext hF)
  replace HR := Lib.hid (HR.out.ext hF)
  replace HE := Lib.hid (HE.out.trans hF)
  clear hF
  obtain ⟨sx, Ax, lx, cx, hBx, hIx⟩ := HX.out
  obtain ⟨sy, Ay, ly, cy, hBy, hIy⟩ := HY.out
  obtain ⟨bx0, bx1, bx2, bx3⟩ := hBx.cell2
  obtain ⟨by0, by1, by2, by3⟩ := hBy.cell2
  have HIx := Lib.hid hIx
  have HIy := Lib.hid hIy
  have HBx := Lib.hid hBx
  have HBy := Lib.hid hBy
  clear hBx hBy hIx hIy
  go_wp2_with fail
  refine (IsZero_any _ x _ HIx.out).mono ?_
  rw [decide_eq_true hx0]
  rintro e w2 ⟨rfl, hF⟩
  clear bx0 bx1 bx2 bx3 by0 by1 by2 by3 HIx HIy HBx HBy
  replace HX := Lib.hid (HX.out.ext hF)
  replace HY := Lib.hid (HY.out.ext hF)
  replace HR := Lib.hid (HR.out.ext hF)
  replace HE := Lib.hid (HE.out.trans hF)
  clear hF
  obtain ⟨y0, y1, y2, y3, y4, y5, y6, y7⟩ := HR.out.cell4
  clear hx0 hy
  go_wp2
  exact fin_rat rfl rfl (HR.out.put4 _ _ _ _) (IntIs.zero _) (IntIs.zero _) (Fr.local_ HE.out (Fr.set4 _ _ _ _) (by omega))

set_option maxHeartbeats 4000000 in
set_option maxRecDepth 100000 in
theorem Fraction_neg (a b : Value) (xo yo x y : Int) (w : World) (hgl : Glob w) (ha : IntIs w a xo) (hb : IntIs w b yo) (hxo : -xo = x) (hyo : -yo = y) (hfx : Fits x) (hfy : Fits y) (hgk : GcdOk x y) (h80 : wl y.natAbs < 80) (hx0 : x ≠ 0) (hy : 0 < y) : Calls Tryz.prog 124 #[a, b] w (RetRat w (Rat.divInt x y)) := by
  obtain ⟨s, A, l, c, rfl⟩ := ha.shape
  obtain ⟨t, B, l', c', rfl⟩ := hb.shape
  have HA := Lib.hid ha
  have HB := Lib.hid hb
  have HGl := Lib.hid hgl
  have HFx := Lib.hid hfx
  have HFy := Lib.hid hfy
  have HGk := Lib.hid hgk
  have Hy80 := Lib.hid h80
  have Hxo := Lib.hid hxo
  have Hyo := Lib.hid hyo
  have hyn : yo < 0 := by omega
  have hxn : ¬ xo = 0 := by omega
  clear ha hb hfx hfy hgk h80 hgl hxo hyo
  go_enter Tryz.func124, Tryz.ntmps124
  go_wp2_with fail
  generalize hwb : World.alloc (World.alloc (World.alloc w _) _) _ = wb
  obtain ⟨hB0, hB1, hB2, hE⟩ := frac_blocks hwb
  have HX : Hid (IntAt wb w.heap.size xo) := ⟨_, _, _, _, hB0, HA.out.ext hE⟩
  have HY : Hid (IntAt wb (w.heap.size + 1) yo) := ⟨_, _, _, _, hB1, HB.out.ext hE⟩
  have HR := Lib.hid hB2
  have HE := Lib.hid hE
  have hrR : w.heap.size ≤ w.heap.size + 1 + 1 := by omega
  have hXY : w.heap.size ≠ w.heap.size + 1 := by omega
  have hXR : w.heap.size ≠ w.heap.size + 1 + 1 := by omega
  have hYR : w.heap.size + 1 ≠ w.heap.size + 1 + 1 := by omega
  have HB1 := Lib.hid (HB.out.ext hE)
  clear hwb hB0 hB1 hB2 hE HA HB
  generalize hRr : w.heap.size + 1 + 1 = Rr at *
  generalize hYy : w.heap.size + 1 = Y at *
  obtain ⟨X, hXx⟩ : ∃ X, w.heap.size = X := ⟨_, rfl⟩
  rw [hXx] at HX hXY hXR
  rw [hXx]
  refine (IsZero_any _ yo _ HB1.out).mono ?_
  rw [decide_eq_false (show ¬ yo = 0 by omega)]
  rintro e w1 ⟨rfl, hF⟩
  clear HB1
  replace HX := Lib.hid (HX.out.ext hF)
  replace HY := Lib.hid (HY.out.ext hF)
  replace HR := Lib.hid (HR.out.ext hF)
  replace HE := Lib.hid (HE.out.trans hF)
  clear hF
  obtain ⟨sx, Ax, lx, cx, hBx, hIx⟩ := HX.out
  obtain ⟨sy, Ay, ly, cy, hBy, hIy⟩ := HY.out
  obtain ⟨bx0, bx1, bx2, bx3⟩ := hBx.cell2
  obtain ⟨by0, by1, by2, by3⟩ := hBy.cell2
  have HIx := Lib.hid hIx
  have HIy := Lib.hid hIy
  have HBx := Lib.hid hBx
  have HBy := Lib.hid hBy
  clear hBx hBy hIx hIy
  go_wp2_with fail
  refine (IsZero_any _ xo _ HIx.out).mono ?_
  rw [decide_eq_false hxn]
  rintro e w2 ⟨rfl, hF⟩
  clear bx0 bx1 bx2 bx3 by0 by1 by2 by3 HIx HIy HBx HBy
  replace HX := Lib.hid (HX.out.ext hF)
  replace HY := Lib.hid (HY.out.ext hF)
  replace HR := Lib.hid (HR.out.ext hF)
  replace HE := Lib.hid (HE.out.trans hF)
  clear hF
  obtain ⟨sx, Ax, lx, cx, hBx, hIx⟩ := HX.out
  obtain ⟨sy, Ay, ly, cy, hBy, hIy⟩ := HY.out
  obtain ⟨bx0, bx1, bx2, bx3⟩ := hBx.cell2
  obtain ⟨by0, by1, by2, by3⟩ := hBy.cell2
  have HIx := Lib.hid hIx
  have HIy := Lib.hid hIy
  have HBx := Lib.hid hBx
  have HBy := Lib.hid hBy
  clear hBx hBy hIx hIy
  go_wp2_with fail
  refine (Sign_any _ yo _ HIy.out).mono ?_
  rw [Int.sign_eq_neg_one_of_neg hyn]
  rintro e w3 ⟨rfl, hF⟩
  clear bx0 bx1 bx2 bx3 by0 by1 by2 by3 HIx HIy HBx HBy
  replace HX := Lib.hid (HX.out.ext hF)
  replace HY := Lib.hid (HY.out.ext hF)
  replace HR := Lib.hid (HR.out.ext hF)
  replace HE := Lib.hid (HE.out.trans hF)
  clear hF
  obtain ⟨sx, Ax, lx, cx, hBx, hIx⟩ := HX.out
  obtain ⟨sy, Ay, ly, cy, hBy, hIy⟩ := HY.out
  obtain ⟨bx0, bx1, bx2, bx3⟩ := hBx.cell2
  obtain ⟨by0, by1, by2, by3⟩ := hBy.cell2
  have HIx := Lib.hid hIx
  have HIy := Lib.hid hIy
  have HBx := Lib.hid hBx
  have HBy := Lib.hid hBy
  clear hBx hBy hIx hIy
  go_wp2_with fail
  refine wp_region_T 4 (fun w' => (w'.cell? ⟨X, 0, none⟩ = some (.bool sx) ∧ w'.cell? ⟨X, 1, none⟩ = some (.slice Ax lx cx)) ∧ (w'.cell? ⟨Y, 0, none⟩ = some (.bool sy) ∧ w'.cell? ⟨Y, 1, none⟩ = some (.slice Ay ly cy))) follows_mixed ?_
  refine wpT_take 0 rfl (by kernel_rfl) (fun _ _ _ h => h) (keepI2 HBx.out HBy.out (Fr.refl _ _).drew) (fun _ => yields_int rfl rfl rfl (fun _ h => h.1)) (fun hS => ?_)
  refine wpT_take 2 rfl (by kernel_rfl) (fun _ _ _ h => h) hS (fun _ => yields_int rfl rfl rfl (fun _ h => h.2)) (fun hS => ?_)
  refine wpT_only 1 rfl (by kernel_rfl) rfl (fun K hK => ?_)
  go_simp
  refine (Neg_any _ xo _ (HIx.out.ext (Fr.refl _ _).drew)).mono ?_
  rw [Hxo.out]
  rintro e wq ⟨uq, rfl, hIq, hFq⟩
  obtain ⟨sq, Aq, lq, cq, rfl⟩ := hIq.shape
  replace hFq := Fr.undrew hFq
  refine hK _ _ (keepI2 HBx.out HBy.out hFq) ?_
  refine wpT_only 3 rfl (by kernel_rfl) rfl (fun K hK => ?_)
  go_simp
  refine (Neg_any _ yo _ (HIy.out.ext hFq)).mono ?_
  rw [Hyo.out]
  rintro e wr ⟨ur, rfl, hIr, hFr⟩
  obtain ⟨sr, Ar, lr, cr, rfl⟩ := hIr.shape
  refine hK _ _ (keepI2 HBx.out HBy.out (hFq.trans hFr)) ?_
  clear hK
  have hIq := hIq.ext hFr
  have hF := hFq.trans hFr
  have HIq := Lib.hid hIq
  have HIr := Lib.hid hIr
  clear hFq hFr hIr hIq hS
  clear bx0 bx1 bx2 bx3 by0 by1 by2 by3 HIx HIy HBx HBy
  replace HX := Lib.hid (HX.out.ext hF)
  replace HY := Lib.hid (HY.out.ext hF)
  replace HR := Lib.hid (HR.out.ext hF)
  replace HE := Lib.hid (HE.out.trans hF)
  clear hF
  obtain ⟨sx, Ax, lx, cx, hBx, hIx⟩ := HX.out
  obtain ⟨sy, Ay, ly, cy, hBy, hIy⟩ := HY.out
  obtain ⟨bx0, bx1, bx2, bx3⟩ := hBx.cell2
  obtain ⟨by0, by1, by2, by3⟩ := hBy.cell2
  have HIx := Lib.hid hIx
  have HIy := Lib.hid hIy
  have HBx := Lib.hid hBx
  have HBy := Lib.hid hBy
  clear hBx hBy hIx hIy
  refine wpT_tail (l := [_, _]) 4 rfl (by kernel_rfl) ?_
  go_wp2_with fail
  have k1 := IntIs.away (a := .bool sq) (b := .slice Aq lq cq) HIq.out HX.out
  have k2 := IntIs.away (a := .bool sq) (b := .slice Aq lq cq) HIr.out HX.out
  have k3 := HX.out.put HIq.out
  have k4 := IntAt.away (a := .bool sq) (b := .slice Aq lq cq) HY.out HX.out (Ne.symm hXY)
  have k5 := HR.out.fr (Fr.set2 (r := X) (i := 0) (j := 1) (.bool sq) (.slice Aq lq cq)) (Ne.symm hXR)
  have k6 := Fr.local_ HE.out (Fr.set2 (r := X) (i := 0) (j := 1) (.bool sq) (.slice Aq lq cq)) (Nat.le_of_eq hXx)
  generalize World.setCell (World.setCell _ ⟨X, 0, none⟩ _) ⟨X, 1, none⟩ _ = wx at *
  have m1 := IntIs.away (a := .bool sr) (b := .slice Ar lr cr) k1 k4
  have m3 := IntAt.away (a := .bool sr) (b := .slice Ar lr cr) k3 k4 hXY
  have m4 := k4.put k2
  have m2 := IntIs.away (a := .bool sr) (b := .slice Ar lr cr) k2 k4
  have m5 := k5.fr (Fr.set2 (r := Y) (i := 0) (j := 1) (.bool sr) (.slice Ar lr cr)) (Ne.symm hYR)
  have m6 := Fr.local_ k6 (Fr.set2 (r := Y) (i := 0) (j := 1) (.bool sr) (.slice Ar lr cr)) (by omega)
  generalize World.setCell (World.setCell wx ⟨Y, 0, none⟩ _) ⟨Y, 1, none⟩ _ = wy at *
  replace HX : Hid (IntAt wy X x) := m3
  replace HY : Hid (IntAt wy Y y) := m4
  replace HR := Lib.hid m5
  replace HE := Lib.hid m6
  refine (IsOne_any _ y _ m2).mono ?_
  clear k1 k2 k3 k4 k5 k6 m1 m2 m3 m4 m5 m6 HIq HIr
  clear bx0 bx1 bx2 bx3 by0 by1 by2 by3 HIx HIy HBx HBy
  obtain ⟨sx, Ax, lx, cx, hBx, hIx⟩ := HX.out
  obtain ⟨sy, Ay, ly, cy, hBy, hIy⟩ := HY.out
  obtain ⟨bx0, bx1, bx2, bx3⟩ := hBx.cell2
  obtain ⟨by0, by1, by2, by3⟩ := hBy.cell2
  have HIx := Lib.hid hIx
  have HIy := Lib.hid hIy
  have HBx := Lib.hid hBx
  have HBy := Lib.hid hBy
  clear hBx hBy hIx hIy
  have HG : Hid (Glob _) := HGl.out.ext HE.out
  by_cases h1 : y = 1
  · rw [decide_eq_true h1]
    rintro e wa ⟨rfl, hF⟩
    have HQ : Hid ((Rat.divInt x y).num = x ∧ denF (Rat.divInt x y) = 0) := frac_one h1
    clear bx0 bx1 bx2 bx3 by0 by1 by2 by3 HIx HIy HBx HBy
    replace HX := Lib.hid (HX.out.ext hF)
    replace HY := Lib.hid (HY.out.ext hF)
    replace HR := Lib.hid (HR.out.ext hF)
    replace HE := Lib.hid (HE.out.trans hF)
    clear hF
    obtain ⟨sx, Ax, lx, cx, hBx, hIx⟩ := HX.out
    obtain ⟨sy, Ay, ly, cy, hBy, hIy⟩ := HY.out
    obtain ⟨bx0, bx1, bx2, bx3⟩ := hBx.cell2
    obtain ⟨by0, by1, by2, by3⟩ := hBy.cell2
    have HIx := Lib.hid hIx
    have HIy := Lib.hid hIy
    have HBx := Lib.hid hBx
    have HBy := Lib.hid hBy
    clear hBx hBy hIx hIy
    obtain ⟨y0, y1, y2, y3, y4, y5, y6, y7⟩ := HR.out.cell4
    clear h1
    go_wp2
    refine fin_rat rfl rfl (HR.out.put4 _ _ _ _) ?_ ?_ (Fr.local_ HE.out (Fr.set4 _ _ _ _) hrR)
    · rw [HQ.out.1]; exact HIx.out.other HR.out noWords4 (Fr.set4 _ _ _ _)
    · rw [HQ.out.2]; exact IntIs.zero _
  · rw [decide_eq_false h1]
    rintro e wa ⟨rfl, hF⟩
    clear bx0 bx1 bx2 bx3 by0 by1 by2 by3 HIx HIy HBx HBy
    replace HX := Lib.hid (HX.out.ext hF)
    replace HY := Lib.hid (HY.out.ext hF)
    replace HR := Lib.hid (HR.out.ext hF)
    replace HE := Lib.hid (HE.out.trans hF)
    clear hF
    obtain ⟨sx, Ax, lx, cx, hBx, hIx⟩ := HX.out
    obtain ⟨sy, Ay, ly, cy, hBy, hIy⟩ := HY.out
    obtain ⟨bx0, bx1, bx2, bx3⟩ := hBx.cell2
    obtain ⟨by0, by1, by2, by3⟩ := hBy.cell2
    have HIx := Lib.hid hIx
    have HIy := Lib.hid hIy
    have HBx := Lib.hid hBx
    have HBy := Lib.hid hBy
    clear hBx hBy hIx hIy
    clear h1
    go_wp2_with fail
    refine (GCD_any _ _ x y _ (HGl.out.ext HE.out) HIx.out HIy.out HFx.out HFy.out HGk.out).mono ?_
    rintro e wg ⟨ug, rfl, hIg, hF⟩
    obtain ⟨sg_, Ag, lg, cg, rfl⟩ := hIg.shape
    have HIg := Lib.hid hIg
    clear hIg
    clear bx0 bx1 bx2 bx3 by0 by1 by2 by3 HIx HIy HBx HBy
    replace HX := Lib.hid (HX.out.ext hF)
    replace HY := Lib.hid (HY.out.ext hF)
    replace HR := Lib.hid (HR.out.ext hF)
    replace HE := Lib.hid (HE.out.trans hF)
    clear hF
    obtain ⟨sx, Ax, lx, cx, hBx, hIx⟩ := HX.out
    obtain ⟨sy, Ay, ly, cy, hBy, hIy⟩ := HY.out
    obtain ⟨bx0, bx1, bx2, bx3⟩ := hBx.cell2
    obtain ⟨by0, by1, by2, by3⟩ := hBy.cell2
    have HIx := Lib.hid hIx
    have HIy := Lib.hid hIy
    have HBx := Lib.hid hBx
    have HBy := Lib.hid hBy
    clear hBx hBy hIx hIy
    go_wp2_with fail
    generalize hwb : World.alloc wg _ = wh
    obtain ⟨hBg, hF⟩ := Blk.one hwb
    have HAg : Hid (IntAt wh wg.heap.size (Int.gcd x y : Int)) := ⟨_, _, _, _, hBg, HIg.out.ext hF⟩
    have hXg : X < wg.heap.size := HBx.out.lt
    have hYg : Y < wg.heap.size := HBy.out.lt
    have hRg : Rr < wg.heap.size := HR.out.lt
    generalize wg.heap.size = G at *
    replace HIg := Lib.hid (HIg.out.ext hF)
    clear hwb
    clear bx0 bx1 bx2 bx3 by0 by1 by2 by3 HIx HIy HBx HBy
    replace HX := Lib.hid (HX.out.ext hF)
    replace HY := Lib.hid (HY.out.ext hF)
    replace HR := Lib.hid (HR.out.ext hF)
    replace HE := Lib.hid (HE.out.trans hF)
    clear hF
    obtain ⟨sx, Ax, lx, cx, hBx, hIx⟩ := HX.out
    obtain ⟨sy, Ay, ly, cy, hBy, hIy⟩ := HY.out
    obtain ⟨bx0, bx1, bx2, bx3⟩ := hBx.cell2
    obtain ⟨by0, by1, by2, by3⟩ := hBy.cell2
    have HIx := Lib.hid hIx
    have HIy := Lib.hid hIy
    have HBx := Lib.hid hBx
    have HBy := Lib.hid hBy
    clear hBx hBy hIx hIy
    refine (IsOne_any _ _ _ HIg.out).mono ?_
    by_cases h2 : ((Int.gcd x y : Nat) : Int) = 1
    · rw [decide_eq_true h2]
      rintro e wi ⟨rfl, hF⟩
      have HQ : Hid ((Rat.divInt x y).num = x ∧ ((Rat.divInt x y).den : Int) = y) := frac_coprime hy h2
      clear h2 HAg HIg
      clear bx0 bx1 bx2 bx3 by0 by1 by2 by3 HIx HIy HBx HBy
      replace HX := Lib.hid (HX.out.ext hF)
      replace HY := Lib.hid (HY.out.ext hF)
      replace HR := Lib.hid (HR.out.ext hF)
      replace HE := Lib.hid (HE.out.trans hF)
      clear hF
      obtain ⟨sx, Ax, lx, cx, hBx, hIx⟩ := HX.out
      obtain ⟨sy, Ay, ly, cy, hBy, hIy⟩ := HY.out
      obtain ⟨bx0, bx1, bx2, bx3⟩ := hBx.cell2
      obtain ⟨by0, by1, by2, by3⟩ := hBy.cell2
      have HIx := Lib.hid hIx
      have HIy := Lib.hid hIy
      have HBx := Lib.hid hBx
      have HBy := Lib.hid hBy
      clear hBx hBy hIx hIy
      go_wp2_with fail
      refine (lowest_any _ _ x y (Rat.divInt x y) _ HIx.out HIy.out HQ.out).mono ?_
      rintro e wl_ ⟨ul, rfl, hRl, hF⟩
      obtain ⟨s, t, A, B, l, c, l', c', rfl, hIn, hId⟩ := hRl
      have HIn := Lib.hid hIn
      have HId := Lib.hid hId
      clear hIn hId
      clear bx0 bx1 bx2 bx3 by0 by1 by2 by3 HIx HIy HBx HBy
      replace HX := Lib.hid (HX.out.ext hF)
      replace HY := Lib.hid (HY.out.ext hF)
      replace HR := Lib.hid (HR.out.ext hF)
      replace HE := Lib.hid (HE.out.trans hF)
      clear hF
      obtain ⟨y0, y1, y2, y3, y4, y5, y6, y7⟩ := HR.out.cell4
      go_wp2
      exact fin_rat rfl rfl (HR.out.put4 _ _ _ _) (HIn.out.other HR.out noWords4 (Fr.set4 _ _ _ _)) (HId.out.other HR.out noWords4 (Fr.set4 _ _ _ _)) (Fr.local_ HE.out (Fr.set4 _ _ _ _) hrR)
    · rw [decide_eq_false h2]
      rintro e wi ⟨rfl, hF⟩
      have HQ : Hid ((Rat.divInt x y).num = x.tdiv (Int.gcd x y : Int) ∧ ((Rat.divInt x y).den : Int) = y.tdiv (Int.gcd x y : Int)) := frac_gcd hy
      have Hg0 : Hid (((Int.gcd x y : Nat) : Int) ≠ 0) := gcd_ne hy
      have Hg80 : Hid (wl (((Int.gcd x y : Nat) : Int)).natAbs < 80) := gcd_wl hy Hy80.out
      clear h2 HIg
      clear bx0 bx1 bx2 bx3 by0 by1 by2 by3 HIx HIy HBx HBy
      replace HX := Lib.hid (HX.out.ext hF)
      replace HY := Lib.hid (HY.out.ext hF)
      replace HR := Lib.hid (HR.out.ext hF)
      replace HAg := Lib.hid (HAg.out.ext hF)
      replace HE := Lib.hid (HE.out.trans hF)
      clear hF
      obtain ⟨sx, Ax, lx, cx, hBx, hIx⟩ := HX.out
      obtain ⟨sy, Ay, ly, cy, hBy, hIy⟩ := HY.out
      obtain ⟨bx0, bx1, bx2, bx3⟩ := hBx.cell2
      obtain ⟨by0, by1, by2, by3⟩ := hBy.cell2
      have HIx := Lib.hid hIx
      have HIy := Lib.hid hIy
      have HBx := Lib.hid hBx
      have HBy := Lib.hid hBy
      clear hBx hBy hIx hIy
      obtain ⟨sg_, Ag, lg, cg, hBg, hIg⟩ := HAg.out
      have HBg := Lib.hid hBg
      have HIg := Lib.hid hIg
      clear hBg hIg
      generalize ((Int.gcd x y : Nat) : Int) = g at *
      obtain ⟨x', hx'⟩ : ∃ x', x.tdiv g = x' := ⟨_, rfl⟩
      obtain ⟨y', hy'⟩ : ∃ y', y.tdiv g = y' := ⟨_, rfl⟩
      go_wp2_with fail
      refine wp_region_T 6 (fun w' => (w'.cell? ⟨X, 0, none⟩ = some (.bool sx) ∧ w'.cell? ⟨X, 1, none⟩ = some (.slice Ax lx cx)) ∧ (w'.cell? ⟨Y, 0, none⟩ = some (.bool sy) ∧ w'.cell? ⟨Y, 1, none⟩ = some (.slice Ay ly cy)) ∧ (w'.cell? ⟨G, 0, none⟩ = some (.bool sg_) ∧ w'.cell? ⟨G, 1, none⟩ = some (.slice Ag lg cg))) follows_mixed ?_
      refine wpT_take 0 rfl (by kernel_rfl) (fun _ _ _ h => h) (keepI3 HBx.out HBy.out HBg.out (Fr.refl _ _).drew) (fun _ => yields_int rfl rfl rfl (fun _ h => h.1)) (fun hS => ?_)
      refine wpT_take 1 rfl (by kernel_rfl) (fun _ _ _ h => h) hS (fun _ => yields_int rfl rfl rfl (fun _ h => h.2.2)) (fun hS => ?_)
      refine wpT_take 3 rfl (by kernel_rfl) (fun _ _ _ h => h) hS (fun _ => yields_int rfl rfl rfl (fun _ h => h.2.1)) (fun hS => ?_)
      refine wpT_take 4 rfl (by kernel_rfl) (fun _ _ _ h => h) hS (fun _ => yields_int rfl rfl rfl (fun _ h => h.2.2)) (fun hS => ?_)
      refine wpT_only 2 rfl (by kernel_rfl) rfl (fun K hK => ?_)
      go_simp
      refine (Quo_any _ _ x g _ (HIx.out.ext (Fr.refl _ _).drew) (HIg.out.ext (Fr.refl _ _).drew) HFx.out Hg80.out Hg0.out).mono ?_
      rw [hx']
      rintro e wq ⟨uq, rfl, hIq, hFq⟩
      obtain ⟨sq, Aq, lq, cq, rfl⟩ := hIq.shape
      replace hFq := Fr.undrew hFq
      refine hK _ _ (keepI3 HBx.out HBy.out HBg.out hFq) ?_
      refine wpT_only 5 rfl (by kernel_rfl) rfl (fun K hK => ?_)
      go_simp
      refine (Quo_any _ _ y g _ (HIy.out.ext hFq) (HIg.out.ext hFq) HFy.out Hg80.out Hg0.out).mono ?_
      rw [hy']
      rintro e wr ⟨ur, rfl, hIr, hFr⟩
      obtain ⟨sr, Ar, lr, cr, rfl⟩ := hIr.shape
      refine hK _ _ (keepI3 HBx.out HBy.out HBg.out (hFq.trans hFr)) ?_
      clear hK
      have hIq := hIq.ext hFr
      have hF := hFq.trans hFr
      have HIq := Lib.hid hIq
      have HIr := Lib.hid hIr
      have HQ' : Hid ((Rat.divInt x y).num = x' ∧ ((Rat.divInt x y).den : Int) = y') := by rw [Hid, ← hx', ← hy']; exact HQ.out
      clear hFq hFr hIr hIq hx' hy' HAg HIg HBg hS
      clear bx0 bx1 bx2 bx3 by0 by1 by2 by3 HIx HIy HBx HBy
      replace HX := Lib.hid (HX.out.ext hF)
      replace HY := Lib.hid (HY.out.ext hF)
      replace HR := Lib.hid (HR.out.ext hF)
      replace HE := Lib.hid (HE.out.trans hF)
      clear hF
      obtain ⟨sx, Ax, lx, cx, hBx, hIx⟩ := HX.out
      obtain ⟨sy, Ay, ly, cy, hBy, hIy⟩ := HY.out
      obtain ⟨bx0, bx1, bx2, bx3⟩ := hBx.cell2
      obtain ⟨by0, by1, by2, by3⟩ := hBy.cell2
      have HIx := Lib.hid hIx
      have HIy := Lib.hid hIy
      have HBx := Lib.hid hBx
      have HBy := Lib.hid hBy
      clear hBx hBy hIx hIy
      refine wpT_tail (l := [_, _]) 6 rfl (by kernel_rfl) ?_
      go_wp2_with fail
      have k1 := IntIs.away (a := .bool sq) (b := .slice Aq lq cq) HIq.out HX.out
      have k2 := IntIs.away (a := .bool sq) (b := .slice Aq lq cq) HIr.out HX.out
      have k3 := HX.out.put HIq.out
      have k4 := IntAt.away (a := .bool sq) (b := .slice Aq lq cq) HY.out HX.out (Ne.symm hXY)
      have k5 := HR.out.fr (Fr.set2 (r := X) (i := 0) (j := 1) (.bool sq) (.slice Aq lq cq)) (Ne.symm hXR)
      have k6 := Fr.local_ HE.out (Fr.set2 (r := X) (i := 0) (j := 1) (.bool sq) (.slice Aq lq cq)) (Nat.le_of_eq hXx)
      generalize World.setCell (World.setCell _ ⟨X, 0, none⟩ _) ⟨X, 1, none⟩ _ = wx at *
      have m1 := IntIs.away (a := .bool sr) (b := .slice Ar lr cr) k1 k4
      have m2 := IntIs.away (a := .bool sr) (b := .slice Ar lr cr) k2 k4
      have m5 := k5.fr (Fr.set2 (r := Y) (i := 0) (j := 1) (.bool sr) (.slice Ar lr cr)) (Ne.symm hYR)
      have m6 := Fr.local_ k6 (Fr.set2 (r := Y) (i := 0) (j := 1) (.bool sr) (.slice Ar lr cr)) (by omega)
      generalize World.setCell (World.setCell wx ⟨Y, 0, none⟩ _) ⟨Y, 1, none⟩ _ = wy at *
      have HR2 := Lib.hid m5
      have HE2 := Lib.hid m6
      refine (lowest_any _ _ x' y' (Rat.divInt x y) _ m1 m2 HQ'.out).mono ?_
      rintro e wl_ ⟨ul, rfl, hRl, hF⟩
      obtain ⟨s, t, A, B, l, c, l', c', rfl, hIn, hId⟩ := hRl
      have HIn := Lib.hid hIn
      have HId := Lib.hid hId
      have HR3 := Lib.hid (HR2.out.ext hF)
      have HE3 := Lib.hid (HE2.out.trans hF)
      clear hIn hId hF k1 k2 k3 k4 k5 k6 m1 m2 m5 m6
      obtain ⟨y0, y1, y2, y3, y4, y5, y6, y7⟩ := HR3.out.cell4
      go_wp2
      exact fin_rat rfl rfl (HR3.out.put4 _ _ _ _) (HIn.out.other HR3.out noWords4 (Fr.set4 _ _ _ _)) (HId.out.other HR3.out noWords4 (Fr.set4 _ _ _ _)) (Fr.local_ HE3.out (Fr.set4 _ _ _ _) hrR)

theorem Fraction_any (a b : Value) (x y : Int) (w : World) (hgl : Glob w) (ha : IntIs w a x) (hb : IntIs w b y) (hfx : Fits x) (hfy : Fits y) (hgk : GcdOk x y) (h80 : wl y.natAbs < 80) (hy : y ≠ 0) : Calls Tryz.prog 124 #[a, b] w (RetRat w (Rat.divInt x y)) := by
  by_cases hx : x = 0
  · have h := Fraction_zero a b x y w ha hb hx hy
    rwa [hx, Rat.zero_divInt]
  rcases Int.lt_or_le 0 y with h | h
  · exact Fraction_pos a b x y w hgl ha hb hfx hfy hgk h80 hx h
  · rw [← Rat.neg_divInt_neg]
    refine Fraction_neg a b x y (-x) (-y) w hgl ha hb rfl rfl ?_ ?_ ?_ ?_ (by omega) (by omega)
    · unfold Fits; rw [Int.natAbs_neg]; exact hfx
    · unfold Fits; rw [Int.natAbs_neg]; exact hfy
    · unfold GcdOk; rw [Int.natAbs_neg, Int.natAbs_neg]; exact hgk
    · rw [Int.natAbs_neg]; exact h80

end Go.Proofs.YtndafmjcelgnbaaGreatDoor
